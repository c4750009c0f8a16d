
/- Chapter 5: Parse. -/
import Derived.Test.YtghgbhekjgincaaDoorW05b
namespace Go.Proofs.YtghgbhekjgincaaDoor
set_option linter.unusedVariables false
namespace Am
variable {gs : List Nat} [Ok2 gs]
open Go.RowKit
set_option maxRecDepth 100000

theorem CEnt.nilO {i k : Nat} : CEnt (.c (.slice none 0 0)) (.os i none 0 0 k) := fun al St w v h => ⟨rfl, h⟩
theorem split_len (c : UInt8) : ∀ l : List UInt8, (splitC c l).length ≤ l.length + 1
  | [] => by simp [splitC]
  | x :: l => by
    have ih := split_len c l
    rw [splitC]
    split
    · simp; omega
    · have h : ∀ ls : List (List UInt8), ls ≠ [] → (consHead x ls).length = ls.length := fun ls h => by cases ls <;> simp_all [consHead]
      rw [h _ (splitC_ne c l)]
      simp; omega
theorem part_len {c : UInt8} : ∀ {l p : List UInt8}, p ∈ splitC c l → p.length ≤ l.length
  | [], p, h => by simp [splitC] at h; simp [h]
  | x :: l, p, h => by
    rw [splitC] at h
    split at h
    · rcases List.mem_cons.1 h with rfl | h
      · simp
      · have := part_len h; simp; omega
    · cases hs : splitC c l with
      | nil => exact absurd hs (splitC_ne c l)
      | cons q r =>
        rw [hs, consHead] at h
        rcases List.mem_cons.1 h with rfl | h
        · have := part_len (c := c) (l := l) (p := q) (by rw [hs]; exact List.mem_cons_self ..)
          simp; omega
        · have := part_len (c := c) (l := l) (p := p) (by rw [hs]; exact List.mem_cons_of_mem _ h)
          simp; omega
theorem take_get {α : Type} {l : List α} {k : Nat} (d : α) (h : k < l.length) : l.take (k + 1) = l.take k ++ [l.getD k d] := by
  rw [List.take_succ_eq_append_getElem h]
  simp [List.getD, h]
theorem getD_mem' {α : Type} {l : List α} {k : Nat} (d : α) (h : k < l.length) : l.getD k d ∈ l := by
  simp [List.getD, h]
theorem parse_bad {s : List UInt8} (h : (splitC 46 s).all okP = false) : (parseM s).1 = [] ∧ (parseM s).2 = 4 := by
  unfold parseM; rw [if_pos h]; exact ⟨rfl, rfl⟩
theorem parse_wrong {s : List UInt8} (h : (splitC 46 s).all okP = true) (h2 : rightA ((splitC 46 s).map valP) = false) : (parseM s).1 = [] ∧ (parseM s).2 = 1 := by
  unfold parseM; rw [if_neg (by simp [h]), if_pos h2]; exact ⟨rfl, rfl⟩
theorem parse_good {s : List UInt8} (h : (splitC 46 s).all okP = true) (h2 : rightA ((splitC 46 s).map valP) = true) : (parseM s).1 = (splitC 46 s).map valP ∧ (parseM s).2 = 0 := by
  unfold parseM; rw [if_neg (by simp [h]), if_neg (by simp [h2])]; exact ⟨rfl, rfl⟩
theorem all_false {α : Type} {p : α → Bool} {l : List α} {k : Nat} (d : α) (h : k < l.length) (hp : p (l.getD k d) = false) : l.all p = false := by
  cases e : l.all p with
  | false => rfl
  | true =>
    have := List.all_eq_true.1 e _ (getD_mem' d h)
    rw [hp] at this; cases this
set_option maxHeartbeats 1000000 in
theorem oparse_ac (s : List UInt8) (hs : s.length ≤ 1000000000) : ACp gs Tryd.prog 58 [strC s] (.tup 2 (fl [isC (parseM s).1, .err (parseM s).2])) := by
  have hpl := split_len 46 s
  refine ac_of 33 Tryd.func58 rfl rfl rfl (fun al w0 F0 St0 => ?_)
  refine code_seq ?_
  refine code_region ?_
  refine seq_ex (wanted_none rfl) (e_alloc (n := 1) rfl zr75 rfl rfl rfl (fun p1 => ?_))
  refine seq_ex (wanted_none rfl) (e_alloc (n := 1) rfl zr28 rfl rfl rfl (fun p2 => ?_))
  refine seq_nil ?_
  refine then_norm ?_
  refine code_seq ?_
  refine code_region ?_
  refine seq_ex (wanted_none rfl) (e_alloc (n := 1) rfl zr75 rfl rfl rfl (fun p3 => ?_))
  refine seq_nil ?_
  refine then_norm ?_
  refine code_seq ?_
  refine code_seq ?_
  refine code_region ?_
  refine q_rd (wanted_none rfl) rfl rfl (rd_move (v := .c _) rfl rfl) ?_
  refine seq_ex (wanted_none rfl) (e_callS rfl (by kernel_rfl) (splitSeq_ac s 46) (.cons (by first | exact se rfl (CEnt.refl _) | exact se rfl CEnt.nil | exact se rfl CEnt.nilB | exact se rfl (CEnt.osI rfl) | exact se rfl CEnt.opI | exact se_nilO rfl | exact se rfl (CEnt.agg2 (CEnt.refl _) (CEnt.refl _)) | exact se rfl (CEnt.agg3 (CEnt.refl _) (CEnt.refl _) (CEnt.refl _)) | exact se rfl (CEnt.agg4 (CEnt.refl _) (CEnt.refl _) (CEnt.refl _) (CEnt.refl _)) | exact se rfl (CEnt.agg5 (CEnt.refl _) (CEnt.refl _) (CEnt.refl _) (CEnt.refl _) (CEnt.refl _)) | exact se rfl (CEnt.agg6 (CEnt.refl _) (CEnt.refl _) (CEnt.refl _) (CEnt.refl _) (CEnt.refl _) (CEnt.refl _)) | exact se_frzB _ rfl rfl rfl (by simp) (fun _ _ => CEnt.refl _)) (.cons (by first | exact se rfl (CEnt.refl _) | exact se rfl CEnt.nil | exact se rfl CEnt.nilB | exact se rfl (CEnt.osI rfl) | exact se rfl CEnt.opI | exact se_nilO rfl | exact se rfl (CEnt.agg2 (CEnt.refl _) (CEnt.refl _)) | exact se rfl (CEnt.agg3 (CEnt.refl _) (CEnt.refl _) (CEnt.refl _)) | exact se rfl (CEnt.agg4 (CEnt.refl _) (CEnt.refl _) (CEnt.refl _) (CEnt.refl _)) | exact se rfl (CEnt.agg5 (CEnt.refl _) (CEnt.refl _) (CEnt.refl _) (CEnt.refl _) (CEnt.refl _)) | exact se rfl (CEnt.agg6 (CEnt.refl _) (CEnt.refl _) (CEnt.refl _) (CEnt.refl _) (CEnt.refl _) (CEnt.refl _)) | exact se_frzB _ rfl rfl rfl (by simp) (fun _ _ => CEnt.refl _)) .nil)) rfl rfl ?_)
  rintro _ _ ⟨gS, rfl, rfl⟩
  refine seq_nil ?_
  refine then_norm ?_
  refine code_block ?_
  refine code_ent (blk_ent 0 (m := 1) (F := fun _ => .c (.slice none 0 0)) rfl (Nat.le_refl _) (fun _ => rfl) (fun j hj => by obtain rfl : j = 0 := (by omega); exact CEnt.refl _)) ?_
  refine code_ent (blk_ent 1 (m := 1) (F := fun _ => .c .nilIface) rfl (Nat.le_refl _) (fun _ => rfl) (fun j hj => by obtain rfl : j = 0 := (by omega); exact CEnt.refl _)) ?_
  refine code_ent (blk_ent 2 (m := 1) (F := fun _ => .os 3 none 0 0 1) rfl (Nat.le_refl _) (fun _ => rfl) (fun j hj => by obtain rfl : j = 0 := (by omega); exact CEnt.nilO)) ?_
  refine code_ent (ent_none (inF [])) ?_
  refine code_range (π := List Int × Option Nat) (q := List Int × Option Nat) ((splitC 46 s).length) (fun k => [strC ((splitC 46 s).getD k [])]) ([(gS, .blk 1 (fun _ => strC s))]) (fun (X, ga) => [(p1, .blk 1 (fun _ => .c (.slice none 0 0))), (p2, .blk 1 (fun _ => .c .nilIface)), (p3, .blk 1 (fun _ => .os 3 ga 0 X.length 1)), (ga, .blk X.length (inF X))]) (fun k (X, ga) => X = ((splitC 46 s).take k).map valP ∧ ((splitC 46 s).take k).all okP = true) (fun (X, ga) => [(p1, .blk 1 (fun _ => .c (.slice none 0 0))), (p2, .blk 1 (fun _ => .err 4)), (p3, .blk 1 (fun _ => .os 3 ga 0 X.length 1)), (ga, .blk X.length (inF X))]) (fun c _ => c = .ret ∧ (splitC 46 s).all okP = false) (([], none)) [3, 0, 1, 2, 4] rfl rfl (by kernel_rfl) (seq_iter s 46 gS (by omega)) (⟨rfl, rfl⟩) (by decide) rfl (fun _ _ => rfl) rfl ?_ ?_ ?_
  · intro k hk l al2 w2 F2 S2 R0 R1
    rintro ⟨X, ga⟩ ⟨hX, hall⟩
    have hXl : X.length ≤ k := by rw [hX, List.length_map, List.length_take]; omega
    have hpp := part_len (getD_mem' (l := splitC 46 s) [] hk)
    refine code_region ?_
    refine q_rd (wanted_none rfl) rfl rfl (rd_assign (v := .c _) rfl rfl) ?_
    refine seq_nil ?_
    refine assign_norm ?_
    refine code_block ?_
    refine code_seq ?_
    refine code_region ?_
    refine q_rd (wanted_none rfl) rfl rfl (rd_move (v := .c _) rfl rfl) ?_
    refine seq_ex (wanted_none rfl) (e_callP rfl (by kernel_rfl) (wfig_ac ((splitC 46 s).getD k [])) (.cons (by first | exact se rfl (CEnt.refl _) | exact se rfl CEnt.nil | exact se rfl CEnt.nilB | exact se rfl (CEnt.osI rfl) | exact se rfl CEnt.opI | exact se_nilO rfl | exact se rfl (CEnt.agg2 (CEnt.refl _) (CEnt.refl _)) | exact se rfl (CEnt.agg3 (CEnt.refl _) (CEnt.refl _) (CEnt.refl _)) | exact se rfl (CEnt.agg4 (CEnt.refl _) (CEnt.refl _) (CEnt.refl _) (CEnt.refl _)) | exact se rfl (CEnt.agg5 (CEnt.refl _) (CEnt.refl _) (CEnt.refl _) (CEnt.refl _) (CEnt.refl _)) | exact se rfl (CEnt.agg6 (CEnt.refl _) (CEnt.refl _) (CEnt.refl _) (CEnt.refl _) (CEnt.refl _) (CEnt.refl _)) | exact se_frzB _ rfl rfl rfl (by simp) (fun _ _ => CEnt.refl _)) .nil) rfl rfl ?_)
    first | refine q_rd (wanted_none rfl) rfl rfl (rd_move (v := .tup _ _) rfl rfl) ?_ | refine q_rd (wanted_none rfl) rfl rfl (rd_move (v := .c _) rfl rfl) ?_ | refine q_rd (wanted_none rfl) rfl rfl (rd_move (v := .pv _) rfl rfl) ?_ | refine q_rd (wanted_none rfl) rfl rfl (rd_move (v := .top) rfl rfl) ?_
    refine q_rd (wanted_none rfl) rfl rfl (rd_extract (v := .c _) rfl rfl rfl rfl) ?_
    first | refine q_rd (wanted_none rfl) rfl rfl (rd_extract (v := .err _) rfl rfl rfl rfl) ?_ | refine q_rd (wanted_none rfl) rfl rfl (rd_extract (v := .c _) rfl rfl rfl rfl) ?_ | refine q_rd (wanted_none rfl) rfl rfl (rd_extract (v := .pv _) rfl rfl rfl rfl) ?_ | refine q_rd (wanted_none rfl) rfl rfl (rd_extract (v := .top) rfl rfl rfl rfl) ?_
    refine q_rd (wanted_none rfl) rfl rfl (rd_assign (v := .c _) rfl rfl) ?_
    first | refine q_rd (wanted_none rfl) rfl rfl (rd_assign (v := .err _) rfl rfl) ?_ | refine q_rd (wanted_none rfl) rfl rfl (rd_assign (v := .c _) rfl rfl) ?_ | refine q_rd (wanted_none rfl) rfl rfl (rd_assign (v := .pv _) rfl rfl) ?_ | refine q_rd (wanted_none rfl) rfl rfl (rd_assign (v := .top) rfl rfl) ?_
    refine seq_nil ?_
    refine then_norm ?_
    refine code_seq ?_
    refine code_seq ?_
    refine code_region ?_
    first | refine q_rd (wanted_none rfl) rfl rfl (rd_move (v := .err _) rfl rfl) ?_ | refine q_rd (wanted_none rfl) rfl rfl (rd_move (v := .c _) rfl rfl) ?_ | refine q_rd (wanted_none rfl) rfl rfl (rd_move (v := .pv _) rfl rfl) ?_ | refine q_rd (wanted_none rfl) rfl rfl (rd_move (v := .top) rfl rfl) ?_
    first | refine q_rd (wanted_none rfl) rfl rfl (rd_neE rfl rfl) ?_ | refine q_rd (wanted_none rfl) rfl rfl (rd_neE0 rfl rfl) ?_
    refine q_rd (wanted_none rfl) rfl rfl (rd_move (v := .c _) rfl rfl) ?_
    first | refine seq_splitD (d := 18) rfl rfl (fun g34 => ?_) (fun g34 => ?_) | refine seq_split (d := 18) rfl rfl (fun g34 => ?_) (fun g34 => ?_)
    · refine q_skip (wanted_is rfl rfl rfl rfl false rfl) rfl rfl ?_
      refine q_skip (wanted_is rfl rfl rfl rfl false rfl) rfl rfl ?_
      refine q_skip (wanted_is rfl rfl rfl rfl false rfl) rfl rfl ?_
      refine q_rd (wanted_none rfl) rfl rfl (rd_pickT (v := .c _) rfl rfl rfl) ?_
      refine seq_nil ?_
      refine then_norm ?_
      refine code_condT rfl ?_
      refine code_seq ?_
      refine code_drawZ (.rd 0 (.one 1 (.one 2 .done))) (by kernel_rfl) (by kernel_rfl) rfl (by kernel_rfl) (by kernel_rfl) ?_
      simp only [opsOfT, List.getElem?_toArray, List.getElem?_cons_zero, List.getElem?_cons_succ]
      refine zz_rd (wanted_none rfl) rfl rfl (rd_loadE 3 rfl rfl Tryd.underlying28 ag28) ?_
      refine z_md (wanted_none rfl) rfl (m_store rfl rfl rfl rfl rfl sz75 rfl rfl (by first | decide | (first | omega | decide | (dsimp only at *; omega))) _ (fun _ _ => CEnt.refl _) rfl ?_)
      refine z_md (wanted_none rfl) rfl (m_store rfl rfl rfl rfl rfl sz28 rfl rfl (by first | decide | (first | omega | decide | (dsimp only at *; omega))) _ (fun _ _ => CEnt.refl _) rfl ?_)
      refine z_done ?_
      refine then_norm ?_
      refine code_ret ?_
      refine then_ret ?_
      refine block_ret ?_
      refine round_ret ((X, ga)) ?_ rfl ?_
      · exact ⟨rfl, all_false [] hk (by unfold okP; first | (simp_all; done) | (simp_all; omega))⟩
      · exact .blk rfl (fun j hj => by obtain rfl : j = 0 := (by omega); exact CEnt.refl _) (.blk rfl (fun j hj => by obtain rfl : j = 0 := (by omega); exact CEnt.refl _) (.same (.same (.same .nil))))
    · refine q_rd (wanted_is rfl rfl rfl rfl true rfl) rfl rfl (rd_move (v := .c _) rfl rfl) ?_
      refine q_rd (wanted_is rfl rfl rfl rfl true rfl) rfl rfl (rd_lenL rfl rfl Tryd.underlying9) ?_
      refine q_rd (wanted_is rfl rfl rfl rfl true rfl) rfl rfl (rd_gt rfl rfl rfl) ?_
      refine q_rd (wanted_none rfl) rfl rfl (rd_pickF (v := .c _) rfl rfl rfl) ?_
      refine seq_nil ?_
      refine then_norm ?_
      first | refine code_condSD rfl rfl (fun h34 => ?_) (fun h34 => ?_) | refine code_condS rfl rfl (fun h34 => ?_) (fun h34 => ?_)
      · refine code_seq ?_
        refine code_drawZ (.rd 0 (.one 1 (.one 2 .done))) (by kernel_rfl) (by kernel_rfl) rfl (by kernel_rfl) (by kernel_rfl) ?_
        simp only [opsOfT, List.getElem?_toArray, List.getElem?_cons_zero, List.getElem?_cons_succ]
        refine zz_rd (wanted_none rfl) rfl rfl (rd_loadE 3 rfl rfl Tryd.underlying28 ag28) ?_
        refine z_md (wanted_none rfl) rfl (m_store rfl rfl rfl rfl rfl sz75 rfl rfl (by first | decide | (first | omega | decide | (dsimp only at *; omega))) _ (fun _ _ => CEnt.refl _) rfl ?_)
        refine z_md (wanted_none rfl) rfl (m_store rfl rfl rfl rfl rfl sz28 rfl rfl (by first | decide | (first | omega | decide | (dsimp only at *; omega))) _ (fun _ _ => CEnt.refl _) rfl ?_)
        refine z_done ?_
        refine then_norm ?_
        refine code_ret ?_
        refine then_ret ?_
        refine block_ret ?_
        refine round_ret ((X, ga)) ?_ rfl ?_
        · exact ⟨rfl, all_false [] hk (by unfold okP; first | (simp_all; done) | (simp_all; omega))⟩
        · exact .blk rfl (fun j hj => by obtain rfl : j = 0 := (by omega); exact CEnt.refl _) (.blk rfl (fun j hj => by obtain rfl : j = 0 := (by omega); exact CEnt.refl _) (.same (.same (.same .nil))))
      · refine code_skip ?_
        refine then_norm ?_
        refine code_region ?_
        first | refine q_rdO (wanted_none rfl) rfl rfl (rd_loadO (v := .rs _ _ _) rfl rfl (.inl rfl) Tryd.underlying75 ag75 (by first | decide | (first | omega | decide | (dsimp only at *; omega))) rfl) ?_ | refine q_rdO (wanted_none rfl) rfl rfl (rd_loadO (v := .os _ _ _ _ _) rfl rfl (.inl rfl) Tryd.underlying75 ag75 (by first | decide | (first | omega | decide | (dsimp only at *; omega))) rfl) ?_ | refine q_rdO (wanted_none rfl) rfl rfl (rd_loadO (v := .c _) rfl rfl (.inl rfl) Tryd.underlying75 ag75 (by first | decide | (first | omega | decide | (dsimp only at *; omega))) rfl) ?_ | refine q_rdO (wanted_none rfl) rfl rfl (rd_loadO (v := .pv _) rfl rfl (.inl rfl) Tryd.underlying75 ag75 (by first | decide | (first | omega | decide | (dsimp only at *; omega))) rfl) ?_ | refine q_rdO (wanted_none rfl) rfl rfl (rd_loadO (v := .top) rfl rfl (.inl rfl) Tryd.underlying75 ag75 (by first | decide | (first | omega | decide | (dsimp only at *; omega))) rfl) ?_ | refine q_rd (wanted_none rfl) rfl rfl (rd_loadR (v := .rs _ _ _) rfl rfl Tryd.underlying75 ag75 (by first | decide | (first | omega | decide | (dsimp only at *; omega))) rfl) ?_ | refine q_rd (wanted_none rfl) rfl rfl (rd_loadR (v := .os _ _ _ _ _) rfl rfl Tryd.underlying75 ag75 (by first | decide | (first | omega | decide | (dsimp only at *; omega))) rfl) ?_ | refine q_rd (wanted_none rfl) rfl rfl (rd_loadR (v := .c _) rfl rfl Tryd.underlying75 ag75 (by first | decide | (first | omega | decide | (dsimp only at *; omega))) rfl) ?_ | refine q_rd (wanted_none rfl) rfl rfl (rd_loadR (v := .pv _) rfl rfl Tryd.underlying75 ag75 (by first | decide | (first | omega | decide | (dsimp only at *; omega))) rfl) ?_ | refine q_rd (wanted_none rfl) rfl rfl (rd_loadR (v := .top) rfl rfl Tryd.underlying75 ag75 (by first | decide | (first | omega | decide | (dsimp only at *; omega))) rfl) ?_ | refine q_rdO (wanted_none rfl) rfl rfl (rd_loadO (v := .rs _ _ _) rfl rfl (.inr rfl) Tryd.underlying75 ag75 (by first | decide | (first | omega | decide | (dsimp only at *; omega))) rfl) ?_ | refine q_rdO (wanted_none rfl) rfl rfl (rd_loadO (v := .os _ _ _ _ _) rfl rfl (.inr rfl) Tryd.underlying75 ag75 (by first | decide | (first | omega | decide | (dsimp only at *; omega))) rfl) ?_ | refine q_rdO (wanted_none rfl) rfl rfl (rd_loadO (v := .c _) rfl rfl (.inr rfl) Tryd.underlying75 ag75 (by first | decide | (first | omega | decide | (dsimp only at *; omega))) rfl) ?_ | refine q_rdO (wanted_none rfl) rfl rfl (rd_loadO (v := .pv _) rfl rfl (.inr rfl) Tryd.underlying75 ag75 (by first | decide | (first | omega | decide | (dsimp only at *; omega))) rfl) ?_ | refine q_rdO (wanted_none rfl) rfl rfl (rd_loadO (v := .top) rfl rfl (.inr rfl) Tryd.underlying75 ag75 (by first | decide | (first | omega | decide | (dsimp only at *; omega))) rfl) ?_
        refine q_rd (wanted_none rfl) rfl rfl (rd_move (v := .c _) rfl rfl) ?_
        refine seq_ex (wanted_none rfl) (e_buildSlice (n := 1) rfl Tryd.underlying75 sz3 zr3 rfl rfl rfl rfl rfl rfl rfl (fun p4 => ?_))
        refine seq_md (wanted_none rfl) (m_appendC rowC_in (l2 := [valP ((splitC 46 s).getD k [])]) rfl rfl rfl rfl (by first | exact Nat.le_of_eq (Nat.mul_one _) | omega) (fun _ _ => CEnt.refl _) (src_os rfl (.inl rfl) (by decide)) rfl (hh_ints (.cons (CEnt.int (rfl)) .nil)) Tryd.underlying75 nu75 sz3 zr3 by3 rfl (by first | omega | (simp; done) | (simp; omega) | (simp at *; omega)) (by first | omega | (simp; done) | (simp; omega) | (simp at *; omega)) (leaf_flk rfl rfl) rfl rfl (Nat.mul_one _) (fun p5 => ?_))
        refine seq_md (wanted_none rfl) (m_store rfl rfl rfl rfl rfl sz75 rfl rfl (by first | decide | (first | omega | decide | (dsimp only at *; omega))) _ (fun _ _ => CEnt.refl _) rfl ?_)
        refine seq_nil ?_
        refine block_norm ?_
        refine round_norm ((X ++ [valP ((splitC 46 s).getD k [])], p5)) ?_ rfl ?_
        · exact ⟨by rw [hX, take_get [] hk, List.map_append]; rfl, by rw [take_get [] hk, List.all_append, hall]; simp only [List.all_cons, List.all_nil, Bool.and_true, Bool.true_and, okP]; first | (simp_all; done) | (simp_all; omega)⟩
        · exact .same (.same (.blk rfl (fun j hj => by obtain rfl : j = 0 := (by omega); exact CEnt.refl _) (.same (.same .nil))))
  · rintro ⟨X, ga⟩ ⟨hX, hall⟩
    rw [List.take_length] at hX hall
    refine block_norm ?_
    refine then_norm ?_
    refine code_seq ?_
    refine code_seq ?_
    refine code_region ?_
    first | refine q_rdO (wanted_none rfl) rfl rfl (rd_loadO (v := .rs _ _ _) rfl rfl (.inl rfl) Tryd.underlying75 ag75 (by first | decide | (first | omega | decide | (dsimp only at *; omega))) rfl) ?_ | refine q_rdO (wanted_none rfl) rfl rfl (rd_loadO (v := .os _ _ _ _ _) rfl rfl (.inl rfl) Tryd.underlying75 ag75 (by first | decide | (first | omega | decide | (dsimp only at *; omega))) rfl) ?_ | refine q_rdO (wanted_none rfl) rfl rfl (rd_loadO (v := .c _) rfl rfl (.inl rfl) Tryd.underlying75 ag75 (by first | decide | (first | omega | decide | (dsimp only at *; omega))) rfl) ?_ | refine q_rdO (wanted_none rfl) rfl rfl (rd_loadO (v := .pv _) rfl rfl (.inl rfl) Tryd.underlying75 ag75 (by first | decide | (first | omega | decide | (dsimp only at *; omega))) rfl) ?_ | refine q_rdO (wanted_none rfl) rfl rfl (rd_loadO (v := .top) rfl rfl (.inl rfl) Tryd.underlying75 ag75 (by first | decide | (first | omega | decide | (dsimp only at *; omega))) rfl) ?_ | refine q_rd (wanted_none rfl) rfl rfl (rd_loadR (v := .rs _ _ _) rfl rfl Tryd.underlying75 ag75 (by first | decide | (first | omega | decide | (dsimp only at *; omega))) rfl) ?_ | refine q_rd (wanted_none rfl) rfl rfl (rd_loadR (v := .os _ _ _ _ _) rfl rfl Tryd.underlying75 ag75 (by first | decide | (first | omega | decide | (dsimp only at *; omega))) rfl) ?_ | refine q_rd (wanted_none rfl) rfl rfl (rd_loadR (v := .c _) rfl rfl Tryd.underlying75 ag75 (by first | decide | (first | omega | decide | (dsimp only at *; omega))) rfl) ?_ | refine q_rd (wanted_none rfl) rfl rfl (rd_loadR (v := .pv _) rfl rfl Tryd.underlying75 ag75 (by first | decide | (first | omega | decide | (dsimp only at *; omega))) rfl) ?_ | refine q_rd (wanted_none rfl) rfl rfl (rd_loadR (v := .top) rfl rfl Tryd.underlying75 ag75 (by first | decide | (first | omega | decide | (dsimp only at *; omega))) rfl) ?_ | refine q_rdO (wanted_none rfl) rfl rfl (rd_loadO (v := .rs _ _ _) rfl rfl (.inr rfl) Tryd.underlying75 ag75 (by first | decide | (first | omega | decide | (dsimp only at *; omega))) rfl) ?_ | refine q_rdO (wanted_none rfl) rfl rfl (rd_loadO (v := .os _ _ _ _ _) rfl rfl (.inr rfl) Tryd.underlying75 ag75 (by first | decide | (first | omega | decide | (dsimp only at *; omega))) rfl) ?_ | refine q_rdO (wanted_none rfl) rfl rfl (rd_loadO (v := .c _) rfl rfl (.inr rfl) Tryd.underlying75 ag75 (by first | decide | (first | omega | decide | (dsimp only at *; omega))) rfl) ?_ | refine q_rdO (wanted_none rfl) rfl rfl (rd_loadO (v := .pv _) rfl rfl (.inr rfl) Tryd.underlying75 ag75 (by first | decide | (first | omega | decide | (dsimp only at *; omega))) rfl) ?_ | refine q_rdO (wanted_none rfl) rfl rfl (rd_loadO (v := .top) rfl rfl (.inr rfl) Tryd.underlying75 ag75 (by first | decide | (first | omega | decide | (dsimp only at *; omega))) rfl) ?_
    refine seq_ent (freeze 3 rfl) ?_
    refine seq_ent (thawIL 28 X rfl rfl rfl (Nat.ble_eq_true_of_le (Nat.le_refl _)) (fun j hj => CEnt.refl _)) ?_
    refine seq_ex (wanted_none rfl) (e_callP rfl (by kernel_rfl) (oright_ac X) (.cons (by first | exact se rfl (CEnt.refl _) | exact se rfl CEnt.nil | exact se rfl CEnt.nilB | exact se rfl (CEnt.osI rfl) | exact se rfl CEnt.opI | exact se_nilO rfl | exact se rfl (CEnt.agg2 (CEnt.refl _) (CEnt.refl _)) | exact se rfl (CEnt.agg3 (CEnt.refl _) (CEnt.refl _) (CEnt.refl _)) | exact se rfl (CEnt.agg4 (CEnt.refl _) (CEnt.refl _) (CEnt.refl _) (CEnt.refl _)) | exact se rfl (CEnt.agg5 (CEnt.refl _) (CEnt.refl _) (CEnt.refl _) (CEnt.refl _) (CEnt.refl _)) | exact se rfl (CEnt.agg6 (CEnt.refl _) (CEnt.refl _) (CEnt.refl _) (CEnt.refl _) (CEnt.refl _) (CEnt.refl _)) | exact se_frzB _ rfl rfl rfl (by simp) (fun _ _ => CEnt.refl _)) .nil) rfl rfl ?_)
    first | refine q_rd (wanted_none rfl) rfl rfl (rd_notD rfl rfl) ?_ | refine q_rd (wanted_none rfl) rfl rfl (rd_not rfl rfl) ?_
    refine seq_nil ?_
    refine then_norm ?_
    first | refine code_condSD rfl rfl (fun h39 => ?_) (fun h39 => ?_) | refine code_condS rfl rfl (fun h39 => ?_) (fun h39 => ?_)
    · refine code_seq ?_
      refine code_drawZ (.rd 0 (.one 1 (.one 2 .done))) (by kernel_rfl) (by kernel_rfl) rfl (by kernel_rfl) (by kernel_rfl) ?_
      simp only [opsOfT, List.getElem?_toArray, List.getElem?_cons_zero, List.getElem?_cons_succ]
      refine zz_rd (wanted_none rfl) rfl rfl (rd_loadE 0 rfl rfl Tryd.underlying28 ag28) ?_
      refine z_md (wanted_none rfl) rfl (m_store rfl rfl rfl rfl rfl sz75 rfl rfl (by first | decide | (first | omega | decide | (dsimp only at *; omega))) _ (fun _ _ => CEnt.refl _) rfl ?_)
      refine z_md (wanted_none rfl) rfl (m_store rfl rfl rfl rfl rfl sz28 rfl rfl (by first | decide | (first | omega | decide | (dsimp only at *; omega))) _ (fun _ _ => CEnt.refl _) rfl ?_)
      refine z_done ?_
      refine then_norm ?_
      refine code_ret ?_
      refine then_ret ?_
      refine end_val (.inl rfl) (res_2 rfl (arv_cell rfl (.inl rfl) Tryd.underlying75 ag75 (by decide) rfl) (arv_cell rfl (.inl rfl) Tryd.underlying28 ag28 (by decide) rfl)) ?_
      have hb := parse_wrong hall (by rw [← hX]; simpa using h39)
      exact CEnt.tup2 (CEnt.nilS' (by rw [hb.1]; rfl)) (CEnt.errN hb.2)
    · refine code_skip ?_
      refine then_norm ?_
      refine code_seq ?_
      refine code_region ?_
      first | refine q_rdO (wanted_none rfl) rfl rfl (rd_loadO (v := .rs _ _ _) rfl rfl (.inl rfl) Tryd.underlying75 ag75 (by first | decide | (first | omega | decide | (dsimp only at *; omega))) rfl) ?_ | refine q_rdO (wanted_none rfl) rfl rfl (rd_loadO (v := .os _ _ _ _ _) rfl rfl (.inl rfl) Tryd.underlying75 ag75 (by first | decide | (first | omega | decide | (dsimp only at *; omega))) rfl) ?_ | refine q_rdO (wanted_none rfl) rfl rfl (rd_loadO (v := .c _) rfl rfl (.inl rfl) Tryd.underlying75 ag75 (by first | decide | (first | omega | decide | (dsimp only at *; omega))) rfl) ?_ | refine q_rdO (wanted_none rfl) rfl rfl (rd_loadO (v := .pv _) rfl rfl (.inl rfl) Tryd.underlying75 ag75 (by first | decide | (first | omega | decide | (dsimp only at *; omega))) rfl) ?_ | refine q_rdO (wanted_none rfl) rfl rfl (rd_loadO (v := .top) rfl rfl (.inl rfl) Tryd.underlying75 ag75 (by first | decide | (first | omega | decide | (dsimp only at *; omega))) rfl) ?_ | refine q_rd (wanted_none rfl) rfl rfl (rd_loadR (v := .rs _ _ _) rfl rfl Tryd.underlying75 ag75 (by first | decide | (first | omega | decide | (dsimp only at *; omega))) rfl) ?_ | refine q_rd (wanted_none rfl) rfl rfl (rd_loadR (v := .os _ _ _ _ _) rfl rfl Tryd.underlying75 ag75 (by first | decide | (first | omega | decide | (dsimp only at *; omega))) rfl) ?_ | refine q_rd (wanted_none rfl) rfl rfl (rd_loadR (v := .c _) rfl rfl Tryd.underlying75 ag75 (by first | decide | (first | omega | decide | (dsimp only at *; omega))) rfl) ?_ | refine q_rd (wanted_none rfl) rfl rfl (rd_loadR (v := .pv _) rfl rfl Tryd.underlying75 ag75 (by first | decide | (first | omega | decide | (dsimp only at *; omega))) rfl) ?_ | refine q_rd (wanted_none rfl) rfl rfl (rd_loadR (v := .top) rfl rfl Tryd.underlying75 ag75 (by first | decide | (first | omega | decide | (dsimp only at *; omega))) rfl) ?_ | refine q_rdO (wanted_none rfl) rfl rfl (rd_loadO (v := .rs _ _ _) rfl rfl (.inr rfl) Tryd.underlying75 ag75 (by first | decide | (first | omega | decide | (dsimp only at *; omega))) rfl) ?_ | refine q_rdO (wanted_none rfl) rfl rfl (rd_loadO (v := .os _ _ _ _ _) rfl rfl (.inr rfl) Tryd.underlying75 ag75 (by first | decide | (first | omega | decide | (dsimp only at *; omega))) rfl) ?_ | refine q_rdO (wanted_none rfl) rfl rfl (rd_loadO (v := .c _) rfl rfl (.inr rfl) Tryd.underlying75 ag75 (by first | decide | (first | omega | decide | (dsimp only at *; omega))) rfl) ?_ | refine q_rdO (wanted_none rfl) rfl rfl (rd_loadO (v := .pv _) rfl rfl (.inr rfl) Tryd.underlying75 ag75 (by first | decide | (first | omega | decide | (dsimp only at *; omega))) rfl) ?_ | refine q_rdO (wanted_none rfl) rfl rfl (rd_loadO (v := .top) rfl rfl (.inr rfl) Tryd.underlying75 ag75 (by first | decide | (first | omega | decide | (dsimp only at *; omega))) rfl) ?_
      refine seq_ent (thawIL 32 X rfl rfl rfl (Nat.ble_eq_true_of_le (Nat.le_refl _)) (fun j hj => CEnt.refl _)) ?_
      refine seq_md (wanted_none rfl) (m_store rfl rfl rfl rfl rfl sz75 rfl rfl (by first | decide | (first | omega | decide | (dsimp only at *; omega))) _ (fun _ _ => CEnt.refl _) rfl ?_)
      refine seq_md (wanted_none rfl) (m_store rfl rfl rfl rfl rfl sz28 rfl rfl (by first | decide | (first | omega | decide | (dsimp only at *; omega))) _ (fun _ _ => CEnt.refl _) rfl ?_)
      refine seq_nil ?_
      refine then_norm ?_
      refine code_ret ?_
      refine end_val (.inl rfl) (res_2 rfl (arv_cell rfl (.inl rfl) Tryd.underlying75 ag75 (by decide) rfl) (arv_cell rfl (.inl rfl) Tryd.underlying28 ag28 (by decide) rfl)) ?_
      have hb := parse_good hall (by rw [← hX]; simpa using h39)
      exact CEnt.tup2 (show CEnt (isC X) _ from CEnt.of_eq (by rw [hb.1, hX])) (CEnt.nilE hb.2)
  · rintro _ ⟨X, ga⟩ ⟨rfl, hbad⟩
    refine .inl ⟨rfl, ?_⟩
    refine block_ret ?_
    refine then_ret ?_
    refine end_val (.inl rfl) (res_2 rfl (arv_cell rfl (.inl rfl) Tryd.underlying75 ag75 (by decide) rfl) (arv_cell rfl (.inl rfl) Tryd.underlying28 ag28 (by decide) rfl)) ?_
    have hb := parse_bad hbad
    exact CEnt.tup2 (CEnt.nilS' (by rw [hb.1]; rfl)) (CEnt.errN hb.2)
end Am
end Go.Proofs.YtghgbhekjgincaaDoor
