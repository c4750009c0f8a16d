
/- Chapter 23: Permit. -/
import Derived.Test.YtoliiompofonlaaDoorW23g
namespace Go.Proofs.YtoliiompofonlaaDoor
set_option linter.unusedVariables false
namespace Am
variable {gs : List Nat} [OkG gs]
open Go.RowKit
set_option maxRecDepth 100000

theorem keepS_zero {p : G5 → Bool} {e : Nat} {l : List G5} {k : Nat} (he : e ≠ 0) (h : (keepS p e l k).2 = 0) : k = 0 ∧ (keepS p e l k).1 = l.filter p ∧ l.filter p ≠ [] := by
  by_cases hk : k = 0
  · rw [keepS_good hk] at h ⊢
    refine ⟨hk, rfl, fun e2 => ?_⟩
    simp only [e2, if_true] at h
    exact he h
  · rw [keepS_bad hk] at h; exact absurd h hk
theorem keepS_len {p : G5 → Bool} {e : Nat} {l : List G5} {k : Nat} : (keepS p e l k).1.length ≤ l.length := by
  unfold keepS; split
  · exact Nat.le_refl _
  · exact List.length_filter_le _ _
def p1M (w : S3) (q : Q5) (r : G5) : Bool := decide (r.1 = w.1) && decide (r.2.1 = q.1.1)
def p2M (w : S3) (q : Q5) (r : G5) : Bool := !r.2.2.1 || sameQ w q
def p3M (q : Q5) (r : G5) : Bool := decide (lackB q.2.2.1 r.2.2.2.1 = 0)
def st1 (l : List G5) (w : S3) (q : Q5) : List G5 × Nat := keepS (p1M w q) 22 l 0
def st2 (l : List G5) (w : S3) (q : Q5) : List G5 × Nat := keepS (p2M w q) 9 (st1 l w q).1 (st1 l w q).2
def st3 (l : List G5) (w : S3) (q : Q5) : List G5 × Nat := keepS (p3M q) 15 (st2 l w q).1 (st2 l w q).2
def permM (l : List G5) (w : S3) (q : Q5) : Int × Nat :=
  if polOk l = false then (0, 24) else if rightS w = false then (0, 9) else if reqOk q = false then (0, 4) else
    if (st3 l w q).2 ≠ 0 then (0, (st3 l w q).2) else ((maxG ((st3 l w q).1.getD 0 g0) ((st3 l w q).1.drop 1)).2.2.2.2, 0)
theorem st3_zero {l : List G5} {w : S3} {q : Q5} (h : (st3 l w q).2 = 0) : (st3 l w q).1 = l.filter (fun r => p3M q r && p2M w q r && p1M w q r) ∧ (st3 l w q).1 ≠ [] := by
  obtain ⟨h1, h2, h3⟩ := keepS_zero (by decide) h
  obtain ⟨h4, h5, h6⟩ := keepS_zero (by decide) h1
  obtain ⟨_, h8, h9⟩ := keepS_zero (by decide) h4
  have e1 : (st1 l w q).1 = l.filter (p1M w q) := h8
  have e2 : (st2 l w q).1 = (st1 l w q).1.filter (p2M w q) := h5
  have e3 : (st3 l w q).1 = (st2 l w q).1.filter (p3M q) := h2
  refine ⟨?_, fun e => ?_⟩
  · rw [e3, e2, e1, List.filter_filter, List.filter_filter]
  · rw [e3] at e; exact h3 e
theorem pol_all {l : List G5} (h : polOk l = true) : ∀ g ∈ l, grOk g = true := by
  unfold polOk at h
  rw [Bool.and_eq_true] at h
  exact List.all_eq_true.1 h.2
theorem after3 {l : List G5} {w : S3} {q : Q5} (h : ¬ (st3 l w q).2 ≠ 0) (hpol : polOk l = true) : (st3 l w q).2 = 0 ∧ (∀ g ∈ (st3 l w q).1, grOk g = true) ∧ 0 < (st3 l w q).1.length := by
  have hk3 : (st3 l w q).2 = 0 := Classical.byContradiction h
  obtain ⟨he3, hne⟩ := st3_zero hk3
  refine ⟨hk3, fun g hg => ?_, List.length_pos_iff.2 hne⟩
  rw [he3] at hg
  exact pol_all hpol g (List.mem_filter.1 hg).1
theorem CEnt.fn2 {k : FuncId} {f g : Nat → CV} (h0 : CEnt (f 0) (g 0)) (h1 : CEnt (f 1) (g 1)) : CEnt (.fn k 2 f) (.fn k 2 g) := fun al St w v ⟨cs, k1, k2, k3⟩ =>
  ⟨cs, k1, k2, fun i hi => match i, hi with
    | 0, hi => h0 al St w _ (k3 0 hi)
    | 1, hi => h1 al St w _ (k3 1 hi)⟩
theorem know_op {G : Gh} {s : AS} (d : Nat) {i off : Nat} {g : Option Nat} (hl : look s.env s.b d = .op i g off) : ∀ a w, Rel G s a w → ∃ n, g = some n := fun a w ⟨St, hr⟩ => by
  have := evR hr (x := .tmp d) hl
  obtain ⟨b, hb, _⟩ := this
  exact ⟨b, hb⟩
theorem sub_box (s : S3) : ∀ j, j < 3 → CEnt (fl ((List.range 3).map (sF3 s)) (0 + j)) (sF3 s j) := fun j hj => by
  rcases j with _ | _ | _ | j <;> first | exact CEnt.refl _ | omega
theorem req_box (q : Q5) : ∀ j, j < 7 → CEnt (fl ((List.range 7).map (reqF q)) (0 + j)) (reqF q j) := fun j hj => by
  rcases j with _ | _ | _ | _ | _ | _ | _ | j <;> first | exact CEnt.refl _ | omega
set_option maxHeartbeats 300000 in
theorem permit_ac (l : List G5) (w : S3) (q : Q5) : ACp gs Tryd.prog 12 [gtC l, subjC w, reqC q] (.tup 2 (fl [.c (.int .i64 (permM l w q).1), .err (permM l w q).2])) := by
  refine ac_of 61 Tryd.func12 rfl rfl rfl (fun al w0 F0 St0 => ?_)
  refine code_seq ?_
  refine code_region ?_
  refine seq_ex (wanted_none rfl) (e_box (n := 3) rfl rfl rfl rfl rfl rfl (fun p1 => ?_))
  refine seq_ex (wanted_none rfl) (e_box (n := 7) rfl rfl rfl rfl rfl rfl (fun p2 => ?_))
  refine q_rd (wanted_none rfl) rfl rfl (rd_assign (v := .c _) rfl rfl) ?_
  first | refine q_rd (wanted_none rfl) rfl rfl (rd_assign (v := .err _) rfl rfl) ?_ | refine q_rd (wanted_none rfl) rfl rfl (rd_assign (v := .c _) rfl rfl) ?_ | refine q_rd (wanted_none rfl) rfl rfl (rd_assign (v := .pv _) rfl rfl) ?_ | refine q_rd (wanted_none rfl) rfl rfl (rd_assign (v := .top) rfl rfl) ?_
  refine seq_nil ?_
  refine then_norm ?_
  refine code_seq ?_
  refine code_block ?_
  refine code_seq ?_
  refine code_region ?_
  first | refine q_rd (wanted_none rfl) rfl rfl (rd_move (v := .rs _ _ _) rfl rfl) ?_ | refine q_rd (wanted_none rfl) rfl rfl (rd_move (v := .os _ _ _ _ _) rfl rfl) ?_ | refine q_rd (wanted_none rfl) rfl rfl (rd_move (v := .c _) rfl rfl) ?_ | refine q_rd (wanted_none rfl) rfl rfl (rd_move (v := .pv _) rfl rfl) ?_ | refine q_rd (wanted_none rfl) rfl rfl (rd_move (v := .top) rfl rfl) ?_
  refine seq_ex (wanted_none rfl) (e_callP rfl (by kernel_rfl) (pright_ac l) (.cons (by first | exact se rfl (CEnt.refl _) | exact se rfl CEnt.nil | exact se rfl CEnt.nilB | exact se rfl (CEnt.osI rfl) | exact se rfl CEnt.opI | exact se_nilO rfl | exact se rfl (CEnt.agg2 (CEnt.refl _) (CEnt.refl _)) | exact se rfl (CEnt.agg3 (CEnt.refl _) (CEnt.refl _) (CEnt.refl _)) | exact se rfl (CEnt.agg4 (CEnt.refl _) (CEnt.refl _) (CEnt.refl _) (CEnt.refl _)) | exact se rfl (CEnt.agg5 (CEnt.refl _) (CEnt.refl _) (CEnt.refl _) (CEnt.refl _) (CEnt.refl _)) | exact se rfl (CEnt.agg6 (CEnt.refl _) (CEnt.refl _) (CEnt.refl _) (CEnt.refl _) (CEnt.refl _) (CEnt.refl _)) | exact se_frzB _ rfl rfl rfl (by simp) (fun _ _ => CEnt.refl _)) .nil) rfl rfl ?_)
  first | refine q_rd (wanted_none rfl) rfl rfl (rd_notD rfl rfl) ?_ | refine q_rd (wanted_none rfl) rfl rfl (rd_not rfl rfl) ?_
  refine q_rd (wanted_none rfl) rfl rfl (rd_assign (v := .c _) rfl rfl) ?_
  refine seq_nil ?_
  refine then_norm ?_
  first | refine code_condSD rfl rfl (fun h64 => ?_) (fun h64 => ?_) | refine code_condS rfl rfl (fun h64 => ?_) (fun h64 => ?_)
  · refine code_seq ?_
    refine code_draw (.rd 0 (.rd 1 (.rd 2 .done))) (by kernel_rfl) (by kernel_rfl) rfl (by kernel_rfl) (by kernel_rfl) ?_
    simp only [opsOfT, List.getElem?_toArray, List.getElem?_cons_zero, List.getElem?_cons_succ]
    refine y_rd (wanted_none rfl) rfl rfl (rd_loadE 23 rfl rfl Tryd.underlying32 ag32) ?_
    refine y_rd (wanted_none rfl) rfl rfl (rd_assign (v := .c _) rfl rfl) ?_
    first | refine y_rd (wanted_none rfl) rfl rfl (rd_assign (v := .err _) rfl rfl) ?_ | refine y_rd (wanted_none rfl) rfl rfl (rd_assign (v := .c _) rfl rfl) ?_ | refine y_rd (wanted_none rfl) rfl rfl (rd_assign (v := .pv _) rfl rfl) ?_ | refine y_rd (wanted_none rfl) rfl rfl (rd_assign (v := .top) rfl rfl) ?_
    refine x_done ?_
    refine then_norm ?_
    refine code_ret ?_
    refine block_ret ?_
    refine then_ret ?_
    refine end_val (.inl rfl) (res_2 rfl (arv_tmp rfl) (arv_tmp rfl)) ?_
    have hb : permM l w q = (0, 24) := by unfold permM; rw [if_pos (by simpa using h64)]
    exact CEnt.tup2 (CEnt.int (by rw [hb])) (CEnt.errN (by rw [hb]))
  · refine code_seq ?_
    refine code_region ?_
    first | refine q_rdO (wanted_none rfl) rfl rfl (rd_loadOA rfl rfl (.inl rfl) Tryd.underlying23 ag23 sz23 (by first | decide | (first | omega | decide | (dsimp only at *; omega)))) ?_ | refine q_rd (wanted_none rfl) rfl rfl (rd_loadRA rfl rfl Tryd.underlying23 ag23 sz23 (by first | decide | (first | omega | decide | (dsimp only at *; omega)))) ?_ | refine q_rdO (wanted_none rfl) rfl rfl (rd_loadOA rfl rfl (.inr rfl) Tryd.underlying23 ag23 sz23 (by first | decide | (first | omega | decide | (dsimp only at *; omega)))) ?_
    refine seq_ex (wanted_none rfl) (e_callP rfl (by kernel_rfl) (nright_ac w) (.cons (by first | exact se rfl (CEnt.refl _) | exact se rfl CEnt.nil | exact se rfl CEnt.nilB | exact se rfl (CEnt.osI rfl) | exact se rfl CEnt.opI | exact se_nilO rfl | exact se rfl (CEnt.agg2 (CEnt.refl _) (CEnt.refl _)) | exact se rfl (CEnt.agg3 (CEnt.refl _) (CEnt.refl _) (CEnt.refl _)) | exact se rfl (CEnt.agg4 (CEnt.refl _) (CEnt.refl _) (CEnt.refl _) (CEnt.refl _)) | exact se rfl (CEnt.agg5 (CEnt.refl _) (CEnt.refl _) (CEnt.refl _) (CEnt.refl _) (CEnt.refl _)) | exact se rfl (CEnt.agg6 (CEnt.refl _) (CEnt.refl _) (CEnt.refl _) (CEnt.refl _) (CEnt.refl _) (CEnt.refl _)) | exact se_frzB _ rfl rfl rfl (by simp) (fun _ _ => CEnt.refl _)) .nil) rfl rfl ?_)
    first | refine q_rd (wanted_none rfl) rfl rfl (rd_notD rfl rfl) ?_ | refine q_rd (wanted_none rfl) rfl rfl (rd_not rfl rfl) ?_
    refine q_rd (wanted_none rfl) rfl rfl (rd_assign (v := .c _) rfl rfl) ?_
    refine seq_nil ?_
    refine then_norm ?_
    first | refine code_condSD rfl rfl (fun h66 => ?_) (fun h66 => ?_) | refine code_condS rfl rfl (fun h66 => ?_) (fun h66 => ?_)
    · refine code_seq ?_
      refine code_draw (.rd 0 (.rd 1 (.rd 2 .done))) (by kernel_rfl) (by kernel_rfl) rfl (by kernel_rfl) (by kernel_rfl) ?_
      simp only [opsOfT, List.getElem?_toArray, List.getElem?_cons_zero, List.getElem?_cons_succ]
      refine y_rd (wanted_none rfl) rfl rfl (rd_loadE 8 rfl rfl Tryd.underlying32 ag32) ?_
      refine y_rd (wanted_none rfl) rfl rfl (rd_assign (v := .c _) rfl rfl) ?_
      first | refine y_rd (wanted_none rfl) rfl rfl (rd_assign (v := .err _) rfl rfl) ?_ | refine y_rd (wanted_none rfl) rfl rfl (rd_assign (v := .c _) rfl rfl) ?_ | refine y_rd (wanted_none rfl) rfl rfl (rd_assign (v := .pv _) rfl rfl) ?_ | refine y_rd (wanted_none rfl) rfl rfl (rd_assign (v := .top) rfl rfl) ?_
      refine x_done ?_
      refine then_norm ?_
      refine code_ret ?_
      refine block_ret ?_
      refine then_ret ?_
      refine end_val (.inl rfl) (res_2 rfl (arv_tmp rfl) (arv_tmp rfl)) ?_
      have hb : permM l w q = (0, 9) := by unfold permM; rw [if_neg (by simp_all), if_pos (by simp_all)]
      exact CEnt.tup2 (CEnt.int (by rw [hb])) (CEnt.errN (by rw [hb]))
    · refine code_seq ?_
      refine code_region ?_
      first | refine q_rdO (wanted_none rfl) rfl rfl (rd_loadOA rfl rfl (.inl rfl) Tryd.underlying26 ag26 sz26 (by first | decide | (first | omega | decide | (dsimp only at *; omega)))) ?_ | refine q_rd (wanted_none rfl) rfl rfl (rd_loadRA rfl rfl Tryd.underlying26 ag26 sz26 (by first | decide | (first | omega | decide | (dsimp only at *; omega)))) ?_ | refine q_rdO (wanted_none rfl) rfl rfl (rd_loadOA rfl rfl (.inr rfl) Tryd.underlying26 ag26 sz26 (by first | decide | (first | omega | decide | (dsimp only at *; omega)))) ?_
      refine seq_ex (wanted_none rfl) (e_callP rfl (by kernel_rfl) (qright_ac q) (.cons (se rfl (CEnt.agg rfl fun m hm => req_box q m hm)) .nil) rfl rfl ?_)
      first | refine q_rd (wanted_none rfl) rfl rfl (rd_notD rfl rfl) ?_ | refine q_rd (wanted_none rfl) rfl rfl (rd_not rfl rfl) ?_
      refine q_rd (wanted_none rfl) rfl rfl (rd_assign (v := .c _) rfl rfl) ?_
      refine seq_nil ?_
      refine then_norm ?_
      first | refine code_condSD rfl rfl (fun h68 => ?_) (fun h68 => ?_) | refine code_condS rfl rfl (fun h68 => ?_) (fun h68 => ?_)
      · refine code_seq ?_
        refine code_draw (.rd 0 (.rd 1 (.rd 2 .done))) (by kernel_rfl) (by kernel_rfl) rfl (by kernel_rfl) (by kernel_rfl) ?_
        simp only [opsOfT, List.getElem?_toArray, List.getElem?_cons_zero, List.getElem?_cons_succ]
        refine y_rd (wanted_none rfl) rfl rfl (rd_loadE 3 rfl rfl Tryd.underlying32 ag32) ?_
        refine y_rd (wanted_none rfl) rfl rfl (rd_assign (v := .c _) rfl rfl) ?_
        first | refine y_rd (wanted_none rfl) rfl rfl (rd_assign (v := .err _) rfl rfl) ?_ | refine y_rd (wanted_none rfl) rfl rfl (rd_assign (v := .c _) rfl rfl) ?_ | refine y_rd (wanted_none rfl) rfl rfl (rd_assign (v := .pv _) rfl rfl) ?_ | refine y_rd (wanted_none rfl) rfl rfl (rd_assign (v := .top) rfl rfl) ?_
        refine x_done ?_
        refine then_norm ?_
        refine code_ret ?_
        refine block_ret ?_
        refine then_ret ?_
        refine end_val (.inl rfl) (res_2 rfl (arv_tmp rfl) (arv_tmp rfl)) ?_
        have hb : permM l w q = (0, 4) := by unfold permM; rw [if_neg (by simp_all), if_neg (by simp_all), if_pos (by simp_all)]
        exact CEnt.tup2 (CEnt.int (by rw [hb])) (CEnt.errN (by rw [hb]))
      · refine code_skip ?_
        refine block_norm ?_
        refine then_norm ?_
        refine code_seq ?_
        have hpol : polOk l = true := by simp_all
        have hwr : rightS w = true := by simp_all
        have hqr : reqOk q = true := by simp_all
        have hlen : l.length ≤ 32 := by have := hpol; unfold polOk at this; simp at this; omega
        refine code_region ?_
        first | refine q_rdO (wanted_none rfl) rfl rfl (rd_loadOA rfl rfl (.inl rfl) Tryd.underlying23 ag23 sz23 (by first | decide | (first | omega | decide | (dsimp only at *; omega)))) ?_ | refine q_rd (wanted_none rfl) rfl rfl (rd_loadRA rfl rfl Tryd.underlying23 ag23 sz23 (by first | decide | (first | omega | decide | (dsimp only at *; omega)))) ?_ | refine q_rdO (wanted_none rfl) rfl rfl (rd_loadOA rfl rfl (.inr rfl) Tryd.underlying23 ag23 sz23 (by first | decide | (first | omega | decide | (dsimp only at *; omega)))) ?_
        first | refine q_rdO (wanted_none rfl) rfl rfl (rd_loadOA rfl rfl (.inl rfl) Tryd.underlying26 ag26 sz26 (by first | decide | (first | omega | decide | (dsimp only at *; omega)))) ?_ | refine q_rd (wanted_none rfl) rfl rfl (rd_loadRA rfl rfl Tryd.underlying26 ag26 sz26 (by first | decide | (first | omega | decide | (dsimp only at *; omega)))) ?_ | refine q_rdO (wanted_none rfl) rfl rfl (rd_loadOA rfl rfl (.inr rfl) Tryd.underlying26 ag26 sz26 (by first | decide | (first | omega | decide | (dsimp only at *; omega)))) ?_
        refine seq_ex (wanted_none rfl) (e_callP rfl (by kernel_rfl) (asub_ac w q) (.cons (se rfl (CEnt.agg rfl fun m hm => sub_box w m hm)) (.cons (se rfl (CEnt.agg rfl fun m hm => req_box q m hm)) .nil)) rfl rfl ?_)
        refine seq_ex (wanted_none rfl) (e_alloc (n := 1) rfl zr4 rfl rfl rfl (fun p3 => ?_))
        refine seq_md (wanted_none rfl) (m_store rfl rfl rfl rfl rfl sz4 rfl rfl (by first | decide | (first | omega | decide | (dsimp only at *; omega))) _ (fun _ _ => CEnt.refl _) rfl ?_)
        refine seq_nil ?_
        refine then_norm ?_
        refine code_seq ?_
        refine code_ent (freeze 0 rfl) ?_
        refine code_ent (freeze 1 rfl) ?_
        refine code_ent (freeze 2 rfl) ?_
        refine code_ent (thawP 4 (m := 3) rfl rfl (by decide)) ?_
        refine code_ent (thawP 5 (m := 7) rfl rfl (by decide)) ?_
        refine code_ent (thawP 8 (m := 1) rfl rfl (by decide)) ?_
        refine code_region ?_
        first | refine q_rd (wanted_none rfl) rfl rfl (rd_move (v := .rs _ _ _) rfl rfl) ?_ | refine q_rd (wanted_none rfl) rfl rfl (rd_move (v := .os _ _ _ _ _) rfl rfl) ?_ | refine q_rd (wanted_none rfl) rfl rfl (rd_move (v := .c _) rfl rfl) ?_ | refine q_rd (wanted_none rfl) rfl rfl (rd_move (v := .pv _) rfl rfl) ?_ | refine q_rd (wanted_none rfl) rfl rfl (rd_move (v := .top) rfl rfl) ?_
        refine seq_ex (wanted_none rfl) (e_callO rfl (by kernel_rfl) (gclone_ac l (by omega)) (.cons (by first | exact se rfl (CEnt.refl _) | exact se rfl CEnt.nil | exact se rfl CEnt.nilB | exact se rfl (CEnt.osI rfl) | exact se rfl CEnt.opI | exact se_nilO rfl | exact se rfl (CEnt.agg2 (CEnt.refl _) (CEnt.refl _)) | exact se rfl (CEnt.agg3 (CEnt.refl _) (CEnt.refl _) (CEnt.refl _)) | exact se rfl (CEnt.agg4 (CEnt.refl _) (CEnt.refl _) (CEnt.refl _) (CEnt.refl _)) | exact se rfl (CEnt.agg5 (CEnt.refl _) (CEnt.refl _) (CEnt.refl _) (CEnt.refl _) (CEnt.refl _)) | exact se rfl (CEnt.agg6 (CEnt.refl _) (CEnt.refl _) (CEnt.refl _) (CEnt.refl _) (CEnt.refl _) (CEnt.refl _)) | exact se_frzB _ rfl rfl rfl (by simp) (fun _ _ => CEnt.refl _)) .nil) rfl rfl (fun p4 => ?_))
        refine q_rd (wanted_none rfl) rfl rfl (rd_build (n := 2) rfl zr106 pl106 rfl rfl) ?_
        refine seq_ex (wanted_none rfl) (e_box (n := 2) rfl rfl rfl rfl rfl rfl (fun p5 => ?_))
        first | refine q_rd (wanted_none rfl) rfl rfl (rd_assign (v := .op _ _ _) rfl rfl) ?_ | refine q_rd (wanted_none rfl) rfl rfl (rd_assign (v := .rp _ _) rfl rfl) ?_ | refine q_rd (wanted_none rfl) rfl rfl (rd_assign (v := .c _) rfl rfl) ?_ | refine q_rd (wanted_none rfl) rfl rfl (rd_assign (v := .pv _) rfl rfl) ?_ | refine q_rd (wanted_none rfl) rfl rfl (rd_assign (v := .top) rfl rfl) ?_
        refine seq_nil ?_
        refine then_norm ?_
        refine code_seq ?_
        refine code_knowG (know_op 9 rfl) fun hn => ?_
        obtain ⟨n, rfl⟩ := hn
        refine code_ent (blk_ent 4 (m := 2) (F := fl [.os 1 p4 0 l.length 5, .err 0]) rfl (Nat.le_refl _) (fun _ => rfl) (fun j hj => by rcases j with _ | _ | j <;> first | exact CEnt.osI rfl | exact CEnt.nil | omega)) ?_
        refine code_ent (pack_ent (gd := fun z : Nat × Option Nat => z.1) (E := sE l 0) (n, p4) [4, 3, 0, 1, 2] (by decide) rfl) ?_
        have hl1 := keepS_len (p := p1M w q) (e := 22) (l := l) (k := 0)
        have hl2 := keepS_len (p := p2M w q) (e := 9) (l := (st1 l w q).1) (k := (st1 l w q).2)
        refine code_region ?_
        first | refine q_rd (wanted_none rfl) rfl rfl (rd_move (v := .op _ _ _) rfl rfl) ?_ | refine q_rd (wanted_none rfl) rfl rfl (rd_move (v := .rp _ _) rfl rfl) ?_ | refine q_rd (wanted_none rfl) rfl rfl (rd_move (v := .c _) rfl rfl) ?_ | refine q_rd (wanted_none rfl) rfl rfl (rd_move (v := .pv _) rfl rfl) ?_ | refine q_rd (wanted_none rfl) rfl rfl (rd_move (v := .top) rfl rfl) ?_
        refine q_rd (wanted_none rfl) rfl rfl (rd_loadE 21 rfl rfl Tryd.underlying32 ag32) ?_
        refine q_rd (wanted_none rfl) rfl rfl (rd_makeFunc rfl rfl) ?_
        refine seq_md (wanted_none rfl) (m_callH (i := 0) rfl (by kernel_rfl) rfl (keep_ac (m := 2) (fv := fl [.rp 3 (sF3 w), .rp 7 (reqF q)]) (by kernel_rfl) n l 0 22 (by omega) (p1M w q) (fun r => pass1_ac w q r)) (.cons (se rfl CEnt.opI) (.cons (se rfl (CEnt.refl _)) (.cons (se rfl (CEnt.fn2 (CEnt.rp (sub_box w)) (CEnt.rp (req_box q)))) .nil))) rfl rfl ?_)
        rintro _ _ ⟨rfl, rfl⟩
        refine ⟨_, _, rfl, CEnt.refl _, ?_⟩
        refine seq_nil ?_
        refine then_norm ?_
        refine code_seq ?_
        refine code_region ?_
        first | refine q_rd (wanted_none rfl) rfl rfl (rd_move (v := .op _ _ _) rfl rfl) ?_ | refine q_rd (wanted_none rfl) rfl rfl (rd_move (v := .rp _ _) rfl rfl) ?_ | refine q_rd (wanted_none rfl) rfl rfl (rd_move (v := .c _) rfl rfl) ?_ | refine q_rd (wanted_none rfl) rfl rfl (rd_move (v := .pv _) rfl rfl) ?_ | refine q_rd (wanted_none rfl) rfl rfl (rd_move (v := .top) rfl rfl) ?_
        refine q_rd (wanted_none rfl) rfl rfl (rd_loadE 8 rfl rfl Tryd.underlying32 ag32) ?_
        refine q_rd (wanted_none rfl) rfl rfl (rd_makeFunc rfl rfl) ?_
        refine seq_md (wanted_none rfl) (m_callH (i := 0) rfl (by kernel_rfl) rfl (keep_ac (m := 1) (fv := fl [.rp 1 fun _ => .c (.bool (sameQ w q))]) (by kernel_rfl) n (st1 l w q).1 (st1 l w q).2 9 (by show (keepS _ _ _ _).1.length ≤ _; omega) (p2M w q) (fun r => pass2_ac (sameQ w q) r)) (.cons (se rfl CEnt.opI) (.cons (se rfl (CEnt.refl _)) (.cons (se rfl (CEnt.fn1 (CEnt.rp fun j hj => by obtain rfl : j = 0 := (by omega); exact CEnt.refl _))) .nil))) rfl rfl ?_)
        rintro _ _ ⟨rfl, rfl⟩
        refine ⟨_, _, rfl, CEnt.refl _, ?_⟩
        refine seq_nil ?_
        refine then_norm ?_
        refine code_seq ?_
        refine code_region ?_
        first | refine q_rd (wanted_none rfl) rfl rfl (rd_move (v := .op _ _ _) rfl rfl) ?_ | refine q_rd (wanted_none rfl) rfl rfl (rd_move (v := .rp _ _) rfl rfl) ?_ | refine q_rd (wanted_none rfl) rfl rfl (rd_move (v := .c _) rfl rfl) ?_ | refine q_rd (wanted_none rfl) rfl rfl (rd_move (v := .pv _) rfl rfl) ?_ | refine q_rd (wanted_none rfl) rfl rfl (rd_move (v := .top) rfl rfl) ?_
        refine q_rd (wanted_none rfl) rfl rfl (rd_loadE 14 rfl rfl Tryd.underlying32 ag32) ?_
        refine q_rd (wanted_none rfl) rfl rfl (rd_makeFunc rfl rfl) ?_
        refine seq_md (wanted_none rfl) (m_callH (i := 0) rfl (by kernel_rfl) rfl (keep_ac (m := 1) (fv := fl [.rp 7 (reqF q)]) (by kernel_rfl) n (st2 l w q).1 (st2 l w q).2 15 (by have h1 : (st2 l w q).1.length ≤ (st1 l w q).1.length := hl2; have h2 : (st1 l w q).1.length ≤ l.length := hl1; omega) (p3M q) (fun r => pass3_ac q r)) (.cons (se rfl CEnt.opI) (.cons (se rfl (CEnt.refl _)) (.cons (se rfl (CEnt.fn1 (CEnt.rp (req_box q)))) .nil))) rfl rfl ?_)
        rintro _ _ ⟨rfl, rfl⟩
        refine ⟨_, _, rfl, CEnt.refl _, ?_⟩
        refine seq_nil ?_
        refine then_norm ?_
        refine code_seq ?_
        refine code_seq ?_
        refine code_unpack 0 rfl fun z hz => ?_
        obtain ⟨n', gl⟩ := z
        obtain rfl : n' = n := hz
        refine code_ent (weaken 9 (.op 0 (some n') 0) CEnt.opI) ?_
        refine code_region ?_
        first | refine q_rd (wanted_none rfl) rfl rfl (rd_move (v := .op _ _ _) rfl rfl) ?_ | refine q_rd (wanted_none rfl) rfl rfl (rd_move (v := .rp _ _) rfl rfl) ?_ | refine q_rd (wanted_none rfl) rfl rfl (rd_move (v := .c _) rfl rfl) ?_ | refine q_rd (wanted_none rfl) rfl rfl (rd_move (v := .pv _) rfl rfl) ?_ | refine q_rd (wanted_none rfl) rfl rfl (rd_move (v := .top) rfl rfl) ?_
        first | refine q_rd (wanted_none rfl) rfl rfl (rd_nilO rfl rfl) ?_ | refine q_rd (wanted_none rfl) rfl rfl (rd_nilR rfl rfl) ?_ | refine q_rd (wanted_none rfl) rfl rfl (rd_nilF rfl rfl) ?_
        first | refine q_rd (wanted_none rfl) rfl rfl (rd_faddrO rfl rfl Tryd.underlying106 rfl sz32 rfl) ?_ | refine q_rd (wanted_none rfl) rfl rfl (rd_faddrR rfl rfl Tryd.underlying106 rfl sz32 rfl) ?_
        first | refine q_rdO (wanted_none rfl) rfl rfl (rd_loadO (v := .err _) rfl rfl (.inl rfl) Tryd.underlying32 ag32 (by first | decide | (first | omega | decide | (dsimp only at *; omega))) rfl) ?_ | refine q_rdO (wanted_none rfl) rfl rfl (rd_loadO (v := .c _) rfl rfl (.inl rfl) Tryd.underlying32 ag32 (by first | decide | (first | omega | decide | (dsimp only at *; omega))) rfl) ?_ | refine q_rdO (wanted_none rfl) rfl rfl (rd_loadO (v := .pv _) rfl rfl (.inl rfl) Tryd.underlying32 ag32 (by first | decide | (first | omega | decide | (dsimp only at *; omega))) rfl) ?_ | refine q_rdO (wanted_none rfl) rfl rfl (rd_loadO (v := .top) rfl rfl (.inl rfl) Tryd.underlying32 ag32 (by first | decide | (first | omega | decide | (dsimp only at *; omega))) rfl) ?_ | refine q_rd (wanted_none rfl) rfl rfl (rd_loadR (v := .err _) rfl rfl Tryd.underlying32 ag32 (by first | decide | (first | omega | decide | (dsimp only at *; omega))) rfl) ?_ | refine q_rd (wanted_none rfl) rfl rfl (rd_loadR (v := .c _) rfl rfl Tryd.underlying32 ag32 (by first | decide | (first | omega | decide | (dsimp only at *; omega))) rfl) ?_ | refine q_rd (wanted_none rfl) rfl rfl (rd_loadR (v := .pv _) rfl rfl Tryd.underlying32 ag32 (by first | decide | (first | omega | decide | (dsimp only at *; omega))) rfl) ?_ | refine q_rd (wanted_none rfl) rfl rfl (rd_loadR (v := .top) rfl rfl Tryd.underlying32 ag32 (by first | decide | (first | omega | decide | (dsimp only at *; omega))) rfl) ?_ | refine q_rdO (wanted_none rfl) rfl rfl (rd_loadO (v := .err _) rfl rfl (.inr rfl) Tryd.underlying32 ag32 (by first | decide | (first | omega | decide | (dsimp only at *; omega))) rfl) ?_ | refine q_rdO (wanted_none rfl) rfl rfl (rd_loadO (v := .c _) rfl rfl (.inr rfl) Tryd.underlying32 ag32 (by first | decide | (first | omega | decide | (dsimp only at *; omega))) rfl) ?_ | refine q_rdO (wanted_none rfl) rfl rfl (rd_loadO (v := .pv _) rfl rfl (.inr rfl) Tryd.underlying32 ag32 (by first | decide | (first | omega | decide | (dsimp only at *; omega))) rfl) ?_ | refine q_rdO (wanted_none rfl) rfl rfl (rd_loadO (v := .top) rfl rfl (.inr rfl) Tryd.underlying32 ag32 (by first | decide | (first | omega | decide | (dsimp only at *; omega))) rfl) ?_
        first | refine q_rd (wanted_none rfl) rfl rfl (rd_neE rfl rfl) ?_ | refine q_rd (wanted_none rfl) rfl rfl (rd_neE0 rfl rfl) ?_
        refine seq_nil ?_
        refine then_norm ?_
        first | refine code_condSD rfl rfl (fun h76 => ?_) (fun h76 => ?_) | refine code_condS rfl rfl (fun h76 => ?_) (fun h76 => ?_)
        · refine code_seq ?_
          refine code_draw (.rd 0 (.rd 1 (.rd 2 (.rd 3 (.rd 4 (.rd 5 .done)))))) (by kernel_rfl) (by kernel_rfl) rfl (by kernel_rfl) (by kernel_rfl) ?_
          simp only [opsOfT, List.getElem?_toArray, List.getElem?_cons_zero, List.getElem?_cons_succ]
          first | refine y_rd (wanted_none rfl) rfl rfl (rd_move (v := .op _ _ _) rfl rfl) ?_ | refine y_rd (wanted_none rfl) rfl rfl (rd_move (v := .rp _ _) rfl rfl) ?_ | refine y_rd (wanted_none rfl) rfl rfl (rd_move (v := .c _) rfl rfl) ?_ | refine y_rd (wanted_none rfl) rfl rfl (rd_move (v := .pv _) rfl rfl) ?_ | refine y_rd (wanted_none rfl) rfl rfl (rd_move (v := .top) rfl rfl) ?_
          first | refine y_rd (wanted_none rfl) rfl rfl (rd_nilO rfl rfl) ?_ | refine y_rd (wanted_none rfl) rfl rfl (rd_nilR rfl rfl) ?_ | refine y_rd (wanted_none rfl) rfl rfl (rd_nilF rfl rfl) ?_
          first | refine y_rd (wanted_none rfl) rfl rfl (rd_faddrO rfl rfl Tryd.underlying106 rfl sz32 rfl) ?_ | refine y_rd (wanted_none rfl) rfl rfl (rd_faddrR rfl rfl Tryd.underlying106 rfl sz32 rfl) ?_
          first | refine y_rdO (wanted_none rfl) rfl rfl (rd_loadO (v := .err _) rfl rfl (.inl rfl) Tryd.underlying32 ag32 (by first | decide | (first | omega | decide | (dsimp only at *; omega))) rfl) ?_ | refine y_rdO (wanted_none rfl) rfl rfl (rd_loadO (v := .c _) rfl rfl (.inl rfl) Tryd.underlying32 ag32 (by first | decide | (first | omega | decide | (dsimp only at *; omega))) rfl) ?_ | refine y_rdO (wanted_none rfl) rfl rfl (rd_loadO (v := .pv _) rfl rfl (.inl rfl) Tryd.underlying32 ag32 (by first | decide | (first | omega | decide | (dsimp only at *; omega))) rfl) ?_ | refine y_rdO (wanted_none rfl) rfl rfl (rd_loadO (v := .top) rfl rfl (.inl rfl) Tryd.underlying32 ag32 (by first | decide | (first | omega | decide | (dsimp only at *; omega))) rfl) ?_ | refine y_rd (wanted_none rfl) rfl rfl (rd_loadR (v := .err _) rfl rfl Tryd.underlying32 ag32 (by first | decide | (first | omega | decide | (dsimp only at *; omega))) rfl) ?_ | refine y_rd (wanted_none rfl) rfl rfl (rd_loadR (v := .c _) rfl rfl Tryd.underlying32 ag32 (by first | decide | (first | omega | decide | (dsimp only at *; omega))) rfl) ?_ | refine y_rd (wanted_none rfl) rfl rfl (rd_loadR (v := .pv _) rfl rfl Tryd.underlying32 ag32 (by first | decide | (first | omega | decide | (dsimp only at *; omega))) rfl) ?_ | refine y_rd (wanted_none rfl) rfl rfl (rd_loadR (v := .top) rfl rfl Tryd.underlying32 ag32 (by first | decide | (first | omega | decide | (dsimp only at *; omega))) rfl) ?_ | refine y_rdO (wanted_none rfl) rfl rfl (rd_loadO (v := .err _) rfl rfl (.inr rfl) Tryd.underlying32 ag32 (by first | decide | (first | omega | decide | (dsimp only at *; omega))) rfl) ?_ | refine y_rdO (wanted_none rfl) rfl rfl (rd_loadO (v := .c _) rfl rfl (.inr rfl) Tryd.underlying32 ag32 (by first | decide | (first | omega | decide | (dsimp only at *; omega))) rfl) ?_ | refine y_rdO (wanted_none rfl) rfl rfl (rd_loadO (v := .pv _) rfl rfl (.inr rfl) Tryd.underlying32 ag32 (by first | decide | (first | omega | decide | (dsimp only at *; omega))) rfl) ?_ | refine y_rdO (wanted_none rfl) rfl rfl (rd_loadO (v := .top) rfl rfl (.inr rfl) Tryd.underlying32 ag32 (by first | decide | (first | omega | decide | (dsimp only at *; omega))) rfl) ?_
          refine y_rd (wanted_none rfl) rfl rfl (rd_assign (v := .c _) rfl rfl) ?_
          first | refine y_rd (wanted_none rfl) rfl rfl (rd_assign (v := .err _) rfl rfl) ?_ | refine y_rd (wanted_none rfl) rfl rfl (rd_assign (v := .c _) rfl rfl) ?_ | refine y_rd (wanted_none rfl) rfl rfl (rd_assign (v := .pv _) rfl rfl) ?_ | refine y_rd (wanted_none rfl) rfl rfl (rd_assign (v := .top) rfl rfl) ?_
          refine x_done ?_
          refine then_norm ?_
          refine code_ret ?_
          refine then_ret ?_
          refine end_val (.inl rfl) (res_2 rfl (arv_tmp rfl) (arv_tmp rfl)) ?_
          have hb : permM l w q = (0, (st3 l w q).2) := by unfold permM; rw [if_neg (by simp_all), if_neg (by simp_all), if_neg (by simp_all), if_pos (by assumption)]
          exact CEnt.tup2 (CEnt.int (by rw [hb])) (CEnt.errN (by rw [hb]; rfl))
        · refine code_skip ?_
          refine then_norm ?_
          refine code_seq ?_
          have h79 := after3 (l := l) (w := w) (q := q) h76 hpol
          have hpos : 0 < (st3 l w q).1.length := h79.2.2
          refine code_region ?_
          first | refine q_rd (wanted_none rfl) rfl rfl (rd_move (v := .op _ _ _) rfl rfl) ?_ | refine q_rd (wanted_none rfl) rfl rfl (rd_move (v := .rp _ _) rfl rfl) ?_ | refine q_rd (wanted_none rfl) rfl rfl (rd_move (v := .c _) rfl rfl) ?_ | refine q_rd (wanted_none rfl) rfl rfl (rd_move (v := .pv _) rfl rfl) ?_ | refine q_rd (wanted_none rfl) rfl rfl (rd_move (v := .top) rfl rfl) ?_
          first | refine q_rd (wanted_none rfl) rfl rfl (rd_nilO rfl rfl) ?_ | refine q_rd (wanted_none rfl) rfl rfl (rd_nilR rfl rfl) ?_ | refine q_rd (wanted_none rfl) rfl rfl (rd_nilF rfl rfl) ?_
          first | refine q_rd (wanted_none rfl) rfl rfl (rd_faddrO rfl rfl Tryd.underlying106 rfl sz29 rfl) ?_ | refine q_rd (wanted_none rfl) rfl rfl (rd_faddrR rfl rfl Tryd.underlying106 rfl sz29 rfl) ?_
          first | refine q_rdO (wanted_none rfl) rfl rfl (rd_loadO (v := .rs _ _ _) rfl rfl (.inl rfl) Tryd.underlying29 ag29 (by first | decide | (first | omega | decide | (dsimp only at *; omega))) rfl) ?_ | refine q_rdO (wanted_none rfl) rfl rfl (rd_loadO (v := .os _ _ _ _ _) rfl rfl (.inl rfl) Tryd.underlying29 ag29 (by first | decide | (first | omega | decide | (dsimp only at *; omega))) rfl) ?_ | refine q_rdO (wanted_none rfl) rfl rfl (rd_loadO (v := .c _) rfl rfl (.inl rfl) Tryd.underlying29 ag29 (by first | decide | (first | omega | decide | (dsimp only at *; omega))) rfl) ?_ | refine q_rdO (wanted_none rfl) rfl rfl (rd_loadO (v := .pv _) rfl rfl (.inl rfl) Tryd.underlying29 ag29 (by first | decide | (first | omega | decide | (dsimp only at *; omega))) rfl) ?_ | refine q_rdO (wanted_none rfl) rfl rfl (rd_loadO (v := .top) rfl rfl (.inl rfl) Tryd.underlying29 ag29 (by first | decide | (first | omega | decide | (dsimp only at *; omega))) rfl) ?_ | refine q_rd (wanted_none rfl) rfl rfl (rd_loadR (v := .rs _ _ _) rfl rfl Tryd.underlying29 ag29 (by first | decide | (first | omega | decide | (dsimp only at *; omega))) rfl) ?_ | refine q_rd (wanted_none rfl) rfl rfl (rd_loadR (v := .os _ _ _ _ _) rfl rfl Tryd.underlying29 ag29 (by first | decide | (first | omega | decide | (dsimp only at *; omega))) rfl) ?_ | refine q_rd (wanted_none rfl) rfl rfl (rd_loadR (v := .c _) rfl rfl Tryd.underlying29 ag29 (by first | decide | (first | omega | decide | (dsimp only at *; omega))) rfl) ?_ | refine q_rd (wanted_none rfl) rfl rfl (rd_loadR (v := .pv _) rfl rfl Tryd.underlying29 ag29 (by first | decide | (first | omega | decide | (dsimp only at *; omega))) rfl) ?_ | refine q_rd (wanted_none rfl) rfl rfl (rd_loadR (v := .top) rfl rfl Tryd.underlying29 ag29 (by first | decide | (first | omega | decide | (dsimp only at *; omega))) rfl) ?_ | refine q_rdO (wanted_none rfl) rfl rfl (rd_loadO (v := .rs _ _ _) rfl rfl (.inr rfl) Tryd.underlying29 ag29 (by first | decide | (first | omega | decide | (dsimp only at *; omega))) rfl) ?_ | refine q_rdO (wanted_none rfl) rfl rfl (rd_loadO (v := .os _ _ _ _ _) rfl rfl (.inr rfl) Tryd.underlying29 ag29 (by first | decide | (first | omega | decide | (dsimp only at *; omega))) rfl) ?_ | refine q_rdO (wanted_none rfl) rfl rfl (rd_loadO (v := .c _) rfl rfl (.inr rfl) Tryd.underlying29 ag29 (by first | decide | (first | omega | decide | (dsimp only at *; omega))) rfl) ?_ | refine q_rdO (wanted_none rfl) rfl rfl (rd_loadO (v := .pv _) rfl rfl (.inr rfl) Tryd.underlying29 ag29 (by first | decide | (first | omega | decide | (dsimp only at *; omega))) rfl) ?_ | refine q_rdO (wanted_none rfl) rfl rfl (rd_loadO (v := .top) rfl rfl (.inr rfl) Tryd.underlying29 ag29 (by first | decide | (first | omega | decide | (dsimp only at *; omega))) rfl) ?_
          refine seq_ent (freeze 4 rfl) ?_
          refine seq_ent (weaken 57 (.os 4 gl 0 (st3 l w q).1.length 5) (CEnt.osI rfl)) ?_
          refine seq_ent (thaw 57 (fun i => grF ((st3 l w q).1.getD i g0)) rfl rfl (by show 0 + (st3 l w q).1.length * 5 ≤ (st3 l w q).1.length * 5; omega) (fun a b ha hb => CEnt.of_eq (by rw [Nat.zero_add]; exact rowF_at (k := 5) hb))) ?_
          refine seq_ex (wanted_none rfl) (e_callP rfl (by kernel_rfl) (gmax_ac (st3 l w q).1 h79.2.2 h79.2.1) (.cons (se rfl (CEnt.refl _)) (.cons (se rfl CEnt.fn0) .nil)) rfl rfl ?_)
          refine seq_ex (wanted_none rfl) (e_alloc (n := 5) rfl zr100 rfl rfl rfl (fun p9 => ?_))
          refine seq_md (wanted_none rfl) (m_store rfl rfl rfl rfl rfl sz100 rfl rfl (by first | decide | (first | omega | decide | (dsimp only at *; omega))) _ (fun _ _ => CEnt.refl _) rfl ?_)
          refine seq_nil ?_
          refine then_norm ?_
          refine code_seq ?_
          refine code_region ?_
          first | refine q_rd (wanted_none rfl) rfl rfl (rd_faddrO rfl rfl Tryd.underlying100 rfl sz3 rfl) ?_ | refine q_rd (wanted_none rfl) rfl rfl (rd_faddrR rfl rfl Tryd.underlying100 rfl sz3 rfl) ?_
          first | refine q_rdO (wanted_none rfl) rfl rfl (rd_loadO (v := .c _) rfl rfl (.inl rfl) Tryd.underlying3 ag3 (by first | decide | (first | omega | decide | (dsimp only at *; omega))) rfl) ?_ | refine q_rd (wanted_none rfl) rfl rfl (rd_loadR (v := .c _) rfl rfl Tryd.underlying3 ag3 (by first | decide | (first | omega | decide | (dsimp only at *; omega))) rfl) ?_ | refine q_rdO (wanted_none rfl) rfl rfl (rd_loadO (v := .c _) rfl rfl (.inr rfl) Tryd.underlying3 ag3 (by first | decide | (first | omega | decide | (dsimp only at *; omega))) rfl) ?_
          refine q_rd (wanted_none rfl) rfl rfl (rd_assign (v := .c _) rfl rfl) ?_
          first | refine q_rd (wanted_none rfl) rfl rfl (rd_assign (v := .err _) rfl rfl) ?_ | refine q_rd (wanted_none rfl) rfl rfl (rd_assign (v := .c _) rfl rfl) ?_ | refine q_rd (wanted_none rfl) rfl rfl (rd_assign (v := .pv _) rfl rfl) ?_ | refine q_rd (wanted_none rfl) rfl rfl (rd_assign (v := .top) rfl rfl) ?_
          refine seq_nil ?_
          refine then_norm ?_
          refine code_ret ?_
          refine end_val (.inl rfl) (res_2 rfl (arv_tmp rfl) (arv_tmp rfl)) ?_
          have hb : permM l w q = ((maxG ((st3 l w q).1.getD 0 g0) ((st3 l w q).1.drop 1)).2.2.2.2, 0) := by unfold permM; rw [if_neg (by simp_all), if_neg (by simp_all), if_neg (by simp_all), if_neg (show ¬ (st3 l w q).2 ≠ 0 from h76)]
          exact CEnt.tup2 (CEnt.int (by rw [hb])) (CEnt.nilE (by rw [hb]))
end Am
end Go.Proofs.YtoliiompofonlaaDoor
