/- Chapter 9: which texts and parts are a subject's. -/
import Derived.Test.YtndbjkapdmpbbaaDoorW09o
namespace Go.Proofs.YtndbjkapdmpbbaaDoor
set_option linter.unusedVariables false
namespace Am
variable {gs : List Nat} [OkG gs]
open Go.RowKit
set_option maxRecDepth 100000

theorem parse_len {c : UInt8} (l : List UInt8) : (cutM c l).1.length ≤ l.length ∧ (cutM c l).2.1.length ≤ l.length := by
  induction l with
  | nil => simp [cutM]
  | cons x l ih =>
    rw [cutM]
    split
    · simp
    · simp; omega
theorem nparse_ac (l : List UInt8) (hl : l.length ≤ 1000000) : ACp gs Tryd.prog 58 [strC l] (.tup 2 (fl [subjC (parseT l).1, .err (parseT l).2])) := by
  have h1 := @parse_len 58 l
  have h2 := @parse_len 47 (cutM 58 l).2.1
  have hi := idx_wordL (cutM 58 l).1
  refine ac_of 51 Tryd.func58 rfl rfl rfl (fun al w0 F0 St0 => ?_)
  refine code_seq ?_
  refine code_region ?_
  refine seq_ex (wanted_none rfl) (e_alloc (n := 3) rfl zr63 rfl rfl rfl (fun p1 => ?_))
  first | refine q_rd (wanted_none rfl) rfl rfl (rd_assign (v := .err _) rfl rfl) ?_ | refine q_rd (wanted_none rfl) rfl rfl (rd_assign (v := .c _) rfl rfl) ?_ | refine q_rd (wanted_none rfl) rfl rfl (rd_assign (v := .pv _) rfl rfl) ?_ | refine q_rd (wanted_none rfl) rfl rfl (rd_assign (v := .top) rfl rfl) ?_
  refine seq_nil ?_
  refine then_norm ?_
  refine code_seq ?_
  refine code_region ?_
  refine q_rd (wanted_none rfl) rfl rfl (rd_move (v := .c _) rfl rfl) ?_
  refine seq_ex (wanted_none rfl) (e_callP rfl (by kernel_rfl) (scut_ac l 58 (by omega)) (.cons (by first | exact se rfl (CEnt.refl _) | exact se rfl CEnt.nil | exact se rfl CEnt.nilB | exact se rfl (CEnt.osI rfl) | exact se rfl CEnt.opI | exact se_nilO rfl | exact se rfl (CEnt.agg2 (CEnt.refl _) (CEnt.refl _)) | exact se rfl (CEnt.agg3 (CEnt.refl _) (CEnt.refl _) (CEnt.refl _)) | exact se rfl (CEnt.agg4 (CEnt.refl _) (CEnt.refl _) (CEnt.refl _) (CEnt.refl _)) | exact se rfl (CEnt.agg5 (CEnt.refl _) (CEnt.refl _) (CEnt.refl _) (CEnt.refl _) (CEnt.refl _)) | exact se rfl (CEnt.agg6 (CEnt.refl _) (CEnt.refl _) (CEnt.refl _) (CEnt.refl _) (CEnt.refl _) (CEnt.refl _)) | exact se_frzB _ rfl rfl rfl (by simp) (fun _ _ => CEnt.refl _)) (.cons (by first | exact se rfl (CEnt.refl _) | exact se rfl CEnt.nil | exact se rfl CEnt.nilB | exact se rfl (CEnt.osI rfl) | exact se rfl CEnt.opI | exact se_nilO rfl | exact se rfl (CEnt.agg2 (CEnt.refl _) (CEnt.refl _)) | exact se rfl (CEnt.agg3 (CEnt.refl _) (CEnt.refl _) (CEnt.refl _)) | exact se rfl (CEnt.agg4 (CEnt.refl _) (CEnt.refl _) (CEnt.refl _) (CEnt.refl _)) | exact se rfl (CEnt.agg5 (CEnt.refl _) (CEnt.refl _) (CEnt.refl _) (CEnt.refl _) (CEnt.refl _)) | exact se rfl (CEnt.agg6 (CEnt.refl _) (CEnt.refl _) (CEnt.refl _) (CEnt.refl _) (CEnt.refl _) (CEnt.refl _)) | exact se_frzB _ rfl rfl rfl (by simp) (fun _ _ => CEnt.refl _)) .nil)) rfl rfl ?_)
  first | refine q_rd (wanted_none rfl) rfl rfl (rd_move (v := .tup _ _) rfl rfl) ?_ | refine q_rd (wanted_none rfl) rfl rfl (rd_move (v := .c _) rfl rfl) ?_ | refine q_rd (wanted_none rfl) rfl rfl (rd_move (v := .pv _) rfl rfl) ?_ | refine q_rd (wanted_none rfl) rfl rfl (rd_move (v := .top) rfl rfl) ?_
  refine q_rd (wanted_none rfl) rfl rfl (rd_extract (v := .c _) rfl rfl rfl rfl) ?_
  refine q_rd (wanted_none rfl) rfl rfl (rd_extract (v := .c _) rfl rfl rfl rfl) ?_
  refine q_rd (wanted_none rfl) rfl rfl (rd_extract (v := .c _) rfl rfl rfl rfl) ?_
  refine q_rd (wanted_none rfl) rfl rfl (rd_assign (v := .c _) rfl rfl) ?_
  refine q_rd (wanted_none rfl) rfl rfl (rd_assign (v := .c _) rfl rfl) ?_
  refine q_rd (wanted_none rfl) rfl rfl (rd_assign (v := .c _) rfl rfl) ?_
  refine seq_nil ?_
  refine then_norm ?_
  refine code_seq ?_
  refine code_region ?_
  refine seq_ex (wanted_none rfl) (e_callP rfl (by kernel_rfl) (words_ac) .nil rfl rfl ?_)
  refine q_rd (wanted_none rfl) rfl rfl (rd_move (v := .c _) rfl rfl) ?_
  refine seq_ex (wanted_none rfl) (e_callP rfl (by kernel_rfl) (indexS_ac wordL (cutM 58 l).1) (.cons (by first | exact se rfl (CEnt.refl _) | exact se rfl CEnt.nil | exact se rfl CEnt.nilB | exact se rfl (CEnt.osI rfl) | exact se rfl CEnt.opI | exact se_nilO rfl | exact se rfl (CEnt.agg2 (CEnt.refl _) (CEnt.refl _)) | exact se rfl (CEnt.agg3 (CEnt.refl _) (CEnt.refl _) (CEnt.refl _)) | exact se rfl (CEnt.agg4 (CEnt.refl _) (CEnt.refl _) (CEnt.refl _) (CEnt.refl _)) | exact se rfl (CEnt.agg5 (CEnt.refl _) (CEnt.refl _) (CEnt.refl _) (CEnt.refl _) (CEnt.refl _)) | exact se rfl (CEnt.agg6 (CEnt.refl _) (CEnt.refl _) (CEnt.refl _) (CEnt.refl _) (CEnt.refl _) (CEnt.refl _)) | exact se_frzB _ rfl rfl rfl (by simp) (fun _ _ => CEnt.refl _)) (.cons (by first | exact se rfl (CEnt.refl _) | exact se rfl CEnt.nil | exact se rfl CEnt.nilB | exact se rfl (CEnt.osI rfl) | exact se rfl CEnt.opI | exact se_nilO rfl | exact se rfl (CEnt.agg2 (CEnt.refl _) (CEnt.refl _)) | exact se rfl (CEnt.agg3 (CEnt.refl _) (CEnt.refl _) (CEnt.refl _)) | exact se rfl (CEnt.agg4 (CEnt.refl _) (CEnt.refl _) (CEnt.refl _) (CEnt.refl _)) | exact se rfl (CEnt.agg5 (CEnt.refl _) (CEnt.refl _) (CEnt.refl _) (CEnt.refl _) (CEnt.refl _)) | exact se rfl (CEnt.agg6 (CEnt.refl _) (CEnt.refl _) (CEnt.refl _) (CEnt.refl _) (CEnt.refl _) (CEnt.refl _)) | exact se_frzB _ rfl rfl rfl (by simp) (fun _ _ => CEnt.refl _)) .nil)) rfl rfl ?_)
  refine q_rd (wanted_none rfl) rfl rfl (rd_addW rfl rfl rfl ((idxW (cutM 58 l).1)) ((by rw [hi]; exact wrap_id (k := .i64) (by show _ ∧ _; have := idxW_bd (cutM 58 l).1; omega)))) ?_
  refine q_rd (wanted_none rfl) rfl rfl (rd_move (v := .c _) rfl rfl) ?_
  refine q_rd (wanted_none rfl) rfl rfl (rd_build (n := 3) rfl zr63 pl63 rfl rfl) ?_
  refine seq_ex (wanted_none rfl) (e_alloc (n := 3) rfl zr63 rfl rfl rfl (fun p2 => ?_))
  refine seq_md (wanted_none rfl) (m_store rfl rfl rfl rfl rfl sz63 rfl rfl (by first | decide | (first | omega | decide | (dsimp only at *; omega))) _ (fun _ _ => CEnt.refl _) rfl ?_)
  refine seq_nil ?_
  refine then_norm ?_
  refine code_seq ?_
  refine code_seq ?_
  refine code_region ?_
  refine q_rd (wanted_none rfl) rfl rfl (rd_move (v := .c _) rfl rfl) ?_
  refine seq_ex (wanted_none rfl) (e_callP rfl (by kernel_rfl) (scut_ac (cutM 58 l).2.1 47 (by omega)) (.cons (by first | exact se rfl (CEnt.refl _) | exact se rfl CEnt.nil | exact se rfl CEnt.nilB | exact se rfl (CEnt.osI rfl) | exact se rfl CEnt.opI | exact se_nilO rfl | exact se rfl (CEnt.agg2 (CEnt.refl _) (CEnt.refl _)) | exact se rfl (CEnt.agg3 (CEnt.refl _) (CEnt.refl _) (CEnt.refl _)) | exact se rfl (CEnt.agg4 (CEnt.refl _) (CEnt.refl _) (CEnt.refl _) (CEnt.refl _)) | exact se rfl (CEnt.agg5 (CEnt.refl _) (CEnt.refl _) (CEnt.refl _) (CEnt.refl _) (CEnt.refl _)) | exact se rfl (CEnt.agg6 (CEnt.refl _) (CEnt.refl _) (CEnt.refl _) (CEnt.refl _) (CEnt.refl _) (CEnt.refl _)) | exact se_frzB _ rfl rfl rfl (by simp) (fun _ _ => CEnt.refl _)) (.cons (by first | exact se rfl (CEnt.refl _) | exact se rfl CEnt.nil | exact se rfl CEnt.nilB | exact se rfl (CEnt.osI rfl) | exact se rfl CEnt.opI | exact se_nilO rfl | exact se rfl (CEnt.agg2 (CEnt.refl _) (CEnt.refl _)) | exact se rfl (CEnt.agg3 (CEnt.refl _) (CEnt.refl _) (CEnt.refl _)) | exact se rfl (CEnt.agg4 (CEnt.refl _) (CEnt.refl _) (CEnt.refl _) (CEnt.refl _)) | exact se rfl (CEnt.agg5 (CEnt.refl _) (CEnt.refl _) (CEnt.refl _) (CEnt.refl _) (CEnt.refl _)) | exact se rfl (CEnt.agg6 (CEnt.refl _) (CEnt.refl _) (CEnt.refl _) (CEnt.refl _) (CEnt.refl _) (CEnt.refl _)) | exact se_frzB _ rfl rfl rfl (by simp) (fun _ _ => CEnt.refl _)) .nil)) rfl rfl ?_)
  first | refine q_rd (wanted_none rfl) rfl rfl (rd_move (v := .tup _ _) rfl rfl) ?_ | refine q_rd (wanted_none rfl) rfl rfl (rd_move (v := .c _) rfl rfl) ?_ | refine q_rd (wanted_none rfl) rfl rfl (rd_move (v := .pv _) rfl rfl) ?_ | refine q_rd (wanted_none rfl) rfl rfl (rd_move (v := .top) rfl rfl) ?_
  refine q_rd (wanted_none rfl) rfl rfl (rd_extract (v := .c _) rfl rfl rfl rfl) ?_
  refine q_rd (wanted_none rfl) rfl rfl (rd_extract (v := .c _) rfl rfl rfl rfl) ?_
  refine q_rd (wanted_none rfl) rfl rfl (rd_extract (v := .c _) rfl rfl rfl rfl) ?_
  refine q_rd (wanted_none rfl) rfl rfl (rd_assign (v := .c _) rfl rfl) ?_
  refine q_rd (wanted_none rfl) rfl rfl (rd_assign (v := .c _) rfl rfl) ?_
  refine q_rd (wanted_none rfl) rfl rfl (rd_assign (v := .c _) rfl rfl) ?_
  refine seq_nil ?_
  refine then_norm ?_
  refine code_seq ?_
  refine code_region ?_
  refine q_rd (wanted_none rfl) rfl rfl (rd_move (v := .c _) rfl rfl) ?_
  refine seq_nil ?_
  refine then_norm ?_
  first | refine code_condSD rfl rfl (fun h84 => ?_) (fun h84 => ?_) | refine code_condS rfl rfl (fun h84 => ?_) (fun h84 => ?_)
  · refine code_region ?_
    refine q_rd (wanted_none rfl) rfl rfl (rd_move (v := .c _) rfl rfl) ?_
    refine q_rd (wanted_none rfl) rfl rfl (rd_move (v := .c _) rfl rfl) ?_
    first | refine q_rd (wanted_none rfl) rfl rfl (rd_faddrO rfl rfl Tryd.underlying63 rfl sz9 rfl) ?_ | refine q_rd (wanted_none rfl) rfl rfl (rd_faddrR rfl rfl Tryd.underlying63 rfl sz9 rfl) ?_
    refine seq_md (wanted_none rfl) (m_store rfl rfl rfl rfl rfl sz9 rfl rfl (by first | decide | (first | omega | decide | (dsimp only at *; omega))) _ (fun _ _ => CEnt.refl _) rfl ?_)
    first | refine q_rd (wanted_none rfl) rfl rfl (rd_faddrO rfl rfl Tryd.underlying63 rfl sz9 rfl) ?_ | refine q_rd (wanted_none rfl) rfl rfl (rd_faddrR rfl rfl Tryd.underlying63 rfl sz9 rfl) ?_
    refine seq_md (wanted_none rfl) (m_store rfl rfl rfl rfl rfl sz9 rfl rfl (by first | decide | (first | omega | decide | (dsimp only at *; omega))) _ (fun _ _ => CEnt.refl _) rfl ?_)
    refine seq_nil ?_
    refine then_norm ?_
    refine code_seq ?_
    have hg : (guessT l).1 = idxW (cutM 58 l).1 ∧ (guessT l).2.1 = (if (cutM 47 (cutM 58 l).2.1).2.2 = true then (cutM 47 (cutM 58 l).2.1).1 else []) ∧ (guessT l).2.2 = (if (cutM 47 (cutM 58 l).2.1).2.2 = true then (cutM 47 (cutM 58 l).2.1).2.1 else (cutM 58 l).2.1) := by
      unfold guessT; split <;> exact ⟨rfl, rfl, rfl⟩
    refine code_region ?_
    first | refine q_rdO (wanted_none rfl) rfl rfl (rd_loadOA rfl rfl (.inl rfl) Tryd.underlying63 ag63 sz63 (by first | decide | (first | omega | decide | (dsimp only at *; omega)))) ?_ | refine q_rd (wanted_none rfl) rfl rfl (rd_loadRA rfl rfl Tryd.underlying63 ag63 sz63 (by first | decide | (first | omega | decide | (dsimp only at *; omega)))) ?_ | refine q_rdO (wanted_none rfl) rfl rfl (rd_loadOA rfl rfl (.inr rfl) Tryd.underlying63 ag63 sz63 (by first | decide | (first | omega | decide | (dsimp only at *; omega)))) ?_
    refine seq_ex (wanted_none rfl) (e_callP rfl (by kernel_rfl) (ntext_ac (guessT l)) (.cons (se rfl (CEnt.agg3 (CEnt.int (by rw [hg.1])) (CEnt.strL (by rw [hg.2.1]; first | rw [if_pos h84] | rw [if_neg (by simp [h84])])) (CEnt.strL (by rw [hg.2.2]; first | rw [if_pos h84] | rw [if_neg (by simp [h84])])))) .nil) rfl rfl ?_)
    first | refine q_rd (wanted_none rfl) rfl rfl (rd_move (v := .tup _ _) rfl rfl) ?_ | refine q_rd (wanted_none rfl) rfl rfl (rd_move (v := .c _) rfl rfl) ?_ | refine q_rd (wanted_none rfl) rfl rfl (rd_move (v := .pv _) rfl rfl) ?_ | refine q_rd (wanted_none rfl) rfl rfl (rd_move (v := .top) rfl rfl) ?_
    refine q_rd (wanted_none rfl) rfl rfl (rd_extract (v := .c _) rfl rfl rfl rfl) ?_
    first | refine q_rd (wanted_none rfl) rfl rfl (rd_extract (v := .err _) rfl rfl rfl rfl) ?_ | refine q_rd (wanted_none rfl) rfl rfl (rd_extract (v := .c _) rfl rfl rfl rfl) ?_ | refine q_rd (wanted_none rfl) rfl rfl (rd_extract (v := .pv _) rfl rfl rfl rfl) ?_ | refine q_rd (wanted_none rfl) rfl rfl (rd_extract (v := .top) rfl rfl rfl rfl) ?_
    refine q_rd (wanted_none rfl) rfl rfl (rd_assign (v := .c _) rfl rfl) ?_
    first | refine q_rd (wanted_none rfl) rfl rfl (rd_assign (v := .err _) rfl rfl) ?_ | refine q_rd (wanted_none rfl) rfl rfl (rd_assign (v := .c _) rfl rfl) ?_ | refine q_rd (wanted_none rfl) rfl rfl (rd_assign (v := .pv _) rfl rfl) ?_ | refine q_rd (wanted_none rfl) rfl rfl (rd_assign (v := .top) rfl rfl) ?_
    refine seq_nil ?_
    refine then_norm ?_
    refine code_seq ?_
    refine code_seq ?_
    refine code_region ?_
    first | refine q_rd (wanted_none rfl) rfl rfl (rd_move (v := .err _) rfl rfl) ?_ | refine q_rd (wanted_none rfl) rfl rfl (rd_move (v := .c _) rfl rfl) ?_ | refine q_rd (wanted_none rfl) rfl rfl (rd_move (v := .pv _) rfl rfl) ?_ | refine q_rd (wanted_none rfl) rfl rfl (rd_move (v := .top) rfl rfl) ?_
    first | refine q_rd (wanted_none rfl) rfl rfl (rd_neE rfl rfl) ?_ | refine q_rd (wanted_none rfl) rfl rfl (rd_neE0 rfl rfl) ?_
    refine q_rd (wanted_none rfl) rfl rfl (rd_move (v := .c _) rfl rfl) ?_
    first | refine seq_splitD (d := 43) rfl rfl (fun g88 => ?_) (fun g88 => ?_) | refine seq_split (d := 43) rfl rfl (fun g88 => ?_) (fun g88 => ?_)
    · refine q_skip (wanted_is rfl rfl rfl rfl false rfl) rfl rfl ?_
      refine q_skip (wanted_is rfl rfl rfl rfl false rfl) rfl rfl ?_
      refine q_skip (wanted_is rfl rfl rfl rfl false rfl) rfl rfl ?_
      refine q_rd (wanted_none rfl) rfl rfl (rd_pickT (v := .c _) rfl rfl rfl) ?_
      refine seq_nil ?_
      refine then_norm ?_
      refine code_condT rfl ?_
      refine code_seq ?_
      refine code_drawZ (.rd 0 (.rd 1 (.one 2 (.rd 3 .done)))) (by kernel_rfl) (by kernel_rfl) rfl (by kernel_rfl) (by kernel_rfl) ?_
      simp only [opsOfT, List.getElem?_toArray, List.getElem?_cons_zero, List.getElem?_cons_succ]
      refine zz_rd (wanted_none rfl) rfl rfl (rd_build (n := 3) rfl zr63 pl63 rfl rfl) ?_
      refine zz_rd (wanted_none rfl) rfl rfl (rd_loadE 8 rfl rfl Tryd.underlying25 ag25) ?_
      refine z_store (wanted_none rfl) rfl rfl rfl rfl rfl sz63 rfl rfl (by first | decide | (first | omega | decide | (dsimp only at *; omega))) _ (fun _ _ => CEnt.refl _) rfl ?_
      first | refine zz_rd (wanted_none rfl) rfl rfl (rd_assign (v := .err _) rfl rfl) ?_ | refine zz_rd (wanted_none rfl) rfl rfl (rd_assign (v := .c _) rfl rfl) ?_ | refine zz_rd (wanted_none rfl) rfl rfl (rd_assign (v := .pv _) rfl rfl) ?_ | refine zz_rd (wanted_none rfl) rfl rfl (rd_assign (v := .top) rfl rfl) ?_
      refine z_done ?_
      refine then_norm ?_
      refine code_ret ?_
      refine then_ret ?_
      refine end_val (.inl rfl) (res_2 rfl (arv_cellA rfl (.inl rfl) Tryd.underlying63 ag63 sz63 (by decide)) (arv_tmp rfl)) ?_
      have hp : parseT l = (zeroS, 9) := by
        unfold parseT
        refine if_neg fun hh => ?_
        first | (rw [hh.1] at g88; exact absurd rfl g88) | (rw [if_pos hh.1] at h88; exact h88 hh.2) | (simp_all; done)
      rw [hp]; exact CEnt.tup2 (CEnt.agg3 (CEnt.refl _) (CEnt.refl _) (CEnt.refl _)) (CEnt.refl _)
    · refine q_rd (wanted_is rfl rfl rfl rfl true rfl) rfl rfl (rd_move (v := .c _) rfl rfl) ?_
      refine q_rd (wanted_is rfl rfl rfl rfl true rfl) rfl rfl (rd_move (v := .c _) rfl rfl) ?_
      refine q_rd (wanted_is rfl rfl rfl rfl true rfl) rfl rfl (rd_neL rfl rfl rfl) ?_
      refine q_rd (wanted_none rfl) rfl rfl (rd_pickF (v := .c _) rfl rfl rfl) ?_
      refine seq_nil ?_
      refine then_norm ?_
      first | refine code_condSD rfl rfl (fun h88 => ?_) (fun h88 => ?_) | refine code_condS rfl rfl (fun h88 => ?_) (fun h88 => ?_)
      · refine code_seq ?_
        refine code_drawZ (.rd 0 (.rd 1 (.one 2 (.rd 3 .done)))) (by kernel_rfl) (by kernel_rfl) rfl (by kernel_rfl) (by kernel_rfl) ?_
        simp only [opsOfT, List.getElem?_toArray, List.getElem?_cons_zero, List.getElem?_cons_succ]
        refine zz_rd (wanted_none rfl) rfl rfl (rd_build (n := 3) rfl zr63 pl63 rfl rfl) ?_
        refine zz_rd (wanted_none rfl) rfl rfl (rd_loadE 8 rfl rfl Tryd.underlying25 ag25) ?_
        refine z_store (wanted_none rfl) rfl rfl rfl rfl rfl sz63 rfl rfl (by first | decide | (first | omega | decide | (dsimp only at *; omega))) _ (fun _ _ => CEnt.refl _) rfl ?_
        first | refine zz_rd (wanted_none rfl) rfl rfl (rd_assign (v := .err _) rfl rfl) ?_ | refine zz_rd (wanted_none rfl) rfl rfl (rd_assign (v := .c _) rfl rfl) ?_ | refine zz_rd (wanted_none rfl) rfl rfl (rd_assign (v := .pv _) rfl rfl) ?_ | refine zz_rd (wanted_none rfl) rfl rfl (rd_assign (v := .top) rfl rfl) ?_
        refine z_done ?_
        refine then_norm ?_
        refine code_ret ?_
        refine then_ret ?_
        refine end_val (.inl rfl) (res_2 rfl (arv_cellA rfl (.inl rfl) Tryd.underlying63 ag63 sz63 (by decide)) (arv_tmp rfl)) ?_
        have hp : parseT l = (zeroS, 9) := by
          unfold parseT
          refine if_neg fun hh => ?_
          first | (rw [hh.1] at g88; exact absurd rfl g88) | (rw [if_pos hh.1] at h88; exact h88 hh.2) | (simp_all; done)
        rw [hp]; exact CEnt.tup2 (CEnt.agg3 (CEnt.refl _) (CEnt.refl _) (CEnt.refl _)) (CEnt.refl _)
      · refine code_skip ?_
        refine then_norm ?_
        refine code_seq ?_
        refine code_region ?_
        first | refine q_rdO (wanted_none rfl) rfl rfl (rd_loadOA rfl rfl (.inl rfl) Tryd.underlying63 ag63 sz63 (by first | decide | (first | omega | decide | (dsimp only at *; omega)))) ?_ | refine q_rd (wanted_none rfl) rfl rfl (rd_loadRA rfl rfl Tryd.underlying63 ag63 sz63 (by first | decide | (first | omega | decide | (dsimp only at *; omega)))) ?_ | refine q_rdO (wanted_none rfl) rfl rfl (rd_loadOA rfl rfl (.inr rfl) Tryd.underlying63 ag63 sz63 (by first | decide | (first | omega | decide | (dsimp only at *; omega)))) ?_
        refine seq_md (wanted_none rfl) (m_store rfl rfl rfl rfl rfl sz63 rfl rfl (by first | decide | (first | omega | decide | (dsimp only at *; omega))) _ (fun _ _ => CEnt.refl _) rfl ?_)
        first | refine q_rd (wanted_none rfl) rfl rfl (rd_assign (v := .err _) rfl rfl) ?_ | refine q_rd (wanted_none rfl) rfl rfl (rd_assign (v := .c _) rfl rfl) ?_ | refine q_rd (wanted_none rfl) rfl rfl (rd_assign (v := .pv _) rfl rfl) ?_ | refine q_rd (wanted_none rfl) rfl rfl (rd_assign (v := .top) rfl rfl) ?_
        refine seq_nil ?_
        refine then_norm ?_
        refine code_ret ?_
        refine end_val (.inl rfl) (res_2 rfl (arv_cellA rfl (.inl rfl) Tryd.underlying63 ag63 sz63 (by decide)) (arv_tmp rfl)) ?_
        have hr : rightS (guessT l) = true := by
          cases hb : rightS (guessT l) with
          | true => rfl
          | false => first | (rw [hb] at g88; exact absurd rfl g88) | (simp_all; done)
        have ht : textS (guessT l) = l := by
          first | (rw [if_pos hr] at h88; exact Classical.byContradiction h88) | (simp_all; done)
        have hp : parseT l = (guessT l, 0) := by unfold parseT; rw [if_pos ⟨hr, ht⟩]
        rw [hp]
        exact CEnt.tup2 (CEnt.agg3 (CEnt.int (by rw [hg.1])) (CEnt.strL (by rw [hg.2.1]; first | rw [if_pos h84] | rw [if_neg (by simp [h84])])) (CEnt.strL (by rw [hg.2.2]; first | rw [if_pos h84] | rw [if_neg (by simp [h84])]))) CEnt.nil
  · refine code_skip ?_
    refine then_norm ?_
    refine code_seq ?_
    have hg : (guessT l).1 = idxW (cutM 58 l).1 ∧ (guessT l).2.1 = (if (cutM 47 (cutM 58 l).2.1).2.2 = true then (cutM 47 (cutM 58 l).2.1).1 else []) ∧ (guessT l).2.2 = (if (cutM 47 (cutM 58 l).2.1).2.2 = true then (cutM 47 (cutM 58 l).2.1).2.1 else (cutM 58 l).2.1) := by
      unfold guessT; split <;> exact ⟨rfl, rfl, rfl⟩
    refine code_region ?_
    first | refine q_rdO (wanted_none rfl) rfl rfl (rd_loadOA rfl rfl (.inl rfl) Tryd.underlying63 ag63 sz63 (by first | decide | (first | omega | decide | (dsimp only at *; omega)))) ?_ | refine q_rd (wanted_none rfl) rfl rfl (rd_loadRA rfl rfl Tryd.underlying63 ag63 sz63 (by first | decide | (first | omega | decide | (dsimp only at *; omega)))) ?_ | refine q_rdO (wanted_none rfl) rfl rfl (rd_loadOA rfl rfl (.inr rfl) Tryd.underlying63 ag63 sz63 (by first | decide | (first | omega | decide | (dsimp only at *; omega)))) ?_
    refine seq_ex (wanted_none rfl) (e_callP rfl (by kernel_rfl) (ntext_ac (guessT l)) (.cons (se rfl (CEnt.agg3 (CEnt.int (by rw [hg.1])) (CEnt.strL (by rw [hg.2.1]; first | rw [if_pos h84] | rw [if_neg (by simp [h84])])) (CEnt.strL (by rw [hg.2.2]; first | rw [if_pos h84] | rw [if_neg (by simp [h84])])))) .nil) rfl rfl ?_)
    first | refine q_rd (wanted_none rfl) rfl rfl (rd_move (v := .tup _ _) rfl rfl) ?_ | refine q_rd (wanted_none rfl) rfl rfl (rd_move (v := .c _) rfl rfl) ?_ | refine q_rd (wanted_none rfl) rfl rfl (rd_move (v := .pv _) rfl rfl) ?_ | refine q_rd (wanted_none rfl) rfl rfl (rd_move (v := .top) rfl rfl) ?_
    refine q_rd (wanted_none rfl) rfl rfl (rd_extract (v := .c _) rfl rfl rfl rfl) ?_
    first | refine q_rd (wanted_none rfl) rfl rfl (rd_extract (v := .err _) rfl rfl rfl rfl) ?_ | refine q_rd (wanted_none rfl) rfl rfl (rd_extract (v := .c _) rfl rfl rfl rfl) ?_ | refine q_rd (wanted_none rfl) rfl rfl (rd_extract (v := .pv _) rfl rfl rfl rfl) ?_ | refine q_rd (wanted_none rfl) rfl rfl (rd_extract (v := .top) rfl rfl rfl rfl) ?_
    refine q_rd (wanted_none rfl) rfl rfl (rd_assign (v := .c _) rfl rfl) ?_
    first | refine q_rd (wanted_none rfl) rfl rfl (rd_assign (v := .err _) rfl rfl) ?_ | refine q_rd (wanted_none rfl) rfl rfl (rd_assign (v := .c _) rfl rfl) ?_ | refine q_rd (wanted_none rfl) rfl rfl (rd_assign (v := .pv _) rfl rfl) ?_ | refine q_rd (wanted_none rfl) rfl rfl (rd_assign (v := .top) rfl rfl) ?_
    refine seq_nil ?_
    refine then_norm ?_
    refine code_seq ?_
    refine code_seq ?_
    refine code_region ?_
    first | refine q_rd (wanted_none rfl) rfl rfl (rd_move (v := .err _) rfl rfl) ?_ | refine q_rd (wanted_none rfl) rfl rfl (rd_move (v := .c _) rfl rfl) ?_ | refine q_rd (wanted_none rfl) rfl rfl (rd_move (v := .pv _) rfl rfl) ?_ | refine q_rd (wanted_none rfl) rfl rfl (rd_move (v := .top) rfl rfl) ?_
    first | refine q_rd (wanted_none rfl) rfl rfl (rd_neE rfl rfl) ?_ | refine q_rd (wanted_none rfl) rfl rfl (rd_neE0 rfl rfl) ?_
    refine q_rd (wanted_none rfl) rfl rfl (rd_move (v := .c _) rfl rfl) ?_
    first | refine seq_splitD (d := 43) rfl rfl (fun g88 => ?_) (fun g88 => ?_) | refine seq_split (d := 43) rfl rfl (fun g88 => ?_) (fun g88 => ?_)
    · refine q_skip (wanted_is rfl rfl rfl rfl false rfl) rfl rfl ?_
      refine q_skip (wanted_is rfl rfl rfl rfl false rfl) rfl rfl ?_
      refine q_skip (wanted_is rfl rfl rfl rfl false rfl) rfl rfl ?_
      refine q_rd (wanted_none rfl) rfl rfl (rd_pickT (v := .c _) rfl rfl rfl) ?_
      refine seq_nil ?_
      refine then_norm ?_
      refine code_condT rfl ?_
      refine code_seq ?_
      refine code_drawZ (.rd 0 (.rd 1 (.one 2 (.rd 3 .done)))) (by kernel_rfl) (by kernel_rfl) rfl (by kernel_rfl) (by kernel_rfl) ?_
      simp only [opsOfT, List.getElem?_toArray, List.getElem?_cons_zero, List.getElem?_cons_succ]
      refine zz_rd (wanted_none rfl) rfl rfl (rd_build (n := 3) rfl zr63 pl63 rfl rfl) ?_
      refine zz_rd (wanted_none rfl) rfl rfl (rd_loadE 8 rfl rfl Tryd.underlying25 ag25) ?_
      refine z_store (wanted_none rfl) rfl rfl rfl rfl rfl sz63 rfl rfl (by first | decide | (first | omega | decide | (dsimp only at *; omega))) _ (fun _ _ => CEnt.refl _) rfl ?_
      first | refine zz_rd (wanted_none rfl) rfl rfl (rd_assign (v := .err _) rfl rfl) ?_ | refine zz_rd (wanted_none rfl) rfl rfl (rd_assign (v := .c _) rfl rfl) ?_ | refine zz_rd (wanted_none rfl) rfl rfl (rd_assign (v := .pv _) rfl rfl) ?_ | refine zz_rd (wanted_none rfl) rfl rfl (rd_assign (v := .top) rfl rfl) ?_
      refine z_done ?_
      refine then_norm ?_
      refine code_ret ?_
      refine then_ret ?_
      refine end_val (.inl rfl) (res_2 rfl (arv_cellA rfl (.inl rfl) Tryd.underlying63 ag63 sz63 (by decide)) (arv_tmp rfl)) ?_
      have hp : parseT l = (zeroS, 9) := by
        unfold parseT
        refine if_neg fun hh => ?_
        first | (rw [hh.1] at g88; exact absurd rfl g88) | (rw [if_pos hh.1] at h88; exact h88 hh.2) | (simp_all; done)
      rw [hp]; exact CEnt.tup2 (CEnt.agg3 (CEnt.refl _) (CEnt.refl _) (CEnt.refl _)) (CEnt.refl _)
    · refine q_rd (wanted_is rfl rfl rfl rfl true rfl) rfl rfl (rd_move (v := .c _) rfl rfl) ?_
      refine q_rd (wanted_is rfl rfl rfl rfl true rfl) rfl rfl (rd_move (v := .c _) rfl rfl) ?_
      refine q_rd (wanted_is rfl rfl rfl rfl true rfl) rfl rfl (rd_neL rfl rfl rfl) ?_
      refine q_rd (wanted_none rfl) rfl rfl (rd_pickF (v := .c _) rfl rfl rfl) ?_
      refine seq_nil ?_
      refine then_norm ?_
      first | refine code_condSD rfl rfl (fun h88 => ?_) (fun h88 => ?_) | refine code_condS rfl rfl (fun h88 => ?_) (fun h88 => ?_)
      · refine code_seq ?_
        refine code_drawZ (.rd 0 (.rd 1 (.one 2 (.rd 3 .done)))) (by kernel_rfl) (by kernel_rfl) rfl (by kernel_rfl) (by kernel_rfl) ?_
        simp only [opsOfT, List.getElem?_toArray, List.getElem?_cons_zero, List.getElem?_cons_succ]
        refine zz_rd (wanted_none rfl) rfl rfl (rd_build (n := 3) rfl zr63 pl63 rfl rfl) ?_
        refine zz_rd (wanted_none rfl) rfl rfl (rd_loadE 8 rfl rfl Tryd.underlying25 ag25) ?_
        refine z_store (wanted_none rfl) rfl rfl rfl rfl rfl sz63 rfl rfl (by first | decide | (first | omega | decide | (dsimp only at *; omega))) _ (fun _ _ => CEnt.refl _) rfl ?_
        first | refine zz_rd (wanted_none rfl) rfl rfl (rd_assign (v := .err _) rfl rfl) ?_ | refine zz_rd (wanted_none rfl) rfl rfl (rd_assign (v := .c _) rfl rfl) ?_ | refine zz_rd (wanted_none rfl) rfl rfl (rd_assign (v := .pv _) rfl rfl) ?_ | refine zz_rd (wanted_none rfl) rfl rfl (rd_assign (v := .top) rfl rfl) ?_
        refine z_done ?_
        refine then_norm ?_
        refine code_ret ?_
        refine then_ret ?_
        refine end_val (.inl rfl) (res_2 rfl (arv_cellA rfl (.inl rfl) Tryd.underlying63 ag63 sz63 (by decide)) (arv_tmp rfl)) ?_
        have hp : parseT l = (zeroS, 9) := by
          unfold parseT
          refine if_neg fun hh => ?_
          first | (rw [hh.1] at g88; exact absurd rfl g88) | (rw [if_pos hh.1] at h88; exact h88 hh.2) | (simp_all; done)
        rw [hp]; exact CEnt.tup2 (CEnt.agg3 (CEnt.refl _) (CEnt.refl _) (CEnt.refl _)) (CEnt.refl _)
      · refine code_skip ?_
        refine then_norm ?_
        refine code_seq ?_
        refine code_region ?_
        first | refine q_rdO (wanted_none rfl) rfl rfl (rd_loadOA rfl rfl (.inl rfl) Tryd.underlying63 ag63 sz63 (by first | decide | (first | omega | decide | (dsimp only at *; omega)))) ?_ | refine q_rd (wanted_none rfl) rfl rfl (rd_loadRA rfl rfl Tryd.underlying63 ag63 sz63 (by first | decide | (first | omega | decide | (dsimp only at *; omega)))) ?_ | refine q_rdO (wanted_none rfl) rfl rfl (rd_loadOA rfl rfl (.inr rfl) Tryd.underlying63 ag63 sz63 (by first | decide | (first | omega | decide | (dsimp only at *; omega)))) ?_
        refine seq_md (wanted_none rfl) (m_store rfl rfl rfl rfl rfl sz63 rfl rfl (by first | decide | (first | omega | decide | (dsimp only at *; omega))) _ (fun _ _ => CEnt.refl _) rfl ?_)
        first | refine q_rd (wanted_none rfl) rfl rfl (rd_assign (v := .err _) rfl rfl) ?_ | refine q_rd (wanted_none rfl) rfl rfl (rd_assign (v := .c _) rfl rfl) ?_ | refine q_rd (wanted_none rfl) rfl rfl (rd_assign (v := .pv _) rfl rfl) ?_ | refine q_rd (wanted_none rfl) rfl rfl (rd_assign (v := .top) rfl rfl) ?_
        refine seq_nil ?_
        refine then_norm ?_
        refine code_ret ?_
        refine end_val (.inl rfl) (res_2 rfl (arv_cellA rfl (.inl rfl) Tryd.underlying63 ag63 sz63 (by decide)) (arv_tmp rfl)) ?_
        have hr : rightS (guessT l) = true := by
          cases hb : rightS (guessT l) with
          | true => rfl
          | false => first | (rw [hb] at g88; exact absurd rfl g88) | (simp_all; done)
        have ht : textS (guessT l) = l := by
          first | (rw [if_pos hr] at h88; exact Classical.byContradiction h88) | (simp_all; done)
        have hp : parseT l = (guessT l, 0) := by unfold parseT; rw [if_pos ⟨hr, ht⟩]
        rw [hp]
        exact CEnt.tup2 (CEnt.agg3 (CEnt.int (by rw [hg.1])) (CEnt.strL (by rw [hg.2.1]; first | rw [if_pos h84] | rw [if_neg (by simp [h84])])) (CEnt.strL (by rw [hg.2.2]; first | rw [if_pos h84] | rw [if_neg (by simp [h84])]))) CEnt.nil
/-! ### parts -/
def sF (s : S3) : Nat → CV := fl [.c (.int .i64 s.1), strC s.2.1, strC s.2.2]
theorem sF_k (s : S3) (x : Int) (j : Nat) (hj : j < 3) : CEnt (updF (sF s) 0 [.c (.int .i64 x)] j) (sF (x, s.2.1, s.2.2) j) := by
  rcases j with _ | _ | _ | j <;> first | exact CEnt.refl _ | omega
theorem sF_s (s : S3) (x : List UInt8) (j : Nat) (hj : j < 3) : CEnt (updF (sF s) 1 [strC x] j) (sF (s.1, x, s.2.2) j) := by
  rcases j with _ | _ | _ | j <;> first | exact CEnt.refl _ | omega
theorem sF_n (s : S3) (x : List UInt8) (j : Nat) (hj : j < 3) : CEnt (updF (sF s) 2 [strC x] j) (sF (s.1, s.2.1, x) j) := by
  rcases j with _ | _ | _ | j <;> first | exact CEnt.refl _ | omega
theorem guess_take {l : List P2} {i : Nat} (h : i < l.length) : guessP (l.take (i + 1)) = stepP (guessP (l.take i)) (l.getD i ([], [])) := by
  unfold guessP
  rw [List.take_succ_eq_append_getElem h, List.foldl_append, p2_getD h]
  rfl
theorem nof_ac (l : List P2) (hl : l.length ≤ 1000000) : ACp gs Tryd.prog 56 [partsC l] (.tup 2 (fl [subjC (ofP l).1, .err (ofP l).2])) := by
  refine ac_of 52 Tryd.func56 rfl rfl rfl (fun al w0 F0 St0 => ?_)
  refine code_seq ?_
  refine code_region ?_
  refine seq_ex (wanted_none rfl) (e_alloc (n := 3) rfl zr63 rfl rfl rfl (fun p1 => ?_))
  first | refine q_rd (wanted_none rfl) rfl rfl (rd_assign (v := .err _) rfl rfl) ?_ | refine q_rd (wanted_none rfl) rfl rfl (rd_assign (v := .c _) rfl rfl) ?_ | refine q_rd (wanted_none rfl) rfl rfl (rd_assign (v := .pv _) rfl rfl) ?_ | refine q_rd (wanted_none rfl) rfl rfl (rd_assign (v := .top) rfl rfl) ?_
  refine seq_nil ?_
  refine then_norm ?_
  refine code_seq ?_
  refine code_region ?_
  refine seq_ex (wanted_none rfl) (e_alloc (n := 3) rfl zr63 rfl rfl rfl (fun p2 => ?_))
  refine seq_nil ?_
  refine then_norm ?_
  refine code_seq ?_
  refine code_seq ?_
  refine code_region ?_
  first | refine q_rd (wanted_none rfl) rfl rfl (rd_move (v := .rs _ _ _) rfl rfl) ?_ | refine q_rd (wanted_none rfl) rfl rfl (rd_move (v := .os _ _ _ _ _) rfl rfl) ?_ | refine q_rd (wanted_none rfl) rfl rfl (rd_move (v := .c _) rfl rfl) ?_ | refine q_rd (wanted_none rfl) rfl rfl (rd_move (v := .pv _) rfl rfl) ?_ | refine q_rd (wanted_none rfl) rfl rfl (rd_move (v := .top) rfl rfl) ?_
  first | refine q_rd (wanted_none rfl) rfl rfl (rd_lenR rfl rfl Tryd.underlying82) ?_ | refine q_rd (wanted_none rfl) rfl rfl (rd_lenO rfl rfl Tryd.underlying82) ?_ | refine q_rd (wanted_none rfl) rfl rfl (rd_lenN rfl rfl Tryd.underlying82) ?_
  refine q_rd (wanted_none rfl) rfl rfl (rd_move (v := .c _) rfl rfl) ?_
  refine seq_nil ?_
  refine then_norm ?_
  refine code_block ?_
  refine l_loop (α := Nat) [6, 11, 12, 13, 14, 15, 16, 17, 18, 19, 20, 21, 22, 23, 24, 25, 26, 27, 28, 29, 30, 31, 32, 33, 34, 35] (fun i => [(11, .c (.int .i64 (i : Nat)))]) (fun i => [(p1, .blk 3 fun _ => .top), (p2, .blk 3 (sF (guessP (l.take i))))]) (fun i => i ≤ l.length) (fun i => l.length - i) (0) ?_ (fun _ => rfl) ?_ ?_ ?_
  · exact Nat.zero_le _
  · exact .cons (CEnt.refl _) .nil
  · exact .blk rfl (fun _ _ => CEnt.top _) (.blk rfl (fun j hj => by rcases j with _ | _ | _ | j <;> first | exact CEnt.refl _ | omega) .nil)
  · rintro i (hi : i ≤ l.length)
    refine code_seq ?_
    refine code_region ?_
    refine q_rd (wanted_none rfl) rfl rfl (rd_lt rfl rfl rfl) ?_
    refine seq_nil ?_
    refine then_norm ?_
    refine code_seq ?_
    first | refine code_condSD rfl rfl (fun h51 => ?_) (fun h51 => ?_) | refine code_condS rfl rfl (fun h51 => ?_) (fun h51 => ?_)
    · refine code_skip ?_
      refine then_norm ?_
      refine code_seq ?_
      refine code_block ?_
      refine code_seq ?_
      refine code_region ?_
      first | refine q_rd (wanted_none rfl) rfl rfl (rd_iaddrR rfl rfl rfl Tryd.underlying82 sz84 rfl (by (first | omega | decide | (dsimp only at *; omega))) (by decide)) ?_ | refine q_rd (wanted_none rfl) rfl rfl (rd_iaddrO1 rfl rfl rfl Tryd.underlying82 sz84 rfl (by (first | omega | decide | (dsimp only at *; omega)))) ?_ | refine q_rd (wanted_none rfl) rfl rfl (rd_iaddrO rfl rfl rfl Tryd.underlying82 sz84 rfl (by (first | omega | decide | (dsimp only at *; omega)))) ?_ | refine q_rd (wanted_none rfl) rfl rfl (rd_iaddrR rfl rfl rfl Tryd.underlying82 sz84 (natI (by omega)) (by (first | omega | decide | (dsimp only at *; omega))) (by decide)) ?_ | refine q_rd (wanted_none rfl) rfl rfl (rd_iaddrO1 rfl rfl rfl Tryd.underlying82 sz84 (natI (by omega)) (by (first | omega | decide | (dsimp only at *; omega)))) ?_ | refine q_rd (wanted_none rfl) rfl rfl (rd_iaddrO rfl rfl rfl Tryd.underlying82 sz84 (natI (by omega)) (by (first | omega | decide | (dsimp only at *; omega)))) ?_
      first | refine q_rdO (wanted_none rfl) rfl rfl (rd_loadOA rfl rfl (.inl rfl) Tryd.underlying84 ag84 sz84 (by first | decide | (first | omega | decide | (dsimp only at *; omega)))) ?_ | refine q_rd (wanted_none rfl) rfl rfl (rd_loadRA rfl rfl Tryd.underlying84 ag84 sz84 (by first | decide | (first | omega | decide | (dsimp only at *; omega)))) ?_ | refine q_rdO (wanted_none rfl) rfl rfl (rd_loadOA rfl rfl (.inr rfl) Tryd.underlying84 ag84 sz84 (by first | decide | (first | omega | decide | (dsimp only at *; omega)))) ?_
      refine seq_ex (wanted_none rfl) (e_alloc (n := 2) rfl zr84 rfl rfl rfl (fun p3 => ?_))
      refine seq_md (wanted_none rfl) (m_store rfl rfl rfl rfl rfl sz84 rfl rfl (by first | decide | (first | omega | decide | (dsimp only at *; omega))) _ (fun _ _ => CEnt.refl _) rfl ?_)
      refine seq_nil ?_
      refine then_norm ?_
      refine code_seq ?_
      refine code_region ?_
      first | refine q_rd (wanted_none rfl) rfl rfl (rd_faddrO rfl rfl Tryd.underlying84 rfl sz9 rfl) ?_ | refine q_rd (wanted_none rfl) rfl rfl (rd_faddrR rfl rfl Tryd.underlying84 rfl sz9 rfl) ?_
      first | refine q_rdO (wanted_none rfl) rfl rfl (rd_loadO (v := .c _) rfl rfl (.inl rfl) Tryd.underlying9 ag9 (by first | decide | (first | omega | decide | (dsimp only at *; omega))) rfl) ?_ | refine q_rd (wanted_none rfl) rfl rfl (rd_loadR (v := .c _) rfl rfl Tryd.underlying9 ag9 (by first | decide | (first | omega | decide | (dsimp only at *; omega))) rfl) ?_ | refine q_rdO (wanted_none rfl) rfl rfl (rd_loadO (v := .c _) rfl rfl (.inr rfl) Tryd.underlying9 ag9 (by first | decide | (first | omega | decide | (dsimp only at *; omega))) rfl) ?_
      refine seq_nil ?_
      refine then_norm ?_
      refine code_block ?_
      refine code_seq ?_
      refine code_region ?_
      refine q_rd (wanted_none rfl) rfl rfl (rd_eqL rfl rfl rfl) ?_
      refine q_rd (wanted_none rfl) rfl rfl (rd_assign (v := .c _) rfl rfl) ?_
      refine seq_nil ?_
      refine then_norm ?_
      first | refine code_condSD rfl rfl (fun h53 => ?_) (fun h53 => ?_) | refine code_condS rfl rfl (fun h53 => ?_) (fun h53 => ?_)
      · refine code_drawB 6 (.rd 1 (.rd 2 (.one 0 (.one 3 (.rd 4 (.rd 5 .done)))))) (by kernel_rfl) (by kernel_rfl) rfl rfl (by kernel_rfl) (by kernel_rfl) (by kernel_rfl) (by kernel_rfl) ?_
        simp only [opsOfT, List.getElem?_toArray, List.getElem?_cons_zero, List.getElem?_cons_succ]
        first | refine y_rd (wanted_none rfl) rfl rfl (rd_faddrO rfl rfl Tryd.underlying84 rfl sz9 rfl) ?_ | refine y_rd (wanted_none rfl) rfl rfl (rd_faddrR rfl rfl Tryd.underlying84 rfl sz9 rfl) ?_
        first | refine y_rdO (wanted_none rfl) rfl rfl (rd_loadO (v := .c _) rfl rfl (.inl rfl) Tryd.underlying9 ag9 (by first | decide | (first | omega | decide | (dsimp only at *; omega))) rfl) ?_ | refine y_rd (wanted_none rfl) rfl rfl (rd_loadR (v := .c _) rfl rfl Tryd.underlying9 ag9 (by first | decide | (first | omega | decide | (dsimp only at *; omega))) rfl) ?_ | refine y_rdO (wanted_none rfl) rfl rfl (rd_loadO (v := .c _) rfl rfl (.inr rfl) Tryd.underlying9 ag9 (by first | decide | (first | omega | decide | (dsimp only at *; omega))) rfl) ?_
        refine x_one (wanted_none rfl) (e_callP rfl (by kernel_rfl) (words_ac) .nil rfl rfl ?_)
        refine x_one (wanted_none rfl) (e_callP rfl (by kernel_rfl) (indexS_ac wordL (l.getD i ([], [])).2) (.cons (by first | exact se rfl (CEnt.refl _) | exact se rfl CEnt.nil | exact se rfl CEnt.nilB | exact se rfl (CEnt.osI rfl) | exact se rfl CEnt.opI | exact se_nilO rfl | exact se rfl (CEnt.agg2 (CEnt.refl _) (CEnt.refl _)) | exact se rfl (CEnt.agg3 (CEnt.refl _) (CEnt.refl _) (CEnt.refl _)) | exact se rfl (CEnt.agg4 (CEnt.refl _) (CEnt.refl _) (CEnt.refl _) (CEnt.refl _)) | exact se rfl (CEnt.agg5 (CEnt.refl _) (CEnt.refl _) (CEnt.refl _) (CEnt.refl _) (CEnt.refl _)) | exact se rfl (CEnt.agg6 (CEnt.refl _) (CEnt.refl _) (CEnt.refl _) (CEnt.refl _) (CEnt.refl _) (CEnt.refl _)) | exact se_frzB _ rfl rfl rfl (by simp) (fun _ _ => CEnt.refl _)) (.cons (by first | exact se rfl (CEnt.refl _) | exact se rfl CEnt.nil | exact se rfl CEnt.nilB | exact se rfl (CEnt.osI rfl) | exact se rfl CEnt.opI | exact se_nilO rfl | exact se rfl (CEnt.agg2 (CEnt.refl _) (CEnt.refl _)) | exact se rfl (CEnt.agg3 (CEnt.refl _) (CEnt.refl _) (CEnt.refl _)) | exact se rfl (CEnt.agg4 (CEnt.refl _) (CEnt.refl _) (CEnt.refl _) (CEnt.refl _)) | exact se rfl (CEnt.agg5 (CEnt.refl _) (CEnt.refl _) (CEnt.refl _) (CEnt.refl _) (CEnt.refl _)) | exact se rfl (CEnt.agg6 (CEnt.refl _) (CEnt.refl _) (CEnt.refl _) (CEnt.refl _) (CEnt.refl _) (CEnt.refl _)) | exact se_frzB _ rfl rfl rfl (by simp) (fun _ _ => CEnt.refl _)) .nil)) rfl rfl ?_)
        refine y_rd (wanted_none rfl) rfl rfl (rd_addW rfl rfl rfl ((idxW (l.getD i ([], [])).2)) ((by rw [idx_wordL]; exact wrap_id (k := .i64) (by show _ ∧ _; have := idxW_bd (l.getD i ([], [])).2; omega)))) ?_
        first | refine y_rd (wanted_none rfl) rfl rfl (rd_faddrO rfl rfl Tryd.underlying63 rfl sz3 rfl) ?_ | refine y_rd (wanted_none rfl) rfl rfl (rd_faddrR rfl rfl Tryd.underlying63 rfl sz3 rfl) ?_
        refine x_done ?_
        show ASeq _ _ _ _ _ _
        refine seq_md (wanted_none rfl) (m_store rfl rfl rfl rfl rfl sz3 rfl rfl (by first | decide | (first | omega | decide | (dsimp only at *; omega))) _ (fun _ _ => CEnt.refl _) rfl ?_)
        refine seq_nil ?_
        refine block_norm ?_
        refine block_norm ?_
        refine then_norm ?_
        refine code_region ?_
        refine q_rd (wanted_none rfl) rfl rfl (rd_add rfl rfl rfl (wrap_id (k := .i64) (by show _ ∧ _; (first | omega | decide | (dsimp only at *; omega))))) ?_
        refine q_rd (wanted_none rfl) rfl rfl (rd_move (v := .c _) rfl rfl) ?_
        refine seq_nil ?_
        refine then_norm ?_
        refine ⟨i + 1, ?_, ?_, by first | exact .refl | exact .nest .refl rfl rfl | exact .nest (.nest .refl rfl rfl) rfl rfl | exact .nest (.nest (.nest .refl rfl rfl) rfl rfl) rfl rfl, rfl, ?_, by exact Nat.le_of_ble_eq_true rfl, ?_⟩
        · show i + 1 ≤ l.length; omega
        · show l.length - (i + 1) < l.length - i; omega
        · exact .cons (CEnt.int (by omega)) .nil
        · have ht := guess_take (l := l) (i := i) (by omega)
          unfold stepP at ht
          rw [show oidK = [49, 46, 51, 46, 57, 57, 57, 57, 46, 49, 46, 49] from rfl, show oidS = [49, 46, 51, 46, 57, 57, 57, 57, 46, 49, 46, 50] from rfl, show oidN = [49, 46, 51, 46, 57, 57, 57, 57, 46, 49, 46, 51] from rfl] at ht
          first
          | (rw [if_pos h53] at ht; rw [ht]; refine .same (.blk rfl (fun j hj => ?_) .nil); have := sF_k (guessP (l.take i)) (idxW (l.getD i ([], [])).2) j hj; exact this)
          | (rw [if_neg h53, if_pos h55] at ht; rw [ht]; exact .same (.blk rfl (fun j hj => sF_s _ _ j hj) .nil))
          | (rw [if_neg h53, if_neg h55, if_pos h57] at ht; rw [ht]; exact .same (.blk rfl (fun j hj => sF_n _ _ j hj) .nil))
          | (rw [if_neg h53, if_neg h55, if_neg h57] at ht; rw [ht]; exact .same (.same .nil))
      · refine code_seq ?_
        refine code_region ?_
        refine q_rd (wanted_none rfl) rfl rfl (rd_eqL rfl rfl rfl) ?_
        refine q_rd (wanted_none rfl) rfl rfl (rd_assign (v := .c _) rfl rfl) ?_
        refine seq_nil ?_
        refine then_norm ?_
        first | refine code_condSD rfl rfl (fun h55 => ?_) (fun h55 => ?_) | refine code_condS rfl rfl (fun h55 => ?_) (fun h55 => ?_)
        · refine code_region ?_
          first | refine q_rd (wanted_none rfl) rfl rfl (rd_faddrO rfl rfl Tryd.underlying84 rfl sz9 rfl) ?_ | refine q_rd (wanted_none rfl) rfl rfl (rd_faddrR rfl rfl Tryd.underlying84 rfl sz9 rfl) ?_
          first | refine q_rdO (wanted_none rfl) rfl rfl (rd_loadO (v := .c _) rfl rfl (.inl rfl) Tryd.underlying9 ag9 (by first | decide | (first | omega | decide | (dsimp only at *; omega))) rfl) ?_ | refine q_rd (wanted_none rfl) rfl rfl (rd_loadR (v := .c _) rfl rfl Tryd.underlying9 ag9 (by first | decide | (first | omega | decide | (dsimp only at *; omega))) rfl) ?_ | refine q_rdO (wanted_none rfl) rfl rfl (rd_loadO (v := .c _) rfl rfl (.inr rfl) Tryd.underlying9 ag9 (by first | decide | (first | omega | decide | (dsimp only at *; omega))) rfl) ?_
          first | refine q_rd (wanted_none rfl) rfl rfl (rd_faddrO rfl rfl Tryd.underlying63 rfl sz9 rfl) ?_ | refine q_rd (wanted_none rfl) rfl rfl (rd_faddrR rfl rfl Tryd.underlying63 rfl sz9 rfl) ?_
          refine seq_md (wanted_none rfl) (m_store rfl rfl rfl rfl rfl sz9 rfl rfl (by first | decide | (first | omega | decide | (dsimp only at *; omega))) _ (fun _ _ => CEnt.refl _) rfl ?_)
          refine seq_nil ?_
          refine block_norm ?_
          refine block_norm ?_
          refine then_norm ?_
          refine code_region ?_
          refine q_rd (wanted_none rfl) rfl rfl (rd_add rfl rfl rfl (wrap_id (k := .i64) (by show _ ∧ _; (first | omega | decide | (dsimp only at *; omega))))) ?_
          refine q_rd (wanted_none rfl) rfl rfl (rd_move (v := .c _) rfl rfl) ?_
          refine seq_nil ?_
          refine then_norm ?_
          refine ⟨i + 1, ?_, ?_, by first | exact .refl | exact .nest .refl rfl rfl | exact .nest (.nest .refl rfl rfl) rfl rfl | exact .nest (.nest (.nest .refl rfl rfl) rfl rfl) rfl rfl, rfl, ?_, by exact Nat.le_of_ble_eq_true rfl, ?_⟩
          · show i + 1 ≤ l.length; omega
          · show l.length - (i + 1) < l.length - i; omega
          · exact .cons (CEnt.int (by omega)) .nil
          · have ht := guess_take (l := l) (i := i) (by omega)
            unfold stepP at ht
            rw [show oidK = [49, 46, 51, 46, 57, 57, 57, 57, 46, 49, 46, 49] from rfl, show oidS = [49, 46, 51, 46, 57, 57, 57, 57, 46, 49, 46, 50] from rfl, show oidN = [49, 46, 51, 46, 57, 57, 57, 57, 46, 49, 46, 51] from rfl] at ht
            first
            | (rw [if_pos h53] at ht; rw [ht]; refine .same (.blk rfl (fun j hj => ?_) .nil); have := sF_k (guessP (l.take i)) (idxW (l.getD i ([], [])).2) j hj; exact this)
            | (rw [if_neg h53, if_pos h55] at ht; rw [ht]; exact .same (.blk rfl (fun j hj => sF_s _ _ j hj) .nil))
            | (rw [if_neg h53, if_neg h55, if_pos h57] at ht; rw [ht]; exact .same (.blk rfl (fun j hj => sF_n _ _ j hj) .nil))
            | (rw [if_neg h53, if_neg h55, if_neg h57] at ht; rw [ht]; exact .same (.same .nil))
        · refine code_seq ?_
          refine code_region ?_
          refine q_rd (wanted_none rfl) rfl rfl (rd_eqL rfl rfl rfl) ?_
          refine q_rd (wanted_none rfl) rfl rfl (rd_assign (v := .c _) rfl rfl) ?_
          refine seq_nil ?_
          refine then_norm ?_
          first | refine code_condSD rfl rfl (fun h57 => ?_) (fun h57 => ?_) | refine code_condS rfl rfl (fun h57 => ?_) (fun h57 => ?_)
          · refine code_region ?_
            first | refine q_rd (wanted_none rfl) rfl rfl (rd_faddrO rfl rfl Tryd.underlying84 rfl sz9 rfl) ?_ | refine q_rd (wanted_none rfl) rfl rfl (rd_faddrR rfl rfl Tryd.underlying84 rfl sz9 rfl) ?_
            first | refine q_rdO (wanted_none rfl) rfl rfl (rd_loadO (v := .c _) rfl rfl (.inl rfl) Tryd.underlying9 ag9 (by first | decide | (first | omega | decide | (dsimp only at *; omega))) rfl) ?_ | refine q_rd (wanted_none rfl) rfl rfl (rd_loadR (v := .c _) rfl rfl Tryd.underlying9 ag9 (by first | decide | (first | omega | decide | (dsimp only at *; omega))) rfl) ?_ | refine q_rdO (wanted_none rfl) rfl rfl (rd_loadO (v := .c _) rfl rfl (.inr rfl) Tryd.underlying9 ag9 (by first | decide | (first | omega | decide | (dsimp only at *; omega))) rfl) ?_
            first | refine q_rd (wanted_none rfl) rfl rfl (rd_faddrO rfl rfl Tryd.underlying63 rfl sz9 rfl) ?_ | refine q_rd (wanted_none rfl) rfl rfl (rd_faddrR rfl rfl Tryd.underlying63 rfl sz9 rfl) ?_
            refine seq_md (wanted_none rfl) (m_store rfl rfl rfl rfl rfl sz9 rfl rfl (by first | decide | (first | omega | decide | (dsimp only at *; omega))) _ (fun _ _ => CEnt.refl _) rfl ?_)
            refine seq_nil ?_
            refine block_norm ?_
            refine block_norm ?_
            refine then_norm ?_
            refine code_region ?_
            refine q_rd (wanted_none rfl) rfl rfl (rd_add rfl rfl rfl (wrap_id (k := .i64) (by show _ ∧ _; (first | omega | decide | (dsimp only at *; omega))))) ?_
            refine q_rd (wanted_none rfl) rfl rfl (rd_move (v := .c _) rfl rfl) ?_
            refine seq_nil ?_
            refine then_norm ?_
            refine ⟨i + 1, ?_, ?_, by first | exact .refl | exact .nest .refl rfl rfl | exact .nest (.nest .refl rfl rfl) rfl rfl | exact .nest (.nest (.nest .refl rfl rfl) rfl rfl) rfl rfl, rfl, ?_, by exact Nat.le_of_ble_eq_true rfl, ?_⟩
            · show i + 1 ≤ l.length; omega
            · show l.length - (i + 1) < l.length - i; omega
            · exact .cons (CEnt.int (by omega)) .nil
            · have ht := guess_take (l := l) (i := i) (by omega)
              unfold stepP at ht
              rw [show oidK = [49, 46, 51, 46, 57, 57, 57, 57, 46, 49, 46, 49] from rfl, show oidS = [49, 46, 51, 46, 57, 57, 57, 57, 46, 49, 46, 50] from rfl, show oidN = [49, 46, 51, 46, 57, 57, 57, 57, 46, 49, 46, 51] from rfl] at ht
              first
              | (rw [if_pos h53] at ht; rw [ht]; refine .same (.blk rfl (fun j hj => ?_) .nil); have := sF_k (guessP (l.take i)) (idxW (l.getD i ([], [])).2) j hj; exact this)
              | (rw [if_neg h53, if_pos h55] at ht; rw [ht]; exact .same (.blk rfl (fun j hj => sF_s _ _ j hj) .nil))
              | (rw [if_neg h53, if_neg h55, if_pos h57] at ht; rw [ht]; exact .same (.blk rfl (fun j hj => sF_n _ _ j hj) .nil))
              | (rw [if_neg h53, if_neg h55, if_neg h57] at ht; rw [ht]; exact .same (.same .nil))
          · refine code_skip ?_
            refine block_norm ?_
            refine block_norm ?_
            refine then_norm ?_
            refine code_region ?_
            refine q_rd (wanted_none rfl) rfl rfl (rd_add rfl rfl rfl (wrap_id (k := .i64) (by show _ ∧ _; (first | omega | decide | (dsimp only at *; omega))))) ?_
            refine q_rd (wanted_none rfl) rfl rfl (rd_move (v := .c _) rfl rfl) ?_
            refine seq_nil ?_
            refine then_norm ?_
            refine ⟨i + 1, ?_, ?_, by first | exact .refl | exact .nest .refl rfl rfl | exact .nest (.nest .refl rfl rfl) rfl rfl | exact .nest (.nest (.nest .refl rfl rfl) rfl rfl) rfl rfl, rfl, ?_, by exact Nat.le_of_ble_eq_true rfl, ?_⟩
            · show i + 1 ≤ l.length; omega
            · show l.length - (i + 1) < l.length - i; omega
            · exact .cons (CEnt.int (by omega)) .nil
            · have ht := guess_take (l := l) (i := i) (by omega)
              unfold stepP at ht
              rw [show oidK = [49, 46, 51, 46, 57, 57, 57, 57, 46, 49, 46, 49] from rfl, show oidS = [49, 46, 51, 46, 57, 57, 57, 57, 46, 49, 46, 50] from rfl, show oidN = [49, 46, 51, 46, 57, 57, 57, 57, 46, 49, 46, 51] from rfl] at ht
              first
              | (rw [if_pos h53] at ht; rw [ht]; refine .same (.blk rfl (fun j hj => ?_) .nil); have := sF_k (guessP (l.take i)) (idxW (l.getD i ([], [])).2) j hj; exact this)
              | (rw [if_neg h53, if_pos h55] at ht; rw [ht]; exact .same (.blk rfl (fun j hj => sF_s _ _ j hj) .nil))
              | (rw [if_neg h53, if_neg h55, if_pos h57] at ht; rw [ht]; exact .same (.blk rfl (fun j hj => sF_n _ _ j hj) .nil))
              | (rw [if_neg h53, if_neg h55, if_neg h57] at ht; rw [ht]; exact .same (.same .nil))
    · refine code_exit ?_
      refine then_exit ?_
      refine then_exit ?_
      refine block_exit rfl ?_
      refine then_norm ?_
      refine code_seq ?_
      have ei : l.take i = l := List.take_of_length_le (by omega)
      rw [ei]
      refine code_region ?_
      first | refine q_rdO (wanted_none rfl) rfl rfl (rd_loadOA rfl rfl (.inl rfl) Tryd.underlying63 ag63 sz63 (by first | decide | (first | omega | decide | (dsimp only at *; omega)))) ?_ | refine q_rd (wanted_none rfl) rfl rfl (rd_loadRA rfl rfl Tryd.underlying63 ag63 sz63 (by first | decide | (first | omega | decide | (dsimp only at *; omega)))) ?_ | refine q_rdO (wanted_none rfl) rfl rfl (rd_loadOA rfl rfl (.inr rfl) Tryd.underlying63 ag63 sz63 (by first | decide | (first | omega | decide | (dsimp only at *; omega)))) ?_
      refine seq_ex (wanted_none rfl) (e_callP rfl (by kernel_rfl) (nparts_ac (guessP l)) (.cons (by first | exact se rfl (CEnt.refl _) | exact se rfl CEnt.nil | exact se rfl CEnt.nilB | exact se rfl (CEnt.osI rfl) | exact se rfl CEnt.opI | exact se_nilO rfl | exact se rfl (CEnt.agg2 (CEnt.refl _) (CEnt.refl _)) | exact se rfl (CEnt.agg3 (CEnt.refl _) (CEnt.refl _) (CEnt.refl _)) | exact se rfl (CEnt.agg4 (CEnt.refl _) (CEnt.refl _) (CEnt.refl _) (CEnt.refl _)) | exact se rfl (CEnt.agg5 (CEnt.refl _) (CEnt.refl _) (CEnt.refl _) (CEnt.refl _) (CEnt.refl _)) | exact se rfl (CEnt.agg6 (CEnt.refl _) (CEnt.refl _) (CEnt.refl _) (CEnt.refl _) (CEnt.refl _) (CEnt.refl _)) | exact se_frzB _ rfl rfl rfl (by simp) (fun _ _ => CEnt.refl _)) .nil) rfl rfl ?_)
      first | refine q_rd (wanted_none rfl) rfl rfl (rd_move (v := .tup _ _) rfl rfl) ?_ | refine q_rd (wanted_none rfl) rfl rfl (rd_move (v := .c _) rfl rfl) ?_ | refine q_rd (wanted_none rfl) rfl rfl (rd_move (v := .pv _) rfl rfl) ?_ | refine q_rd (wanted_none rfl) rfl rfl (rd_move (v := .top) rfl rfl) ?_
      first | refine q_rd (wanted_none rfl) rfl rfl (rd_extract (v := .rs _ _ _) rfl rfl rfl rfl) ?_ | refine q_rd (wanted_none rfl) rfl rfl (rd_extract (v := .os _ _ _ _ _) rfl rfl rfl rfl) ?_ | refine q_rd (wanted_none rfl) rfl rfl (rd_extract (v := .c _) rfl rfl rfl rfl) ?_ | refine q_rd (wanted_none rfl) rfl rfl (rd_extract (v := .pv _) rfl rfl rfl rfl) ?_ | refine q_rd (wanted_none rfl) rfl rfl (rd_extract (v := .top) rfl rfl rfl rfl) ?_
      first | refine q_rd (wanted_none rfl) rfl rfl (rd_extract (v := .err _) rfl rfl rfl rfl) ?_ | refine q_rd (wanted_none rfl) rfl rfl (rd_extract (v := .c _) rfl rfl rfl rfl) ?_ | refine q_rd (wanted_none rfl) rfl rfl (rd_extract (v := .pv _) rfl rfl rfl rfl) ?_ | refine q_rd (wanted_none rfl) rfl rfl (rd_extract (v := .top) rfl rfl rfl rfl) ?_
      first | refine q_rd (wanted_none rfl) rfl rfl (rd_assign (v := .rs _ _ _) rfl rfl) ?_ | refine q_rd (wanted_none rfl) rfl rfl (rd_assign (v := .os _ _ _ _ _) rfl rfl) ?_ | refine q_rd (wanted_none rfl) rfl rfl (rd_assign (v := .c _) rfl rfl) ?_ | refine q_rd (wanted_none rfl) rfl rfl (rd_assign (v := .pv _) rfl rfl) ?_ | refine q_rd (wanted_none rfl) rfl rfl (rd_assign (v := .top) rfl rfl) ?_
      first | refine q_rd (wanted_none rfl) rfl rfl (rd_assign (v := .err _) rfl rfl) ?_ | refine q_rd (wanted_none rfl) rfl rfl (rd_assign (v := .c _) rfl rfl) ?_ | refine q_rd (wanted_none rfl) rfl rfl (rd_assign (v := .pv _) rfl rfl) ?_ | refine q_rd (wanted_none rfl) rfl rfl (rd_assign (v := .top) rfl rfl) ?_
      refine seq_nil ?_
      refine then_norm ?_
      refine code_seq ?_
      refine code_seq ?_
      refine code_region ?_
      first | refine q_rd (wanted_none rfl) rfl rfl (rd_move (v := .err _) rfl rfl) ?_ | refine q_rd (wanted_none rfl) rfl rfl (rd_move (v := .c _) rfl rfl) ?_ | refine q_rd (wanted_none rfl) rfl rfl (rd_move (v := .pv _) rfl rfl) ?_ | refine q_rd (wanted_none rfl) rfl rfl (rd_move (v := .top) rfl rfl) ?_
      first | refine q_rd (wanted_none rfl) rfl rfl (rd_neE rfl rfl) ?_ | refine q_rd (wanted_none rfl) rfl rfl (rd_neE0 rfl rfl) ?_
      refine q_rd (wanted_none rfl) rfl rfl (rd_move (v := .c _) rfl rfl) ?_
      first | refine seq_splitD (d := 43) rfl rfl (fun g62 => ?_) (fun g62 => ?_) | refine seq_split (d := 43) rfl rfl (fun g62 => ?_) (fun g62 => ?_)
      · refine q_skip (wanted_is rfl rfl rfl rfl false rfl) rfl rfl ?_
        refine q_skip (wanted_is rfl rfl rfl rfl false rfl) rfl rfl ?_
        refine q_skip (wanted_is rfl rfl rfl rfl false rfl) rfl rfl ?_
        refine q_skip (wanted_is rfl rfl rfl rfl false rfl) rfl rfl ?_
        refine q_rd (wanted_none rfl) rfl rfl (rd_pickT (v := .c _) rfl rfl rfl) ?_
        refine seq_nil ?_
        refine then_norm ?_
        refine code_condT rfl ?_
        refine code_seq ?_
        refine code_drawZ (.rd 0 (.rd 1 (.one 2 (.rd 3 .done)))) (by kernel_rfl) (by kernel_rfl) rfl (by kernel_rfl) (by kernel_rfl) ?_
        simp only [opsOfT, List.getElem?_toArray, List.getElem?_cons_zero, List.getElem?_cons_succ]
        refine zz_rd (wanted_none rfl) rfl rfl (rd_build (n := 3) rfl zr63 pl63 rfl rfl) ?_
        refine zz_rd (wanted_none rfl) rfl rfl (rd_loadE 8 rfl rfl Tryd.underlying25 ag25) ?_
        refine z_store (wanted_none rfl) rfl rfl rfl rfl rfl sz63 rfl rfl (by first | decide | (first | omega | decide | (dsimp only at *; omega))) _ (fun _ _ => CEnt.refl _) rfl ?_
        first | refine zz_rd (wanted_none rfl) rfl rfl (rd_assign (v := .err _) rfl rfl) ?_ | refine zz_rd (wanted_none rfl) rfl rfl (rd_assign (v := .c _) rfl rfl) ?_ | refine zz_rd (wanted_none rfl) rfl rfl (rd_assign (v := .pv _) rfl rfl) ?_ | refine zz_rd (wanted_none rfl) rfl rfl (rd_assign (v := .top) rfl rfl) ?_
        refine z_done ?_
        refine then_norm ?_
        refine code_ret ?_
        refine then_ret ?_
        refine end_val (.inl rfl) (res_2 rfl (arv_cellA rfl (.inl rfl) Tryd.underlying63 ag63 sz63 (by decide)) (arv_tmp rfl)) ?_
        have hp : ofP l = (zeroS, 9) := by
          unfold ofP
          refine if_neg fun hh => ?_
          simp_all
        rw [hp]; exact CEnt.tup2 (CEnt.agg3 (CEnt.refl _) (CEnt.refl _) (CEnt.refl _)) (CEnt.refl _)
      · first | refine q_rd (wanted_is rfl rfl rfl rfl true rfl) rfl rfl (rd_move (v := .rs _ _ _) rfl rfl) ?_ | refine q_rd (wanted_is rfl rfl rfl rfl true rfl) rfl rfl (rd_move (v := .os _ _ _ _ _) rfl rfl) ?_ | refine q_rd (wanted_is rfl rfl rfl rfl true rfl) rfl rfl (rd_move (v := .c _) rfl rfl) ?_ | refine q_rd (wanted_is rfl rfl rfl rfl true rfl) rfl rfl (rd_move (v := .pv _) rfl rfl) ?_ | refine q_rd (wanted_is rfl rfl rfl rfl true rfl) rfl rfl (rd_move (v := .top) rfl rfl) ?_
        first | refine q_rd (wanted_is rfl rfl rfl rfl true rfl) rfl rfl (rd_move (v := .rs _ _ _) rfl rfl) ?_ | refine q_rd (wanted_is rfl rfl rfl rfl true rfl) rfl rfl (rd_move (v := .os _ _ _ _ _) rfl rfl) ?_ | refine q_rd (wanted_is rfl rfl rfl rfl true rfl) rfl rfl (rd_move (v := .c _) rfl rfl) ?_ | refine q_rd (wanted_is rfl rfl rfl rfl true rfl) rfl rfl (rd_move (v := .pv _) rfl rfl) ?_ | refine q_rd (wanted_is rfl rfl rfl rfl true rfl) rfl rfl (rd_move (v := .top) rfl rfl) ?_
        refine seq_ex (wanted_is rfl rfl rfl rfl true rfl) (e_callP rfl (by kernel_rfl) (equalP_ac (if rightS (guessP l) = true then partsS (guessP l) else []) l) (.cons (by first | exact se rfl (CEnt.refl _) | exact se rfl CEnt.nil | exact se rfl CEnt.nilB | exact se rfl (CEnt.osI rfl) | exact se rfl CEnt.opI | exact se_nilO rfl | exact se rfl (CEnt.agg2 (CEnt.refl _) (CEnt.refl _)) | exact se rfl (CEnt.agg3 (CEnt.refl _) (CEnt.refl _) (CEnt.refl _)) | exact se rfl (CEnt.agg4 (CEnt.refl _) (CEnt.refl _) (CEnt.refl _) (CEnt.refl _)) | exact se rfl (CEnt.agg5 (CEnt.refl _) (CEnt.refl _) (CEnt.refl _) (CEnt.refl _) (CEnt.refl _)) | exact se rfl (CEnt.agg6 (CEnt.refl _) (CEnt.refl _) (CEnt.refl _) (CEnt.refl _) (CEnt.refl _) (CEnt.refl _)) | exact se_frzB _ rfl rfl rfl (by simp) (fun _ _ => CEnt.refl _)) (.cons (by first | exact se rfl (CEnt.refl _) | exact se rfl CEnt.nil | exact se rfl CEnt.nilB | exact se rfl (CEnt.osI rfl) | exact se rfl CEnt.opI | exact se_nilO rfl | exact se rfl (CEnt.agg2 (CEnt.refl _) (CEnt.refl _)) | exact se rfl (CEnt.agg3 (CEnt.refl _) (CEnt.refl _) (CEnt.refl _)) | exact se rfl (CEnt.agg4 (CEnt.refl _) (CEnt.refl _) (CEnt.refl _) (CEnt.refl _)) | exact se rfl (CEnt.agg5 (CEnt.refl _) (CEnt.refl _) (CEnt.refl _) (CEnt.refl _) (CEnt.refl _)) | exact se rfl (CEnt.agg6 (CEnt.refl _) (CEnt.refl _) (CEnt.refl _) (CEnt.refl _) (CEnt.refl _) (CEnt.refl _)) | exact se_frzB _ rfl rfl rfl (by simp) (fun _ _ => CEnt.refl _)) .nil)) rfl rfl ?_)
        first | refine q_rd (wanted_is rfl rfl rfl rfl true rfl) rfl rfl (rd_notD rfl rfl) ?_ | refine q_rd (wanted_is rfl rfl rfl rfl true rfl) rfl rfl (rd_not rfl rfl) ?_
        refine q_rd (wanted_none rfl) rfl rfl (rd_pickF (v := .c _) rfl rfl rfl) ?_
        refine seq_nil ?_
        refine then_norm ?_
        first | refine code_condSD rfl rfl (fun h62 => ?_) (fun h62 => ?_) | refine code_condS rfl rfl (fun h62 => ?_) (fun h62 => ?_)
        · refine code_seq ?_
          refine code_drawZ (.rd 0 (.rd 1 (.one 2 (.rd 3 .done)))) (by kernel_rfl) (by kernel_rfl) rfl (by kernel_rfl) (by kernel_rfl) ?_
          simp only [opsOfT, List.getElem?_toArray, List.getElem?_cons_zero, List.getElem?_cons_succ]
          refine zz_rd (wanted_none rfl) rfl rfl (rd_build (n := 3) rfl zr63 pl63 rfl rfl) ?_
          refine zz_rd (wanted_none rfl) rfl rfl (rd_loadE 8 rfl rfl Tryd.underlying25 ag25) ?_
          refine z_store (wanted_none rfl) rfl rfl rfl rfl rfl sz63 rfl rfl (by first | decide | (first | omega | decide | (dsimp only at *; omega))) _ (fun _ _ => CEnt.refl _) rfl ?_
          first | refine zz_rd (wanted_none rfl) rfl rfl (rd_assign (v := .err _) rfl rfl) ?_ | refine zz_rd (wanted_none rfl) rfl rfl (rd_assign (v := .c _) rfl rfl) ?_ | refine zz_rd (wanted_none rfl) rfl rfl (rd_assign (v := .pv _) rfl rfl) ?_ | refine zz_rd (wanted_none rfl) rfl rfl (rd_assign (v := .top) rfl rfl) ?_
          refine z_done ?_
          refine then_norm ?_
          refine code_ret ?_
          refine then_ret ?_
          refine end_val (.inl rfl) (res_2 rfl (arv_cellA rfl (.inl rfl) Tryd.underlying63 ag63 sz63 (by decide)) (arv_tmp rfl)) ?_
          have hp : ofP l = (zeroS, 9) := by
            unfold ofP
            refine if_neg fun hh => ?_
            simp_all
          rw [hp]; exact CEnt.tup2 (CEnt.agg3 (CEnt.refl _) (CEnt.refl _) (CEnt.refl _)) (CEnt.refl _)
        · refine code_skip ?_
          refine then_norm ?_
          refine code_seq ?_
          refine code_region ?_
          first | refine q_rdO (wanted_none rfl) rfl rfl (rd_loadOA rfl rfl (.inl rfl) Tryd.underlying63 ag63 sz63 (by first | decide | (first | omega | decide | (dsimp only at *; omega)))) ?_ | refine q_rd (wanted_none rfl) rfl rfl (rd_loadRA rfl rfl Tryd.underlying63 ag63 sz63 (by first | decide | (first | omega | decide | (dsimp only at *; omega)))) ?_ | refine q_rdO (wanted_none rfl) rfl rfl (rd_loadOA rfl rfl (.inr rfl) Tryd.underlying63 ag63 sz63 (by first | decide | (first | omega | decide | (dsimp only at *; omega)))) ?_
          refine seq_md (wanted_none rfl) (m_store rfl rfl rfl rfl rfl sz63 rfl rfl (by first | decide | (first | omega | decide | (dsimp only at *; omega))) _ (fun _ _ => CEnt.refl _) rfl ?_)
          first | refine q_rd (wanted_none rfl) rfl rfl (rd_assign (v := .err _) rfl rfl) ?_ | refine q_rd (wanted_none rfl) rfl rfl (rd_assign (v := .c _) rfl rfl) ?_ | refine q_rd (wanted_none rfl) rfl rfl (rd_assign (v := .pv _) rfl rfl) ?_ | refine q_rd (wanted_none rfl) rfl rfl (rd_assign (v := .top) rfl rfl) ?_
          refine seq_nil ?_
          refine then_norm ?_
          refine code_ret ?_
          refine end_val (.inl rfl) (res_2 rfl (arv_cellA rfl (.inl rfl) Tryd.underlying63 ag63 sz63 (by decide)) (arv_tmp rfl)) ?_
          have hr : rightS (guessP l) = true := by
            cases hb : rightS (guessP l) with
            | true => rfl
            | false => simp_all
          have ht : partsS (guessP l) = l := by simp_all
          have hp : ofP l = (guessP l, 0) := by unfold ofP; rw [if_pos ⟨hr, ht⟩]
          rw [hp]
          exact CEnt.tup2 (CEnt.agg3 (CEnt.refl _) (CEnt.refl _) (CEnt.refl _)) CEnt.nil
end Am
end Go.Proofs.YtndbjkapdmpbbaaDoor
