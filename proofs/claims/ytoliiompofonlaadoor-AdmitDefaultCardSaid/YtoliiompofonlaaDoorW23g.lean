
/- Chapter 23: requests that are right. -/
import Derived.Test.YtoliiompofonlaaDoorW23f
namespace Go.Proofs.YtoliiompofonlaaDoor
set_option linter.unusedVariables false
namespace Am
variable {gs : List Nat} [OkG gs]
open Go.RowKit
set_option maxRecDepth 100000

set_option maxHeartbeats 1000000 in
theorem rising_ac {gs : List Nat} (l : List (List UInt8)) : ACp gs Tryd.prog 113 [lsC l] (.c (.bool (risesS l))) := by
  refine ac_len 0 rfl fun hlen => ?_
  have hall := all_not_any labM l
  refine ac_of 24 Tryd.func113 rfl rfl rfl (fun al w0 F0 St0 => ?_)
  refine code_seq ?_
  refine code_region ?_
  refine q_rd (wanted_none rfl) rfl rfl (rd_assign (v := .c _) rfl rfl) ?_
  refine seq_nil ?_
  refine then_norm ?_
  refine code_seq ?_
  refine code_region ?_
  first | refine q_rd (wanted_none rfl) rfl rfl (rd_move (v := .rs _ _ _) rfl rfl) ?_ | refine q_rd (wanted_none rfl) rfl rfl (rd_move (v := .os _ _ _ _ _) rfl rfl) ?_ | refine q_rd (wanted_none rfl) rfl rfl (rd_move (v := .c _) rfl rfl) ?_ | refine q_rd (wanted_none rfl) rfl rfl (rd_move (v := .pv _) rfl rfl) ?_ | refine q_rd (wanted_none rfl) rfl rfl (rd_move (v := .top) rfl rfl) ?_
  first | refine q_rd (wanted_none rfl) rfl rfl (rd_lenR rfl rfl Tryd.underlying24) ?_ | refine q_rd (wanted_none rfl) rfl rfl (rd_lenO rfl rfl Tryd.underlying24) ?_ | refine q_rd (wanted_none rfl) rfl rfl (rd_lenN rfl rfl Tryd.underlying24) ?_
  refine q_rd (wanted_none rfl) rfl rfl (rd_le rfl rfl rfl) ?_
  refine q_rd (wanted_none rfl) rfl rfl (rd_move (v := .c _) rfl rfl) ?_
  first | refine seq_splitD (d := 6) rfl rfl (fun g24 => ?_) (fun g24 => ?_) | refine seq_split (d := 6) rfl rfl (fun g24 => ?_) (fun g24 => ?_)
  · first | refine q_rd (wanted_is rfl rfl rfl rfl true rfl) rfl rfl (rd_move (v := .rs _ _ _) rfl rfl) ?_ | refine q_rd (wanted_is rfl rfl rfl rfl true rfl) rfl rfl (rd_move (v := .os _ _ _ _ _) rfl rfl) ?_ | refine q_rd (wanted_is rfl rfl rfl rfl true rfl) rfl rfl (rd_move (v := .c _) rfl rfl) ?_ | refine q_rd (wanted_is rfl rfl rfl rfl true rfl) rfl rfl (rd_move (v := .pv _) rfl rfl) ?_ | refine q_rd (wanted_is rfl rfl rfl rfl true rfl) rfl rfl (rd_move (v := .top) rfl rfl) ?_
    refine seq_ex (wanted_is rfl rfl rfl rfl true rfl) (e_callP rfl (by kernel_rfl) (sorted_ac l) (.cons (by first | exact se rfl (CEnt.refl _) | exact se rfl CEnt.nil | exact se rfl CEnt.nilB | exact se rfl (CEnt.osI rfl) | exact se rfl CEnt.opI | exact se_nilO rfl | exact se rfl (CEnt.agg2 (CEnt.refl _) (CEnt.refl _)) | exact se rfl (CEnt.agg3 (CEnt.refl _) (CEnt.refl _) (CEnt.refl _)) | exact se rfl (CEnt.agg4 (CEnt.refl _) (CEnt.refl _) (CEnt.refl _) (CEnt.refl _)) | exact se rfl (CEnt.agg5 (CEnt.refl _) (CEnt.refl _) (CEnt.refl _) (CEnt.refl _) (CEnt.refl _)) | exact se rfl (CEnt.agg6 (CEnt.refl _) (CEnt.refl _) (CEnt.refl _) (CEnt.refl _) (CEnt.refl _) (CEnt.refl _)) | exact se_frzB _ rfl rfl rfl (by simp) (fun _ _ => CEnt.refl _)) .nil) rfl rfl ?_)
    refine q_rd (wanted_none rfl) rfl rfl (rd_pickT (v := .c _) rfl rfl rfl) ?_
    refine q_rd (wanted_none rfl) rfl rfl (rd_move (v := .c _) rfl rfl) ?_
    first | refine seq_splitD (d := 10) rfl rfl (fun g24_2 => ?_) (fun g24_2 => ?_) | refine seq_split (d := 10) rfl rfl (fun g24_2 => ?_) (fun g24_2 => ?_)
    · first | refine q_rd (wanted_is rfl rfl rfl rfl true rfl) rfl rfl (rd_move (v := .rs _ _ _) rfl rfl) ?_ | refine q_rd (wanted_is rfl rfl rfl rfl true rfl) rfl rfl (rd_move (v := .os _ _ _ _ _) rfl rfl) ?_ | refine q_rd (wanted_is rfl rfl rfl rfl true rfl) rfl rfl (rd_move (v := .c _) rfl rfl) ?_ | refine q_rd (wanted_is rfl rfl rfl rfl true rfl) rfl rfl (rd_move (v := .pv _) rfl rfl) ?_ | refine q_rd (wanted_is rfl rfl rfl rfl true rfl) rfl rfl (rd_move (v := .top) rfl rfl) ?_
      refine seq_ex (wanted_is rfl rfl rfl rfl true rfl) (e_callO rfl (by kernel_rfl) (cloneS_ac l (by omega)) (.cons (by first | exact se rfl (CEnt.refl _) | exact se rfl CEnt.nil | exact se rfl CEnt.nilB | exact se rfl (CEnt.osI rfl) | exact se rfl CEnt.opI | exact se_nilO rfl | exact se rfl (CEnt.agg2 (CEnt.refl _) (CEnt.refl _)) | exact se rfl (CEnt.agg3 (CEnt.refl _) (CEnt.refl _) (CEnt.refl _)) | exact se rfl (CEnt.agg4 (CEnt.refl _) (CEnt.refl _) (CEnt.refl _) (CEnt.refl _)) | exact se rfl (CEnt.agg5 (CEnt.refl _) (CEnt.refl _) (CEnt.refl _) (CEnt.refl _) (CEnt.refl _)) | exact se rfl (CEnt.agg6 (CEnt.refl _) (CEnt.refl _) (CEnt.refl _) (CEnt.refl _) (CEnt.refl _) (CEnt.refl _)) | exact se_frzB _ rfl rfl rfl (by simp) (fun _ _ => CEnt.refl _)) .nil) rfl rfl (fun p1 => ?_))
      refine seq_md (wanted_is rfl rfl rfl rfl true rfl) (m_callH (i := 0) rfl (by kernel_rfl) rfl (compact_ac _ l (by omega)) (.cons (by first | exact se rfl (CEnt.refl _) | exact se rfl CEnt.nil | exact se rfl CEnt.nilB | exact se rfl (CEnt.osI rfl) | exact se rfl CEnt.opI | exact se_nilO rfl | exact se rfl (CEnt.agg2 (CEnt.refl _) (CEnt.refl _)) | exact se rfl (CEnt.agg3 (CEnt.refl _) (CEnt.refl _) (CEnt.refl _)) | exact se rfl (CEnt.agg4 (CEnt.refl _) (CEnt.refl _) (CEnt.refl _) (CEnt.refl _)) | exact se rfl (CEnt.agg5 (CEnt.refl _) (CEnt.refl _) (CEnt.refl _) (CEnt.refl _) (CEnt.refl _)) | exact se rfl (CEnt.agg6 (CEnt.refl _) (CEnt.refl _) (CEnt.refl _) (CEnt.refl _) (CEnt.refl _) (CEnt.refl _)) | exact se_frzB _ rfl rfl rfl (by simp) (fun _ _ => CEnt.refl _)) .nil) rfl rfl ?_)
      rintro _ _ ⟨n1, gC, NC, FC, rfl, rfl, hn1, hd1⟩; refine ⟨_, _, rfl, CEnt.refl _, ?_⟩
      first | refine q_rd (wanted_is rfl rfl rfl rfl true rfl) rfl rfl (rd_lenR rfl rfl Tryd.underlying24) ?_ | refine q_rd (wanted_is rfl rfl rfl rfl true rfl) rfl rfl (rd_lenO rfl rfl Tryd.underlying24) ?_ | refine q_rd (wanted_is rfl rfl rfl rfl true rfl) rfl rfl (rd_lenN rfl rfl Tryd.underlying24) ?_
      first | refine q_rd (wanted_is rfl rfl rfl rfl true rfl) rfl rfl (rd_move (v := .rs _ _ _) rfl rfl) ?_ | refine q_rd (wanted_is rfl rfl rfl rfl true rfl) rfl rfl (rd_move (v := .os _ _ _ _ _) rfl rfl) ?_ | refine q_rd (wanted_is rfl rfl rfl rfl true rfl) rfl rfl (rd_move (v := .c _) rfl rfl) ?_ | refine q_rd (wanted_is rfl rfl rfl rfl true rfl) rfl rfl (rd_move (v := .pv _) rfl rfl) ?_ | refine q_rd (wanted_is rfl rfl rfl rfl true rfl) rfl rfl (rd_move (v := .top) rfl rfl) ?_
      first | refine q_rd (wanted_is rfl rfl rfl rfl true rfl) rfl rfl (rd_lenR rfl rfl Tryd.underlying24) ?_ | refine q_rd (wanted_is rfl rfl rfl rfl true rfl) rfl rfl (rd_lenO rfl rfl Tryd.underlying24) ?_ | refine q_rd (wanted_is rfl rfl rfl rfl true rfl) rfl rfl (rd_lenN rfl rfl Tryd.underlying24) ?_
      refine q_rd (wanted_is rfl rfl rfl rfl true rfl) rfl rfl (rd_eqI rfl rfl rfl) ?_
      refine q_rd (wanted_none rfl) rfl rfl (rd_pickT (v := .c _) rfl rfl rfl) ?_
      refine q_rd (wanted_none rfl) rfl rfl (rd_move (v := .c _) rfl rfl) ?_
      first | refine seq_splitD (d := 19) rfl rfl (fun g24_3 => ?_) (fun g24_3 => ?_) | refine seq_split (d := 19) rfl rfl (fun g24_3 => ?_) (fun g24_3 => ?_)
      · first | refine q_rd (wanted_is rfl rfl rfl rfl true rfl) rfl rfl (rd_move (v := .rs _ _ _) rfl rfl) ?_ | refine q_rd (wanted_is rfl rfl rfl rfl true rfl) rfl rfl (rd_move (v := .os _ _ _ _ _) rfl rfl) ?_ | refine q_rd (wanted_is rfl rfl rfl rfl true rfl) rfl rfl (rd_move (v := .c _) rfl rfl) ?_ | refine q_rd (wanted_is rfl rfl rfl rfl true rfl) rfl rfl (rd_move (v := .pv _) rfl rfl) ?_ | refine q_rd (wanted_is rfl rfl rfl rfl true rfl) rfl rfl (rd_move (v := .top) rfl rfl) ?_
        refine seq_ex (wanted_is rfl rfl rfl rfl true rfl) (e_callP rfl (by kernel_rfl) (strhas_ac (n := 0) (fv := fun _ => .top) (by kernel_rfl) l (fun s => !labM s) notLab_ac) (.cons (se rfl (CEnt.refl _)) (.cons (se rfl CEnt.fn0) .nil)) rfl rfl ?_)
        first | refine q_rd (wanted_is rfl rfl rfl rfl true rfl) rfl rfl (rd_notD rfl rfl) ?_ | refine q_rd (wanted_is rfl rfl rfl rfl true rfl) rfl rfl (rd_not rfl rfl) ?_
        refine q_rd (wanted_none rfl) rfl rfl (rd_pickT (v := .c _) rfl rfl rfl) ?_
        refine q_rd (wanted_none rfl) rfl rfl (rd_assign (v := .c _) rfl rfl) ?_
        refine seq_nil ?_
        refine then_norm ?_
        refine code_ret ?_
        refine end_val (.inl rfl) (res_1 rfl (arv_tmp rfl)) ?_
        refine CEnt.bool ?_
        unfold risesS
        rw [← hall]
        first | (simp_all; done) | (simp_all; omega) | grind
      · refine q_skip (wanted_is rfl rfl rfl rfl false rfl) rfl rfl ?_
        refine q_skip (wanted_is rfl rfl rfl rfl false rfl) rfl rfl ?_
        refine q_skip (wanted_is rfl rfl rfl rfl false rfl) rfl rfl ?_
        refine q_rd (wanted_none rfl) rfl rfl (rd_pickF (v := .c _) rfl rfl rfl) ?_
        refine q_rd (wanted_none rfl) rfl rfl (rd_assign (v := .c _) rfl rfl) ?_
        refine seq_nil ?_
        refine then_norm ?_
        refine code_ret ?_
        refine end_val (.inl rfl) (res_1 rfl (arv_tmp rfl)) ?_
        refine CEnt.bool ?_
        unfold risesS
        rw [← hall]
        first | (simp_all; done) | (simp_all; omega) | grind
    · refine q_skip (wanted_is rfl rfl rfl rfl false rfl) rfl rfl ?_
      refine q_skip (wanted_is rfl rfl rfl rfl false rfl) rfl rfl ?_
      refine q_skip (wanted_is rfl rfl rfl rfl false rfl) rfl rfl ?_
      refine q_skip (wanted_is rfl rfl rfl rfl false rfl) rfl rfl ?_
      refine q_skip (wanted_is rfl rfl rfl rfl false rfl) rfl rfl ?_
      refine q_skip (wanted_is rfl rfl rfl rfl false rfl) rfl rfl ?_
      refine q_skip (wanted_is rfl rfl rfl rfl false rfl) rfl rfl ?_
      refine q_rd (wanted_none rfl) rfl rfl (rd_pickF (v := .c _) rfl rfl rfl) ?_
      refine q_rd (wanted_none rfl) rfl rfl (rd_move (v := .c _) rfl rfl) ?_
      refine q_skip (wanted_is rfl rfl rfl rfl false rfl) rfl rfl ?_
      refine q_skip (wanted_is rfl rfl rfl rfl false rfl) rfl rfl ?_
      refine q_skip (wanted_is rfl rfl rfl rfl false rfl) rfl rfl ?_
      refine q_rd (wanted_none rfl) rfl rfl (rd_pickF (v := .c _) rfl rfl rfl) ?_
      refine q_rd (wanted_none rfl) rfl rfl (rd_assign (v := .c _) rfl rfl) ?_
      refine seq_nil ?_
      refine then_norm ?_
      refine code_ret ?_
      refine end_val (.inl rfl) (res_1 rfl (arv_tmp rfl)) ?_
      refine CEnt.bool ?_
      unfold risesS
      rw [← hall]
      first | (simp_all; done) | (simp_all; omega) | grind
  · refine q_skip (wanted_is rfl rfl rfl rfl false rfl) rfl rfl ?_
    refine q_skip (wanted_is rfl rfl rfl rfl false rfl) rfl rfl ?_
    refine q_rd (wanted_none rfl) rfl rfl (rd_pickF (v := .c _) rfl rfl rfl) ?_
    refine q_rd (wanted_none rfl) rfl rfl (rd_move (v := .c _) rfl rfl) ?_
    refine q_skip (wanted_is rfl rfl rfl rfl false rfl) rfl rfl ?_
    refine q_skip (wanted_is rfl rfl rfl rfl false rfl) rfl rfl ?_
    refine q_skip (wanted_is rfl rfl rfl rfl false rfl) rfl rfl ?_
    refine q_skip (wanted_is rfl rfl rfl rfl false rfl) rfl rfl ?_
    refine q_skip (wanted_is rfl rfl rfl rfl false rfl) rfl rfl ?_
    refine q_skip (wanted_is rfl rfl rfl rfl false rfl) rfl rfl ?_
    refine q_skip (wanted_is rfl rfl rfl rfl false rfl) rfl rfl ?_
    refine q_rd (wanted_none rfl) rfl rfl (rd_pickF (v := .c _) rfl rfl rfl) ?_
    refine q_rd (wanted_none rfl) rfl rfl (rd_move (v := .c _) rfl rfl) ?_
    refine q_skip (wanted_is rfl rfl rfl rfl false rfl) rfl rfl ?_
    refine q_skip (wanted_is rfl rfl rfl rfl false rfl) rfl rfl ?_
    refine q_skip (wanted_is rfl rfl rfl rfl false rfl) rfl rfl ?_
    refine q_rd (wanted_none rfl) rfl rfl (rd_pickF (v := .c _) rfl rfl rfl) ?_
    refine q_rd (wanted_none rfl) rfl rfl (rd_assign (v := .c _) rfl rfl) ?_
    refine seq_nil ?_
    refine then_norm ?_
    refine code_ret ?_
    refine end_val (.inl rfl) (res_1 rfl (arv_tmp rfl)) ?_
    refine CEnt.bool ?_
    unfold risesS
    rw [← hall]
    first | (simp_all; done) | (simp_all; omega) | grind
def reqOk (q : Q5) : Bool := rightS q.1 && decide (q.1.1 ≠ 5) && hexOk q.2.1 && decide (1 ≤ q.2.2.1) && decide (q.2.2.1 ≤ 15) && decide (1 ≤ q.2.2.2.1) && decide (q.2.2.2.1 ≤ 253402300799) && risesS q.2.2.2.2
set_option maxHeartbeats 1000000 in
theorem qright_ac (q : Q5) : ACp gs Tryd.prog 56 [reqC q] (.c (.bool (reqOk q))) := by
  refine ac_of 51 Tryd.func56 rfl rfl rfl (fun al w0 F0 St0 => ?_)
  refine code_seq ?_
  refine code_region ?_
  refine seq_ex (wanted_none rfl) (e_box (n := 7) rfl rfl rfl rfl rfl rfl (fun p1 => ?_))
  refine q_rd (wanted_none rfl) rfl rfl (rd_assign (v := .c _) rfl rfl) ?_
  refine seq_nil ?_
  refine then_norm ?_
  refine code_seq ?_
  refine code_region ?_
  first | refine q_rd (wanted_none rfl) rfl rfl (rd_faddrO rfl rfl Tryd.underlying26 rfl sz9 rfl) ?_ | refine q_rd (wanted_none rfl) rfl rfl (rd_faddrR rfl rfl Tryd.underlying26 rfl sz9 rfl) ?_
  first | refine q_rdO (wanted_none rfl) rfl rfl (rd_loadO (v := .c _) rfl rfl (.inl rfl) Tryd.underlying9 ag9 (by first | decide | (first | omega | decide | (dsimp only at *; omega))) rfl) ?_ | refine q_rd (wanted_none rfl) rfl rfl (rd_loadR (v := .c _) rfl rfl Tryd.underlying9 ag9 (by first | decide | (first | omega | decide | (dsimp only at *; omega))) rfl) ?_ | refine q_rdO (wanted_none rfl) rfl rfl (rd_loadO (v := .c _) rfl rfl (.inr rfl) Tryd.underlying9 ag9 (by first | decide | (first | omega | decide | (dsimp only at *; omega))) rfl) ?_
  refine seq_ex (wanted_none rfl) (e_callP rfl (by kernel_rfl) (mbytes_ac q.2.1) (.cons (by first | exact se rfl (CEnt.refl _) | exact se rfl CEnt.nil | exact se rfl CEnt.nilB | exact se rfl (CEnt.osI rfl) | exact se rfl CEnt.opI | exact se_nilO rfl | exact se rfl (CEnt.agg2 (CEnt.refl _) (CEnt.refl _)) | exact se rfl (CEnt.agg3 (CEnt.refl _) (CEnt.refl _) (CEnt.refl _)) | exact se rfl (CEnt.agg4 (CEnt.refl _) (CEnt.refl _) (CEnt.refl _) (CEnt.refl _)) | exact se rfl (CEnt.agg5 (CEnt.refl _) (CEnt.refl _) (CEnt.refl _) (CEnt.refl _) (CEnt.refl _)) | exact se rfl (CEnt.agg6 (CEnt.refl _) (CEnt.refl _) (CEnt.refl _) (CEnt.refl _) (CEnt.refl _) (CEnt.refl _)) | exact se_frzB _ rfl rfl rfl (by simp) (fun _ _ => CEnt.refl _)) .nil) rfl rfl ?_)
  first | refine q_rd (wanted_none rfl) rfl rfl (rd_move (v := .tup _ _) rfl rfl) ?_ | refine q_rd (wanted_none rfl) rfl rfl (rd_move (v := .c _) rfl rfl) ?_ | refine q_rd (wanted_none rfl) rfl rfl (rd_move (v := .pv _) rfl rfl) ?_ | refine q_rd (wanted_none rfl) rfl rfl (rd_move (v := .top) rfl rfl) ?_
  first | refine q_rd (wanted_none rfl) rfl rfl (rd_extract (v := bsC _) rfl rfl rfl rfl) ?_ | refine q_rd (wanted_none rfl) rfl rfl (rd_extract (v := .rs _ _ _) rfl rfl rfl rfl) ?_ | refine q_rd (wanted_none rfl) rfl rfl (rd_extract (v := .os _ _ _ _ _) rfl rfl rfl rfl) ?_ | refine q_rd (wanted_none rfl) rfl rfl (rd_extract (v := .c _) rfl rfl rfl rfl) ?_ | refine q_rd (wanted_none rfl) rfl rfl (rd_extract (v := .pv _) rfl rfl rfl rfl) ?_ | refine q_rd (wanted_none rfl) rfl rfl (rd_extract (v := .top) rfl rfl rfl rfl) ?_
  first | refine q_rd (wanted_none rfl) rfl rfl (rd_extract (v := .err _) rfl rfl rfl rfl) ?_ | refine q_rd (wanted_none rfl) rfl rfl (rd_extract (v := .c _) rfl rfl rfl rfl) ?_ | refine q_rd (wanted_none rfl) rfl rfl (rd_extract (v := .pv _) rfl rfl rfl rfl) ?_ | refine q_rd (wanted_none rfl) rfl rfl (rd_extract (v := .top) rfl rfl rfl rfl) ?_
  first | refine q_rd (wanted_none rfl) rfl rfl (rd_assign (v := bsC _) rfl rfl) ?_ | refine q_rd (wanted_none rfl) rfl rfl (rd_assign (v := .rs _ _ _) rfl rfl) ?_ | refine q_rd (wanted_none rfl) rfl rfl (rd_assign (v := .os _ _ _ _ _) rfl rfl) ?_ | refine q_rd (wanted_none rfl) rfl rfl (rd_assign (v := .c _) rfl rfl) ?_ | refine q_rd (wanted_none rfl) rfl rfl (rd_assign (v := .pv _) rfl rfl) ?_ | refine q_rd (wanted_none rfl) rfl rfl (rd_assign (v := .top) rfl rfl) ?_
  first | refine q_rd (wanted_none rfl) rfl rfl (rd_assign (v := .err _) rfl rfl) ?_ | refine q_rd (wanted_none rfl) rfl rfl (rd_assign (v := .c _) rfl rfl) ?_ | refine q_rd (wanted_none rfl) rfl rfl (rd_assign (v := .pv _) rfl rfl) ?_ | refine q_rd (wanted_none rfl) rfl rfl (rd_assign (v := .top) rfl rfl) ?_
  refine seq_nil ?_
  refine then_norm ?_
  refine code_seq ?_
  refine code_region ?_
  first | refine q_rd (wanted_none rfl) rfl rfl (rd_faddrO rfl rfl Tryd.underlying26 rfl sz23 rfl) ?_ | refine q_rd (wanted_none rfl) rfl rfl (rd_faddrR rfl rfl Tryd.underlying26 rfl sz23 rfl) ?_
  first | refine q_rdO (wanted_none rfl) rfl rfl (rd_loadOA rfl rfl (.inl rfl) Tryd.underlying23 ag23 sz23 (by first | decide | (first | omega | decide | (dsimp only at *; omega)))) ?_ | refine q_rd (wanted_none rfl) rfl rfl (rd_loadRA rfl rfl Tryd.underlying23 ag23 sz23 (by first | decide | (first | omega | decide | (dsimp only at *; omega)))) ?_ | refine q_rdO (wanted_none rfl) rfl rfl (rd_loadOA rfl rfl (.inr rfl) Tryd.underlying23 ag23 sz23 (by first | decide | (first | omega | decide | (dsimp only at *; omega)))) ?_
  refine seq_ex (wanted_none rfl) (e_callP rfl (by kernel_rfl) (nright_ac q.1) (.cons (by first | exact se rfl (CEnt.refl _) | exact se rfl CEnt.nil | exact se rfl CEnt.nilB | exact se rfl (CEnt.osI rfl) | exact se rfl CEnt.opI | exact se_nilO rfl | exact se rfl (CEnt.agg2 (CEnt.refl _) (CEnt.refl _)) | exact se rfl (CEnt.agg3 (CEnt.refl _) (CEnt.refl _) (CEnt.refl _)) | exact se rfl (CEnt.agg4 (CEnt.refl _) (CEnt.refl _) (CEnt.refl _) (CEnt.refl _)) | exact se rfl (CEnt.agg5 (CEnt.refl _) (CEnt.refl _) (CEnt.refl _) (CEnt.refl _) (CEnt.refl _)) | exact se rfl (CEnt.agg6 (CEnt.refl _) (CEnt.refl _) (CEnt.refl _) (CEnt.refl _) (CEnt.refl _) (CEnt.refl _)) | exact se_frzB _ rfl rfl rfl (by simp) (fun _ _ => CEnt.refl _)) .nil) rfl rfl ?_)
  refine q_rd (wanted_none rfl) rfl rfl (rd_move (v := .c _) rfl rfl) ?_
  first | refine seq_splitD (d := 15) rfl rfl (fun g30 => ?_) (fun g30 => ?_) | refine seq_split (d := 15) rfl rfl (fun g30 => ?_) (fun g30 => ?_)
  · first | refine q_rd (wanted_is rfl rfl rfl rfl true rfl) rfl rfl (rd_faddrO rfl rfl Tryd.underlying26 rfl sz23 rfl) ?_ | refine q_rd (wanted_is rfl rfl rfl rfl true rfl) rfl rfl (rd_faddrR rfl rfl Tryd.underlying26 rfl sz23 rfl) ?_
    first | refine q_rd (wanted_is rfl rfl rfl rfl true rfl) rfl rfl (rd_faddrO rfl rfl Tryd.underlying23 rfl sz3 rfl) ?_ | refine q_rd (wanted_is rfl rfl rfl rfl true rfl) rfl rfl (rd_faddrR rfl rfl Tryd.underlying23 rfl sz3 rfl) ?_
    first | refine q_rdO (wanted_is rfl rfl rfl rfl true rfl) rfl rfl (rd_loadO (v := .c _) rfl rfl (.inl rfl) Tryd.underlying3 ag3 (by first | decide | (first | omega | decide | (dsimp only at *; omega))) rfl) ?_ | refine q_rd (wanted_is rfl rfl rfl rfl true rfl) rfl rfl (rd_loadR (v := .c _) rfl rfl Tryd.underlying3 ag3 (by first | decide | (first | omega | decide | (dsimp only at *; omega))) rfl) ?_ | refine q_rdO (wanted_is rfl rfl rfl rfl true rfl) rfl rfl (rd_loadO (v := .c _) rfl rfl (.inr rfl) Tryd.underlying3 ag3 (by first | decide | (first | omega | decide | (dsimp only at *; omega))) rfl) ?_
    refine q_rd (wanted_is rfl rfl rfl rfl true rfl) rfl rfl (rd_neI rfl rfl rfl) ?_
    refine q_rd (wanted_none rfl) rfl rfl (rd_pickT (v := .c _) rfl rfl rfl) ?_
    refine q_rd (wanted_none rfl) rfl rfl (rd_assign (v := .c _) rfl rfl) ?_
    refine seq_nil ?_
    refine then_norm ?_
    refine code_seq ?_
    refine code_region ?_
    refine q_rd (wanted_none rfl) rfl rfl (rd_move (v := .c _) rfl rfl) ?_
    refine q_rd (wanted_none rfl) rfl rfl (rd_move (v := .c _) rfl rfl) ?_
    first | refine seq_splitD (d := 22) rfl rfl (fun g31 => ?_) (fun g31 => ?_) | refine seq_split (d := 22) rfl rfl (fun g31 => ?_) (fun g31 => ?_)
    · first | refine q_rd (wanted_is rfl rfl rfl rfl true rfl) rfl rfl (rd_move (v := .err _) rfl rfl) ?_ | refine q_rd (wanted_is rfl rfl rfl rfl true rfl) rfl rfl (rd_move (v := .c _) rfl rfl) ?_ | refine q_rd (wanted_is rfl rfl rfl rfl true rfl) rfl rfl (rd_move (v := .pv _) rfl rfl) ?_ | refine q_rd (wanted_is rfl rfl rfl rfl true rfl) rfl rfl (rd_move (v := .top) rfl rfl) ?_
      first | refine q_rd (wanted_is rfl rfl rfl rfl true rfl) rfl rfl (rd_eqE rfl rfl) ?_ | refine q_rd (wanted_is rfl rfl rfl rfl true rfl) rfl rfl (rd_eqE0 rfl rfl) ?_
      refine q_rd (wanted_none rfl) rfl rfl (rd_pickT (v := .c _) rfl rfl rfl) ?_
      refine q_rd (wanted_none rfl) rfl rfl (rd_move (v := .c _) rfl rfl) ?_
      first | refine seq_splitD (d := 26) rfl rfl (fun g31_2 => ?_) (fun g31_2 => ?_) | refine seq_split (d := 26) rfl rfl (fun g31_2 => ?_) (fun g31_2 => ?_)
      · first | refine q_rd (wanted_is rfl rfl rfl rfl true rfl) rfl rfl (rd_faddrO rfl rfl Tryd.underlying26 rfl sz3 rfl) ?_ | refine q_rd (wanted_is rfl rfl rfl rfl true rfl) rfl rfl (rd_faddrR rfl rfl Tryd.underlying26 rfl sz3 rfl) ?_
        first | refine q_rdO (wanted_is rfl rfl rfl rfl true rfl) rfl rfl (rd_loadO (v := .c _) rfl rfl (.inl rfl) Tryd.underlying3 ag3 (by first | decide | (first | omega | decide | (dsimp only at *; omega))) rfl) ?_ | refine q_rd (wanted_is rfl rfl rfl rfl true rfl) rfl rfl (rd_loadR (v := .c _) rfl rfl Tryd.underlying3 ag3 (by first | decide | (first | omega | decide | (dsimp only at *; omega))) rfl) ?_ | refine q_rdO (wanted_is rfl rfl rfl rfl true rfl) rfl rfl (rd_loadO (v := .c _) rfl rfl (.inr rfl) Tryd.underlying3 ag3 (by first | decide | (first | omega | decide | (dsimp only at *; omega))) rfl) ?_
        refine q_rd (wanted_is rfl rfl rfl rfl true rfl) rfl rfl (rd_ge rfl rfl rfl) ?_
        refine q_rd (wanted_none rfl) rfl rfl (rd_pickT (v := .c _) rfl rfl rfl) ?_
        refine q_rd (wanted_none rfl) rfl rfl (rd_move (v := .c _) rfl rfl) ?_
        first | refine seq_splitD (d := 31) rfl rfl (fun g31_3 => ?_) (fun g31_3 => ?_) | refine seq_split (d := 31) rfl rfl (fun g31_3 => ?_) (fun g31_3 => ?_)
        · first | refine q_rd (wanted_is rfl rfl rfl rfl true rfl) rfl rfl (rd_faddrO rfl rfl Tryd.underlying26 rfl sz3 rfl) ?_ | refine q_rd (wanted_is rfl rfl rfl rfl true rfl) rfl rfl (rd_faddrR rfl rfl Tryd.underlying26 rfl sz3 rfl) ?_
          first | refine q_rdO (wanted_is rfl rfl rfl rfl true rfl) rfl rfl (rd_loadO (v := .c _) rfl rfl (.inl rfl) Tryd.underlying3 ag3 (by first | decide | (first | omega | decide | (dsimp only at *; omega))) rfl) ?_ | refine q_rd (wanted_is rfl rfl rfl rfl true rfl) rfl rfl (rd_loadR (v := .c _) rfl rfl Tryd.underlying3 ag3 (by first | decide | (first | omega | decide | (dsimp only at *; omega))) rfl) ?_ | refine q_rdO (wanted_is rfl rfl rfl rfl true rfl) rfl rfl (rd_loadO (v := .c _) rfl rfl (.inr rfl) Tryd.underlying3 ag3 (by first | decide | (first | omega | decide | (dsimp only at *; omega))) rfl) ?_
          refine q_rd (wanted_is rfl rfl rfl rfl true rfl) rfl rfl (rd_le rfl rfl rfl) ?_
          refine q_rd (wanted_none rfl) rfl rfl (rd_pickT (v := .c _) rfl rfl rfl) ?_
          refine q_rd (wanted_none rfl) rfl rfl (rd_move (v := .c _) rfl rfl) ?_
          first | refine seq_splitD (d := 36) rfl rfl (fun g31_4 => ?_) (fun g31_4 => ?_) | refine seq_split (d := 36) rfl rfl (fun g31_4 => ?_) (fun g31_4 => ?_)
          · first | refine q_rd (wanted_is rfl rfl rfl rfl true rfl) rfl rfl (rd_faddrO rfl rfl Tryd.underlying26 rfl sz3 rfl) ?_ | refine q_rd (wanted_is rfl rfl rfl rfl true rfl) rfl rfl (rd_faddrR rfl rfl Tryd.underlying26 rfl sz3 rfl) ?_
            first | refine q_rdO (wanted_is rfl rfl rfl rfl true rfl) rfl rfl (rd_loadO (v := .c _) rfl rfl (.inl rfl) Tryd.underlying3 ag3 (by first | decide | (first | omega | decide | (dsimp only at *; omega))) rfl) ?_ | refine q_rd (wanted_is rfl rfl rfl rfl true rfl) rfl rfl (rd_loadR (v := .c _) rfl rfl Tryd.underlying3 ag3 (by first | decide | (first | omega | decide | (dsimp only at *; omega))) rfl) ?_ | refine q_rdO (wanted_is rfl rfl rfl rfl true rfl) rfl rfl (rd_loadO (v := .c _) rfl rfl (.inr rfl) Tryd.underlying3 ag3 (by first | decide | (first | omega | decide | (dsimp only at *; omega))) rfl) ?_
            refine q_rd (wanted_is rfl rfl rfl rfl true rfl) rfl rfl (rd_ge rfl rfl rfl) ?_
            refine q_rd (wanted_none rfl) rfl rfl (rd_pickT (v := .c _) rfl rfl rfl) ?_
            refine q_rd (wanted_none rfl) rfl rfl (rd_move (v := .c _) rfl rfl) ?_
            first | refine seq_splitD (d := 41) rfl rfl (fun g31_5 => ?_) (fun g31_5 => ?_) | refine seq_split (d := 41) rfl rfl (fun g31_5 => ?_) (fun g31_5 => ?_)
            · first | refine q_rd (wanted_is rfl rfl rfl rfl true rfl) rfl rfl (rd_faddrO rfl rfl Tryd.underlying26 rfl sz3 rfl) ?_ | refine q_rd (wanted_is rfl rfl rfl rfl true rfl) rfl rfl (rd_faddrR rfl rfl Tryd.underlying26 rfl sz3 rfl) ?_
              first | refine q_rdO (wanted_is rfl rfl rfl rfl true rfl) rfl rfl (rd_loadO (v := .c _) rfl rfl (.inl rfl) Tryd.underlying3 ag3 (by first | decide | (first | omega | decide | (dsimp only at *; omega))) rfl) ?_ | refine q_rd (wanted_is rfl rfl rfl rfl true rfl) rfl rfl (rd_loadR (v := .c _) rfl rfl Tryd.underlying3 ag3 (by first | decide | (first | omega | decide | (dsimp only at *; omega))) rfl) ?_ | refine q_rdO (wanted_is rfl rfl rfl rfl true rfl) rfl rfl (rd_loadO (v := .c _) rfl rfl (.inr rfl) Tryd.underlying3 ag3 (by first | decide | (first | omega | decide | (dsimp only at *; omega))) rfl) ?_
              refine q_rd (wanted_is rfl rfl rfl rfl true rfl) rfl rfl (rd_le rfl rfl rfl) ?_
              refine q_rd (wanted_none rfl) rfl rfl (rd_pickT (v := .c _) rfl rfl rfl) ?_
              refine q_rd (wanted_none rfl) rfl rfl (rd_move (v := .c _) rfl rfl) ?_
              first | refine seq_splitD (d := 46) rfl rfl (fun g31_6 => ?_) (fun g31_6 => ?_) | refine seq_split (d := 46) rfl rfl (fun g31_6 => ?_) (fun g31_6 => ?_)
              · first | refine q_rd (wanted_is rfl rfl rfl rfl true rfl) rfl rfl (rd_faddrO rfl rfl Tryd.underlying26 rfl sz24 rfl) ?_ | refine q_rd (wanted_is rfl rfl rfl rfl true rfl) rfl rfl (rd_faddrR rfl rfl Tryd.underlying26 rfl sz24 rfl) ?_
                first | refine q_rdO (wanted_is rfl rfl rfl rfl true rfl) rfl rfl (rd_loadO (v := .rs _ _ _) rfl rfl (.inl rfl) Tryd.underlying24 ag24 (by first | decide | (first | omega | decide | (dsimp only at *; omega))) rfl) ?_ | refine q_rdO (wanted_is rfl rfl rfl rfl true rfl) rfl rfl (rd_loadO (v := .os _ _ _ _ _) rfl rfl (.inl rfl) Tryd.underlying24 ag24 (by first | decide | (first | omega | decide | (dsimp only at *; omega))) rfl) ?_ | refine q_rdO (wanted_is rfl rfl rfl rfl true rfl) rfl rfl (rd_loadO (v := .c _) rfl rfl (.inl rfl) Tryd.underlying24 ag24 (by first | decide | (first | omega | decide | (dsimp only at *; omega))) rfl) ?_ | refine q_rdO (wanted_is rfl rfl rfl rfl true rfl) rfl rfl (rd_loadO (v := .pv _) rfl rfl (.inl rfl) Tryd.underlying24 ag24 (by first | decide | (first | omega | decide | (dsimp only at *; omega))) rfl) ?_ | refine q_rdO (wanted_is rfl rfl rfl rfl true rfl) rfl rfl (rd_loadO (v := .top) rfl rfl (.inl rfl) Tryd.underlying24 ag24 (by first | decide | (first | omega | decide | (dsimp only at *; omega))) rfl) ?_ | refine q_rd (wanted_is rfl rfl rfl rfl true rfl) rfl rfl (rd_loadR (v := .rs _ _ _) rfl rfl Tryd.underlying24 ag24 (by first | decide | (first | omega | decide | (dsimp only at *; omega))) rfl) ?_ | refine q_rd (wanted_is rfl rfl rfl rfl true rfl) rfl rfl (rd_loadR (v := .os _ _ _ _ _) rfl rfl Tryd.underlying24 ag24 (by first | decide | (first | omega | decide | (dsimp only at *; omega))) rfl) ?_ | refine q_rd (wanted_is rfl rfl rfl rfl true rfl) rfl rfl (rd_loadR (v := .c _) rfl rfl Tryd.underlying24 ag24 (by first | decide | (first | omega | decide | (dsimp only at *; omega))) rfl) ?_ | refine q_rd (wanted_is rfl rfl rfl rfl true rfl) rfl rfl (rd_loadR (v := .pv _) rfl rfl Tryd.underlying24 ag24 (by first | decide | (first | omega | decide | (dsimp only at *; omega))) rfl) ?_ | refine q_rd (wanted_is rfl rfl rfl rfl true rfl) rfl rfl (rd_loadR (v := .top) rfl rfl Tryd.underlying24 ag24 (by first | decide | (first | omega | decide | (dsimp only at *; omega))) rfl) ?_ | refine q_rdO (wanted_is rfl rfl rfl rfl true rfl) rfl rfl (rd_loadO (v := .rs _ _ _) rfl rfl (.inr rfl) Tryd.underlying24 ag24 (by first | decide | (first | omega | decide | (dsimp only at *; omega))) rfl) ?_ | refine q_rdO (wanted_is rfl rfl rfl rfl true rfl) rfl rfl (rd_loadO (v := .os _ _ _ _ _) rfl rfl (.inr rfl) Tryd.underlying24 ag24 (by first | decide | (first | omega | decide | (dsimp only at *; omega))) rfl) ?_ | refine q_rdO (wanted_is rfl rfl rfl rfl true rfl) rfl rfl (rd_loadO (v := .c _) rfl rfl (.inr rfl) Tryd.underlying24 ag24 (by first | decide | (first | omega | decide | (dsimp only at *; omega))) rfl) ?_ | refine q_rdO (wanted_is rfl rfl rfl rfl true rfl) rfl rfl (rd_loadO (v := .pv _) rfl rfl (.inr rfl) Tryd.underlying24 ag24 (by first | decide | (first | omega | decide | (dsimp only at *; omega))) rfl) ?_ | refine q_rdO (wanted_is rfl rfl rfl rfl true rfl) rfl rfl (rd_loadO (v := .top) rfl rfl (.inr rfl) Tryd.underlying24 ag24 (by first | decide | (first | omega | decide | (dsimp only at *; omega))) rfl) ?_
                refine seq_ex (wanted_is rfl rfl rfl rfl true rfl) (e_callP rfl (by kernel_rfl) (rising_ac q.2.2.2.2) (.cons (by first | exact se rfl (CEnt.refl _) | exact se rfl CEnt.nil | exact se rfl CEnt.nilB | exact se rfl (CEnt.osI rfl) | exact se rfl CEnt.opI | exact se_nilO rfl | exact se rfl (CEnt.agg2 (CEnt.refl _) (CEnt.refl _)) | exact se rfl (CEnt.agg3 (CEnt.refl _) (CEnt.refl _) (CEnt.refl _)) | exact se rfl (CEnt.agg4 (CEnt.refl _) (CEnt.refl _) (CEnt.refl _) (CEnt.refl _)) | exact se rfl (CEnt.agg5 (CEnt.refl _) (CEnt.refl _) (CEnt.refl _) (CEnt.refl _) (CEnt.refl _)) | exact se rfl (CEnt.agg6 (CEnt.refl _) (CEnt.refl _) (CEnt.refl _) (CEnt.refl _) (CEnt.refl _) (CEnt.refl _)) | exact se_frzB _ rfl rfl rfl (by simp) (fun _ _ => CEnt.refl _)) .nil) rfl rfl ?_)
                refine q_rd (wanted_none rfl) rfl rfl (rd_pickT (v := .c _) rfl rfl rfl) ?_
                refine q_rd (wanted_none rfl) rfl rfl (rd_assign (v := .c _) rfl rfl) ?_
                refine seq_nil ?_
                refine then_norm ?_
                refine code_ret ?_
                refine end_val (.inl rfl) (res_1 rfl (arv_tmp rfl)) ?_
                refine CEnt.bool ?_
                unfold reqOk
                first | (simp_all; done) | (simp_all; omega) | grind
              · refine q_skip (wanted_is rfl rfl rfl rfl false rfl) rfl rfl ?_
                refine q_skip (wanted_is rfl rfl rfl rfl false rfl) rfl rfl ?_
                refine q_skip (wanted_is rfl rfl rfl rfl false rfl) rfl rfl ?_
                refine q_rd (wanted_none rfl) rfl rfl (rd_pickF (v := .c _) rfl rfl rfl) ?_
                refine q_rd (wanted_none rfl) rfl rfl (rd_assign (v := .c _) rfl rfl) ?_
                refine seq_nil ?_
                refine then_norm ?_
                refine code_ret ?_
                refine end_val (.inl rfl) (res_1 rfl (arv_tmp rfl)) ?_
                refine CEnt.bool ?_
                unfold reqOk
                first | (simp_all; done) | (simp_all; omega) | grind
            · refine q_skip (wanted_is rfl rfl rfl rfl false rfl) rfl rfl ?_
              refine q_skip (wanted_is rfl rfl rfl rfl false rfl) rfl rfl ?_
              refine q_skip (wanted_is rfl rfl rfl rfl false rfl) rfl rfl ?_
              refine q_rd (wanted_none rfl) rfl rfl (rd_pickF (v := .c _) rfl rfl rfl) ?_
              refine q_rd (wanted_none rfl) rfl rfl (rd_move (v := .c _) rfl rfl) ?_
              refine q_skip (wanted_is rfl rfl rfl rfl false rfl) rfl rfl ?_
              refine q_skip (wanted_is rfl rfl rfl rfl false rfl) rfl rfl ?_
              refine q_skip (wanted_is rfl rfl rfl rfl false rfl) rfl rfl ?_
              refine q_rd (wanted_none rfl) rfl rfl (rd_pickF (v := .c _) rfl rfl rfl) ?_
              refine q_rd (wanted_none rfl) rfl rfl (rd_assign (v := .c _) rfl rfl) ?_
              refine seq_nil ?_
              refine then_norm ?_
              refine code_ret ?_
              refine end_val (.inl rfl) (res_1 rfl (arv_tmp rfl)) ?_
              refine CEnt.bool ?_
              unfold reqOk
              first | (simp_all; done) | (simp_all; omega) | grind
          · refine q_skip (wanted_is rfl rfl rfl rfl false rfl) rfl rfl ?_
            refine q_skip (wanted_is rfl rfl rfl rfl false rfl) rfl rfl ?_
            refine q_skip (wanted_is rfl rfl rfl rfl false rfl) rfl rfl ?_
            refine q_rd (wanted_none rfl) rfl rfl (rd_pickF (v := .c _) rfl rfl rfl) ?_
            refine q_rd (wanted_none rfl) rfl rfl (rd_move (v := .c _) rfl rfl) ?_
            refine q_skip (wanted_is rfl rfl rfl rfl false rfl) rfl rfl ?_
            refine q_skip (wanted_is rfl rfl rfl rfl false rfl) rfl rfl ?_
            refine q_skip (wanted_is rfl rfl rfl rfl false rfl) rfl rfl ?_
            refine q_rd (wanted_none rfl) rfl rfl (rd_pickF (v := .c _) rfl rfl rfl) ?_
            refine q_rd (wanted_none rfl) rfl rfl (rd_move (v := .c _) rfl rfl) ?_
            refine q_skip (wanted_is rfl rfl rfl rfl false rfl) rfl rfl ?_
            refine q_skip (wanted_is rfl rfl rfl rfl false rfl) rfl rfl ?_
            refine q_skip (wanted_is rfl rfl rfl rfl false rfl) rfl rfl ?_
            refine q_rd (wanted_none rfl) rfl rfl (rd_pickF (v := .c _) rfl rfl rfl) ?_
            refine q_rd (wanted_none rfl) rfl rfl (rd_assign (v := .c _) rfl rfl) ?_
            refine seq_nil ?_
            refine then_norm ?_
            refine code_ret ?_
            refine end_val (.inl rfl) (res_1 rfl (arv_tmp rfl)) ?_
            refine CEnt.bool ?_
            unfold reqOk
            first | (simp_all; done) | (simp_all; omega) | grind
        · refine q_skip (wanted_is rfl rfl rfl rfl false rfl) rfl rfl ?_
          refine q_skip (wanted_is rfl rfl rfl rfl false rfl) rfl rfl ?_
          refine q_skip (wanted_is rfl rfl rfl rfl false rfl) rfl rfl ?_
          refine q_rd (wanted_none rfl) rfl rfl (rd_pickF (v := .c _) rfl rfl rfl) ?_
          refine q_rd (wanted_none rfl) rfl rfl (rd_move (v := .c _) rfl rfl) ?_
          refine q_skip (wanted_is rfl rfl rfl rfl false rfl) rfl rfl ?_
          refine q_skip (wanted_is rfl rfl rfl rfl false rfl) rfl rfl ?_
          refine q_skip (wanted_is rfl rfl rfl rfl false rfl) rfl rfl ?_
          refine q_rd (wanted_none rfl) rfl rfl (rd_pickF (v := .c _) rfl rfl rfl) ?_
          refine q_rd (wanted_none rfl) rfl rfl (rd_move (v := .c _) rfl rfl) ?_
          refine q_skip (wanted_is rfl rfl rfl rfl false rfl) rfl rfl ?_
          refine q_skip (wanted_is rfl rfl rfl rfl false rfl) rfl rfl ?_
          refine q_skip (wanted_is rfl rfl rfl rfl false rfl) rfl rfl ?_
          refine q_rd (wanted_none rfl) rfl rfl (rd_pickF (v := .c _) rfl rfl rfl) ?_
          refine q_rd (wanted_none rfl) rfl rfl (rd_move (v := .c _) rfl rfl) ?_
          refine q_skip (wanted_is rfl rfl rfl rfl false rfl) rfl rfl ?_
          refine q_skip (wanted_is rfl rfl rfl rfl false rfl) rfl rfl ?_
          refine q_skip (wanted_is rfl rfl rfl rfl false rfl) rfl rfl ?_
          refine q_rd (wanted_none rfl) rfl rfl (rd_pickF (v := .c _) rfl rfl rfl) ?_
          refine q_rd (wanted_none rfl) rfl rfl (rd_assign (v := .c _) rfl rfl) ?_
          refine seq_nil ?_
          refine then_norm ?_
          refine code_ret ?_
          refine end_val (.inl rfl) (res_1 rfl (arv_tmp rfl)) ?_
          refine CEnt.bool ?_
          unfold reqOk
          first | (simp_all; done) | (simp_all; omega) | grind
      · refine q_skip (wanted_is rfl rfl rfl rfl false rfl) rfl rfl ?_
        refine q_skip (wanted_is rfl rfl rfl rfl false rfl) rfl rfl ?_
        refine q_skip (wanted_is rfl rfl rfl rfl false rfl) rfl rfl ?_
        refine q_rd (wanted_none rfl) rfl rfl (rd_pickF (v := .c _) rfl rfl rfl) ?_
        refine q_rd (wanted_none rfl) rfl rfl (rd_move (v := .c _) rfl rfl) ?_
        refine q_skip (wanted_is rfl rfl rfl rfl false rfl) rfl rfl ?_
        refine q_skip (wanted_is rfl rfl rfl rfl false rfl) rfl rfl ?_
        refine q_skip (wanted_is rfl rfl rfl rfl false rfl) rfl rfl ?_
        refine q_rd (wanted_none rfl) rfl rfl (rd_pickF (v := .c _) rfl rfl rfl) ?_
        refine q_rd (wanted_none rfl) rfl rfl (rd_move (v := .c _) rfl rfl) ?_
        refine q_skip (wanted_is rfl rfl rfl rfl false rfl) rfl rfl ?_
        refine q_skip (wanted_is rfl rfl rfl rfl false rfl) rfl rfl ?_
        refine q_skip (wanted_is rfl rfl rfl rfl false rfl) rfl rfl ?_
        refine q_rd (wanted_none rfl) rfl rfl (rd_pickF (v := .c _) rfl rfl rfl) ?_
        refine q_rd (wanted_none rfl) rfl rfl (rd_move (v := .c _) rfl rfl) ?_
        refine q_skip (wanted_is rfl rfl rfl rfl false rfl) rfl rfl ?_
        refine q_skip (wanted_is rfl rfl rfl rfl false rfl) rfl rfl ?_
        refine q_skip (wanted_is rfl rfl rfl rfl false rfl) rfl rfl ?_
        refine q_rd (wanted_none rfl) rfl rfl (rd_pickF (v := .c _) rfl rfl rfl) ?_
        refine q_rd (wanted_none rfl) rfl rfl (rd_move (v := .c _) rfl rfl) ?_
        refine q_skip (wanted_is rfl rfl rfl rfl false rfl) rfl rfl ?_
        refine q_skip (wanted_is rfl rfl rfl rfl false rfl) rfl rfl ?_
        refine q_skip (wanted_is rfl rfl rfl rfl false rfl) rfl rfl ?_
        refine q_rd (wanted_none rfl) rfl rfl (rd_pickF (v := .c _) rfl rfl rfl) ?_
        refine q_rd (wanted_none rfl) rfl rfl (rd_assign (v := .c _) rfl rfl) ?_
        refine seq_nil ?_
        refine then_norm ?_
        refine code_ret ?_
        refine end_val (.inl rfl) (res_1 rfl (arv_tmp rfl)) ?_
        refine CEnt.bool ?_
        unfold reqOk
        first | (simp_all; done) | (simp_all; omega) | grind
    · refine q_skip (wanted_is rfl rfl rfl rfl false rfl) rfl rfl ?_
      refine q_skip (wanted_is rfl rfl rfl rfl false rfl) rfl rfl ?_
      refine q_rd (wanted_none rfl) rfl rfl (rd_pickF (v := .c _) rfl rfl rfl) ?_
      refine q_rd (wanted_none rfl) rfl rfl (rd_move (v := .c _) rfl rfl) ?_
      refine q_skip (wanted_is rfl rfl rfl rfl false rfl) rfl rfl ?_
      refine q_skip (wanted_is rfl rfl rfl rfl false rfl) rfl rfl ?_
      refine q_skip (wanted_is rfl rfl rfl rfl false rfl) rfl rfl ?_
      refine q_rd (wanted_none rfl) rfl rfl (rd_pickF (v := .c _) rfl rfl rfl) ?_
      refine q_rd (wanted_none rfl) rfl rfl (rd_move (v := .c _) rfl rfl) ?_
      refine q_skip (wanted_is rfl rfl rfl rfl false rfl) rfl rfl ?_
      refine q_skip (wanted_is rfl rfl rfl rfl false rfl) rfl rfl ?_
      refine q_skip (wanted_is rfl rfl rfl rfl false rfl) rfl rfl ?_
      refine q_rd (wanted_none rfl) rfl rfl (rd_pickF (v := .c _) rfl rfl rfl) ?_
      refine q_rd (wanted_none rfl) rfl rfl (rd_move (v := .c _) rfl rfl) ?_
      refine q_skip (wanted_is rfl rfl rfl rfl false rfl) rfl rfl ?_
      refine q_skip (wanted_is rfl rfl rfl rfl false rfl) rfl rfl ?_
      refine q_skip (wanted_is rfl rfl rfl rfl false rfl) rfl rfl ?_
      refine q_rd (wanted_none rfl) rfl rfl (rd_pickF (v := .c _) rfl rfl rfl) ?_
      refine q_rd (wanted_none rfl) rfl rfl (rd_move (v := .c _) rfl rfl) ?_
      refine q_skip (wanted_is rfl rfl rfl rfl false rfl) rfl rfl ?_
      refine q_skip (wanted_is rfl rfl rfl rfl false rfl) rfl rfl ?_
      refine q_skip (wanted_is rfl rfl rfl rfl false rfl) rfl rfl ?_
      refine q_rd (wanted_none rfl) rfl rfl (rd_pickF (v := .c _) rfl rfl rfl) ?_
      refine q_rd (wanted_none rfl) rfl rfl (rd_move (v := .c _) rfl rfl) ?_
      refine q_skip (wanted_is rfl rfl rfl rfl false rfl) rfl rfl ?_
      refine q_skip (wanted_is rfl rfl rfl rfl false rfl) rfl rfl ?_
      refine q_skip (wanted_is rfl rfl rfl rfl false rfl) rfl rfl ?_
      refine q_rd (wanted_none rfl) rfl rfl (rd_pickF (v := .c _) rfl rfl rfl) ?_
      refine q_rd (wanted_none rfl) rfl rfl (rd_assign (v := .c _) rfl rfl) ?_
      refine seq_nil ?_
      refine then_norm ?_
      refine code_ret ?_
      refine end_val (.inl rfl) (res_1 rfl (arv_tmp rfl)) ?_
      refine CEnt.bool ?_
      unfold reqOk
      first | (simp_all; done) | (simp_all; omega) | grind
  · refine q_skip (wanted_is rfl rfl rfl rfl false rfl) rfl rfl ?_
    refine q_skip (wanted_is rfl rfl rfl rfl false rfl) rfl rfl ?_
    refine q_skip (wanted_is rfl rfl rfl rfl false rfl) rfl rfl ?_
    refine q_skip (wanted_is rfl rfl rfl rfl false rfl) rfl rfl ?_
    refine q_rd (wanted_none rfl) rfl rfl (rd_pickF (v := .c _) rfl rfl rfl) ?_
    refine q_rd (wanted_none rfl) rfl rfl (rd_assign (v := .c _) rfl rfl) ?_
    refine seq_nil ?_
    refine then_norm ?_
    refine code_seq ?_
    refine code_region ?_
    refine q_rd (wanted_none rfl) rfl rfl (rd_move (v := .c _) rfl rfl) ?_
    refine q_rd (wanted_none rfl) rfl rfl (rd_move (v := .c _) rfl rfl) ?_
    refine q_skip (wanted_is rfl rfl rfl rfl false rfl) rfl rfl ?_
    refine q_skip (wanted_is rfl rfl rfl rfl false rfl) rfl rfl ?_
    refine q_rd (wanted_none rfl) rfl rfl (rd_pickF (v := .c _) rfl rfl rfl) ?_
    refine q_rd (wanted_none rfl) rfl rfl (rd_move (v := .c _) rfl rfl) ?_
    refine q_skip (wanted_is rfl rfl rfl rfl false rfl) rfl rfl ?_
    refine q_skip (wanted_is rfl rfl rfl rfl false rfl) rfl rfl ?_
    refine q_skip (wanted_is rfl rfl rfl rfl false rfl) rfl rfl ?_
    refine q_rd (wanted_none rfl) rfl rfl (rd_pickF (v := .c _) rfl rfl rfl) ?_
    refine q_rd (wanted_none rfl) rfl rfl (rd_move (v := .c _) rfl rfl) ?_
    refine q_skip (wanted_is rfl rfl rfl rfl false rfl) rfl rfl ?_
    refine q_skip (wanted_is rfl rfl rfl rfl false rfl) rfl rfl ?_
    refine q_skip (wanted_is rfl rfl rfl rfl false rfl) rfl rfl ?_
    refine q_rd (wanted_none rfl) rfl rfl (rd_pickF (v := .c _) rfl rfl rfl) ?_
    refine q_rd (wanted_none rfl) rfl rfl (rd_move (v := .c _) rfl rfl) ?_
    refine q_skip (wanted_is rfl rfl rfl rfl false rfl) rfl rfl ?_
    refine q_skip (wanted_is rfl rfl rfl rfl false rfl) rfl rfl ?_
    refine q_skip (wanted_is rfl rfl rfl rfl false rfl) rfl rfl ?_
    refine q_rd (wanted_none rfl) rfl rfl (rd_pickF (v := .c _) rfl rfl rfl) ?_
    refine q_rd (wanted_none rfl) rfl rfl (rd_move (v := .c _) rfl rfl) ?_
    refine q_skip (wanted_is rfl rfl rfl rfl false rfl) rfl rfl ?_
    refine q_skip (wanted_is rfl rfl rfl rfl false rfl) rfl rfl ?_
    refine q_skip (wanted_is rfl rfl rfl rfl false rfl) rfl rfl ?_
    refine q_rd (wanted_none rfl) rfl rfl (rd_pickF (v := .c _) rfl rfl rfl) ?_
    refine q_rd (wanted_none rfl) rfl rfl (rd_move (v := .c _) rfl rfl) ?_
    refine q_skip (wanted_is rfl rfl rfl rfl false rfl) rfl rfl ?_
    refine q_skip (wanted_is rfl rfl rfl rfl false rfl) rfl rfl ?_
    refine q_skip (wanted_is rfl rfl rfl rfl false rfl) rfl rfl ?_
    refine q_rd (wanted_none rfl) rfl rfl (rd_pickF (v := .c _) rfl rfl rfl) ?_
    refine q_rd (wanted_none rfl) rfl rfl (rd_assign (v := .c _) rfl rfl) ?_
    refine seq_nil ?_
    refine then_norm ?_
    refine code_ret ?_
    refine end_val (.inl rfl) (res_1 rfl (arv_tmp rfl)) ?_
    refine CEnt.bool ?_
    unfold reqOk
    first | (simp_all; done) | (simp_all; omega) | grind
end Am
end Go.Proofs.YtoliiompofonlaaDoor
