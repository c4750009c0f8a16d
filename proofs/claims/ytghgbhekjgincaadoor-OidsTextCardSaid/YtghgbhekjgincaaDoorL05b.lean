
/- Chapter 5: OidsParse. -/
import Derived.Test.YtghgbhekjgincaaDoorL05
import Derived.Test.YtghgbhekjgincaaDoorW05i
import Derived.Test.YtghgbhekjgincaaDoorNumC
namespace Go.Proofs.YtghgbhekjgincaaDoor
set_option linter.unusedVariables false
namespace Am
variable {gs : List Nat} [OkG gs]
open Go.RowKit
set_option maxRecDepth 100000

theorem put_len (s : List UInt8) : (putM s).length ≤ 100 := by
  unfold putM
  split
  · rename_i h
    obtain ⟨hl2, hl16, hall, ha, hb⟩ := right_at (parse_ok h)
    unfold putA
    have h0 := hall _ (getD_mem' (l := (parseM s).1) (k := 0) 0 (by omega))
    have h1 := hall _ (getD_mem' (l := (parseM s).1) (k := 1) 0 (by omega))
    have e1 := sepL_len (n := (40 * (parseM s).1.getD 0 0 + (parseM s).1.getD 1 0).toNat) (by omega)
    have e2 := sep_flat_len (l := (parseM s).1.drop 2) (fun n hn => hall n (List.mem_of_mem_drop hn))
    rw [List.length_drop] at e2
    rw [List.length_append]
    omega
  · simp
set_option maxHeartbeats 1000000 in
theorem oidsParse_ac (s : List UInt8) : ACp gs Tryd.prog 9 [strC s] (.c (.bool true)) := by
  have hpl := put_len s
  refine ac_of 71 Tryd.func9 rfl rfl rfl (fun al w0 F0 St0 => ?_)
  refine code_seq ?_
  refine code_region ?_
  refine q_rd (wanted_none rfl) rfl rfl (rd_assign (v := .c _) rfl rfl) ?_
  refine seq_nil ?_
  refine then_norm ?_
  refine code_seq ?_
  refine code_seq ?_
  refine code_region ?_
  refine seq_ex (wanted_none rfl) (e_callP rfl (by kernel_rfl) (alive05_ac) .nil rfl rfl ?_)
  first | refine q_rd (wanted_none rfl) rfl rfl (rd_notD rfl rfl) ?_ | refine q_rd (wanted_none rfl) rfl rfl (rd_not rfl rfl) ?_
  refine seq_nil ?_
  refine then_norm ?_
  first | refine code_condSD rfl rfl (fun h18 => ?_) (fun h18 => ?_) | refine code_condS rfl rfl (fun h18 => ?_) (fun h18 => ?_)
  · exfalso; simp at h18
  · refine code_skip ?_
    refine then_norm ?_
    refine code_seq ?_
    refine code_seq ?_
    refine code_region ?_
    refine q_rd (wanted_none rfl) rfl rfl (rd_move (v := .c _) rfl rfl) ?_
    refine q_rd (wanted_none rfl) rfl rfl (rd_lenL rfl rfl Tryd.underlying9) ?_
    refine q_rd (wanted_none rfl) rfl rfl (rd_gt rfl rfl rfl) ?_
    refine seq_nil ?_
    refine then_norm ?_
    first | refine code_condSD rfl rfl (fun h21 => ?_) (fun h21 => ?_) | refine code_condS rfl rfl (fun h21 => ?_) (fun h21 => ?_)
    · refine code_seq ?_
      refine code_region ?_
      refine q_rd (wanted_none rfl) rfl rfl (rd_assign (v := .c _) rfl rfl) ?_
      refine seq_nil ?_
      refine then_norm ?_
      refine code_ret ?_
      refine then_ret ?_
      refine end_val (.inl rfl) (res_1 rfl (arv_tmp rfl)) ?_
      first | exact CEnt.refl _ | exact CEnt.nil
    · refine code_skip ?_
      refine then_norm ?_
      refine code_seq ?_
      refine code_region ?_
      refine q_rd (wanted_none rfl) rfl rfl (rd_move (v := .c _) rfl rfl) ?_
      refine seq_ex (wanted_none rfl) (e_callP rfl (by kernel_rfl) (oparse_ac s (by omega)) (.cons (by first | exact se rfl (CEnt.refl _) | exact se rfl CEnt.nil | exact se rfl CEnt.nilB | exact se rfl (CEnt.osI rfl) | exact se rfl CEnt.opI | exact se_nilO rfl | exact se rfl (CEnt.agg2 (CEnt.refl _) (CEnt.refl _)) | exact se rfl (CEnt.agg3 (CEnt.refl _) (CEnt.refl _) (CEnt.refl _)) | exact se rfl (CEnt.agg4 (CEnt.refl _) (CEnt.refl _) (CEnt.refl _) (CEnt.refl _)) | exact se rfl (CEnt.agg5 (CEnt.refl _) (CEnt.refl _) (CEnt.refl _) (CEnt.refl _) (CEnt.refl _)) | exact se rfl (CEnt.agg6 (CEnt.refl _) (CEnt.refl _) (CEnt.refl _) (CEnt.refl _) (CEnt.refl _) (CEnt.refl _)) | exact se_frzB _ rfl rfl rfl (by simp) (fun _ _ => CEnt.refl _)) .nil) rfl rfl ?_)
      first | refine q_rd (wanted_none rfl) rfl rfl (rd_move (v := .tup _ _) rfl rfl) ?_ | refine q_rd (wanted_none rfl) rfl rfl (rd_move (v := .c _) rfl rfl) ?_ | refine q_rd (wanted_none rfl) rfl rfl (rd_move (v := .pv _) rfl rfl) ?_ | refine q_rd (wanted_none rfl) rfl rfl (rd_move (v := .top) rfl rfl) ?_
      first | refine q_rd (wanted_none rfl) rfl rfl (rd_extract (v := .rs _ _ _) rfl rfl rfl rfl) ?_ | refine q_rd (wanted_none rfl) rfl rfl (rd_extract (v := .os _ _ _ _ _) rfl rfl rfl rfl) ?_ | refine q_rd (wanted_none rfl) rfl rfl (rd_extract (v := .c _) rfl rfl rfl rfl) ?_ | refine q_rd (wanted_none rfl) rfl rfl (rd_extract (v := .pv _) rfl rfl rfl rfl) ?_ | refine q_rd (wanted_none rfl) rfl rfl (rd_extract (v := .top) rfl rfl rfl rfl) ?_
      first | refine q_rd (wanted_none rfl) rfl rfl (rd_extract (v := .err _) rfl rfl rfl rfl) ?_ | refine q_rd (wanted_none rfl) rfl rfl (rd_extract (v := .c _) rfl rfl rfl rfl) ?_ | refine q_rd (wanted_none rfl) rfl rfl (rd_extract (v := .pv _) rfl rfl rfl rfl) ?_ | refine q_rd (wanted_none rfl) rfl rfl (rd_extract (v := .top) rfl rfl rfl rfl) ?_
      first | refine q_rd (wanted_none rfl) rfl rfl (rd_assign (v := .rs _ _ _) rfl rfl) ?_ | refine q_rd (wanted_none rfl) rfl rfl (rd_assign (v := .os _ _ _ _ _) rfl rfl) ?_ | refine q_rd (wanted_none rfl) rfl rfl (rd_assign (v := .c _) rfl rfl) ?_ | refine q_rd (wanted_none rfl) rfl rfl (rd_assign (v := .pv _) rfl rfl) ?_ | refine q_rd (wanted_none rfl) rfl rfl (rd_assign (v := .top) rfl rfl) ?_
      first | refine q_rd (wanted_none rfl) rfl rfl (rd_assign (v := .err _) rfl rfl) ?_ | refine q_rd (wanted_none rfl) rfl rfl (rd_assign (v := .c _) rfl rfl) ?_ | refine q_rd (wanted_none rfl) rfl rfl (rd_assign (v := .pv _) rfl rfl) ?_ | refine q_rd (wanted_none rfl) rfl rfl (rd_assign (v := .top) rfl rfl) ?_
      refine seq_nil ?_
      refine then_norm ?_
      refine code_seq ?_
      refine code_region ?_
      refine q_rd (wanted_none rfl) rfl rfl (rd_move (v := .c _) rfl rfl) ?_
      refine seq_ex (wanted_none rfl) (e_callP rfl (by kernel_rfl) (rparse_ac s (by omega)) (.cons (by first | exact se rfl (CEnt.refl _) | exact se rfl CEnt.nil | exact se rfl CEnt.nilB | exact se rfl (CEnt.osI rfl) | exact se rfl CEnt.opI | exact se_nilO rfl | exact se rfl (CEnt.agg2 (CEnt.refl _) (CEnt.refl _)) | exact se rfl (CEnt.agg3 (CEnt.refl _) (CEnt.refl _) (CEnt.refl _)) | exact se rfl (CEnt.agg4 (CEnt.refl _) (CEnt.refl _) (CEnt.refl _) (CEnt.refl _)) | exact se rfl (CEnt.agg5 (CEnt.refl _) (CEnt.refl _) (CEnt.refl _) (CEnt.refl _) (CEnt.refl _)) | exact se rfl (CEnt.agg6 (CEnt.refl _) (CEnt.refl _) (CEnt.refl _) (CEnt.refl _) (CEnt.refl _) (CEnt.refl _)) | exact se_frzB _ rfl rfl rfl (by simp) (fun _ _ => CEnt.refl _)) .nil) rfl rfl ?_)
      first | refine q_rd (wanted_none rfl) rfl rfl (rd_move (v := .tup _ _) rfl rfl) ?_ | refine q_rd (wanted_none rfl) rfl rfl (rd_move (v := .c _) rfl rfl) ?_ | refine q_rd (wanted_none rfl) rfl rfl (rd_move (v := .pv _) rfl rfl) ?_ | refine q_rd (wanted_none rfl) rfl rfl (rd_move (v := .top) rfl rfl) ?_
      first | refine q_rd (wanted_none rfl) rfl rfl (rd_extract (v := .rs _ _ _) rfl rfl rfl rfl) ?_ | refine q_rd (wanted_none rfl) rfl rfl (rd_extract (v := .os _ _ _ _ _) rfl rfl rfl rfl) ?_ | refine q_rd (wanted_none rfl) rfl rfl (rd_extract (v := .c _) rfl rfl rfl rfl) ?_ | refine q_rd (wanted_none rfl) rfl rfl (rd_extract (v := .pv _) rfl rfl rfl rfl) ?_ | refine q_rd (wanted_none rfl) rfl rfl (rd_extract (v := .top) rfl rfl rfl rfl) ?_
      refine q_rd (wanted_none rfl) rfl rfl (rd_extract (v := .c _) rfl rfl rfl rfl) ?_
      first | refine q_rd (wanted_none rfl) rfl rfl (rd_assign (v := .rs _ _ _) rfl rfl) ?_ | refine q_rd (wanted_none rfl) rfl rfl (rd_assign (v := .os _ _ _ _ _) rfl rfl) ?_ | refine q_rd (wanted_none rfl) rfl rfl (rd_assign (v := .c _) rfl rfl) ?_ | refine q_rd (wanted_none rfl) rfl rfl (rd_assign (v := .pv _) rfl rfl) ?_ | refine q_rd (wanted_none rfl) rfl rfl (rd_assign (v := .top) rfl rfl) ?_
      refine q_rd (wanted_none rfl) rfl rfl (rd_assign (v := .c _) rfl rfl) ?_
      refine seq_nil ?_
      refine then_norm ?_
      refine code_seq ?_
      refine code_region ?_
      refine q_rd (wanted_none rfl) rfl rfl (rd_move (v := .c _) rfl rfl) ?_
      refine seq_ex (wanted_none rfl) (e_callP rfl (by kernel_rfl) (oput_ac s (by omega)) (.cons (by first | exact se rfl (CEnt.refl _) | exact se rfl CEnt.nil | exact se rfl CEnt.nilB | exact se rfl (CEnt.osI rfl) | exact se rfl CEnt.opI | exact se_nilO rfl | exact se rfl (CEnt.agg2 (CEnt.refl _) (CEnt.refl _)) | exact se rfl (CEnt.agg3 (CEnt.refl _) (CEnt.refl _) (CEnt.refl _)) | exact se rfl (CEnt.agg4 (CEnt.refl _) (CEnt.refl _) (CEnt.refl _) (CEnt.refl _)) | exact se rfl (CEnt.agg5 (CEnt.refl _) (CEnt.refl _) (CEnt.refl _) (CEnt.refl _) (CEnt.refl _)) | exact se rfl (CEnt.agg6 (CEnt.refl _) (CEnt.refl _) (CEnt.refl _) (CEnt.refl _) (CEnt.refl _) (CEnt.refl _)) | exact se_frzB _ rfl rfl rfl (by simp) (fun _ _ => CEnt.refl _)) .nil) rfl rfl ?_)
      first | refine q_rd (wanted_none rfl) rfl rfl (rd_move (v := .tup _ _) rfl rfl) ?_ | refine q_rd (wanted_none rfl) rfl rfl (rd_move (v := .c _) rfl rfl) ?_ | refine q_rd (wanted_none rfl) rfl rfl (rd_move (v := .pv _) rfl rfl) ?_ | refine q_rd (wanted_none rfl) rfl rfl (rd_move (v := .top) rfl rfl) ?_
      first | refine q_rd (wanted_none rfl) rfl rfl (rd_extract (v := bsC _) rfl rfl rfl rfl) ?_ | refine q_rd (wanted_none rfl) rfl rfl (rd_extract (v := .rs _ _ _) rfl rfl rfl rfl) ?_ | refine q_rd (wanted_none rfl) rfl rfl (rd_extract (v := .os _ _ _ _ _) rfl rfl rfl rfl) ?_ | refine q_rd (wanted_none rfl) rfl rfl (rd_extract (v := .c _) rfl rfl rfl rfl) ?_ | refine q_rd (wanted_none rfl) rfl rfl (rd_extract (v := .pv _) rfl rfl rfl rfl) ?_ | refine q_rd (wanted_none rfl) rfl rfl (rd_extract (v := .top) rfl rfl rfl rfl) ?_
      first | refine q_rd (wanted_none rfl) rfl rfl (rd_extract (v := .err _) rfl rfl rfl rfl) ?_ | refine q_rd (wanted_none rfl) rfl rfl (rd_extract (v := .c _) rfl rfl rfl rfl) ?_ | refine q_rd (wanted_none rfl) rfl rfl (rd_extract (v := .pv _) rfl rfl rfl rfl) ?_ | refine q_rd (wanted_none rfl) rfl rfl (rd_extract (v := .top) rfl rfl rfl rfl) ?_
      first | refine q_rd (wanted_none rfl) rfl rfl (rd_assign (v := bsC _) rfl rfl) ?_ | refine q_rd (wanted_none rfl) rfl rfl (rd_assign (v := .rs _ _ _) rfl rfl) ?_ | refine q_rd (wanted_none rfl) rfl rfl (rd_assign (v := .os _ _ _ _ _) rfl rfl) ?_ | refine q_rd (wanted_none rfl) rfl rfl (rd_assign (v := .c _) rfl rfl) ?_ | refine q_rd (wanted_none rfl) rfl rfl (rd_assign (v := .pv _) rfl rfl) ?_ | refine q_rd (wanted_none rfl) rfl rfl (rd_assign (v := .top) rfl rfl) ?_
      first | refine q_rd (wanted_none rfl) rfl rfl (rd_assign (v := .err _) rfl rfl) ?_ | refine q_rd (wanted_none rfl) rfl rfl (rd_assign (v := .c _) rfl rfl) ?_ | refine q_rd (wanted_none rfl) rfl rfl (rd_assign (v := .pv _) rfl rfl) ?_ | refine q_rd (wanted_none rfl) rfl rfl (rd_assign (v := .top) rfl rfl) ?_
      refine seq_nil ?_
      refine then_norm ?_
      refine code_seq ?_
      refine code_seq ?_
      refine code_region ?_
      first | refine q_rd (wanted_none rfl) rfl rfl (rd_move (v := .err _) rfl rfl) ?_ | refine q_rd (wanted_none rfl) rfl rfl (rd_move (v := .c _) rfl rfl) ?_ | refine q_rd (wanted_none rfl) rfl rfl (rd_move (v := .pv _) rfl rfl) ?_ | refine q_rd (wanted_none rfl) rfl rfl (rd_move (v := .top) rfl rfl) ?_
      refine seq_ex (wanted_none rfl) (e_callP rfl (by kernel_rfl) (num_ac (parseM s).2 (by have := parse_bd s; omega)) (.cons (by first | exact se rfl (CEnt.refl _) | exact se rfl CEnt.nil | exact se rfl CEnt.nilB | exact se rfl (CEnt.osI rfl) | exact se rfl CEnt.opI | exact se_nilO rfl | exact se rfl (CEnt.agg2 (CEnt.refl _) (CEnt.refl _)) | exact se rfl (CEnt.agg3 (CEnt.refl _) (CEnt.refl _) (CEnt.refl _)) | exact se rfl (CEnt.agg4 (CEnt.refl _) (CEnt.refl _) (CEnt.refl _) (CEnt.refl _)) | exact se rfl (CEnt.agg5 (CEnt.refl _) (CEnt.refl _) (CEnt.refl _) (CEnt.refl _) (CEnt.refl _)) | exact se rfl (CEnt.agg6 (CEnt.refl _) (CEnt.refl _) (CEnt.refl _) (CEnt.refl _) (CEnt.refl _) (CEnt.refl _)) | exact se_frzB _ rfl rfl rfl (by simp) (fun _ _ => CEnt.refl _)) .nil) rfl rfl ?_)
      refine q_rd (wanted_none rfl) rfl rfl (rd_move (v := .c _) rfl rfl) ?_
      refine q_rd (wanted_none rfl) rfl rfl (rd_neI rfl rfl rfl) ?_
      refine q_rd (wanted_none rfl) rfl rfl (rd_move (v := .c _) rfl rfl) ?_
      first | refine seq_splitD (d := 34) rfl rfl (fun g27 => ?_) (fun g27 => ?_) | refine seq_split (d := 34) rfl rfl (fun g27 => ?_) (fun g27 => ?_)
      · refine q_skip (wanted_is rfl rfl rfl rfl false rfl) rfl rfl ?_
        refine q_skip (wanted_is rfl rfl rfl rfl false rfl) rfl rfl ?_
        refine q_skip (wanted_is rfl rfl rfl rfl false rfl) rfl rfl ?_
        refine q_skip (wanted_is rfl rfl rfl rfl false rfl) rfl rfl ?_
        refine q_rd (wanted_none rfl) rfl rfl (rd_pickT (v := .c _) rfl rfl rfl) ?_
        refine q_rd (wanted_none rfl) rfl rfl (rd_move (v := .c _) rfl rfl) ?_
        refine q_skip (wanted_is rfl rfl rfl rfl false rfl) rfl rfl ?_
        refine q_skip (wanted_is rfl rfl rfl rfl false rfl) rfl rfl ?_
        refine q_skip (wanted_is rfl rfl rfl rfl false rfl) rfl rfl ?_
        refine q_skip (wanted_is rfl rfl rfl rfl false rfl) rfl rfl ?_
        refine q_rd (wanted_none rfl) rfl rfl (rd_pickT (v := .c _) rfl rfl rfl) ?_
        refine seq_nil ?_
        refine then_norm ?_
        refine code_condT rfl ?_
        refine code_seq ?_
        refine code_region ?_
        refine q_rd (wanted_none rfl) rfl rfl (rd_assign (v := .c _) rfl rfl) ?_
        refine seq_nil ?_
        refine then_norm ?_
        refine code_ret ?_
        refine then_ret ?_
        refine end_val (.inl rfl) (res_1 rfl (arv_tmp rfl)) ?_
        exfalso
        first | (simp_all; done) | (simp_all; omega) | omega
      · first | refine q_rd (wanted_is rfl rfl rfl rfl true rfl) rfl rfl (rd_move (v := .err _) rfl rfl) ?_ | refine q_rd (wanted_is rfl rfl rfl rfl true rfl) rfl rfl (rd_move (v := .c _) rfl rfl) ?_ | refine q_rd (wanted_is rfl rfl rfl rfl true rfl) rfl rfl (rd_move (v := .pv _) rfl rfl) ?_ | refine q_rd (wanted_is rfl rfl rfl rfl true rfl) rfl rfl (rd_move (v := .top) rfl rfl) ?_
        refine seq_ex (wanted_is rfl rfl rfl rfl true rfl) (e_callP rfl (by kernel_rfl) (num_ac (parseM s).2 (by have := parse_bd s; omega)) (.cons (by first | exact se rfl (CEnt.refl _) | exact se rfl CEnt.nil | exact se rfl CEnt.nilB | exact se rfl (CEnt.osI rfl) | exact se rfl CEnt.opI | exact se_nilO rfl | exact se rfl (CEnt.agg2 (CEnt.refl _) (CEnt.refl _)) | exact se rfl (CEnt.agg3 (CEnt.refl _) (CEnt.refl _) (CEnt.refl _)) | exact se rfl (CEnt.agg4 (CEnt.refl _) (CEnt.refl _) (CEnt.refl _) (CEnt.refl _)) | exact se rfl (CEnt.agg5 (CEnt.refl _) (CEnt.refl _) (CEnt.refl _) (CEnt.refl _) (CEnt.refl _)) | exact se rfl (CEnt.agg6 (CEnt.refl _) (CEnt.refl _) (CEnt.refl _) (CEnt.refl _) (CEnt.refl _) (CEnt.refl _)) | exact se_frzB _ rfl rfl rfl (by simp) (fun _ _ => CEnt.refl _)) .nil) rfl rfl ?_)
        refine q_rd (wanted_is rfl rfl rfl rfl true rfl) rfl rfl (rd_move (v := .c _) rfl rfl) ?_
        refine q_rd (wanted_is rfl rfl rfl rfl true rfl) rfl rfl (rd_neI rfl rfl rfl) ?_
        refine q_rd (wanted_none rfl) rfl rfl (rd_pickF (v := .c _) rfl rfl rfl) ?_
        refine q_rd (wanted_none rfl) rfl rfl (rd_move (v := .c _) rfl rfl) ?_
        first | refine seq_splitD (d := 40) rfl rfl (fun g27_2 => ?_) (fun g27_2 => ?_) | refine seq_split (d := 40) rfl rfl (fun g27_2 => ?_) (fun g27_2 => ?_)
        · refine q_skip (wanted_is rfl rfl rfl rfl false rfl) rfl rfl ?_
          refine q_skip (wanted_is rfl rfl rfl rfl false rfl) rfl rfl ?_
          refine q_skip (wanted_is rfl rfl rfl rfl false rfl) rfl rfl ?_
          refine q_skip (wanted_is rfl rfl rfl rfl false rfl) rfl rfl ?_
          refine q_rd (wanted_none rfl) rfl rfl (rd_pickT (v := .c _) rfl rfl rfl) ?_
          refine seq_nil ?_
          refine then_norm ?_
          refine code_condT rfl ?_
          refine code_seq ?_
          refine code_region ?_
          refine q_rd (wanted_none rfl) rfl rfl (rd_assign (v := .c _) rfl rfl) ?_
          refine seq_nil ?_
          refine then_norm ?_
          refine code_ret ?_
          refine then_ret ?_
          refine end_val (.inl rfl) (res_1 rfl (arv_tmp rfl)) ?_
          exfalso
          first | (simp_all; done) | (simp_all; omega) | omega
        · first | refine q_rd (wanted_is rfl rfl rfl rfl true rfl) rfl rfl (rd_move (v := .rs _ _ _) rfl rfl) ?_ | refine q_rd (wanted_is rfl rfl rfl rfl true rfl) rfl rfl (rd_move (v := .os _ _ _ _ _) rfl rfl) ?_ | refine q_rd (wanted_is rfl rfl rfl rfl true rfl) rfl rfl (rd_move (v := .c _) rfl rfl) ?_ | refine q_rd (wanted_is rfl rfl rfl rfl true rfl) rfl rfl (rd_move (v := .pv _) rfl rfl) ?_ | refine q_rd (wanted_is rfl rfl rfl rfl true rfl) rfl rfl (rd_move (v := .top) rfl rfl) ?_
          first | refine q_rd (wanted_is rfl rfl rfl rfl true rfl) rfl rfl (rd_move (v := .rs _ _ _) rfl rfl) ?_ | refine q_rd (wanted_is rfl rfl rfl rfl true rfl) rfl rfl (rd_move (v := .os _ _ _ _ _) rfl rfl) ?_ | refine q_rd (wanted_is rfl rfl rfl rfl true rfl) rfl rfl (rd_move (v := .c _) rfl rfl) ?_ | refine q_rd (wanted_is rfl rfl rfl rfl true rfl) rfl rfl (rd_move (v := .pv _) rfl rfl) ?_ | refine q_rd (wanted_is rfl rfl rfl rfl true rfl) rfl rfl (rd_move (v := .top) rfl rfl) ?_
          refine seq_ex (wanted_is rfl rfl rfl rfl true rfl) (e_callP rfl (by kernel_rfl) (sameI_ac (parseM s).1 (parseM s).1) (.cons (by first | exact se rfl (CEnt.refl _) | exact se rfl CEnt.nil | exact se rfl CEnt.nilB | exact se rfl (CEnt.osI rfl) | exact se rfl CEnt.opI | exact se_nilO rfl | exact se rfl (CEnt.agg2 (CEnt.refl _) (CEnt.refl _)) | exact se rfl (CEnt.agg3 (CEnt.refl _) (CEnt.refl _) (CEnt.refl _)) | exact se rfl (CEnt.agg4 (CEnt.refl _) (CEnt.refl _) (CEnt.refl _) (CEnt.refl _)) | exact se rfl (CEnt.agg5 (CEnt.refl _) (CEnt.refl _) (CEnt.refl _) (CEnt.refl _) (CEnt.refl _)) | exact se rfl (CEnt.agg6 (CEnt.refl _) (CEnt.refl _) (CEnt.refl _) (CEnt.refl _) (CEnt.refl _) (CEnt.refl _)) | exact se_frzB _ rfl rfl rfl (by simp) (fun _ _ => CEnt.refl _)) (.cons (by first | exact se rfl (CEnt.refl _) | exact se rfl CEnt.nil | exact se rfl CEnt.nilB | exact se rfl (CEnt.osI rfl) | exact se rfl CEnt.opI | exact se_nilO rfl | exact se rfl (CEnt.agg2 (CEnt.refl _) (CEnt.refl _)) | exact se rfl (CEnt.agg3 (CEnt.refl _) (CEnt.refl _) (CEnt.refl _)) | exact se rfl (CEnt.agg4 (CEnt.refl _) (CEnt.refl _) (CEnt.refl _) (CEnt.refl _)) | exact se rfl (CEnt.agg5 (CEnt.refl _) (CEnt.refl _) (CEnt.refl _) (CEnt.refl _) (CEnt.refl _)) | exact se rfl (CEnt.agg6 (CEnt.refl _) (CEnt.refl _) (CEnt.refl _) (CEnt.refl _) (CEnt.refl _) (CEnt.refl _)) | exact se_frzB _ rfl rfl rfl (by simp) (fun _ _ => CEnt.refl _)) .nil)) rfl rfl ?_)
          first | refine q_rd (wanted_is rfl rfl rfl rfl true rfl) rfl rfl (rd_notD rfl rfl) ?_ | refine q_rd (wanted_is rfl rfl rfl rfl true rfl) rfl rfl (rd_not rfl rfl) ?_
          refine q_rd (wanted_none rfl) rfl rfl (rd_pickF (v := .c _) rfl rfl rfl) ?_
          refine seq_nil ?_
          refine then_norm ?_
          first | refine code_condSD rfl rfl (fun h27 => ?_) (fun h27 => ?_) | refine code_condS rfl rfl (fun h27 => ?_) (fun h27 => ?_)
          · refine code_seq ?_
            refine code_region ?_
            refine q_rd (wanted_none rfl) rfl rfl (rd_assign (v := .c _) rfl rfl) ?_
            refine seq_nil ?_
            refine then_norm ?_
            refine code_ret ?_
            refine then_ret ?_
            refine end_val (.inl rfl) (res_1 rfl (arv_tmp rfl)) ?_
            exfalso
            first | (simp_all; done) | (simp_all; omega) | omega
          · refine code_skip ?_
            refine then_norm ?_
            refine code_seq ?_
            refine code_seq ?_
            refine code_region ?_
            refine q_rd (wanted_none rfl) rfl rfl (rd_move (v := .c _) rfl rfl) ?_
            refine q_rd (wanted_none rfl) rfl rfl (rd_neI rfl rfl rfl) ?_
            refine seq_nil ?_
            refine then_norm ?_
            first | refine code_condSD rfl rfl (fun h30 => ?_) (fun h30 => ?_) | refine code_condS rfl rfl (fun h30 => ?_) (fun h30 => ?_)
            · refine code_seq ?_
              refine code_region ?_
              first | refine q_rd (wanted_none rfl) rfl rfl (rd_move (v := bsC _) rfl rfl) ?_ | refine q_rd (wanted_none rfl) rfl rfl (rd_move (v := .rs _ _ _) rfl rfl) ?_ | refine q_rd (wanted_none rfl) rfl rfl (rd_move (v := .os _ _ _ _ _) rfl rfl) ?_ | refine q_rd (wanted_none rfl) rfl rfl (rd_move (v := .c _) rfl rfl) ?_ | refine q_rd (wanted_none rfl) rfl rfl (rd_move (v := .pv _) rfl rfl) ?_ | refine q_rd (wanted_none rfl) rfl rfl (rd_move (v := .top) rfl rfl) ?_
              first | refine q_rd (wanted_none rfl) rfl rfl (rd_lenR rfl rfl Tryd.underlying90) ?_ | refine q_rd (wanted_none rfl) rfl rfl (rd_lenO rfl rfl Tryd.underlying90) ?_ | refine q_rd (wanted_none rfl) rfl rfl (rd_lenN rfl rfl Tryd.underlying90) ?_
              refine q_rd (wanted_none rfl) rfl rfl (rd_eqI rfl rfl rfl) ?_
              refine q_rd (wanted_none rfl) rfl rfl (rd_assign (v := .c _) rfl rfl) ?_
              refine seq_nil ?_
              refine then_norm ?_
              refine code_ret ?_
              refine then_ret ?_
              refine end_val (.inl rfl) (res_1 rfl (arv_tmp rfl)) ?_
              refine CEnt.bool ?_
              unfold putM
              rw [if_neg (by omega)]
              rfl
            · refine code_skip ?_
              refine then_norm ?_
              refine code_seq ?_
              refine code_region ?_
              first | refine q_rd (wanted_none rfl) rfl rfl (rd_move (v := bsC _) rfl rfl) ?_ | refine q_rd (wanted_none rfl) rfl rfl (rd_move (v := .rs _ _ _) rfl rfl) ?_ | refine q_rd (wanted_none rfl) rfl rfl (rd_move (v := .os _ _ _ _ _) rfl rfl) ?_ | refine q_rd (wanted_none rfl) rfl rfl (rd_move (v := .c _) rfl rfl) ?_ | refine q_rd (wanted_none rfl) rfl rfl (rd_move (v := .pv _) rfl rfl) ?_ | refine q_rd (wanted_none rfl) rfl rfl (rd_move (v := .top) rfl rfl) ?_
              refine seq_ex (wanted_none rfl) (e_callP rfl (by kernel_rfl) (oget_ac (putM s) (by omega)) (.cons (by first | exact se rfl (CEnt.refl _) | exact se rfl CEnt.nil | exact se rfl CEnt.nilB | exact se rfl (CEnt.osI rfl) | exact se rfl CEnt.opI | exact se_nilO rfl | exact se rfl (CEnt.agg2 (CEnt.refl _) (CEnt.refl _)) | exact se rfl (CEnt.agg3 (CEnt.refl _) (CEnt.refl _) (CEnt.refl _)) | exact se rfl (CEnt.agg4 (CEnt.refl _) (CEnt.refl _) (CEnt.refl _) (CEnt.refl _)) | exact se rfl (CEnt.agg5 (CEnt.refl _) (CEnt.refl _) (CEnt.refl _) (CEnt.refl _) (CEnt.refl _)) | exact se rfl (CEnt.agg6 (CEnt.refl _) (CEnt.refl _) (CEnt.refl _) (CEnt.refl _) (CEnt.refl _) (CEnt.refl _)) | exact se_frzB _ rfl rfl rfl (by simp) (fun _ _ => CEnt.refl _)) .nil) rfl rfl ?_)
              first | refine q_rd (wanted_none rfl) rfl rfl (rd_move (v := .tup _ _) rfl rfl) ?_ | refine q_rd (wanted_none rfl) rfl rfl (rd_move (v := .c _) rfl rfl) ?_ | refine q_rd (wanted_none rfl) rfl rfl (rd_move (v := .pv _) rfl rfl) ?_ | refine q_rd (wanted_none rfl) rfl rfl (rd_move (v := .top) rfl rfl) ?_
              refine q_rd (wanted_none rfl) rfl rfl (rd_extract (v := .c _) rfl rfl rfl rfl) ?_
              first | refine q_rd (wanted_none rfl) rfl rfl (rd_extract (v := .err _) rfl rfl rfl rfl) ?_ | refine q_rd (wanted_none rfl) rfl rfl (rd_extract (v := .c _) rfl rfl rfl rfl) ?_ | refine q_rd (wanted_none rfl) rfl rfl (rd_extract (v := .pv _) rfl rfl rfl rfl) ?_ | refine q_rd (wanted_none rfl) rfl rfl (rd_extract (v := .top) rfl rfl rfl rfl) ?_
              refine q_rd (wanted_none rfl) rfl rfl (rd_assign (v := .c _) rfl rfl) ?_
              first | refine q_rd (wanted_none rfl) rfl rfl (rd_assign (v := .err _) rfl rfl) ?_ | refine q_rd (wanted_none rfl) rfl rfl (rd_assign (v := .c _) rfl rfl) ?_ | refine q_rd (wanted_none rfl) rfl rfl (rd_assign (v := .pv _) rfl rfl) ?_ | refine q_rd (wanted_none rfl) rfl rfl (rd_assign (v := .top) rfl rfl) ?_
              refine seq_nil ?_
              refine then_norm ?_
              refine code_seq ?_
              have he : (parseM s).2 = 0 := by omega
              have hp : putM s = putA (parseM s).1 := by unfold putM; rw [if_pos he]
              have hg := get_of_put he
              rw [← hp] at hg
              refine code_draw (.rd 0 (.rd 1 (.rd 2 (.one 3 (.rd 4 (.rd 5 (.rd 6 (.rd 7 (.rd 8 (.rd 9 (.rd 10 (.rd 11 (.rd 12 (.rd 13 (.rd 14 (.rd 15 .done)))))))))))))))) (by kernel_rfl) (by kernel_rfl) rfl (by kernel_rfl) (by kernel_rfl) ?_
              simp only [opsOfT, List.getElem?_toArray, List.getElem?_cons_zero, List.getElem?_cons_succ]
              first | refine y_rd (wanted_none rfl) rfl rfl (rd_move (v := bsC _) rfl rfl) ?_ | refine y_rd (wanted_none rfl) rfl rfl (rd_move (v := .rs _ _ _) rfl rfl) ?_ | refine y_rd (wanted_none rfl) rfl rfl (rd_move (v := .os _ _ _ _ _) rfl rfl) ?_ | refine y_rd (wanted_none rfl) rfl rfl (rd_move (v := .c _) rfl rfl) ?_ | refine y_rd (wanted_none rfl) rfl rfl (rd_move (v := .pv _) rfl rfl) ?_ | refine y_rd (wanted_none rfl) rfl rfl (rd_move (v := .top) rfl rfl) ?_
              first | refine y_rd (wanted_none rfl) rfl rfl (rd_convBL rfl rfl Tryd.underlying90 Tryd.underlying5 Tryd.underlying9) ?_ | refine y_rd (wanted_none rfl) rfl rfl (rd_convBS rfl rfl Tryd.underlying90 Tryd.underlying5 Tryd.underlying9) ?_ | refine y_rdO (wanted_none rfl) rfl rfl (rd_convB1 rfl rfl (.inl rfl) (by first | rfl | simp) (by first | exact Nat.le_refl _ | simp) Tryd.underlying90 Tryd.underlying5 Tryd.underlying9) ?_ | refine y_rdO (wanted_none rfl) rfl rfl (rd_convB1 rfl rfl (.inr rfl) (by first | rfl | simp) (by first | exact Nat.le_refl _ | simp) Tryd.underlying90 Tryd.underlying5 Tryd.underlying9) ?_ | refine y_rd (wanted_none rfl) rfl rfl (rd_convBN rfl rfl Tryd.underlying90 Tryd.underlying5 Tryd.underlying9) ?_
              first | refine y_rd (wanted_none rfl) rfl rfl (rd_move (v := .rs _ _ _) rfl rfl) ?_ | refine y_rd (wanted_none rfl) rfl rfl (rd_move (v := .os _ _ _ _ _) rfl rfl) ?_ | refine y_rd (wanted_none rfl) rfl rfl (rd_move (v := .c _) rfl rfl) ?_ | refine y_rd (wanted_none rfl) rfl rfl (rd_move (v := .pv _) rfl rfl) ?_ | refine y_rd (wanted_none rfl) rfl rfl (rd_move (v := .top) rfl rfl) ?_
              refine x_one (wanted_none rfl) (e_callP rfl (by kernel_rfl) (rput_ac (parseM s).1 (parse_ok he)) (.cons (by first | exact se rfl (CEnt.refl _) | exact se rfl CEnt.nil | exact se rfl CEnt.nilB | exact se rfl (CEnt.osI rfl) | exact se rfl CEnt.opI | exact se_nilO rfl | exact se rfl (CEnt.agg2 (CEnt.refl _) (CEnt.refl _)) | exact se rfl (CEnt.agg3 (CEnt.refl _) (CEnt.refl _) (CEnt.refl _)) | exact se rfl (CEnt.agg4 (CEnt.refl _) (CEnt.refl _) (CEnt.refl _) (CEnt.refl _)) | exact se rfl (CEnt.agg5 (CEnt.refl _) (CEnt.refl _) (CEnt.refl _) (CEnt.refl _) (CEnt.refl _)) | exact se rfl (CEnt.agg6 (CEnt.refl _) (CEnt.refl _) (CEnt.refl _) (CEnt.refl _) (CEnt.refl _) (CEnt.refl _)) | exact se_frzB _ rfl rfl rfl (by simp) (fun _ _ => CEnt.refl _)) .nil) rfl rfl ?_)
              first | refine y_rd (wanted_none rfl) rfl rfl (rd_convBL rfl rfl Tryd.underlying90 Tryd.underlying5 Tryd.underlying9) ?_ | refine y_rd (wanted_none rfl) rfl rfl (rd_convBS rfl rfl Tryd.underlying90 Tryd.underlying5 Tryd.underlying9) ?_ | refine y_rdO (wanted_none rfl) rfl rfl (rd_convB1 rfl rfl (.inl rfl) (by first | rfl | simp) (by first | exact Nat.le_refl _ | simp) Tryd.underlying90 Tryd.underlying5 Tryd.underlying9) ?_ | refine y_rdO (wanted_none rfl) rfl rfl (rd_convB1 rfl rfl (.inr rfl) (by first | rfl | simp) (by first | exact Nat.le_refl _ | simp) Tryd.underlying90 Tryd.underlying5 Tryd.underlying9) ?_ | refine y_rd (wanted_none rfl) rfl rfl (rd_convBN rfl rfl Tryd.underlying90 Tryd.underlying5 Tryd.underlying9) ?_
              refine y_rd (wanted_none rfl) rfl rfl (rd_eqL rfl rfl rfl) ?_
              refine y_rd (wanted_none rfl) rfl rfl (rd_move (v := .c _) rfl rfl) ?_
              first | refine x_splitD (d := 62) rfl rfl (fun g34 => ?_) (fun g34 => ?_) | refine x_split (d := 62) rfl rfl (fun g34 => ?_) (fun g34 => ?_)
              · first | refine y_rd (wanted_is rfl rfl rfl rfl true rfl) rfl rfl (rd_move (v := .err _) rfl rfl) ?_ | refine y_rd (wanted_is rfl rfl rfl rfl true rfl) rfl rfl (rd_move (v := .c _) rfl rfl) ?_ | refine y_rd (wanted_is rfl rfl rfl rfl true rfl) rfl rfl (rd_move (v := .pv _) rfl rfl) ?_ | refine y_rd (wanted_is rfl rfl rfl rfl true rfl) rfl rfl (rd_move (v := .top) rfl rfl) ?_
                first | refine y_rd (wanted_is rfl rfl rfl rfl true rfl) rfl rfl (rd_eqE rfl rfl) ?_ | refine y_rd (wanted_is rfl rfl rfl rfl true rfl) rfl rfl (rd_eqE0 rfl rfl) ?_
                refine y_rd (wanted_none rfl) rfl rfl (rd_pickT (v := .c _) rfl rfl rfl) ?_
                refine y_rd (wanted_none rfl) rfl rfl (rd_move (v := .c _) rfl rfl) ?_
                first | refine x_splitD (d := 66) rfl rfl (fun g34_2 => ?_) (fun g34_2 => ?_) | refine x_split (d := 66) rfl rfl (fun g34_2 => ?_) (fun g34_2 => ?_)
                · refine y_rd (wanted_is rfl rfl rfl rfl true rfl) rfl rfl (rd_move (v := .c _) rfl rfl) ?_
                  refine y_rd (wanted_is rfl rfl rfl rfl true rfl) rfl rfl (rd_move (v := .c _) rfl rfl) ?_
                  refine y_rd (wanted_is rfl rfl rfl rfl true rfl) rfl rfl (rd_eqL rfl rfl rfl) ?_
                  refine y_rd (wanted_none rfl) rfl rfl (rd_pickT (v := .c _) rfl rfl rfl) ?_
                  refine y_rd (wanted_none rfl) rfl rfl (rd_assign (v := .c _) rfl rfl) ?_
                  refine x_done ?_
                  refine then_norm ?_
                  refine code_ret ?_
                  refine end_val (.inl rfl) (res_1 rfl (arv_tmp rfl)) ?_
                  refine CEnt.bool ?_
                  first | (simp_all; done) | (rw [hg, hp]; simp) | (simp [hg, hp]; done)
                · refine y_skip (wanted_is rfl rfl rfl rfl false rfl) rfl rfl ?_
                  refine y_skip (wanted_is rfl rfl rfl rfl false rfl) rfl rfl ?_
                  refine y_skip (wanted_is rfl rfl rfl rfl false rfl) rfl rfl ?_
                  refine y_rd (wanted_none rfl) rfl rfl (rd_pickF (v := .c _) rfl rfl rfl) ?_
                  refine y_rd (wanted_none rfl) rfl rfl (rd_assign (v := .c _) rfl rfl) ?_
                  refine x_done ?_
                  refine then_norm ?_
                  refine code_ret ?_
                  refine end_val (.inl rfl) (res_1 rfl (arv_tmp rfl)) ?_
                  refine CEnt.bool ?_
                  first | (simp_all; done) | (rw [hg, hp]; simp) | (simp [hg, hp]; done)
              · refine y_skip (wanted_is rfl rfl rfl rfl false rfl) rfl rfl ?_
                refine y_skip (wanted_is rfl rfl rfl rfl false rfl) rfl rfl ?_
                refine y_rd (wanted_none rfl) rfl rfl (rd_pickF (v := .c _) rfl rfl rfl) ?_
                refine y_rd (wanted_none rfl) rfl rfl (rd_move (v := .c _) rfl rfl) ?_
                refine y_skip (wanted_is rfl rfl rfl rfl false rfl) rfl rfl ?_
                refine y_skip (wanted_is rfl rfl rfl rfl false rfl) rfl rfl ?_
                refine y_skip (wanted_is rfl rfl rfl rfl false rfl) rfl rfl ?_
                refine y_rd (wanted_none rfl) rfl rfl (rd_pickF (v := .c _) rfl rfl rfl) ?_
                refine y_rd (wanted_none rfl) rfl rfl (rd_assign (v := .c _) rfl rfl) ?_
                refine x_done ?_
                refine then_norm ?_
                refine code_ret ?_
                refine end_val (.inl rfl) (res_1 rfl (arv_tmp rfl)) ?_
                refine CEnt.bool ?_
                first | (simp_all; done) | (rw [hg, hp]; simp) | (simp [hg, hp]; done)
end Am
end Go.Proofs.YtghgbhekjgincaaDoor
