
/- Chapter 5: OidsOrder. -/
import Derived.Test.YtghgbhekjgincaaDoorW05f
namespace Go.Proofs.YtghgbhekjgincaaDoor
set_option linter.unusedVariables false
namespace Am
variable {gs : List Nat} [Ok2 gs]
open Go.RowKit
set_option maxRecDepth 100000

theorem parse_ex : parseM [49, 46, 50, 46, 56, 52, 48] = ([1, 2, 840], 0) := by decide
theorem put_ex : putM [49, 46, 50, 46, 56, 52, 48] = [42, 134, 72] := by
  unfold putM putA
  rw [parse_ex]
  have h1 : sepL 42 = [42] := by rw [sepL, show (42 : Nat) / 128 = 0 from rfl, sepHi_zero]; rfl
  have h2 : sepL 840 = [134, 72] := by rw [sepL, show (840 : Nat) / 128 = 6 from rfl, sepHi_pos (by decide), show (6 : Nat) / 128 = 0 from rfl, sepHi_zero]; rfl
  show sepL 42 ++ [sepL 840].flatten = _
  rw [h1, h2]
  rfl
theorem alive05_ac : ACp gs Tryd.prog 48 [] (.c (.bool true)) := by
  refine ac_of 14 Tryd.func48 rfl rfl rfl (fun al w0 F0 St0 => ?_)
  refine code_seq ?_
  refine code_region ?_
  refine q_rd (wanted_none rfl) rfl rfl (rd_assign (v := .c _) rfl rfl) ?_
  refine seq_nil ?_
  refine then_norm ?_
  refine code_seq ?_
  refine code_region ?_
  refine seq_ex (wanted_none rfl) (e_callP rfl (by kernel_rfl) (oput_ac [49, 46, 50, 46, 56, 52, 48] (by decide)) (.cons (by first | exact se rfl (CEnt.refl _) | exact se rfl CEnt.nil | exact se rfl CEnt.nilB | exact se rfl (CEnt.osI rfl) | exact se rfl CEnt.opI | exact se_nilO rfl | exact se rfl (CEnt.agg2 (CEnt.refl _) (CEnt.refl _)) | exact se rfl (CEnt.agg3 (CEnt.refl _) (CEnt.refl _) (CEnt.refl _)) | exact se rfl (CEnt.agg4 (CEnt.refl _) (CEnt.refl _) (CEnt.refl _) (CEnt.refl _)) | exact se rfl (CEnt.agg5 (CEnt.refl _) (CEnt.refl _) (CEnt.refl _) (CEnt.refl _) (CEnt.refl _)) | exact se rfl (CEnt.agg6 (CEnt.refl _) (CEnt.refl _) (CEnt.refl _) (CEnt.refl _) (CEnt.refl _) (CEnt.refl _)) | exact se_frzB _ rfl rfl rfl (by simp) (fun _ _ => CEnt.refl _)) .nil) rfl rfl ?_)
  first | refine q_rd (wanted_none rfl) rfl rfl (rd_move (v := .tup _ _) rfl rfl) ?_ | refine q_rd (wanted_none rfl) rfl rfl (rd_move (v := .c _) rfl rfl) ?_ | refine q_rd (wanted_none rfl) rfl rfl (rd_move (v := .pv _) rfl rfl) ?_ | refine q_rd (wanted_none rfl) rfl rfl (rd_move (v := .top) rfl rfl) ?_
  first | refine q_rd (wanted_none rfl) rfl rfl (rd_extract (v := bsC _) rfl rfl rfl rfl) ?_ | refine q_rd (wanted_none rfl) rfl rfl (rd_extract (v := .rs _ _ _) rfl rfl rfl rfl) ?_ | refine q_rd (wanted_none rfl) rfl rfl (rd_extract (v := .os _ _ _ _ _) rfl rfl rfl rfl) ?_ | refine q_rd (wanted_none rfl) rfl rfl (rd_extract (v := .c _) rfl rfl rfl rfl) ?_ | refine q_rd (wanted_none rfl) rfl rfl (rd_extract (v := .pv _) rfl rfl rfl rfl) ?_ | refine q_rd (wanted_none rfl) rfl rfl (rd_extract (v := .top) rfl rfl rfl rfl) ?_
  first | refine q_rd (wanted_none rfl) rfl rfl (rd_extract (v := .err _) rfl rfl rfl rfl) ?_ | refine q_rd (wanted_none rfl) rfl rfl (rd_extract (v := .c _) rfl rfl rfl rfl) ?_ | refine q_rd (wanted_none rfl) rfl rfl (rd_extract (v := .pv _) rfl rfl rfl rfl) ?_ | refine q_rd (wanted_none rfl) rfl rfl (rd_extract (v := .top) rfl rfl rfl rfl) ?_
  first | refine q_rd (wanted_none rfl) rfl rfl (rd_assign (v := bsC _) rfl rfl) ?_ | refine q_rd (wanted_none rfl) rfl rfl (rd_assign (v := .rs _ _ _) rfl rfl) ?_ | refine q_rd (wanted_none rfl) rfl rfl (rd_assign (v := .os _ _ _ _ _) rfl rfl) ?_ | refine q_rd (wanted_none rfl) rfl rfl (rd_assign (v := .c _) rfl rfl) ?_ | refine q_rd (wanted_none rfl) rfl rfl (rd_assign (v := .pv _) rfl rfl) ?_ | refine q_rd (wanted_none rfl) rfl rfl (rd_assign (v := .top) rfl rfl) ?_
  first | refine q_rd (wanted_none rfl) rfl rfl (rd_assign (v := .err _) rfl rfl) ?_ | refine q_rd (wanted_none rfl) rfl rfl (rd_assign (v := .c _) rfl rfl) ?_ | refine q_rd (wanted_none rfl) rfl rfl (rd_assign (v := .pv _) rfl rfl) ?_ | refine q_rd (wanted_none rfl) rfl rfl (rd_assign (v := .top) rfl rfl) ?_
  refine seq_nil ?_
  refine then_norm ?_
  refine code_seq ?_
  refine code_region ?_
  first | refine q_rd (wanted_none rfl) rfl rfl (rd_move (v := .err _) rfl rfl) ?_ | refine q_rd (wanted_none rfl) rfl rfl (rd_move (v := .c _) rfl rfl) ?_ | refine q_rd (wanted_none rfl) rfl rfl (rd_move (v := .pv _) rfl rfl) ?_ | refine q_rd (wanted_none rfl) rfl rfl (rd_move (v := .top) rfl rfl) ?_
  first | refine q_rd (wanted_none rfl) rfl rfl (rd_eqE rfl rfl) ?_ | refine q_rd (wanted_none rfl) rfl rfl (rd_eqE0 rfl rfl) ?_
  refine q_rd (wanted_none rfl) rfl rfl (rd_move (v := .c _) rfl rfl) ?_
  first | refine seq_splitD (d := 9) rfl rfl (fun g13 => ?_) (fun g13 => ?_) | refine seq_split (d := 9) rfl rfl (fun g13 => ?_) (fun g13 => ?_)
  · first | refine q_rd (wanted_is rfl rfl rfl rfl true rfl) rfl rfl (rd_move (v := bsC _) rfl rfl) ?_ | refine q_rd (wanted_is rfl rfl rfl rfl true rfl) rfl rfl (rd_move (v := .rs _ _ _) rfl rfl) ?_ | refine q_rd (wanted_is rfl rfl rfl rfl true rfl) rfl rfl (rd_move (v := .os _ _ _ _ _) rfl rfl) ?_ | refine q_rd (wanted_is rfl rfl rfl rfl true rfl) rfl rfl (rd_move (v := .c _) rfl rfl) ?_ | refine q_rd (wanted_is rfl rfl rfl rfl true rfl) rfl rfl (rd_move (v := .pv _) rfl rfl) ?_ | refine q_rd (wanted_is rfl rfl rfl rfl true rfl) rfl rfl (rd_move (v := .top) rfl rfl) ?_
    first | refine q_rd (wanted_is rfl rfl rfl rfl true rfl) rfl rfl (rd_convBL rfl rfl Tryd.underlying90 Tryd.underlying5 Tryd.underlying9) ?_ | refine q_rd (wanted_is rfl rfl rfl rfl true rfl) rfl rfl (rd_convBS rfl rfl Tryd.underlying90 Tryd.underlying5 Tryd.underlying9) ?_ | refine q_rdO (wanted_is rfl rfl rfl rfl true rfl) rfl rfl (rd_convB1 rfl rfl (.inl rfl) (by first | rfl | simp) (by first | exact Nat.le_refl _ | simp) Tryd.underlying90 Tryd.underlying5 Tryd.underlying9) ?_ | refine q_rdO (wanted_is rfl rfl rfl rfl true rfl) rfl rfl (rd_convB1 rfl rfl (.inr rfl) (by first | rfl | simp) (by first | exact Nat.le_refl _ | simp) Tryd.underlying90 Tryd.underlying5 Tryd.underlying9) ?_ | refine q_rd (wanted_is rfl rfl rfl rfl true rfl) rfl rfl (rd_convBN rfl rfl Tryd.underlying90 Tryd.underlying5 Tryd.underlying9) ?_
    refine q_rd (wanted_is rfl rfl rfl rfl true rfl) rfl rfl (rd_eqL rfl rfl rfl) ?_
    refine q_rd (wanted_none rfl) rfl rfl (rd_pickT (v := .c _) rfl rfl rfl) ?_
    refine q_rd (wanted_none rfl) rfl rfl (rd_assign (v := .c _) rfl rfl) ?_
    refine seq_nil ?_
    refine then_norm ?_
    refine code_ret ?_
    refine end_val (.inl rfl) (res_1 rfl (arv_tmp rfl)) ?_
    refine CEnt.bool ?_
    have h1 := put_ex
    have h2 : (parseM [49, 46, 50, 46, 56, 52, 48]).2 = 0 := by rw [parse_ex]
    first | (exfalso; simp_all; done) | (rw [h1]; decide) | (simp_all; done) | rfl
  · refine q_skip (wanted_is rfl rfl rfl rfl false rfl) rfl rfl ?_
    refine q_skip (wanted_is rfl rfl rfl rfl false rfl) rfl rfl ?_
    refine q_skip (wanted_is rfl rfl rfl rfl false rfl) rfl rfl ?_
    refine q_rd (wanted_none rfl) rfl rfl (rd_pickF (v := .c _) rfl rfl rfl) ?_
    refine q_rd (wanted_none rfl) rfl rfl (rd_assign (v := .c _) rfl rfl) ?_
    refine seq_nil ?_
    refine then_norm ?_
    refine code_ret ?_
    refine end_val (.inl rfl) (res_1 rfl (arv_tmp rfl)) ?_
    refine CEnt.bool ?_
    have h1 := put_ex
    have h2 : (parseM [49, 46, 50, 46, 56, 52, 48]).2 = 0 := by rw [parse_ex]
    first | (exfalso; simp_all; done) | (rw [h1]; decide) | (simp_all; done) | rfl
theorem oidsOrder_ac (a b c : List UInt8) : ACp gs Tryd.prog 7 [strC a, strC b, strC c] (.c (.bool true)) := by
  refine ac_of 99 Tryd.func7 rfl rfl rfl (fun al w0 F0 St0 => ?_)
  refine code_seq ?_
  refine code_region ?_
  refine q_rd (wanted_none rfl) rfl rfl (rd_assign (v := .c _) rfl rfl) ?_
  refine seq_nil ?_
  refine then_norm ?_
  refine code_seq ?_
  refine code_seq ?_
  refine code_region ?_
  refine seq_ex (wanted_none rfl) (e_callP rfl (by kernel_rfl) (alive05_ac) .nil rfl rfl ?_)
  first | refine q_rd (wanted_none rfl) rfl rfl (rd_notD rfl rfl) ?_ | refine q_rd (wanted_none rfl) rfl rfl (rd_not rfl rfl) ?_
  refine seq_nil ?_
  refine then_norm ?_
  first | refine code_condSD rfl rfl (fun h80 => ?_) (fun h80 => ?_) | refine code_condS rfl rfl (fun h80 => ?_) (fun h80 => ?_)
  · exfalso; simp at h80
  · refine code_skip ?_
    refine then_norm ?_
    refine code_seq ?_
    refine code_seq ?_
    refine code_region ?_
    refine q_rd (wanted_none rfl) rfl rfl (rd_move (v := .c _) rfl rfl) ?_
    refine q_rd (wanted_none rfl) rfl rfl (rd_lenL rfl rfl Tryd.underlying9) ?_
    refine q_rd (wanted_none rfl) rfl rfl (rd_gt rfl rfl rfl) ?_
    refine q_rd (wanted_none rfl) rfl rfl (rd_move (v := .c _) rfl rfl) ?_
    first | refine seq_splitD (d := 20) rfl rfl (fun g83 => ?_) (fun g83 => ?_) | refine seq_split (d := 20) rfl rfl (fun g83 => ?_) (fun g83 => ?_)
    · refine q_skip (wanted_is rfl rfl rfl rfl false rfl) rfl rfl ?_
      refine q_skip (wanted_is rfl rfl rfl rfl false rfl) rfl rfl ?_
      refine q_skip (wanted_is rfl rfl rfl rfl false rfl) rfl rfl ?_
      refine q_rd (wanted_none rfl) rfl rfl (rd_pickT (v := .c _) rfl rfl rfl) ?_
      refine q_rd (wanted_none rfl) rfl rfl (rd_move (v := .c _) rfl rfl) ?_
      refine q_skip (wanted_is rfl rfl rfl rfl false rfl) rfl rfl ?_
      refine q_skip (wanted_is rfl rfl rfl rfl false rfl) rfl rfl ?_
      refine q_skip (wanted_is rfl rfl rfl rfl false rfl) rfl rfl ?_
      refine q_rd (wanted_none rfl) rfl rfl (rd_pickT (v := .c _) rfl rfl rfl) ?_
      refine seq_nil ?_
      refine then_norm ?_
      refine code_condT rfl ?_
      refine code_seq ?_
      refine code_region ?_
      refine q_rd (wanted_none rfl) rfl rfl (rd_assign (v := .c _) rfl rfl) ?_
      refine seq_nil ?_
      refine then_norm ?_
      refine code_ret ?_
      refine then_ret ?_
      refine end_val (.inl rfl) (res_1 rfl (arv_tmp rfl)) ?_
      first | exact CEnt.refl _ | exact CEnt.nil
    · refine q_rd (wanted_is rfl rfl rfl rfl true rfl) rfl rfl (rd_move (v := .c _) rfl rfl) ?_
      refine q_rd (wanted_is rfl rfl rfl rfl true rfl) rfl rfl (rd_lenL rfl rfl Tryd.underlying9) ?_
      refine q_rd (wanted_is rfl rfl rfl rfl true rfl) rfl rfl (rd_gt rfl rfl rfl) ?_
      refine q_rd (wanted_none rfl) rfl rfl (rd_pickF (v := .c _) rfl rfl rfl) ?_
      refine q_rd (wanted_none rfl) rfl rfl (rd_move (v := .c _) rfl rfl) ?_
      first | refine seq_splitD (d := 25) rfl rfl (fun g83_2 => ?_) (fun g83_2 => ?_) | refine seq_split (d := 25) rfl rfl (fun g83_2 => ?_) (fun g83_2 => ?_)
      · refine q_skip (wanted_is rfl rfl rfl rfl false rfl) rfl rfl ?_
        refine q_skip (wanted_is rfl rfl rfl rfl false rfl) rfl rfl ?_
        refine q_skip (wanted_is rfl rfl rfl rfl false rfl) rfl rfl ?_
        refine q_rd (wanted_none rfl) rfl rfl (rd_pickT (v := .c _) rfl rfl rfl) ?_
        refine seq_nil ?_
        refine then_norm ?_
        refine code_condT rfl ?_
        refine code_seq ?_
        refine code_region ?_
        refine q_rd (wanted_none rfl) rfl rfl (rd_assign (v := .c _) rfl rfl) ?_
        refine seq_nil ?_
        refine then_norm ?_
        refine code_ret ?_
        refine then_ret ?_
        refine end_val (.inl rfl) (res_1 rfl (arv_tmp rfl)) ?_
        first | exact CEnt.refl _ | exact CEnt.nil
      · refine q_rd (wanted_is rfl rfl rfl rfl true rfl) rfl rfl (rd_move (v := .c _) rfl rfl) ?_
        refine q_rd (wanted_is rfl rfl rfl rfl true rfl) rfl rfl (rd_lenL rfl rfl Tryd.underlying9) ?_
        refine q_rd (wanted_is rfl rfl rfl rfl true rfl) rfl rfl (rd_gt rfl rfl rfl) ?_
        refine q_rd (wanted_none rfl) rfl rfl (rd_pickF (v := .c _) rfl rfl rfl) ?_
        refine seq_nil ?_
        refine then_norm ?_
        first | refine code_condSD rfl rfl (fun h83 => ?_) (fun h83 => ?_) | refine code_condS rfl rfl (fun h83 => ?_) (fun h83 => ?_)
        · refine code_seq ?_
          refine code_region ?_
          refine q_rd (wanted_none rfl) rfl rfl (rd_assign (v := .c _) rfl rfl) ?_
          refine seq_nil ?_
          refine then_norm ?_
          refine code_ret ?_
          refine then_ret ?_
          refine end_val (.inl rfl) (res_1 rfl (arv_tmp rfl)) ?_
          first | exact CEnt.refl _ | exact CEnt.nil
        · refine code_skip ?_
          refine then_norm ?_
          refine code_seq ?_
          refine code_region ?_
          refine q_rd (wanted_none rfl) rfl rfl (rd_move (v := .c _) rfl rfl) ?_
          refine seq_ex (wanted_none rfl) (e_callP rfl (by kernel_rfl) (rparse_ac a (by omega)) (.cons (by first | exact se rfl (CEnt.refl _) | exact se rfl CEnt.nil | exact se rfl CEnt.nilB | exact se rfl (CEnt.osI rfl) | exact se rfl CEnt.opI | exact se_nilO rfl | exact se rfl (CEnt.agg2 (CEnt.refl _) (CEnt.refl _)) | exact se rfl (CEnt.agg3 (CEnt.refl _) (CEnt.refl _) (CEnt.refl _)) | exact se rfl (CEnt.agg4 (CEnt.refl _) (CEnt.refl _) (CEnt.refl _) (CEnt.refl _)) | exact se rfl (CEnt.agg5 (CEnt.refl _) (CEnt.refl _) (CEnt.refl _) (CEnt.refl _) (CEnt.refl _)) | exact se rfl (CEnt.agg6 (CEnt.refl _) (CEnt.refl _) (CEnt.refl _) (CEnt.refl _) (CEnt.refl _) (CEnt.refl _)) | exact se_frzB _ rfl rfl rfl (by simp) (fun _ _ => CEnt.refl _)) .nil) rfl rfl ?_)
          first | refine q_rd (wanted_none rfl) rfl rfl (rd_move (v := .tup _ _) rfl rfl) ?_ | refine q_rd (wanted_none rfl) rfl rfl (rd_move (v := .c _) rfl rfl) ?_ | refine q_rd (wanted_none rfl) rfl rfl (rd_move (v := .pv _) rfl rfl) ?_ | refine q_rd (wanted_none rfl) rfl rfl (rd_move (v := .top) rfl rfl) ?_
          first | refine q_rd (wanted_none rfl) rfl rfl (rd_extract (v := .rs _ _ _) rfl rfl rfl rfl) ?_ | refine q_rd (wanted_none rfl) rfl rfl (rd_extract (v := .os _ _ _ _ _) rfl rfl rfl rfl) ?_ | refine q_rd (wanted_none rfl) rfl rfl (rd_extract (v := .c _) rfl rfl rfl rfl) ?_ | refine q_rd (wanted_none rfl) rfl rfl (rd_extract (v := .pv _) rfl rfl rfl rfl) ?_ | refine q_rd (wanted_none rfl) rfl rfl (rd_extract (v := .top) rfl rfl rfl rfl) ?_
          refine q_rd (wanted_none rfl) rfl rfl (rd_extract (v := .c _) rfl rfl rfl rfl) ?_
          first | refine q_rd (wanted_none rfl) rfl rfl (rd_assign (v := .rs _ _ _) rfl rfl) ?_ | refine q_rd (wanted_none rfl) rfl rfl (rd_assign (v := .os _ _ _ _ _) rfl rfl) ?_ | refine q_rd (wanted_none rfl) rfl rfl (rd_assign (v := .c _) rfl rfl) ?_ | refine q_rd (wanted_none rfl) rfl rfl (rd_assign (v := .pv _) rfl rfl) ?_ | refine q_rd (wanted_none rfl) rfl rfl (rd_assign (v := .top) rfl rfl) ?_
          refine q_rd (wanted_none rfl) rfl rfl (rd_assign (v := .c _) rfl rfl) ?_
          refine seq_nil ?_
          refine then_norm ?_
          refine code_seq ?_
          refine code_region ?_
          refine q_rd (wanted_none rfl) rfl rfl (rd_move (v := .c _) rfl rfl) ?_
          refine seq_ex (wanted_none rfl) (e_callP rfl (by kernel_rfl) (rparse_ac b (by omega)) (.cons (by first | exact se rfl (CEnt.refl _) | exact se rfl CEnt.nil | exact se rfl CEnt.nilB | exact se rfl (CEnt.osI rfl) | exact se rfl CEnt.opI | exact se_nilO rfl | exact se rfl (CEnt.agg2 (CEnt.refl _) (CEnt.refl _)) | exact se rfl (CEnt.agg3 (CEnt.refl _) (CEnt.refl _) (CEnt.refl _)) | exact se rfl (CEnt.agg4 (CEnt.refl _) (CEnt.refl _) (CEnt.refl _) (CEnt.refl _)) | exact se rfl (CEnt.agg5 (CEnt.refl _) (CEnt.refl _) (CEnt.refl _) (CEnt.refl _) (CEnt.refl _)) | exact se rfl (CEnt.agg6 (CEnt.refl _) (CEnt.refl _) (CEnt.refl _) (CEnt.refl _) (CEnt.refl _) (CEnt.refl _)) | exact se_frzB _ rfl rfl rfl (by simp) (fun _ _ => CEnt.refl _)) .nil) rfl rfl ?_)
          first | refine q_rd (wanted_none rfl) rfl rfl (rd_move (v := .tup _ _) rfl rfl) ?_ | refine q_rd (wanted_none rfl) rfl rfl (rd_move (v := .c _) rfl rfl) ?_ | refine q_rd (wanted_none rfl) rfl rfl (rd_move (v := .pv _) rfl rfl) ?_ | refine q_rd (wanted_none rfl) rfl rfl (rd_move (v := .top) rfl rfl) ?_
          first | refine q_rd (wanted_none rfl) rfl rfl (rd_extract (v := .rs _ _ _) rfl rfl rfl rfl) ?_ | refine q_rd (wanted_none rfl) rfl rfl (rd_extract (v := .os _ _ _ _ _) rfl rfl rfl rfl) ?_ | refine q_rd (wanted_none rfl) rfl rfl (rd_extract (v := .c _) rfl rfl rfl rfl) ?_ | refine q_rd (wanted_none rfl) rfl rfl (rd_extract (v := .pv _) rfl rfl rfl rfl) ?_ | refine q_rd (wanted_none rfl) rfl rfl (rd_extract (v := .top) rfl rfl rfl rfl) ?_
          refine q_rd (wanted_none rfl) rfl rfl (rd_extract (v := .c _) rfl rfl rfl rfl) ?_
          first | refine q_rd (wanted_none rfl) rfl rfl (rd_assign (v := .rs _ _ _) rfl rfl) ?_ | refine q_rd (wanted_none rfl) rfl rfl (rd_assign (v := .os _ _ _ _ _) rfl rfl) ?_ | refine q_rd (wanted_none rfl) rfl rfl (rd_assign (v := .c _) rfl rfl) ?_ | refine q_rd (wanted_none rfl) rfl rfl (rd_assign (v := .pv _) rfl rfl) ?_ | refine q_rd (wanted_none rfl) rfl rfl (rd_assign (v := .top) rfl rfl) ?_
          refine q_rd (wanted_none rfl) rfl rfl (rd_assign (v := .c _) rfl rfl) ?_
          refine seq_nil ?_
          refine then_norm ?_
          refine code_seq ?_
          refine code_region ?_
          refine q_rd (wanted_none rfl) rfl rfl (rd_assign (v := .c _) rfl rfl) ?_
          refine seq_nil ?_
          refine then_norm ?_
          refine code_join (α := Unit) [11, 40, 41, 42, 43, 44, 45, 46, 47, 48, 49, 50, 51, 52, 53, 54, 55, 56, 57, 58] (fun _ => [(11, .c (.bool (underM a b)))]) (fun _ => []) (fun _ => True) (fun _ => rfl) ?_ ?_
          · refine code_seq ?_
            refine code_region ?_
            refine q_rd (wanted_none rfl) rfl rfl (rd_move (v := .c _) rfl rfl) ?_
            refine q_rd (wanted_none rfl) rfl rfl (rd_eqI rfl rfl rfl) ?_
            refine q_rd (wanted_none rfl) rfl rfl (rd_move (v := .c _) rfl rfl) ?_
            first | refine seq_splitD (d := 42) rfl rfl (fun g89 => ?_) (fun g89 => ?_) | refine seq_split (d := 42) rfl rfl (fun g89 => ?_) (fun g89 => ?_)
            · refine q_rd (wanted_is rfl rfl rfl rfl true rfl) rfl rfl (rd_move (v := .c _) rfl rfl) ?_
              refine q_rd (wanted_is rfl rfl rfl rfl true rfl) rfl rfl (rd_eqI rfl rfl rfl) ?_
              refine q_rd (wanted_none rfl) rfl rfl (rd_pickT (v := .c _) rfl rfl rfl) ?_
              refine q_rd (wanted_none rfl) rfl rfl (rd_move (v := .c _) rfl rfl) ?_
              first | refine seq_splitD (d := 46) rfl rfl (fun g89_2 => ?_) (fun g89_2 => ?_) | refine seq_split (d := 46) rfl rfl (fun g89_2 => ?_) (fun g89_2 => ?_)
              · first | refine q_rd (wanted_is rfl rfl rfl rfl true rfl) rfl rfl (rd_move (v := .rs _ _ _) rfl rfl) ?_ | refine q_rd (wanted_is rfl rfl rfl rfl true rfl) rfl rfl (rd_move (v := .os _ _ _ _ _) rfl rfl) ?_ | refine q_rd (wanted_is rfl rfl rfl rfl true rfl) rfl rfl (rd_move (v := .c _) rfl rfl) ?_ | refine q_rd (wanted_is rfl rfl rfl rfl true rfl) rfl rfl (rd_move (v := .pv _) rfl rfl) ?_ | refine q_rd (wanted_is rfl rfl rfl rfl true rfl) rfl rfl (rd_move (v := .top) rfl rfl) ?_
                first | refine q_rd (wanted_is rfl rfl rfl rfl true rfl) rfl rfl (rd_lenR rfl rfl Tryd.underlying75) ?_ | refine q_rd (wanted_is rfl rfl rfl rfl true rfl) rfl rfl (rd_lenO rfl rfl Tryd.underlying75) ?_ | refine q_rd (wanted_is rfl rfl rfl rfl true rfl) rfl rfl (rd_lenN rfl rfl Tryd.underlying75) ?_
                first | refine q_rd (wanted_is rfl rfl rfl rfl true rfl) rfl rfl (rd_move (v := .rs _ _ _) rfl rfl) ?_ | refine q_rd (wanted_is rfl rfl rfl rfl true rfl) rfl rfl (rd_move (v := .os _ _ _ _ _) rfl rfl) ?_ | refine q_rd (wanted_is rfl rfl rfl rfl true rfl) rfl rfl (rd_move (v := .c _) rfl rfl) ?_ | refine q_rd (wanted_is rfl rfl rfl rfl true rfl) rfl rfl (rd_move (v := .pv _) rfl rfl) ?_ | refine q_rd (wanted_is rfl rfl rfl rfl true rfl) rfl rfl (rd_move (v := .top) rfl rfl) ?_
                first | refine q_rd (wanted_is rfl rfl rfl rfl true rfl) rfl rfl (rd_lenR rfl rfl Tryd.underlying75) ?_ | refine q_rd (wanted_is rfl rfl rfl rfl true rfl) rfl rfl (rd_lenO rfl rfl Tryd.underlying75) ?_ | refine q_rd (wanted_is rfl rfl rfl rfl true rfl) rfl rfl (rd_lenN rfl rfl Tryd.underlying75) ?_
                refine q_rd (wanted_is rfl rfl rfl rfl true rfl) rfl rfl (rd_ge rfl rfl rfl) ?_
                refine q_rd (wanted_none rfl) rfl rfl (rd_pickT (v := .c _) rfl rfl rfl) ?_
                refine seq_nil ?_
                refine then_norm ?_
                first | refine code_condSD rfl rfl (fun h89 => ?_) (fun h89 => ?_) | refine code_condS rfl rfl (fun h89 => ?_) (fun h89 => ?_)
                · refine code_region ?_
                  first | refine q_rd (wanted_none rfl) rfl rfl (rd_move (v := .rs _ _ _) rfl rfl) ?_ | refine q_rd (wanted_none rfl) rfl rfl (rd_move (v := .os _ _ _ _ _) rfl rfl) ?_ | refine q_rd (wanted_none rfl) rfl rfl (rd_move (v := .c _) rfl rfl) ?_ | refine q_rd (wanted_none rfl) rfl rfl (rd_move (v := .pv _) rfl rfl) ?_ | refine q_rd (wanted_none rfl) rfl rfl (rd_move (v := .top) rfl rfl) ?_
                  first | refine q_rd (wanted_none rfl) rfl rfl (rd_move (v := .rs _ _ _) rfl rfl) ?_ | refine q_rd (wanted_none rfl) rfl rfl (rd_move (v := .os _ _ _ _ _) rfl rfl) ?_ | refine q_rd (wanted_none rfl) rfl rfl (rd_move (v := .c _) rfl rfl) ?_ | refine q_rd (wanted_none rfl) rfl rfl (rd_move (v := .pv _) rfl rfl) ?_ | refine q_rd (wanted_none rfl) rfl rfl (rd_move (v := .top) rfl rfl) ?_
                  first | refine q_rd (wanted_none rfl) rfl rfl (rd_lenR rfl rfl Tryd.underlying75) ?_ | refine q_rd (wanted_none rfl) rfl rfl (rd_lenO rfl rfl Tryd.underlying75) ?_ | refine q_rd (wanted_none rfl) rfl rfl (rd_lenN rfl rfl Tryd.underlying75) ?_
                  first | refine q_rd (wanted_none rfl) rfl rfl (rd_sliceR rfl rfl Tryd.underlying75 sz3 (bd_none _ _) (bd_some rfl (show _ = (((parseM b).1.length : Nat) : Int) by first | omega | (simp only [List.length_append, List.length_cons, List.length_nil]; omega))) (by (first | omega | decide | (dsimp only at *; omega))) (by (first | omega | decide | (dsimp only at *; omega)))) ?_ | refine q_rd (wanted_none rfl) rfl rfl (rd_sliceO rfl rfl Tryd.underlying75 sz3 (bd_none _ _) (bd_some rfl (show _ = (((parseM b).1.length : Nat) : Int) by first | omega | (simp only [List.length_append, List.length_cons, List.length_nil]; omega))) (by (first | omega | decide | (dsimp only at *; omega))) (by (first | omega | decide | (dsimp only at *; omega))) (by (first | omega | decide | (dsimp only at *; omega)))) ?_
                  first | refine q_rd (wanted_none rfl) rfl rfl (rd_move (v := .rs _ _ _) rfl rfl) ?_ | refine q_rd (wanted_none rfl) rfl rfl (rd_move (v := .os _ _ _ _ _) rfl rfl) ?_ | refine q_rd (wanted_none rfl) rfl rfl (rd_move (v := .c _) rfl rfl) ?_ | refine q_rd (wanted_none rfl) rfl rfl (rd_move (v := .pv _) rfl rfl) ?_ | refine q_rd (wanted_none rfl) rfl rfl (rd_move (v := .top) rfl rfl) ?_
                  refine seq_ex (wanted_none rfl) (e_callP rfl (by kernel_rfl) (sameI_ac ((parseM a).1.take (parseM b).1.length) (parseM b).1) (.cons (se rfl (is_to _ _ (by omega))) (.cons (se rfl (CEnt.refl _)) .nil)) rfl rfl ?_)
                  refine q_rd (wanted_none rfl) rfl rfl (rd_assign (v := .c _) rfl rfl) ?_
                  refine seq_nil ?_
                  refine then_norm ?_
                  refine ⟨(), ?_, by first | exact .refl | exact .nest .refl rfl rfl | exact .nest (.nest .refl rfl rfl) rfl rfl | exact .nest (.nest (.nest .refl rfl rfl) rfl rfl) rfl rfl, rfl, ?_, by exact Nat.le_of_ble_eq_true rfl, ?_⟩
                  · trivial
                  · exact .cons (CEnt.bool (by unfold underM underA; first | (simp_all; done) | (simp_all; omega) | grind)) .nil
                  · (repeat (first | exact HEnt.nil | refine HEnt.same ?_ | refine HEnt.blk rfl (fun j hj => by rcases j with _|_|_|_|_|_|_|_|j <;> first | exact CEnt.refl _ | exact CEnt.int (by omega) | omega) ?_))
                · refine code_skip ?_
                  refine then_norm ?_
                  refine ⟨(), ?_, by first | exact .refl | exact .nest .refl rfl rfl | exact .nest (.nest .refl rfl rfl) rfl rfl | exact .nest (.nest (.nest .refl rfl rfl) rfl rfl) rfl rfl, rfl, ?_, by exact Nat.le_of_ble_eq_true rfl, ?_⟩
                  · trivial
                  · exact .cons (CEnt.bool (by unfold underM underA; first | (simp_all; done) | (simp_all; omega) | grind)) .nil
                  · (repeat (first | exact HEnt.nil | refine HEnt.same ?_ | refine HEnt.blk rfl (fun j hj => by rcases j with _|_|_|_|_|_|_|_|j <;> first | exact CEnt.refl _ | exact CEnt.int (by omega) | omega) ?_))
              · refine q_skip (wanted_is rfl rfl rfl rfl false rfl) rfl rfl ?_
                refine q_skip (wanted_is rfl rfl rfl rfl false rfl) rfl rfl ?_
                refine q_skip (wanted_is rfl rfl rfl rfl false rfl) rfl rfl ?_
                refine q_skip (wanted_is rfl rfl rfl rfl false rfl) rfl rfl ?_
                refine q_skip (wanted_is rfl rfl rfl rfl false rfl) rfl rfl ?_
                refine q_rd (wanted_none rfl) rfl rfl (rd_pickF (v := .c _) rfl rfl rfl) ?_
                refine seq_nil ?_
                refine then_norm ?_
                refine code_condF rfl ?_
                refine code_skip ?_
                refine then_norm ?_
                refine ⟨(), ?_, by first | exact .refl | exact .nest .refl rfl rfl | exact .nest (.nest .refl rfl rfl) rfl rfl | exact .nest (.nest (.nest .refl rfl rfl) rfl rfl) rfl rfl, rfl, ?_, by exact Nat.le_of_ble_eq_true rfl, ?_⟩
                · trivial
                · exact .cons (CEnt.bool (by unfold underM underA; first | (simp_all; done) | (simp_all; omega) | grind)) .nil
                · (repeat (first | exact HEnt.nil | refine HEnt.same ?_ | refine HEnt.blk rfl (fun j hj => by rcases j with _|_|_|_|_|_|_|_|j <;> first | exact CEnt.refl _ | exact CEnt.int (by omega) | omega) ?_))
            · refine q_skip (wanted_is rfl rfl rfl rfl false rfl) rfl rfl ?_
              refine q_skip (wanted_is rfl rfl rfl rfl false rfl) rfl rfl ?_
              refine q_rd (wanted_none rfl) rfl rfl (rd_pickF (v := .c _) rfl rfl rfl) ?_
              refine q_rd (wanted_none rfl) rfl rfl (rd_move (v := .c _) rfl rfl) ?_
              refine q_skip (wanted_is rfl rfl rfl rfl false rfl) rfl rfl ?_
              refine q_skip (wanted_is rfl rfl rfl rfl false rfl) rfl rfl ?_
              refine q_skip (wanted_is rfl rfl rfl rfl false rfl) rfl rfl ?_
              refine q_skip (wanted_is rfl rfl rfl rfl false rfl) rfl rfl ?_
              refine q_skip (wanted_is rfl rfl rfl rfl false rfl) rfl rfl ?_
              refine q_rd (wanted_none rfl) rfl rfl (rd_pickF (v := .c _) rfl rfl rfl) ?_
              refine seq_nil ?_
              refine then_norm ?_
              refine code_condF rfl ?_
              refine code_skip ?_
              refine then_norm ?_
              refine ⟨(), ?_, by first | exact .refl | exact .nest .refl rfl rfl | exact .nest (.nest .refl rfl rfl) rfl rfl | exact .nest (.nest (.nest .refl rfl rfl) rfl rfl) rfl rfl, rfl, ?_, by exact Nat.le_of_ble_eq_true rfl, ?_⟩
              · trivial
              · exact .cons (CEnt.bool (by unfold underM underA; first | (simp_all; done) | (simp_all; omega) | grind)) .nil
              · (repeat (first | exact HEnt.nil | refine HEnt.same ?_ | refine HEnt.blk rfl (fun j hj => by rcases j with _|_|_|_|_|_|_|_|j <;> first | exact CEnt.refl _ | exact CEnt.int (by omega) | omega) ?_))
          · rintro u _
            refine code_seq ?_
            refine code_region ?_
            refine q_rd (wanted_none rfl) rfl rfl (rd_move (v := .c _) rfl rfl) ?_
            refine q_rd (wanted_none rfl) rfl rfl (rd_move (v := .c _) rfl rfl) ?_
            refine seq_ex (wanted_none rfl) (e_callP rfl (by kernel_rfl) (ocmp_ac a b (by omega) (by omega)) (.cons (by first | exact se rfl (CEnt.refl _) | exact se rfl CEnt.nil | exact se rfl CEnt.nilB | exact se rfl (CEnt.osI rfl) | exact se rfl CEnt.opI | exact se_nilO rfl | exact se rfl (CEnt.agg2 (CEnt.refl _) (CEnt.refl _)) | exact se rfl (CEnt.agg3 (CEnt.refl _) (CEnt.refl _) (CEnt.refl _)) | exact se rfl (CEnt.agg4 (CEnt.refl _) (CEnt.refl _) (CEnt.refl _) (CEnt.refl _)) | exact se rfl (CEnt.agg5 (CEnt.refl _) (CEnt.refl _) (CEnt.refl _) (CEnt.refl _) (CEnt.refl _)) | exact se rfl (CEnt.agg6 (CEnt.refl _) (CEnt.refl _) (CEnt.refl _) (CEnt.refl _) (CEnt.refl _) (CEnt.refl _)) | exact se_frzB _ rfl rfl rfl (by simp) (fun _ _ => CEnt.refl _)) (.cons (by first | exact se rfl (CEnt.refl _) | exact se rfl CEnt.nil | exact se rfl CEnt.nilB | exact se rfl (CEnt.osI rfl) | exact se rfl CEnt.opI | exact se_nilO rfl | exact se rfl (CEnt.agg2 (CEnt.refl _) (CEnt.refl _)) | exact se rfl (CEnt.agg3 (CEnt.refl _) (CEnt.refl _) (CEnt.refl _)) | exact se rfl (CEnt.agg4 (CEnt.refl _) (CEnt.refl _) (CEnt.refl _) (CEnt.refl _)) | exact se rfl (CEnt.agg5 (CEnt.refl _) (CEnt.refl _) (CEnt.refl _) (CEnt.refl _) (CEnt.refl _)) | exact se rfl (CEnt.agg6 (CEnt.refl _) (CEnt.refl _) (CEnt.refl _) (CEnt.refl _) (CEnt.refl _) (CEnt.refl _)) | exact se_frzB _ rfl rfl rfl (by simp) (fun _ _ => CEnt.refl _)) .nil)) rfl rfl ?_)
            refine q_rd (wanted_none rfl) rfl rfl (rd_move (v := .c _) rfl rfl) ?_
            refine q_rd (wanted_none rfl) rfl rfl (rd_move (v := .c _) rfl rfl) ?_
            refine seq_ex (wanted_none rfl) (e_callP rfl (by kernel_rfl) (ocmp_ac b c (by omega) (by omega)) (.cons (by first | exact se rfl (CEnt.refl _) | exact se rfl CEnt.nil | exact se rfl CEnt.nilB | exact se rfl (CEnt.osI rfl) | exact se rfl CEnt.opI | exact se_nilO rfl | exact se rfl (CEnt.agg2 (CEnt.refl _) (CEnt.refl _)) | exact se rfl (CEnt.agg3 (CEnt.refl _) (CEnt.refl _) (CEnt.refl _)) | exact se rfl (CEnt.agg4 (CEnt.refl _) (CEnt.refl _) (CEnt.refl _) (CEnt.refl _)) | exact se rfl (CEnt.agg5 (CEnt.refl _) (CEnt.refl _) (CEnt.refl _) (CEnt.refl _) (CEnt.refl _)) | exact se rfl (CEnt.agg6 (CEnt.refl _) (CEnt.refl _) (CEnt.refl _) (CEnt.refl _) (CEnt.refl _) (CEnt.refl _)) | exact se_frzB _ rfl rfl rfl (by simp) (fun _ _ => CEnt.refl _)) (.cons (by first | exact se rfl (CEnt.refl _) | exact se rfl CEnt.nil | exact se rfl CEnt.nilB | exact se rfl (CEnt.osI rfl) | exact se rfl CEnt.opI | exact se_nilO rfl | exact se rfl (CEnt.agg2 (CEnt.refl _) (CEnt.refl _)) | exact se rfl (CEnt.agg3 (CEnt.refl _) (CEnt.refl _) (CEnt.refl _)) | exact se rfl (CEnt.agg4 (CEnt.refl _) (CEnt.refl _) (CEnt.refl _) (CEnt.refl _)) | exact se rfl (CEnt.agg5 (CEnt.refl _) (CEnt.refl _) (CEnt.refl _) (CEnt.refl _) (CEnt.refl _)) | exact se rfl (CEnt.agg6 (CEnt.refl _) (CEnt.refl _) (CEnt.refl _) (CEnt.refl _) (CEnt.refl _) (CEnt.refl _)) | exact se_frzB _ rfl rfl rfl (by simp) (fun _ _ => CEnt.refl _)) .nil)) rfl rfl ?_)
            refine q_rd (wanted_none rfl) rfl rfl (rd_move (v := .c _) rfl rfl) ?_
            refine q_rd (wanted_none rfl) rfl rfl (rd_move (v := .c _) rfl rfl) ?_
            refine seq_ex (wanted_none rfl) (e_callP rfl (by kernel_rfl) (ocmp_ac a c (by omega) (by omega)) (.cons (by first | exact se rfl (CEnt.refl _) | exact se rfl CEnt.nil | exact se rfl CEnt.nilB | exact se rfl (CEnt.osI rfl) | exact se rfl CEnt.opI | exact se_nilO rfl | exact se rfl (CEnt.agg2 (CEnt.refl _) (CEnt.refl _)) | exact se rfl (CEnt.agg3 (CEnt.refl _) (CEnt.refl _) (CEnt.refl _)) | exact se rfl (CEnt.agg4 (CEnt.refl _) (CEnt.refl _) (CEnt.refl _) (CEnt.refl _)) | exact se rfl (CEnt.agg5 (CEnt.refl _) (CEnt.refl _) (CEnt.refl _) (CEnt.refl _) (CEnt.refl _)) | exact se rfl (CEnt.agg6 (CEnt.refl _) (CEnt.refl _) (CEnt.refl _) (CEnt.refl _) (CEnt.refl _) (CEnt.refl _)) | exact se_frzB _ rfl rfl rfl (by simp) (fun _ _ => CEnt.refl _)) (.cons (by first | exact se rfl (CEnt.refl _) | exact se rfl CEnt.nil | exact se rfl CEnt.nilB | exact se rfl (CEnt.osI rfl) | exact se rfl CEnt.opI | exact se_nilO rfl | exact se rfl (CEnt.agg2 (CEnt.refl _) (CEnt.refl _)) | exact se rfl (CEnt.agg3 (CEnt.refl _) (CEnt.refl _) (CEnt.refl _)) | exact se rfl (CEnt.agg4 (CEnt.refl _) (CEnt.refl _) (CEnt.refl _) (CEnt.refl _)) | exact se rfl (CEnt.agg5 (CEnt.refl _) (CEnt.refl _) (CEnt.refl _) (CEnt.refl _) (CEnt.refl _)) | exact se rfl (CEnt.agg6 (CEnt.refl _) (CEnt.refl _) (CEnt.refl _) (CEnt.refl _) (CEnt.refl _) (CEnt.refl _)) | exact se_frzB _ rfl rfl rfl (by simp) (fun _ _ => CEnt.refl _)) .nil)) rfl rfl ?_)
            refine q_rd (wanted_none rfl) rfl rfl (rd_assign (v := .c _) rfl rfl) ?_
            refine q_rd (wanted_none rfl) rfl rfl (rd_assign (v := .c _) rfl rfl) ?_
            refine q_rd (wanted_none rfl) rfl rfl (rd_assign (v := .c _) rfl rfl) ?_
            refine seq_nil ?_
            refine then_norm ?_
            refine code_seq ?_
            refine code_seq ?_
            have hb1 := cmpA_bd (parseM a).1 (parseM b).1
            have hn1 := cmpA_neg (parseM a).1 (parseM b).1
            refine code_region ?_
            refine q_rd (wanted_none rfl) rfl rfl (rd_move (v := .c _) rfl rfl) ?_
            refine q_rd (wanted_none rfl) rfl rfl (rd_move (v := .c _) rfl rfl) ?_
            refine seq_ex (wanted_none rfl) (e_callP rfl (by kernel_rfl) (ounder_ac a b (by omega) (by omega)) (.cons (by first | exact se rfl (CEnt.refl _) | exact se rfl CEnt.nil | exact se rfl CEnt.nilB | exact se rfl (CEnt.osI rfl) | exact se rfl CEnt.opI | exact se_nilO rfl | exact se rfl (CEnt.agg2 (CEnt.refl _) (CEnt.refl _)) | exact se rfl (CEnt.agg3 (CEnt.refl _) (CEnt.refl _) (CEnt.refl _)) | exact se rfl (CEnt.agg4 (CEnt.refl _) (CEnt.refl _) (CEnt.refl _) (CEnt.refl _)) | exact se rfl (CEnt.agg5 (CEnt.refl _) (CEnt.refl _) (CEnt.refl _) (CEnt.refl _) (CEnt.refl _)) | exact se rfl (CEnt.agg6 (CEnt.refl _) (CEnt.refl _) (CEnt.refl _) (CEnt.refl _) (CEnt.refl _) (CEnt.refl _)) | exact se_frzB _ rfl rfl rfl (by simp) (fun _ _ => CEnt.refl _)) (.cons (by first | exact se rfl (CEnt.refl _) | exact se rfl CEnt.nil | exact se rfl CEnt.nilB | exact se rfl (CEnt.osI rfl) | exact se rfl CEnt.opI | exact se_nilO rfl | exact se rfl (CEnt.agg2 (CEnt.refl _) (CEnt.refl _)) | exact se rfl (CEnt.agg3 (CEnt.refl _) (CEnt.refl _) (CEnt.refl _)) | exact se rfl (CEnt.agg4 (CEnt.refl _) (CEnt.refl _) (CEnt.refl _) (CEnt.refl _)) | exact se rfl (CEnt.agg5 (CEnt.refl _) (CEnt.refl _) (CEnt.refl _) (CEnt.refl _) (CEnt.refl _)) | exact se rfl (CEnt.agg6 (CEnt.refl _) (CEnt.refl _) (CEnt.refl _) (CEnt.refl _) (CEnt.refl _) (CEnt.refl _)) | exact se_frzB _ rfl rfl rfl (by simp) (fun _ _ => CEnt.refl _)) .nil)) rfl rfl ?_)
            refine q_rd (wanted_none rfl) rfl rfl (rd_move (v := .c _) rfl rfl) ?_
            refine q_rd (wanted_none rfl) rfl rfl (rd_neB rfl rfl rfl Tryd.underlying4) ?_
            refine q_rd (wanted_none rfl) rfl rfl (rd_move (v := .c _) rfl rfl) ?_
            first | refine seq_splitD (d := 73) rfl rfl (fun g93 => ?_) (fun g93 => ?_) | refine seq_split (d := 73) rfl rfl (fun g93 => ?_) (fun g93 => ?_)
            · refine q_skip (wanted_is rfl rfl rfl rfl false rfl) rfl rfl ?_
              refine q_skip (wanted_is rfl rfl rfl rfl false rfl) rfl rfl ?_
              refine q_skip (wanted_is rfl rfl rfl rfl false rfl) rfl rfl ?_
              refine q_skip (wanted_is rfl rfl rfl rfl false rfl) rfl rfl ?_
              refine q_skip (wanted_is rfl rfl rfl rfl false rfl) rfl rfl ?_
              refine q_rd (wanted_none rfl) rfl rfl (rd_pickT (v := .c _) rfl rfl rfl) ?_
              refine q_rd (wanted_none rfl) rfl rfl (rd_move (v := .c _) rfl rfl) ?_
              refine q_skip (wanted_is rfl rfl rfl rfl false rfl) rfl rfl ?_
              refine q_skip (wanted_is rfl rfl rfl rfl false rfl) rfl rfl ?_
              refine q_skip (wanted_is rfl rfl rfl rfl false rfl) rfl rfl ?_
              refine q_skip (wanted_is rfl rfl rfl rfl false rfl) rfl rfl ?_
              refine q_skip (wanted_is rfl rfl rfl rfl false rfl) rfl rfl ?_
              refine q_skip (wanted_is rfl rfl rfl rfl false rfl) rfl rfl ?_
              refine q_rd (wanted_none rfl) rfl rfl (rd_pickT (v := .c _) rfl rfl rfl) ?_
              refine seq_nil ?_
              refine then_norm ?_
              refine code_condT rfl ?_
              refine code_seq ?_
              refine code_region ?_
              refine q_rd (wanted_none rfl) rfl rfl (rd_assign (v := .c _) rfl rfl) ?_
              refine seq_nil ?_
              refine then_norm ?_
              refine code_ret ?_
              refine then_ret ?_
              refine end_val (.inl rfl) (res_1 rfl (arv_tmp rfl)) ?_
              exfalso
              first | (simp_all; done) | (simp_all; omega) | grind
            · refine q_rd (wanted_is rfl rfl rfl rfl true rfl) rfl rfl (rd_move (v := .c _) rfl rfl) ?_
              first | refine q_rd (wanted_is rfl rfl rfl rfl true rfl) rfl rfl (rd_move (v := .rs _ _ _) rfl rfl) ?_ | refine q_rd (wanted_is rfl rfl rfl rfl true rfl) rfl rfl (rd_move (v := .os _ _ _ _ _) rfl rfl) ?_ | refine q_rd (wanted_is rfl rfl rfl rfl true rfl) rfl rfl (rd_move (v := .c _) rfl rfl) ?_ | refine q_rd (wanted_is rfl rfl rfl rfl true rfl) rfl rfl (rd_move (v := .pv _) rfl rfl) ?_ | refine q_rd (wanted_is rfl rfl rfl rfl true rfl) rfl rfl (rd_move (v := .top) rfl rfl) ?_
              first | refine q_rd (wanted_is rfl rfl rfl rfl true rfl) rfl rfl (rd_move (v := .rs _ _ _) rfl rfl) ?_ | refine q_rd (wanted_is rfl rfl rfl rfl true rfl) rfl rfl (rd_move (v := .os _ _ _ _ _) rfl rfl) ?_ | refine q_rd (wanted_is rfl rfl rfl rfl true rfl) rfl rfl (rd_move (v := .c _) rfl rfl) ?_ | refine q_rd (wanted_is rfl rfl rfl rfl true rfl) rfl rfl (rd_move (v := .pv _) rfl rfl) ?_ | refine q_rd (wanted_is rfl rfl rfl rfl true rfl) rfl rfl (rd_move (v := .top) rfl rfl) ?_
              refine seq_ex (wanted_is rfl rfl rfl rfl true rfl) (e_callP rfl (by kernel_rfl) (rcmp_ac (parseM a).1 (parseM b).1) (.cons (by first | exact se rfl (CEnt.refl _) | exact se rfl CEnt.nil | exact se rfl CEnt.nilB | exact se rfl (CEnt.osI rfl) | exact se rfl CEnt.opI | exact se_nilO rfl | exact se rfl (CEnt.agg2 (CEnt.refl _) (CEnt.refl _)) | exact se rfl (CEnt.agg3 (CEnt.refl _) (CEnt.refl _) (CEnt.refl _)) | exact se rfl (CEnt.agg4 (CEnt.refl _) (CEnt.refl _) (CEnt.refl _) (CEnt.refl _)) | exact se rfl (CEnt.agg5 (CEnt.refl _) (CEnt.refl _) (CEnt.refl _) (CEnt.refl _) (CEnt.refl _)) | exact se rfl (CEnt.agg6 (CEnt.refl _) (CEnt.refl _) (CEnt.refl _) (CEnt.refl _) (CEnt.refl _) (CEnt.refl _)) | exact se_frzB _ rfl rfl rfl (by simp) (fun _ _ => CEnt.refl _)) (.cons (by first | exact se rfl (CEnt.refl _) | exact se rfl CEnt.nil | exact se rfl CEnt.nilB | exact se rfl (CEnt.osI rfl) | exact se rfl CEnt.opI | exact se_nilO rfl | exact se rfl (CEnt.agg2 (CEnt.refl _) (CEnt.refl _)) | exact se rfl (CEnt.agg3 (CEnt.refl _) (CEnt.refl _) (CEnt.refl _)) | exact se rfl (CEnt.agg4 (CEnt.refl _) (CEnt.refl _) (CEnt.refl _) (CEnt.refl _)) | exact se rfl (CEnt.agg5 (CEnt.refl _) (CEnt.refl _) (CEnt.refl _) (CEnt.refl _) (CEnt.refl _)) | exact se rfl (CEnt.agg6 (CEnt.refl _) (CEnt.refl _) (CEnt.refl _) (CEnt.refl _) (CEnt.refl _) (CEnt.refl _)) | exact se_frzB _ rfl rfl rfl (by simp) (fun _ _ => CEnt.refl _)) .nil)) rfl rfl ?_)
              refine q_rd (wanted_is rfl rfl rfl rfl true rfl) rfl rfl (rd_neI rfl rfl rfl) ?_
              refine q_rd (wanted_none rfl) rfl rfl (rd_pickF (v := .c _) rfl rfl rfl) ?_
              refine q_rd (wanted_none rfl) rfl rfl (rd_move (v := .c _) rfl rfl) ?_
              first | refine seq_splitD (d := 80) rfl rfl (fun g93_2 => ?_) (fun g93_2 => ?_) | refine seq_split (d := 80) rfl rfl (fun g93_2 => ?_) (fun g93_2 => ?_)
              · refine q_skip (wanted_is rfl rfl rfl rfl false rfl) rfl rfl ?_
                refine q_skip (wanted_is rfl rfl rfl rfl false rfl) rfl rfl ?_
                refine q_skip (wanted_is rfl rfl rfl rfl false rfl) rfl rfl ?_
                refine q_skip (wanted_is rfl rfl rfl rfl false rfl) rfl rfl ?_
                refine q_skip (wanted_is rfl rfl rfl rfl false rfl) rfl rfl ?_
                refine q_skip (wanted_is rfl rfl rfl rfl false rfl) rfl rfl ?_
                refine q_rd (wanted_none rfl) rfl rfl (rd_pickT (v := .c _) rfl rfl rfl) ?_
                refine seq_nil ?_
                refine then_norm ?_
                refine code_condT rfl ?_
                refine code_seq ?_
                refine code_region ?_
                refine q_rd (wanted_none rfl) rfl rfl (rd_assign (v := .c _) rfl rfl) ?_
                refine seq_nil ?_
                refine then_norm ?_
                refine code_ret ?_
                refine then_ret ?_
                refine end_val (.inl rfl) (res_1 rfl (arv_tmp rfl)) ?_
                exfalso
                first | (simp_all; done) | (simp_all; omega) | grind
              · refine q_rd (wanted_is rfl rfl rfl rfl true rfl) rfl rfl (rd_move (v := .c _) rfl rfl) ?_
                refine q_rd (wanted_is rfl rfl rfl rfl true rfl) rfl rfl (rd_move (v := .c _) rfl rfl) ?_
                refine seq_ex (wanted_is rfl rfl rfl rfl true rfl) (e_callP rfl (by kernel_rfl) (ocmp_ac b a (by omega) (by omega)) (.cons (by first | exact se rfl (CEnt.refl _) | exact se rfl CEnt.nil | exact se rfl CEnt.nilB | exact se rfl (CEnt.osI rfl) | exact se rfl CEnt.opI | exact se_nilO rfl | exact se rfl (CEnt.agg2 (CEnt.refl _) (CEnt.refl _)) | exact se rfl (CEnt.agg3 (CEnt.refl _) (CEnt.refl _) (CEnt.refl _)) | exact se rfl (CEnt.agg4 (CEnt.refl _) (CEnt.refl _) (CEnt.refl _) (CEnt.refl _)) | exact se rfl (CEnt.agg5 (CEnt.refl _) (CEnt.refl _) (CEnt.refl _) (CEnt.refl _) (CEnt.refl _)) | exact se rfl (CEnt.agg6 (CEnt.refl _) (CEnt.refl _) (CEnt.refl _) (CEnt.refl _) (CEnt.refl _) (CEnt.refl _)) | exact se_frzB _ rfl rfl rfl (by simp) (fun _ _ => CEnt.refl _)) (.cons (by first | exact se rfl (CEnt.refl _) | exact se rfl CEnt.nil | exact se rfl CEnt.nilB | exact se rfl (CEnt.osI rfl) | exact se rfl CEnt.opI | exact se_nilO rfl | exact se rfl (CEnt.agg2 (CEnt.refl _) (CEnt.refl _)) | exact se rfl (CEnt.agg3 (CEnt.refl _) (CEnt.refl _) (CEnt.refl _)) | exact se rfl (CEnt.agg4 (CEnt.refl _) (CEnt.refl _) (CEnt.refl _) (CEnt.refl _)) | exact se rfl (CEnt.agg5 (CEnt.refl _) (CEnt.refl _) (CEnt.refl _) (CEnt.refl _) (CEnt.refl _)) | exact se rfl (CEnt.agg6 (CEnt.refl _) (CEnt.refl _) (CEnt.refl _) (CEnt.refl _) (CEnt.refl _) (CEnt.refl _)) | exact se_frzB _ rfl rfl rfl (by simp) (fun _ _ => CEnt.refl _)) .nil)) rfl rfl ?_)
                refine q_rd (wanted_is rfl rfl rfl rfl true rfl) rfl rfl (rd_move (v := .c _) rfl rfl) ?_
                first | refine q_rd (wanted_is rfl rfl rfl rfl true rfl) rfl rfl (rd_neg rfl rfl _ (wrap_id (k := .i64) (by show _ ∧ _; (first | omega | decide | (dsimp only at *; omega))))) ?_ | refine q_rd (wanted_is rfl rfl rfl rfl true rfl) rfl rfl (rd_neg rfl rfl _ rfl) ?_
                refine q_rd (wanted_is rfl rfl rfl rfl true rfl) rfl rfl (rd_neI rfl rfl rfl) ?_
                refine q_rd (wanted_none rfl) rfl rfl (rd_pickF (v := .c _) rfl rfl rfl) ?_
                refine seq_nil ?_
                refine then_norm ?_
                first | refine code_condSD rfl rfl (fun h93 => ?_) (fun h93 => ?_) | refine code_condS rfl rfl (fun h93 => ?_) (fun h93 => ?_)
                · refine code_seq ?_
                  refine code_region ?_
                  refine q_rd (wanted_none rfl) rfl rfl (rd_assign (v := .c _) rfl rfl) ?_
                  refine seq_nil ?_
                  refine then_norm ?_
                  refine code_ret ?_
                  refine then_ret ?_
                  refine end_val (.inl rfl) (res_1 rfl (arv_tmp rfl)) ?_
                  exfalso
                  first | (simp_all; done) | (simp_all; omega) | grind
                · refine code_skip ?_
                  refine then_norm ?_
                  refine code_seq ?_
                  refine code_region ?_
                  refine q_rd (wanted_none rfl) rfl rfl (rd_move (v := .c _) rfl rfl) ?_
                  refine q_rd (wanted_none rfl) rfl rfl (rd_le rfl rfl rfl) ?_
                  refine q_rd (wanted_none rfl) rfl rfl (rd_move (v := .c _) rfl rfl) ?_
                  first | refine seq_splitD (d := 90) rfl rfl (fun g96 => ?_) (fun g96 => ?_) | refine seq_split (d := 90) rfl rfl (fun g96 => ?_) (fun g96 => ?_)
                  · refine q_rd (wanted_is rfl rfl rfl rfl true rfl) rfl rfl (rd_move (v := .c _) rfl rfl) ?_
                    refine q_rd (wanted_is rfl rfl rfl rfl true rfl) rfl rfl (rd_le rfl rfl rfl) ?_
                    refine q_rd (wanted_none rfl) rfl rfl (rd_pickT (v := .c _) rfl rfl rfl) ?_
                    first | refine q_rd (wanted_none rfl) rfl rfl (rd_notD rfl rfl) ?_ | refine q_rd (wanted_none rfl) rfl rfl (rd_not rfl rfl) ?_
                    refine q_rd (wanted_none rfl) rfl rfl (rd_move (v := .c _) rfl rfl) ?_
                    first | refine seq_splitD (d := 95) rfl rfl (fun g96_2 => ?_) (fun g96_2 => ?_) | refine seq_split (d := 95) rfl rfl (fun g96_2 => ?_) (fun g96_2 => ?_)
                    · refine q_skip (wanted_is rfl rfl rfl rfl false rfl) rfl rfl ?_
                      refine q_skip (wanted_is rfl rfl rfl rfl false rfl) rfl rfl ?_
                      refine q_rd (wanted_none rfl) rfl rfl (rd_pickT (v := .c _) rfl rfl rfl) ?_
                      refine q_rd (wanted_none rfl) rfl rfl (rd_assign (v := .c _) rfl rfl) ?_
                      refine seq_nil ?_
                      refine then_norm ?_
                      refine code_ret ?_
                      refine end_val (.inl rfl) (res_1 rfl (arv_tmp rfl)) ?_
                      refine CEnt.bool ?_
                      have ht := cmpA_trans (parseM a).1 (parseM b).1 (parseM c).1
                      first | (simp_all; done) | (simp_all; omega) | grind
                    · refine q_rd (wanted_is rfl rfl rfl rfl true rfl) rfl rfl (rd_move (v := .c _) rfl rfl) ?_
                      refine q_rd (wanted_is rfl rfl rfl rfl true rfl) rfl rfl (rd_le rfl rfl rfl) ?_
                      refine q_rd (wanted_none rfl) rfl rfl (rd_pickF (v := .c _) rfl rfl rfl) ?_
                      refine q_rd (wanted_none rfl) rfl rfl (rd_assign (v := .c _) rfl rfl) ?_
                      refine seq_nil ?_
                      refine then_norm ?_
                      refine code_ret ?_
                      refine end_val (.inl rfl) (res_1 rfl (arv_tmp rfl)) ?_
                      refine CEnt.bool ?_
                      have ht := cmpA_trans (parseM a).1 (parseM b).1 (parseM c).1
                      first | (simp_all; done) | (simp_all; omega) | grind
                  · refine q_skip (wanted_is rfl rfl rfl rfl false rfl) rfl rfl ?_
                    refine q_skip (wanted_is rfl rfl rfl rfl false rfl) rfl rfl ?_
                    refine q_rd (wanted_none rfl) rfl rfl (rd_pickF (v := .c _) rfl rfl rfl) ?_
                    first | refine q_rd (wanted_none rfl) rfl rfl (rd_notD rfl rfl) ?_ | refine q_rd (wanted_none rfl) rfl rfl (rd_not rfl rfl) ?_
                    refine q_rd (wanted_none rfl) rfl rfl (rd_move (v := .c _) rfl rfl) ?_
                    refine q_skip (wanted_is rfl rfl rfl rfl false rfl) rfl rfl ?_
                    refine q_skip (wanted_is rfl rfl rfl rfl false rfl) rfl rfl ?_
                    refine q_rd (wanted_none rfl) rfl rfl (rd_pickT (v := .c _) rfl rfl rfl) ?_
                    refine q_rd (wanted_none rfl) rfl rfl (rd_assign (v := .c _) rfl rfl) ?_
                    refine seq_nil ?_
                    refine then_norm ?_
                    refine code_ret ?_
                    refine end_val (.inl rfl) (res_1 rfl (arv_tmp rfl)) ?_
                    refine CEnt.bool ?_
                    have ht := cmpA_trans (parseM a).1 (parseM b).1 (parseM c).1
                    first | (simp_all; done) | (simp_all; omega) | grind
end Am
end Go.Proofs.YtghgbhekjgincaaDoor
