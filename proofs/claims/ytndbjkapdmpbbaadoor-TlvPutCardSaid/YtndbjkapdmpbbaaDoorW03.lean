/- Chapter 3: the contracts of package tlv and of its reference. -/
import Derived.Test.YtndbjkapdmpbbaaDoorSlB
import Derived.Test.YtndbjkapdmpbbaaDoorP03
import Derived.Test.YtndbjkapdmpbbaaDoorNumC
namespace Go.Proofs.YtndbjkapdmpbbaaDoor
set_option linter.unusedVariables false
namespace Am
variable {gs : List Nat} [OkG gs]
open Go.RowKit
set_option maxRecDepth 100000

theorem made_ac {gs : List Nat} (t : Int) : ACp gs Tryd.prog 162 [.c (.int .i64 t)] (.c (.bool (madeM t))) := by
  refine ac_of 17 Tryd.func162 rfl rfl rfl (fun al w0 F0 St0 => ?_)
  refine code_seq ?_
  refine code_region ?_
  refine q_rd (wanted_none rfl) rfl rfl (rd_assign (v := .c _) rfl rfl) ?_
  refine seq_nil ?_
  refine then_norm ?_
  refine code_seq ?_
  refine code_region ?_
  refine q_rd (wanted_none rfl) rfl rfl (rd_move (v := .c _) rfl rfl) ?_
  refine q_rd (wanted_none rfl) rfl rfl (rd_eqI rfl rfl rfl) ?_
  refine q_rd (wanted_none rfl) rfl rfl (rd_move (v := .c _) rfl rfl) ?_
  first | refine seq_splitD (d := 5) rfl rfl (fun g31 => ?_) (fun g31 => ?_) | refine seq_split (d := 5) rfl rfl (fun g31 => ?_) (fun g31 => ?_)
  · refine q_skip (wanted_is rfl rfl rfl rfl false rfl) rfl rfl ?_
    refine q_skip (wanted_is rfl rfl rfl rfl false rfl) rfl rfl ?_
    refine q_rd (wanted_none rfl) rfl rfl (rd_pickT (v := .c _) rfl rfl rfl) ?_
    refine q_rd (wanted_none rfl) rfl rfl (rd_move (v := .c _) rfl rfl) ?_
    refine q_skip (wanted_is rfl rfl rfl rfl false rfl) rfl rfl ?_
    refine q_skip (wanted_is rfl rfl rfl rfl false rfl) rfl rfl ?_
    refine q_skip (wanted_is rfl rfl rfl rfl false rfl) rfl rfl ?_
    refine q_skip (wanted_undef rfl rfl rfl rfl) rfl rfl ?_
    refine q_skip (wanted_undef rfl rfl rfl rfl) rfl rfl ?_
    refine q_skip (wanted_is rfl rfl rfl rfl false rfl) rfl rfl ?_
    refine q_rd (wanted_none rfl) rfl rfl (rd_pickT (v := .c _) rfl rfl rfl) ?_
    refine q_rd (wanted_none rfl) rfl rfl (rd_assign (v := .c _) rfl rfl) ?_
    refine seq_nil ?_
    refine then_norm ?_
    refine code_ret ?_
    refine end_val (.inl rfl) (res_1 rfl (arv_tmp rfl)) ?_
    refine CEnt.bool ?_
    first | (simp [madeM, *]; done) | (simp [madeM]; omega) | (simp [madeM, *]; omega) | (simp [madeM] at *; omega) | (simp [madeM] at *; done)
  · refine q_rd (wanted_is rfl rfl rfl rfl true rfl) rfl rfl (rd_move (v := .c _) rfl rfl) ?_
    refine q_rd (wanted_is rfl rfl rfl rfl true rfl) rfl rfl (rd_eqI rfl rfl rfl) ?_
    refine q_rd (wanted_none rfl) rfl rfl (rd_pickF (v := .c _) rfl rfl rfl) ?_
    refine q_rd (wanted_none rfl) rfl rfl (rd_move (v := .c _) rfl rfl) ?_
    first | refine seq_splitD (d := 9) rfl rfl (fun g31_2 => ?_) (fun g31_2 => ?_) | refine seq_split (d := 9) rfl rfl (fun g31_2 => ?_) (fun g31_2 => ?_)
    · refine q_skip (wanted_is rfl rfl rfl rfl false rfl) rfl rfl ?_
      refine q_skip (wanted_is rfl rfl rfl rfl false rfl) rfl rfl ?_
      refine q_skip (wanted_is rfl rfl rfl rfl false rfl) rfl rfl ?_
      refine q_skip (wanted_undef rfl rfl rfl rfl) rfl rfl ?_
      refine q_skip (wanted_undef rfl rfl rfl rfl) rfl rfl ?_
      refine q_skip (wanted_is rfl rfl rfl rfl false rfl) rfl rfl ?_
      refine q_rd (wanted_none rfl) rfl rfl (rd_pickT (v := .c _) rfl rfl rfl) ?_
      refine q_rd (wanted_none rfl) rfl rfl (rd_assign (v := .c _) rfl rfl) ?_
      refine seq_nil ?_
      refine then_norm ?_
      refine code_ret ?_
      refine end_val (.inl rfl) (res_1 rfl (arv_tmp rfl)) ?_
      refine CEnt.bool ?_
      first | (simp [madeM, *]; done) | (simp [madeM]; omega) | (simp [madeM, *]; omega) | (simp [madeM] at *; omega) | (simp [madeM] at *; done)
    · refine q_rd (wanted_is rfl rfl rfl rfl true rfl) rfl rfl (rd_move (v := .c _) rfl rfl) ?_
      refine q_rd (wanted_is rfl rfl rfl rfl true rfl) rfl rfl (rd_ge rfl rfl rfl) ?_
      refine q_rd (wanted_is rfl rfl rfl rfl true rfl) rfl rfl (rd_move (v := .c _) rfl rfl) ?_
      first | refine seq_splitD (d := 12) rfl rfl (fun g31_3 => ?_) (fun g31_3 => ?_) | refine seq_split (d := 12) rfl rfl (fun g31_3 => ?_) (fun g31_3 => ?_)
      · refine q_rd (wanted_is rfl rfl rfl rfl true rfl) rfl rfl (rd_move (v := .c _) rfl rfl) ?_
        refine q_rd (wanted_is rfl rfl rfl rfl true rfl) rfl rfl (rd_lt rfl rfl rfl) ?_
        refine q_rd (wanted_is rfl rfl rfl rfl true rfl) rfl rfl (rd_pickT (v := .c _) rfl rfl rfl) ?_
        refine q_rd (wanted_none rfl) rfl rfl (rd_pickF (v := .c _) rfl rfl rfl) ?_
        refine q_rd (wanted_none rfl) rfl rfl (rd_assign (v := .c _) rfl rfl) ?_
        refine seq_nil ?_
        refine then_norm ?_
        refine code_ret ?_
        refine end_val (.inl rfl) (res_1 rfl (arv_tmp rfl)) ?_
        refine CEnt.bool ?_
        first | (simp [madeM, *]; done) | (simp [madeM]; omega) | (simp [madeM, *]; omega) | (simp [madeM] at *; omega) | (simp [madeM] at *; done)
      · refine q_skip (wanted_is rfl rfl rfl rfl false rfl) rfl rfl ?_
        refine q_skip (wanted_is rfl rfl rfl rfl false rfl) rfl rfl ?_
        refine q_rd (wanted_is rfl rfl rfl rfl true rfl) rfl rfl (rd_pickF (v := .c _) rfl rfl rfl) ?_
        refine q_rd (wanted_none rfl) rfl rfl (rd_pickF (v := .c _) rfl rfl rfl) ?_
        refine q_rd (wanted_none rfl) rfl rfl (rd_assign (v := .c _) rfl rfl) ?_
        refine seq_nil ?_
        refine then_norm ?_
        refine code_ret ?_
        refine end_val (.inl rfl) (res_1 rfl (arv_tmp rfl)) ?_
        refine CEnt.bool ?_
        first | (simp [madeM, *]; done) | (simp [madeM]; omega) | (simp [madeM, *]; omega) | (simp [madeM] at *; omega) | (simp [madeM] at *; done)
theorem rmade_ac {gs : List Nat} (t : Int) : ACp gs Tryd.prog 127 [.c (.int .i64 t)] (.c (.bool (madeM t))) := by
  refine ac_of 17 Tryd.func127 rfl rfl rfl (fun al w0 F0 St0 => ?_)
  refine code_seq ?_
  refine code_region ?_
  refine q_rd (wanted_none rfl) rfl rfl (rd_assign (v := .c _) rfl rfl) ?_
  refine seq_nil ?_
  refine then_norm ?_
  refine code_seq ?_
  refine code_region ?_
  refine q_rd (wanted_none rfl) rfl rfl (rd_move (v := .c _) rfl rfl) ?_
  refine q_rd (wanted_none rfl) rfl rfl (rd_eqI rfl rfl rfl) ?_
  refine q_rd (wanted_none rfl) rfl rfl (rd_move (v := .c _) rfl rfl) ?_
  first | refine seq_splitD (d := 5) rfl rfl (fun g13 => ?_) (fun g13 => ?_) | refine seq_split (d := 5) rfl rfl (fun g13 => ?_) (fun g13 => ?_)
  · refine q_skip (wanted_is rfl rfl rfl rfl false rfl) rfl rfl ?_
    refine q_skip (wanted_is rfl rfl rfl rfl false rfl) rfl rfl ?_
    refine q_rd (wanted_none rfl) rfl rfl (rd_pickT (v := .c _) rfl rfl rfl) ?_
    refine q_rd (wanted_none rfl) rfl rfl (rd_move (v := .c _) rfl rfl) ?_
    refine q_skip (wanted_is rfl rfl rfl rfl false rfl) rfl rfl ?_
    refine q_skip (wanted_is rfl rfl rfl rfl false rfl) rfl rfl ?_
    refine q_skip (wanted_is rfl rfl rfl rfl false rfl) rfl rfl ?_
    refine q_skip (wanted_undef rfl rfl rfl rfl) rfl rfl ?_
    refine q_skip (wanted_undef rfl rfl rfl rfl) rfl rfl ?_
    refine q_skip (wanted_is rfl rfl rfl rfl false rfl) rfl rfl ?_
    refine q_rd (wanted_none rfl) rfl rfl (rd_pickT (v := .c _) rfl rfl rfl) ?_
    refine q_rd (wanted_none rfl) rfl rfl (rd_assign (v := .c _) rfl rfl) ?_
    refine seq_nil ?_
    refine then_norm ?_
    refine code_ret ?_
    refine end_val (.inl rfl) (res_1 rfl (arv_tmp rfl)) ?_
    refine CEnt.bool ?_
    first | (simp [madeM, *]; done) | (simp [madeM]; omega) | (simp [madeM, *]; omega) | (simp [madeM] at *; omega) | (simp [madeM] at *; done)
  · refine q_rd (wanted_is rfl rfl rfl rfl true rfl) rfl rfl (rd_move (v := .c _) rfl rfl) ?_
    refine q_rd (wanted_is rfl rfl rfl rfl true rfl) rfl rfl (rd_eqI rfl rfl rfl) ?_
    refine q_rd (wanted_none rfl) rfl rfl (rd_pickF (v := .c _) rfl rfl rfl) ?_
    refine q_rd (wanted_none rfl) rfl rfl (rd_move (v := .c _) rfl rfl) ?_
    first | refine seq_splitD (d := 9) rfl rfl (fun g13_2 => ?_) (fun g13_2 => ?_) | refine seq_split (d := 9) rfl rfl (fun g13_2 => ?_) (fun g13_2 => ?_)
    · refine q_skip (wanted_is rfl rfl rfl rfl false rfl) rfl rfl ?_
      refine q_skip (wanted_is rfl rfl rfl rfl false rfl) rfl rfl ?_
      refine q_skip (wanted_is rfl rfl rfl rfl false rfl) rfl rfl ?_
      refine q_skip (wanted_undef rfl rfl rfl rfl) rfl rfl ?_
      refine q_skip (wanted_undef rfl rfl rfl rfl) rfl rfl ?_
      refine q_skip (wanted_is rfl rfl rfl rfl false rfl) rfl rfl ?_
      refine q_rd (wanted_none rfl) rfl rfl (rd_pickT (v := .c _) rfl rfl rfl) ?_
      refine q_rd (wanted_none rfl) rfl rfl (rd_assign (v := .c _) rfl rfl) ?_
      refine seq_nil ?_
      refine then_norm ?_
      refine code_ret ?_
      refine end_val (.inl rfl) (res_1 rfl (arv_tmp rfl)) ?_
      refine CEnt.bool ?_
      first | (simp [madeM, *]; done) | (simp [madeM]; omega) | (simp [madeM, *]; omega) | (simp [madeM] at *; omega) | (simp [madeM] at *; done)
    · refine q_rd (wanted_is rfl rfl rfl rfl true rfl) rfl rfl (rd_move (v := .c _) rfl rfl) ?_
      refine q_rd (wanted_is rfl rfl rfl rfl true rfl) rfl rfl (rd_ge rfl rfl rfl) ?_
      refine q_rd (wanted_is rfl rfl rfl rfl true rfl) rfl rfl (rd_move (v := .c _) rfl rfl) ?_
      first | refine seq_splitD (d := 12) rfl rfl (fun g13_3 => ?_) (fun g13_3 => ?_) | refine seq_split (d := 12) rfl rfl (fun g13_3 => ?_) (fun g13_3 => ?_)
      · refine q_rd (wanted_is rfl rfl rfl rfl true rfl) rfl rfl (rd_move (v := .c _) rfl rfl) ?_
        refine q_rd (wanted_is rfl rfl rfl rfl true rfl) rfl rfl (rd_le rfl rfl rfl) ?_
        refine q_rd (wanted_is rfl rfl rfl rfl true rfl) rfl rfl (rd_pickT (v := .c _) rfl rfl rfl) ?_
        refine q_rd (wanted_none rfl) rfl rfl (rd_pickF (v := .c _) rfl rfl rfl) ?_
        refine q_rd (wanted_none rfl) rfl rfl (rd_assign (v := .c _) rfl rfl) ?_
        refine seq_nil ?_
        refine then_norm ?_
        refine code_ret ?_
        refine end_val (.inl rfl) (res_1 rfl (arv_tmp rfl)) ?_
        refine CEnt.bool ?_
        first | (simp [madeM, *]; done) | (simp [madeM]; omega) | (simp [madeM, *]; omega) | (simp [madeM] at *; omega) | (simp [madeM] at *; done)
      · refine q_skip (wanted_is rfl rfl rfl rfl false rfl) rfl rfl ?_
        refine q_skip (wanted_is rfl rfl rfl rfl false rfl) rfl rfl ?_
        refine q_rd (wanted_is rfl rfl rfl rfl true rfl) rfl rfl (rd_pickF (v := .c _) rfl rfl rfl) ?_
        refine q_rd (wanted_none rfl) rfl rfl (rd_pickF (v := .c _) rfl rfl rfl) ?_
        refine q_rd (wanted_none rfl) rfl rfl (rd_assign (v := .c _) rfl rfl) ?_
        refine seq_nil ?_
        refine then_norm ?_
        refine code_ret ?_
        refine end_val (.inl rfl) (res_1 rfl (arv_tmp rfl)) ?_
        refine CEnt.bool ?_
        first | (simp [madeM, *]; done) | (simp [madeM]; omega) | (simp [madeM, *]; omega) | (simp [madeM] at *; omega) | (simp [madeM] at *; done)
theorem plain_ac {gs : List Nat} : ACp gs Tryd.prog 164 [] (isC plainT) := by
  refine ac_of 2 Tryd.func164 rfl rfl rfl (fun al w0 F0 St0 => ?_)
  refine code_seq ?_
  refine code_region ?_
  first | refine q_rd (wanted_none rfl) rfl rfl (rd_assign (v := .rs _ _ _) rfl rfl) ?_ | refine q_rd (wanted_none rfl) rfl rfl (rd_assign (v := .os _ _ _ _ _) rfl rfl) ?_ | refine q_rd (wanted_none rfl) rfl rfl (rd_assign (v := .c _) rfl rfl) ?_ | refine q_rd (wanted_none rfl) rfl rfl (rd_assign (v := .pv _) rfl rfl) ?_ | refine q_rd (wanted_none rfl) rfl rfl (rd_assign (v := .top) rfl rfl) ?_
  refine seq_nil ?_
  refine then_norm ?_
  refine code_seq ?_
  refine code_region ?_
  refine seq_ex (wanted_none rfl) (e_buildSlice (n := 9) rfl Tryd.underlying100 sz3 zr3 rfl rfl rfl rfl rfl rfl rfl (fun p1 => ?_))
  first | refine q_rd (wanted_none rfl) rfl rfl (rd_assign (v := .rs _ _ _) rfl rfl) ?_ | refine q_rd (wanted_none rfl) rfl rfl (rd_assign (v := .os _ _ _ _ _) rfl rfl) ?_ | refine q_rd (wanted_none rfl) rfl rfl (rd_assign (v := .c _) rfl rfl) ?_ | refine q_rd (wanted_none rfl) rfl rfl (rd_assign (v := .pv _) rfl rfl) ?_ | refine q_rd (wanted_none rfl) rfl rfl (rd_assign (v := .top) rfl rfl) ?_
  refine seq_nil ?_
  refine then_norm ?_
  refine code_ent (freeze 0 rfl) ?_
  refine code_ent (thawIL 0 (plainT) rfl rfl rfl rfl (fun j hj => fl_ints (plainT) j hj)) ?_
  refine code_ret ?_
  refine end_val (.inl rfl) (res_1 rfl (arv_tmp rfl)) ?_
  exact CEnt.refl _
theorem known_ac {gs : List Nat} (t : Int) : ACp gs Tryd.prog 124 [.c (.int .i64 t)] (.c (.bool (knownM t))) := by
  refine ac_of 10 Tryd.func124 rfl rfl rfl (fun al w0 F0 St0 => ?_)
  refine code_seq ?_
  refine code_region ?_
  refine q_rd (wanted_none rfl) rfl rfl (rd_assign (v := .c _) rfl rfl) ?_
  refine seq_nil ?_
  refine then_norm ?_
  refine code_seq ?_
  refine code_region ?_
  refine q_rd (wanted_none rfl) rfl rfl (rd_move (v := .c _) rfl rfl) ?_
  refine seq_ex (wanted_none rfl) (e_callP rfl (by kernel_rfl) (made_ac _) (.cons (by first | exact se rfl (CEnt.refl _) | exact se rfl CEnt.nil | exact se rfl CEnt.nilB | exact se rfl (CEnt.osI rfl) | exact se rfl CEnt.opI | exact se_nilO rfl | exact se rfl (CEnt.agg2 (CEnt.refl _) (CEnt.refl _)) | exact se rfl (CEnt.agg3 (CEnt.refl _) (CEnt.refl _) (CEnt.refl _)) | exact se rfl (CEnt.agg4 (CEnt.refl _) (CEnt.refl _) (CEnt.refl _) (CEnt.refl _)) | exact se rfl (CEnt.agg5 (CEnt.refl _) (CEnt.refl _) (CEnt.refl _) (CEnt.refl _) (CEnt.refl _)) | exact se rfl (CEnt.agg6 (CEnt.refl _) (CEnt.refl _) (CEnt.refl _) (CEnt.refl _) (CEnt.refl _) (CEnt.refl _)) | exact se_frzB _ rfl rfl rfl (by simp) (fun _ _ => CEnt.refl _)) .nil) rfl rfl ?_)
  refine q_rd (wanted_none rfl) rfl rfl (rd_move (v := .c _) rfl rfl) ?_
  first | refine seq_splitD (d := 5) rfl rfl (fun g35 => ?_) (fun g35 => ?_) | refine seq_split (d := 5) rfl rfl (fun g35 => ?_) (fun g35 => ?_)
  · refine q_skip (wanted_is rfl rfl rfl rfl false rfl) rfl rfl ?_
    refine q_skip (wanted_is rfl rfl rfl rfl false rfl) rfl rfl ?_
    refine q_skip (wanted_is rfl rfl rfl rfl false rfl) rfl rfl ?_
    refine q_rd (wanted_none rfl) rfl rfl (rd_pickT (v := .c _) rfl rfl rfl) ?_
    refine q_rd (wanted_none rfl) rfl rfl (rd_assign (v := .c _) rfl rfl) ?_
    refine seq_nil ?_
    refine then_norm ?_
    refine code_ret ?_
    refine end_val (.inl rfl) (res_1 rfl (arv_tmp rfl)) ?_
    refine CEnt.bool ?_
    try rw [plain_known]
    first | (simp [knownM, madeM, *]; done) | (simp [knownM, madeM]; omega) | (simp [knownM, madeM, *]; omega) | (simp [knownM, madeM] at *; omega) | (simp [knownM, madeM] at *; done)
  · refine seq_ex (wanted_is rfl rfl rfl rfl true rfl) (e_callP rfl (by kernel_rfl) (plain_ac) .nil rfl rfl ?_)
    refine q_rd (wanted_is rfl rfl rfl rfl true rfl) rfl rfl (rd_move (v := .c _) rfl rfl) ?_
    refine seq_ex (wanted_is rfl rfl rfl rfl true rfl) (e_callP rfl (by kernel_rfl) (contains64_ac plainT t) (.cons (by first | exact se rfl (CEnt.refl _) | exact se rfl CEnt.nil | exact se rfl CEnt.nilB | exact se rfl (CEnt.osI rfl) | exact se rfl CEnt.opI | exact se_nilO rfl | exact se rfl (CEnt.agg2 (CEnt.refl _) (CEnt.refl _)) | exact se rfl (CEnt.agg3 (CEnt.refl _) (CEnt.refl _) (CEnt.refl _)) | exact se rfl (CEnt.agg4 (CEnt.refl _) (CEnt.refl _) (CEnt.refl _) (CEnt.refl _)) | exact se rfl (CEnt.agg5 (CEnt.refl _) (CEnt.refl _) (CEnt.refl _) (CEnt.refl _) (CEnt.refl _)) | exact se rfl (CEnt.agg6 (CEnt.refl _) (CEnt.refl _) (CEnt.refl _) (CEnt.refl _) (CEnt.refl _) (CEnt.refl _)) | exact se_frzB _ rfl rfl rfl (by simp) (fun _ _ => CEnt.refl _)) (.cons (by first | exact se rfl (CEnt.refl _) | exact se rfl CEnt.nil | exact se rfl CEnt.nilB | exact se rfl (CEnt.osI rfl) | exact se rfl CEnt.opI | exact se_nilO rfl | exact se rfl (CEnt.agg2 (CEnt.refl _) (CEnt.refl _)) | exact se rfl (CEnt.agg3 (CEnt.refl _) (CEnt.refl _) (CEnt.refl _)) | exact se rfl (CEnt.agg4 (CEnt.refl _) (CEnt.refl _) (CEnt.refl _) (CEnt.refl _)) | exact se rfl (CEnt.agg5 (CEnt.refl _) (CEnt.refl _) (CEnt.refl _) (CEnt.refl _) (CEnt.refl _)) | exact se rfl (CEnt.agg6 (CEnt.refl _) (CEnt.refl _) (CEnt.refl _) (CEnt.refl _) (CEnt.refl _) (CEnt.refl _)) | exact se_frzB _ rfl rfl rfl (by simp) (fun _ _ => CEnt.refl _)) .nil)) rfl rfl ?_)
    refine q_rd (wanted_none rfl) rfl rfl (rd_pickF (v := .c _) rfl rfl rfl) ?_
    refine q_rd (wanted_none rfl) rfl rfl (rd_assign (v := .c _) rfl rfl) ?_
    refine seq_nil ?_
    refine then_norm ?_
    refine code_ret ?_
    refine end_val (.inl rfl) (res_1 rfl (arv_tmp rfl)) ?_
    refine CEnt.bool ?_
    try rw [plain_known]
    first | (simp [knownM, madeM, *]; done) | (simp [knownM, madeM]; omega) | (simp [knownM, madeM, *]; omega) | (simp [knownM, madeM] at *; omega) | (simp [knownM, madeM] at *; done)
theorem rknown_ac {gs : List Nat} (t : Int) : ACp gs Tryd.prog 62 [.c (.int .i64 t)] (.c (.bool (knownM t))) := by
  refine ac_of 25 Tryd.func62 rfl rfl rfl (fun al w0 F0 St0 => ?_)
  refine code_seq ?_
  refine code_region ?_
  refine q_rd (wanted_none rfl) rfl rfl (rd_assign (v := .c _) rfl rfl) ?_
  refine seq_nil ?_
  refine then_norm ?_
  refine code_seq ?_
  refine code_region ?_
  refine q_rd (wanted_none rfl) rfl rfl (rd_move (v := .c _) rfl rfl) ?_
  refine seq_ex (wanted_none rfl) (e_callP rfl (by kernel_rfl) (rmade_ac _) (.cons (by first | exact se rfl (CEnt.refl _) | exact se rfl CEnt.nil | exact se rfl CEnt.nilB | exact se rfl (CEnt.osI rfl) | exact se rfl CEnt.opI | exact se_nilO rfl | exact se rfl (CEnt.agg2 (CEnt.refl _) (CEnt.refl _)) | exact se rfl (CEnt.agg3 (CEnt.refl _) (CEnt.refl _) (CEnt.refl _)) | exact se rfl (CEnt.agg4 (CEnt.refl _) (CEnt.refl _) (CEnt.refl _) (CEnt.refl _)) | exact se rfl (CEnt.agg5 (CEnt.refl _) (CEnt.refl _) (CEnt.refl _) (CEnt.refl _) (CEnt.refl _)) | exact se rfl (CEnt.agg6 (CEnt.refl _) (CEnt.refl _) (CEnt.refl _) (CEnt.refl _) (CEnt.refl _) (CEnt.refl _)) | exact se_frzB _ rfl rfl rfl (by simp) (fun _ _ => CEnt.refl _)) .nil) rfl rfl ?_)
  refine q_rd (wanted_none rfl) rfl rfl (rd_move (v := .c _) rfl rfl) ?_
  first | refine seq_splitD (d := 5) rfl rfl (fun g16 => ?_) (fun g16 => ?_) | refine seq_split (d := 5) rfl rfl (fun g16 => ?_) (fun g16 => ?_)
  · refine q_skip (wanted_is rfl rfl rfl rfl false rfl) rfl rfl ?_
    refine q_skip (wanted_is rfl rfl rfl rfl false rfl) rfl rfl ?_
    refine q_skip (wanted_is rfl rfl rfl rfl false rfl) rfl rfl ?_
    refine q_skip (wanted_undef rfl rfl rfl rfl) rfl rfl ?_
    refine q_skip (wanted_undef rfl rfl rfl rfl) rfl rfl ?_
    refine q_skip (wanted_is rfl rfl rfl rfl false rfl) rfl rfl ?_
    refine q_rd (wanted_none rfl) rfl rfl (rd_pickT (v := .c _) rfl rfl rfl) ?_
    refine q_rd (wanted_none rfl) rfl rfl (rd_move (v := .c _) rfl rfl) ?_
    refine q_skip (wanted_is rfl rfl rfl rfl false rfl) rfl rfl ?_
    refine q_skip (wanted_is rfl rfl rfl rfl false rfl) rfl rfl ?_
    refine q_rd (wanted_none rfl) rfl rfl (rd_pickT (v := .c _) rfl rfl rfl) ?_
    refine q_rd (wanted_none rfl) rfl rfl (rd_move (v := .c _) rfl rfl) ?_
    refine q_skip (wanted_is rfl rfl rfl rfl false rfl) rfl rfl ?_
    refine q_skip (wanted_is rfl rfl rfl rfl false rfl) rfl rfl ?_
    refine q_rd (wanted_none rfl) rfl rfl (rd_pickT (v := .c _) rfl rfl rfl) ?_
    refine q_rd (wanted_none rfl) rfl rfl (rd_move (v := .c _) rfl rfl) ?_
    refine q_skip (wanted_is rfl rfl rfl rfl false rfl) rfl rfl ?_
    refine q_skip (wanted_is rfl rfl rfl rfl false rfl) rfl rfl ?_
    refine q_rd (wanted_none rfl) rfl rfl (rd_pickT (v := .c _) rfl rfl rfl) ?_
    refine q_rd (wanted_none rfl) rfl rfl (rd_assign (v := .c _) rfl rfl) ?_
    refine seq_nil ?_
    refine then_norm ?_
    refine code_ret ?_
    refine end_val (.inl rfl) (res_1 rfl (arv_tmp rfl)) ?_
    refine CEnt.bool ?_
    first | (simp [knownM, madeM, *]; done) | (simp [knownM, madeM]; omega) | (simp [knownM, madeM, *]; omega) | (simp [knownM, madeM] at *; omega) | (simp [knownM, madeM] at *; done)
  · refine q_rd (wanted_is rfl rfl rfl rfl true rfl) rfl rfl (rd_move (v := .c _) rfl rfl) ?_
    refine q_rd (wanted_is rfl rfl rfl rfl true rfl) rfl rfl (rd_ge rfl rfl rfl) ?_
    refine q_rd (wanted_is rfl rfl rfl rfl true rfl) rfl rfl (rd_move (v := .c _) rfl rfl) ?_
    first | refine seq_splitD (d := 8) rfl rfl (fun g16_2 => ?_) (fun g16_2 => ?_) | refine seq_split (d := 8) rfl rfl (fun g16_2 => ?_) (fun g16_2 => ?_)
    · refine q_rd (wanted_is rfl rfl rfl rfl true rfl) rfl rfl (rd_move (v := .c _) rfl rfl) ?_
      refine q_rd (wanted_is rfl rfl rfl rfl true rfl) rfl rfl (rd_le rfl rfl rfl) ?_
      refine q_rd (wanted_is rfl rfl rfl rfl true rfl) rfl rfl (rd_pickT (v := .c _) rfl rfl rfl) ?_
      refine q_rd (wanted_none rfl) rfl rfl (rd_pickF (v := .c _) rfl rfl rfl) ?_
      refine q_rd (wanted_none rfl) rfl rfl (rd_move (v := .c _) rfl rfl) ?_
      first | refine seq_splitD (d := 13) rfl rfl (fun g16_3 => ?_) (fun g16_3 => ?_) | refine seq_split (d := 13) rfl rfl (fun g16_3 => ?_) (fun g16_3 => ?_)
      · refine q_skip (wanted_is rfl rfl rfl rfl false rfl) rfl rfl ?_
        refine q_skip (wanted_is rfl rfl rfl rfl false rfl) rfl rfl ?_
        refine q_rd (wanted_none rfl) rfl rfl (rd_pickT (v := .c _) rfl rfl rfl) ?_
        refine q_rd (wanted_none rfl) rfl rfl (rd_move (v := .c _) rfl rfl) ?_
        refine q_skip (wanted_is rfl rfl rfl rfl false rfl) rfl rfl ?_
        refine q_skip (wanted_is rfl rfl rfl rfl false rfl) rfl rfl ?_
        refine q_rd (wanted_none rfl) rfl rfl (rd_pickT (v := .c _) rfl rfl rfl) ?_
        refine q_rd (wanted_none rfl) rfl rfl (rd_move (v := .c _) rfl rfl) ?_
        refine q_skip (wanted_is rfl rfl rfl rfl false rfl) rfl rfl ?_
        refine q_skip (wanted_is rfl rfl rfl rfl false rfl) rfl rfl ?_
        refine q_rd (wanted_none rfl) rfl rfl (rd_pickT (v := .c _) rfl rfl rfl) ?_
        refine q_rd (wanted_none rfl) rfl rfl (rd_assign (v := .c _) rfl rfl) ?_
        refine seq_nil ?_
        refine then_norm ?_
        refine code_ret ?_
        refine end_val (.inl rfl) (res_1 rfl (arv_tmp rfl)) ?_
        refine CEnt.bool ?_
        first | (simp [knownM, madeM, *]; done) | (simp [knownM, madeM]; omega) | (simp [knownM, madeM, *]; omega) | (simp [knownM, madeM] at *; omega) | (simp [knownM, madeM] at *; done)
      · refine q_rd (wanted_is rfl rfl rfl rfl true rfl) rfl rfl (rd_move (v := .c _) rfl rfl) ?_
        refine q_rd (wanted_is rfl rfl rfl rfl true rfl) rfl rfl (rd_eqI rfl rfl rfl) ?_
        refine q_rd (wanted_none rfl) rfl rfl (rd_pickF (v := .c _) rfl rfl rfl) ?_
        refine q_rd (wanted_none rfl) rfl rfl (rd_move (v := .c _) rfl rfl) ?_
        first | refine seq_splitD (d := 17) rfl rfl (fun g16_4 => ?_) (fun g16_4 => ?_) | refine seq_split (d := 17) rfl rfl (fun g16_4 => ?_) (fun g16_4 => ?_)
        · refine q_skip (wanted_is rfl rfl rfl rfl false rfl) rfl rfl ?_
          refine q_skip (wanted_is rfl rfl rfl rfl false rfl) rfl rfl ?_
          refine q_rd (wanted_none rfl) rfl rfl (rd_pickT (v := .c _) rfl rfl rfl) ?_
          refine q_rd (wanted_none rfl) rfl rfl (rd_move (v := .c _) rfl rfl) ?_
          refine q_skip (wanted_is rfl rfl rfl rfl false rfl) rfl rfl ?_
          refine q_skip (wanted_is rfl rfl rfl rfl false rfl) rfl rfl ?_
          refine q_rd (wanted_none rfl) rfl rfl (rd_pickT (v := .c _) rfl rfl rfl) ?_
          refine q_rd (wanted_none rfl) rfl rfl (rd_assign (v := .c _) rfl rfl) ?_
          refine seq_nil ?_
          refine then_norm ?_
          refine code_ret ?_
          refine end_val (.inl rfl) (res_1 rfl (arv_tmp rfl)) ?_
          refine CEnt.bool ?_
          first | (simp [knownM, madeM, *]; done) | (simp [knownM, madeM]; omega) | (simp [knownM, madeM, *]; omega) | (simp [knownM, madeM] at *; omega) | (simp [knownM, madeM] at *; done)
        · refine q_rd (wanted_is rfl rfl rfl rfl true rfl) rfl rfl (rd_move (v := .c _) rfl rfl) ?_
          refine q_rd (wanted_is rfl rfl rfl rfl true rfl) rfl rfl (rd_eqI rfl rfl rfl) ?_
          refine q_rd (wanted_none rfl) rfl rfl (rd_pickF (v := .c _) rfl rfl rfl) ?_
          refine q_rd (wanted_none rfl) rfl rfl (rd_move (v := .c _) rfl rfl) ?_
          first | refine seq_splitD (d := 21) rfl rfl (fun g16_5 => ?_) (fun g16_5 => ?_) | refine seq_split (d := 21) rfl rfl (fun g16_5 => ?_) (fun g16_5 => ?_)
          · refine q_skip (wanted_is rfl rfl rfl rfl false rfl) rfl rfl ?_
            refine q_skip (wanted_is rfl rfl rfl rfl false rfl) rfl rfl ?_
            refine q_rd (wanted_none rfl) rfl rfl (rd_pickT (v := .c _) rfl rfl rfl) ?_
            refine q_rd (wanted_none rfl) rfl rfl (rd_assign (v := .c _) rfl rfl) ?_
            refine seq_nil ?_
            refine then_norm ?_
            refine code_ret ?_
            refine end_val (.inl rfl) (res_1 rfl (arv_tmp rfl)) ?_
            refine CEnt.bool ?_
            first | (simp [knownM, madeM, *]; done) | (simp [knownM, madeM]; omega) | (simp [knownM, madeM, *]; omega) | (simp [knownM, madeM] at *; omega) | (simp [knownM, madeM] at *; done)
          · refine q_rd (wanted_is rfl rfl rfl rfl true rfl) rfl rfl (rd_move (v := .c _) rfl rfl) ?_
            refine q_rd (wanted_is rfl rfl rfl rfl true rfl) rfl rfl (rd_eqI rfl rfl rfl) ?_
            refine q_rd (wanted_none rfl) rfl rfl (rd_pickF (v := .c _) rfl rfl rfl) ?_
            refine q_rd (wanted_none rfl) rfl rfl (rd_assign (v := .c _) rfl rfl) ?_
            refine seq_nil ?_
            refine then_norm ?_
            refine code_ret ?_
            refine end_val (.inl rfl) (res_1 rfl (arv_tmp rfl)) ?_
            refine CEnt.bool ?_
            first | (simp [knownM, madeM, *]; done) | (simp [knownM, madeM]; omega) | (simp [knownM, madeM, *]; omega) | (simp [knownM, madeM] at *; omega) | (simp [knownM, madeM] at *; done)
    · refine q_skip (wanted_is rfl rfl rfl rfl false rfl) rfl rfl ?_
      refine q_skip (wanted_is rfl rfl rfl rfl false rfl) rfl rfl ?_
      refine q_rd (wanted_is rfl rfl rfl rfl true rfl) rfl rfl (rd_pickF (v := .c _) rfl rfl rfl) ?_
      refine q_rd (wanted_none rfl) rfl rfl (rd_pickF (v := .c _) rfl rfl rfl) ?_
      refine q_rd (wanted_none rfl) rfl rfl (rd_move (v := .c _) rfl rfl) ?_
      refine q_rd (wanted_is rfl rfl rfl rfl true rfl) rfl rfl (rd_move (v := .c _) rfl rfl) ?_
      refine q_rd (wanted_is rfl rfl rfl rfl true rfl) rfl rfl (rd_eqI rfl rfl rfl) ?_
      refine q_rd (wanted_none rfl) rfl rfl (rd_pickF (v := .c _) rfl rfl rfl) ?_
      refine q_rd (wanted_none rfl) rfl rfl (rd_move (v := .c _) rfl rfl) ?_
      first | refine seq_splitD (d := 17) rfl rfl (fun g16_3 => ?_) (fun g16_3 => ?_) | refine seq_split (d := 17) rfl rfl (fun g16_3 => ?_) (fun g16_3 => ?_)
      · refine q_skip (wanted_is rfl rfl rfl rfl false rfl) rfl rfl ?_
        refine q_skip (wanted_is rfl rfl rfl rfl false rfl) rfl rfl ?_
        refine q_rd (wanted_none rfl) rfl rfl (rd_pickT (v := .c _) rfl rfl rfl) ?_
        refine q_rd (wanted_none rfl) rfl rfl (rd_move (v := .c _) rfl rfl) ?_
        refine q_skip (wanted_is rfl rfl rfl rfl false rfl) rfl rfl ?_
        refine q_skip (wanted_is rfl rfl rfl rfl false rfl) rfl rfl ?_
        refine q_rd (wanted_none rfl) rfl rfl (rd_pickT (v := .c _) rfl rfl rfl) ?_
        refine q_rd (wanted_none rfl) rfl rfl (rd_assign (v := .c _) rfl rfl) ?_
        refine seq_nil ?_
        refine then_norm ?_
        refine code_ret ?_
        refine end_val (.inl rfl) (res_1 rfl (arv_tmp rfl)) ?_
        refine CEnt.bool ?_
        first | (simp [knownM, madeM, *]; done) | (simp [knownM, madeM]; omega) | (simp [knownM, madeM, *]; omega) | (simp [knownM, madeM] at *; omega) | (simp [knownM, madeM] at *; done)
      · refine q_rd (wanted_is rfl rfl rfl rfl true rfl) rfl rfl (rd_move (v := .c _) rfl rfl) ?_
        refine q_rd (wanted_is rfl rfl rfl rfl true rfl) rfl rfl (rd_eqI rfl rfl rfl) ?_
        refine q_rd (wanted_none rfl) rfl rfl (rd_pickF (v := .c _) rfl rfl rfl) ?_
        refine q_rd (wanted_none rfl) rfl rfl (rd_move (v := .c _) rfl rfl) ?_
        first | refine seq_splitD (d := 21) rfl rfl (fun g16_4 => ?_) (fun g16_4 => ?_) | refine seq_split (d := 21) rfl rfl (fun g16_4 => ?_) (fun g16_4 => ?_)
        · refine q_skip (wanted_is rfl rfl rfl rfl false rfl) rfl rfl ?_
          refine q_skip (wanted_is rfl rfl rfl rfl false rfl) rfl rfl ?_
          refine q_rd (wanted_none rfl) rfl rfl (rd_pickT (v := .c _) rfl rfl rfl) ?_
          refine q_rd (wanted_none rfl) rfl rfl (rd_assign (v := .c _) rfl rfl) ?_
          refine seq_nil ?_
          refine then_norm ?_
          refine code_ret ?_
          refine end_val (.inl rfl) (res_1 rfl (arv_tmp rfl)) ?_
          refine CEnt.bool ?_
          first | (simp [knownM, madeM, *]; done) | (simp [knownM, madeM]; omega) | (simp [knownM, madeM, *]; omega) | (simp [knownM, madeM] at *; omega) | (simp [knownM, madeM] at *; done)
        · refine q_rd (wanted_is rfl rfl rfl rfl true rfl) rfl rfl (rd_move (v := .c _) rfl rfl) ?_
          refine q_rd (wanted_is rfl rfl rfl rfl true rfl) rfl rfl (rd_eqI rfl rfl rfl) ?_
          refine q_rd (wanted_none rfl) rfl rfl (rd_pickF (v := .c _) rfl rfl rfl) ?_
          refine q_rd (wanted_none rfl) rfl rfl (rd_assign (v := .c _) rfl rfl) ?_
          refine seq_nil ?_
          refine then_norm ?_
          refine code_ret ?_
          refine end_val (.inl rfl) (res_1 rfl (arv_tmp rfl)) ?_
          refine CEnt.bool ?_
          first | (simp [knownM, madeM, *]; done) | (simp [knownM, madeM]; omega) | (simp [knownM, madeM, *]; omega) | (simp [knownM, madeM] at *; omega) | (simp [knownM, madeM] at *; done)
theorem u8_wrap {z : Int} (h : 0 ≤ z) : ((b8 z.toNat).toNat : Int) = IntKind.u8.wrap z := by
  rw [b8_mod, IntKind.wrap_u8]
  omega
theorem u8_wrap' {z : Int} {n : Nat} (h : (n : Int) = z) : IntKind.u8.wrap z = ((b8 n).toNat : Int) := by
  rw [b8_mod, IntKind.wrap_u8]
  omega
theorem rlen_ac {gs : List Nat} (n : Nat) (hn : n < 4294967296) : ACp gs Tryd.prog 128 [.c (.int .i64 n)] (bsC (lenL n)) := by
  refine ac_of 50 Tryd.func128 rfl rfl rfl (fun al w0 F0 St0 => ?_)
  refine code_seq ?_
  refine code_region ?_
  first | refine q_rd (wanted_none rfl) rfl rfl (rd_assign (v := bsC _) rfl rfl) ?_ | refine q_rd (wanted_none rfl) rfl rfl (rd_assign (v := .rs _ _ _) rfl rfl) ?_ | refine q_rd (wanted_none rfl) rfl rfl (rd_assign (v := .os _ _ _ _ _) rfl rfl) ?_ | refine q_rd (wanted_none rfl) rfl rfl (rd_assign (v := .c _) rfl rfl) ?_ | refine q_rd (wanted_none rfl) rfl rfl (rd_assign (v := .pv _) rfl rfl) ?_ | refine q_rd (wanted_none rfl) rfl rfl (rd_assign (v := .top) rfl rfl) ?_
  refine seq_nil ?_
  refine then_norm ?_
  refine code_seq ?_
  refine code_seq ?_
  refine code_region ?_
  refine q_rd (wanted_none rfl) rfl rfl (rd_move (v := .c _) rfl rfl) ?_
  refine q_rd (wanted_none rfl) rfl rfl (rd_lt rfl rfl rfl) ?_
  refine seq_nil ?_
  refine then_norm ?_
  first | refine code_condSD rfl rfl (fun h21 => ?_) (fun h21 => ?_) | refine code_condS rfl rfl (fun h21 => ?_) (fun h21 => ?_)
  · refine code_seq ?_
    refine code_region ?_
    refine q_rd (wanted_none rfl) rfl rfl (rd_move (v := .c _) rfl rfl) ?_
    first | refine q_rd (wanted_none rfl) rfl rfl (rd_convI rfl rfl Tryd.underlying3 Tryd.underlying5 _ (wrap_id (k := .u8) (by show _ ∧ _; (first | omega | (dsimp only at *; omega))))) ?_ | refine q_rd (wanted_none rfl) rfl rfl (rd_convI rfl rfl Tryd.underlying3 Tryd.underlying5 _ rfl) ?_
    refine seq_ex (wanted_none rfl) (e_buildSlice (n := 1) rfl Tryd.underlying23 sz5 zr5 rfl rfl rfl rfl rfl rfl rfl (fun p1 => ?_))
    first | refine q_rd (wanted_none rfl) rfl rfl (rd_assign (v := bsC _) rfl rfl) ?_ | refine q_rd (wanted_none rfl) rfl rfl (rd_assign (v := .rs _ _ _) rfl rfl) ?_ | refine q_rd (wanted_none rfl) rfl rfl (rd_assign (v := .os _ _ _ _ _) rfl rfl) ?_ | refine q_rd (wanted_none rfl) rfl rfl (rd_assign (v := .c _) rfl rfl) ?_ | refine q_rd (wanted_none rfl) rfl rfl (rd_assign (v := .pv _) rfl rfl) ?_ | refine q_rd (wanted_none rfl) rfl rfl (rd_assign (v := .top) rfl rfl) ?_
    refine seq_nil ?_
    refine then_norm ?_
    refine code_ent (freeze 0 rfl) ?_
    refine code_ent (thawBL 2 ([b8 n]) rfl rfl rfl rfl (.cons (CEnt.int ((by rw [b8_mod]; first | omega | (simp only [IntKind.wrap_u8]; omega)))) .nil)) ?_
    refine code_ret ?_
    refine then_ret ?_
    refine end_val (.inl rfl) (res_1 rfl (arv_tmp rfl)) ?_
    exact CEnt.bs (by unfold lenL; rw [if_pos (by omega)])
  · refine code_skip ?_
    refine then_norm ?_
    refine code_seq ?_
    refine code_seq ?_
    refine code_region ?_
    refine q_rd (wanted_none rfl) rfl rfl (rd_move (v := .c _) rfl rfl) ?_
    refine q_rd (wanted_none rfl) rfl rfl (rd_lt rfl rfl rfl) ?_
    refine seq_nil ?_
    refine then_norm ?_
    first | refine code_condSD rfl rfl (fun h24 => ?_) (fun h24 => ?_) | refine code_condS rfl rfl (fun h24 => ?_) (fun h24 => ?_)
    · refine code_seq ?_
      refine code_region ?_
      refine q_rd (wanted_none rfl) rfl rfl (rd_move (v := .c _) rfl rfl) ?_
      first | refine q_rd (wanted_none rfl) rfl rfl (rd_convI rfl rfl Tryd.underlying3 Tryd.underlying5 _ (wrap_id (k := .u8) (by show _ ∧ _; (first | omega | (dsimp only at *; omega))))) ?_ | refine q_rd (wanted_none rfl) rfl rfl (rd_convI rfl rfl Tryd.underlying3 Tryd.underlying5 _ rfl) ?_
      refine seq_ex (wanted_none rfl) (e_buildSlice (n := 2) rfl Tryd.underlying23 sz5 zr5 rfl rfl rfl rfl rfl rfl rfl (fun p1 => ?_))
      first | refine q_rd (wanted_none rfl) rfl rfl (rd_assign (v := bsC _) rfl rfl) ?_ | refine q_rd (wanted_none rfl) rfl rfl (rd_assign (v := .rs _ _ _) rfl rfl) ?_ | refine q_rd (wanted_none rfl) rfl rfl (rd_assign (v := .os _ _ _ _ _) rfl rfl) ?_ | refine q_rd (wanted_none rfl) rfl rfl (rd_assign (v := .c _) rfl rfl) ?_ | refine q_rd (wanted_none rfl) rfl rfl (rd_assign (v := .pv _) rfl rfl) ?_ | refine q_rd (wanted_none rfl) rfl rfl (rd_assign (v := .top) rfl rfl) ?_
      refine seq_nil ?_
      refine then_norm ?_
      refine code_ent (freeze 0 rfl) ?_
      refine code_ent (thawBL 2 ([129, b8 n]) rfl rfl rfl rfl (.cons (CEnt.int (rfl)) (.cons (CEnt.int ((by rw [b8_mod]; first | omega | (simp only [IntKind.wrap_u8]; omega)))) .nil))) ?_
      refine code_ret ?_
      refine then_ret ?_
      refine end_val (.inl rfl) (res_1 rfl (arv_tmp rfl)) ?_
      exact CEnt.bs (by unfold lenL; rw [if_neg (by omega), if_pos (by omega)])
    · refine code_skip ?_
      refine then_norm ?_
      refine code_seq ?_
      refine code_seq ?_
      refine code_region ?_
      refine q_rd (wanted_none rfl) rfl rfl (rd_move (v := .c _) rfl rfl) ?_
      refine q_rd (wanted_none rfl) rfl rfl (rd_lt rfl rfl rfl) ?_
      refine seq_nil ?_
      refine then_norm ?_
      first | refine code_condSD rfl rfl (fun h27 => ?_) (fun h27 => ?_) | refine code_condS rfl rfl (fun h27 => ?_) (fun h27 => ?_)
      · refine code_seq ?_
        refine code_region ?_
        refine q_rd (wanted_none rfl) rfl rfl (rd_move (v := .c _) rfl rfl) ?_
        first | refine q_rd (wanted_none rfl) rfl rfl (rd_quo rfl rfl rfl (by (first | omega | (dsimp only at *; omega))) (by (first | omega | (dsimp only at *; omega))) (wrap_id (k := .i64) (by show _ ∧ _; (first | omega | (dsimp only at *; omega))))) ?_ | refine q_rd (wanted_none rfl) rfl rfl (rd_quoT rfl rfl rfl (by (first | omega | (dsimp only at *; omega))) _ rfl) ?_
        first | refine q_rd (wanted_none rfl) rfl rfl (rd_convI rfl rfl Tryd.underlying3 Tryd.underlying5 _ (wrap_id (k := .u8) (by show _ ∧ _; (first | omega | (dsimp only at *; omega))))) ?_ | refine q_rd (wanted_none rfl) rfl rfl (rd_convI rfl rfl Tryd.underlying3 Tryd.underlying5 _ rfl) ?_
        refine q_rd (wanted_none rfl) rfl rfl (rd_move (v := .c _) rfl rfl) ?_
        first | refine q_rd (wanted_none rfl) rfl rfl (rd_rem rfl rfl rfl (by (first | omega | (dsimp only at *; omega))) (by (first | omega | (dsimp only at *; omega)))) ?_ | refine q_rd (wanted_none rfl) rfl rfl (rd_remT rfl rfl rfl (by (first | omega | (dsimp only at *; omega)))) ?_
        first | refine q_rd (wanted_none rfl) rfl rfl (rd_convI rfl rfl Tryd.underlying3 Tryd.underlying5 _ (wrap_id (k := .u8) (by show _ ∧ _; (first | omega | (dsimp only at *; omega))))) ?_ | refine q_rd (wanted_none rfl) rfl rfl (rd_convI rfl rfl Tryd.underlying3 Tryd.underlying5 _ rfl) ?_
        refine seq_ex (wanted_none rfl) (e_buildSlice (n := 3) rfl Tryd.underlying23 sz5 zr5 rfl rfl rfl rfl rfl rfl rfl (fun p1 => ?_))
        first | refine q_rd (wanted_none rfl) rfl rfl (rd_assign (v := bsC _) rfl rfl) ?_ | refine q_rd (wanted_none rfl) rfl rfl (rd_assign (v := .rs _ _ _) rfl rfl) ?_ | refine q_rd (wanted_none rfl) rfl rfl (rd_assign (v := .os _ _ _ _ _) rfl rfl) ?_ | refine q_rd (wanted_none rfl) rfl rfl (rd_assign (v := .c _) rfl rfl) ?_ | refine q_rd (wanted_none rfl) rfl rfl (rd_assign (v := .pv _) rfl rfl) ?_ | refine q_rd (wanted_none rfl) rfl rfl (rd_assign (v := .top) rfl rfl) ?_
        refine seq_nil ?_
        refine then_norm ?_
        refine code_ent (freeze 0 rfl) ?_
        refine code_ent (thawBL 2 ([130, b8 (n / 256), b8 n]) rfl rfl rfl rfl (.cons (CEnt.int (rfl)) (.cons (CEnt.int ((by rw [b8_mod]; first | omega | (simp only [IntKind.wrap_u8]; omega)))) (.cons (CEnt.int ((by rw [b8_mod]; first | omega | (simp only [IntKind.wrap_u8]; omega)))) .nil)))) ?_
        refine code_ret ?_
        refine then_ret ?_
        refine end_val (.inl rfl) (res_1 rfl (arv_tmp rfl)) ?_
        exact CEnt.bs (by unfold lenL; rw [if_neg (by omega), if_neg (by omega), if_pos (by omega)])
      · refine code_skip ?_
        refine then_norm ?_
        refine code_seq ?_
        refine code_seq ?_
        refine code_region ?_
        refine q_rd (wanted_none rfl) rfl rfl (rd_move (v := .c _) rfl rfl) ?_
        refine q_rd (wanted_none rfl) rfl rfl (rd_lt rfl rfl rfl) ?_
        refine seq_nil ?_
        refine then_norm ?_
        first | refine code_condSD rfl rfl (fun h30 => ?_) (fun h30 => ?_) | refine code_condS rfl rfl (fun h30 => ?_) (fun h30 => ?_)
        · refine code_seq ?_
          refine code_region ?_
          refine q_rd (wanted_none rfl) rfl rfl (rd_move (v := .c _) rfl rfl) ?_
          first | refine q_rd (wanted_none rfl) rfl rfl (rd_quo rfl rfl rfl (by (first | omega | (dsimp only at *; omega))) (by (first | omega | (dsimp only at *; omega))) (wrap_id (k := .i64) (by show _ ∧ _; (first | omega | (dsimp only at *; omega))))) ?_ | refine q_rd (wanted_none rfl) rfl rfl (rd_quoT rfl rfl rfl (by (first | omega | (dsimp only at *; omega))) _ rfl) ?_
          first | refine q_rd (wanted_none rfl) rfl rfl (rd_convI rfl rfl Tryd.underlying3 Tryd.underlying5 _ (wrap_id (k := .u8) (by show _ ∧ _; (first | omega | (dsimp only at *; omega))))) ?_ | refine q_rd (wanted_none rfl) rfl rfl (rd_convI rfl rfl Tryd.underlying3 Tryd.underlying5 _ rfl) ?_
          refine q_rd (wanted_none rfl) rfl rfl (rd_move (v := .c _) rfl rfl) ?_
          first | refine q_rd (wanted_none rfl) rfl rfl (rd_quo rfl rfl rfl (by (first | omega | (dsimp only at *; omega))) (by (first | omega | (dsimp only at *; omega))) (wrap_id (k := .i64) (by show _ ∧ _; (first | omega | (dsimp only at *; omega))))) ?_ | refine q_rd (wanted_none rfl) rfl rfl (rd_quoT rfl rfl rfl (by (first | omega | (dsimp only at *; omega))) _ rfl) ?_
          first | refine q_rd (wanted_none rfl) rfl rfl (rd_rem rfl rfl rfl (by (first | omega | (dsimp only at *; omega))) (by (first | omega | (dsimp only at *; omega)))) ?_ | refine q_rd (wanted_none rfl) rfl rfl (rd_remT rfl rfl rfl (by (first | omega | (dsimp only at *; omega)))) ?_
          first | refine q_rd (wanted_none rfl) rfl rfl (rd_convI rfl rfl Tryd.underlying3 Tryd.underlying5 _ (wrap_id (k := .u8) (by show _ ∧ _; (first | omega | (dsimp only at *; omega))))) ?_ | refine q_rd (wanted_none rfl) rfl rfl (rd_convI rfl rfl Tryd.underlying3 Tryd.underlying5 _ rfl) ?_
          refine q_rd (wanted_none rfl) rfl rfl (rd_move (v := .c _) rfl rfl) ?_
          first | refine q_rd (wanted_none rfl) rfl rfl (rd_rem rfl rfl rfl (by (first | omega | (dsimp only at *; omega))) (by (first | omega | (dsimp only at *; omega)))) ?_ | refine q_rd (wanted_none rfl) rfl rfl (rd_remT rfl rfl rfl (by (first | omega | (dsimp only at *; omega)))) ?_
          first | refine q_rd (wanted_none rfl) rfl rfl (rd_convI rfl rfl Tryd.underlying3 Tryd.underlying5 _ (wrap_id (k := .u8) (by show _ ∧ _; (first | omega | (dsimp only at *; omega))))) ?_ | refine q_rd (wanted_none rfl) rfl rfl (rd_convI rfl rfl Tryd.underlying3 Tryd.underlying5 _ rfl) ?_
          refine seq_ex (wanted_none rfl) (e_buildSlice (n := 4) rfl Tryd.underlying23 sz5 zr5 rfl rfl rfl rfl rfl rfl rfl (fun p1 => ?_))
          first | refine q_rd (wanted_none rfl) rfl rfl (rd_assign (v := bsC _) rfl rfl) ?_ | refine q_rd (wanted_none rfl) rfl rfl (rd_assign (v := .rs _ _ _) rfl rfl) ?_ | refine q_rd (wanted_none rfl) rfl rfl (rd_assign (v := .os _ _ _ _ _) rfl rfl) ?_ | refine q_rd (wanted_none rfl) rfl rfl (rd_assign (v := .c _) rfl rfl) ?_ | refine q_rd (wanted_none rfl) rfl rfl (rd_assign (v := .pv _) rfl rfl) ?_ | refine q_rd (wanted_none rfl) rfl rfl (rd_assign (v := .top) rfl rfl) ?_
          refine seq_nil ?_
          refine then_norm ?_
          refine code_ent (freeze 0 rfl) ?_
          refine code_ent (thawBL 2 ([131, b8 (n / 65536), b8 (n / 256), b8 n]) rfl rfl rfl rfl (.cons (CEnt.int (rfl)) (.cons (CEnt.int ((by rw [b8_mod]; first | omega | (simp only [IntKind.wrap_u8]; omega)))) (.cons (CEnt.int ((by rw [b8_mod]; first | omega | (simp only [IntKind.wrap_u8]; omega)))) (.cons (CEnt.int ((by rw [b8_mod]; first | omega | (simp only [IntKind.wrap_u8]; omega)))) .nil))))) ?_
          refine code_ret ?_
          refine then_ret ?_
          refine end_val (.inl rfl) (res_1 rfl (arv_tmp rfl)) ?_
          exact CEnt.bs (by unfold lenL; rw [if_neg (by omega), if_neg (by omega), if_neg (by omega), if_pos (by omega)])
        · refine code_skip ?_
          refine then_norm ?_
          refine code_seq ?_
          refine code_region ?_
          refine q_rd (wanted_none rfl) rfl rfl (rd_move (v := .c _) rfl rfl) ?_
          first | refine q_rd (wanted_none rfl) rfl rfl (rd_quo rfl rfl rfl (by (first | omega | (dsimp only at *; omega))) (by (first | omega | (dsimp only at *; omega))) (wrap_id (k := .i64) (by show _ ∧ _; (first | omega | (dsimp only at *; omega))))) ?_ | refine q_rd (wanted_none rfl) rfl rfl (rd_quoT rfl rfl rfl (by (first | omega | (dsimp only at *; omega))) _ rfl) ?_
          first | refine q_rd (wanted_none rfl) rfl rfl (rd_convI rfl rfl Tryd.underlying3 Tryd.underlying5 _ (wrap_id (k := .u8) (by show _ ∧ _; (first | omega | (dsimp only at *; omega))))) ?_ | refine q_rd (wanted_none rfl) rfl rfl (rd_convI rfl rfl Tryd.underlying3 Tryd.underlying5 _ rfl) ?_
          refine q_rd (wanted_none rfl) rfl rfl (rd_move (v := .c _) rfl rfl) ?_
          first | refine q_rd (wanted_none rfl) rfl rfl (rd_quo rfl rfl rfl (by (first | omega | (dsimp only at *; omega))) (by (first | omega | (dsimp only at *; omega))) (wrap_id (k := .i64) (by show _ ∧ _; (first | omega | (dsimp only at *; omega))))) ?_ | refine q_rd (wanted_none rfl) rfl rfl (rd_quoT rfl rfl rfl (by (first | omega | (dsimp only at *; omega))) _ rfl) ?_
          first | refine q_rd (wanted_none rfl) rfl rfl (rd_rem rfl rfl rfl (by (first | omega | (dsimp only at *; omega))) (by (first | omega | (dsimp only at *; omega)))) ?_ | refine q_rd (wanted_none rfl) rfl rfl (rd_remT rfl rfl rfl (by (first | omega | (dsimp only at *; omega)))) ?_
          first | refine q_rd (wanted_none rfl) rfl rfl (rd_convI rfl rfl Tryd.underlying3 Tryd.underlying5 _ (wrap_id (k := .u8) (by show _ ∧ _; (first | omega | (dsimp only at *; omega))))) ?_ | refine q_rd (wanted_none rfl) rfl rfl (rd_convI rfl rfl Tryd.underlying3 Tryd.underlying5 _ rfl) ?_
          refine q_rd (wanted_none rfl) rfl rfl (rd_move (v := .c _) rfl rfl) ?_
          first | refine q_rd (wanted_none rfl) rfl rfl (rd_quo rfl rfl rfl (by (first | omega | (dsimp only at *; omega))) (by (first | omega | (dsimp only at *; omega))) (wrap_id (k := .i64) (by show _ ∧ _; (first | omega | (dsimp only at *; omega))))) ?_ | refine q_rd (wanted_none rfl) rfl rfl (rd_quoT rfl rfl rfl (by (first | omega | (dsimp only at *; omega))) _ rfl) ?_
          first | refine q_rd (wanted_none rfl) rfl rfl (rd_rem rfl rfl rfl (by (first | omega | (dsimp only at *; omega))) (by (first | omega | (dsimp only at *; omega)))) ?_ | refine q_rd (wanted_none rfl) rfl rfl (rd_remT rfl rfl rfl (by (first | omega | (dsimp only at *; omega)))) ?_
          first | refine q_rd (wanted_none rfl) rfl rfl (rd_convI rfl rfl Tryd.underlying3 Tryd.underlying5 _ (wrap_id (k := .u8) (by show _ ∧ _; (first | omega | (dsimp only at *; omega))))) ?_ | refine q_rd (wanted_none rfl) rfl rfl (rd_convI rfl rfl Tryd.underlying3 Tryd.underlying5 _ rfl) ?_
          refine q_rd (wanted_none rfl) rfl rfl (rd_move (v := .c _) rfl rfl) ?_
          first | refine q_rd (wanted_none rfl) rfl rfl (rd_rem rfl rfl rfl (by (first | omega | (dsimp only at *; omega))) (by (first | omega | (dsimp only at *; omega)))) ?_ | refine q_rd (wanted_none rfl) rfl rfl (rd_remT rfl rfl rfl (by (first | omega | (dsimp only at *; omega)))) ?_
          first | refine q_rd (wanted_none rfl) rfl rfl (rd_convI rfl rfl Tryd.underlying3 Tryd.underlying5 _ (wrap_id (k := .u8) (by show _ ∧ _; (first | omega | (dsimp only at *; omega))))) ?_ | refine q_rd (wanted_none rfl) rfl rfl (rd_convI rfl rfl Tryd.underlying3 Tryd.underlying5 _ rfl) ?_
          refine seq_ex (wanted_none rfl) (e_buildSlice (n := 5) rfl Tryd.underlying23 sz5 zr5 rfl rfl rfl rfl rfl rfl rfl (fun p1 => ?_))
          first | refine q_rd (wanted_none rfl) rfl rfl (rd_assign (v := bsC _) rfl rfl) ?_ | refine q_rd (wanted_none rfl) rfl rfl (rd_assign (v := .rs _ _ _) rfl rfl) ?_ | refine q_rd (wanted_none rfl) rfl rfl (rd_assign (v := .os _ _ _ _ _) rfl rfl) ?_ | refine q_rd (wanted_none rfl) rfl rfl (rd_assign (v := .c _) rfl rfl) ?_ | refine q_rd (wanted_none rfl) rfl rfl (rd_assign (v := .pv _) rfl rfl) ?_ | refine q_rd (wanted_none rfl) rfl rfl (rd_assign (v := .top) rfl rfl) ?_
          refine seq_nil ?_
          refine then_norm ?_
          refine code_ent (freeze 0 rfl) ?_
          refine code_ent (thawBL 2 ([132, b8 (n / 16777216), b8 (n / 65536), b8 (n / 256), b8 n]) rfl rfl rfl rfl (.cons (CEnt.int (rfl)) (.cons (CEnt.int ((by rw [b8_mod]; first | omega | (simp only [IntKind.wrap_u8]; omega)))) (.cons (CEnt.int ((by rw [b8_mod]; first | omega | (simp only [IntKind.wrap_u8]; omega)))) (.cons (CEnt.int ((by rw [b8_mod]; first | omega | (simp only [IntKind.wrap_u8]; omega)))) (.cons (CEnt.int ((by rw [b8_mod]; first | omega | (simp only [IntKind.wrap_u8]; omega)))) .nil)))))) ?_
          refine code_ret ?_
          refine end_val (.inl rfl) (res_1 rfl (arv_tmp rfl)) ?_
          exact CEnt.bs (by unfold lenL; rw [if_neg (by omega), if_neg (by omega), if_neg (by omega), if_neg (by omega)])
/-- the last k bytes of a number, the last one first -/
def lowL (n k : Nat) : List UInt8 := (List.range k).map fun i => b8 (n / 256 ^ i)
theorem lowL_succ (n k : Nat) : lowL n (k + 1) = lowL n k ++ [b8 (n / 256 ^ k)] := by simp [lowL, List.range_succ]
theorem lowL_len (n k : Nat) : (lowL n k).length = k := by simp [lowL]
theorem length_ac {gs : List Nat} (n : Nat) (hn : n < 65536) : ACp gs Tryd.prog 126 [.c (.int .i64 n)] (bsC (lenL n)) := by
  refine ac_of 28 Tryd.func126 rfl rfl rfl (fun al w0 F0 St0 => ?_)
  refine code_seq ?_
  refine code_region ?_
  first | refine q_rd (wanted_none rfl) rfl rfl (rd_assign (v := bsC _) rfl rfl) ?_ | refine q_rd (wanted_none rfl) rfl rfl (rd_assign (v := .rs _ _ _) rfl rfl) ?_ | refine q_rd (wanted_none rfl) rfl rfl (rd_assign (v := .os _ _ _ _ _) rfl rfl) ?_ | refine q_rd (wanted_none rfl) rfl rfl (rd_assign (v := .c _) rfl rfl) ?_ | refine q_rd (wanted_none rfl) rfl rfl (rd_assign (v := .pv _) rfl rfl) ?_ | refine q_rd (wanted_none rfl) rfl rfl (rd_assign (v := .top) rfl rfl) ?_
  refine seq_nil ?_
  refine then_norm ?_
  refine code_seq ?_
  refine code_seq ?_
  refine code_region ?_
  refine q_rd (wanted_none rfl) rfl rfl (rd_move (v := .c _) rfl rfl) ?_
  refine q_rd (wanted_none rfl) rfl rfl (rd_le rfl rfl rfl) ?_
  refine seq_nil ?_
  refine then_norm ?_
  first | refine code_condSD rfl rfl (fun h39 => ?_) (fun h39 => ?_) | refine code_condS rfl rfl (fun h39 => ?_) (fun h39 => ?_)
  · refine code_seq ?_
    refine code_region ?_
    refine q_rd (wanted_none rfl) rfl rfl (rd_move (v := .c _) rfl rfl) ?_
    first | refine q_rd (wanted_none rfl) rfl rfl (rd_convI rfl rfl Tryd.underlying3 Tryd.underlying5 _ (wrap_id (k := .u8) (by show _ ∧ _; (first | omega | (dsimp only at *; omega))))) ?_ | refine q_rd (wanted_none rfl) rfl rfl (rd_convI rfl rfl Tryd.underlying3 Tryd.underlying5 _ rfl) ?_
    refine seq_ex (wanted_none rfl) (e_buildSlice (n := 1) rfl Tryd.underlying23 sz5 zr5 rfl rfl rfl rfl rfl rfl rfl (fun p1 => ?_))
    first | refine q_rd (wanted_none rfl) rfl rfl (rd_assign (v := bsC _) rfl rfl) ?_ | refine q_rd (wanted_none rfl) rfl rfl (rd_assign (v := .rs _ _ _) rfl rfl) ?_ | refine q_rd (wanted_none rfl) rfl rfl (rd_assign (v := .os _ _ _ _ _) rfl rfl) ?_ | refine q_rd (wanted_none rfl) rfl rfl (rd_assign (v := .c _) rfl rfl) ?_ | refine q_rd (wanted_none rfl) rfl rfl (rd_assign (v := .pv _) rfl rfl) ?_ | refine q_rd (wanted_none rfl) rfl rfl (rd_assign (v := .top) rfl rfl) ?_
    refine seq_nil ?_
    refine then_norm ?_
    refine code_ent (freeze 0 rfl) ?_
    refine code_ent (thawBL 2 ([b8 n]) rfl rfl rfl rfl (.cons (CEnt.int ((by rw [b8_mod]; first | omega | (simp only [IntKind.wrap_u8]; omega)))) .nil)) ?_
    refine code_ret ?_
    refine then_ret ?_
    refine end_val (.inl rfl) (res_1 rfl (arv_tmp rfl)) ?_
    exact CEnt.bs (by unfold lenL; rw [if_pos (by omega)])
  · refine code_skip ?_
    refine then_norm ?_
    refine code_seq ?_
    refine code_region ?_
    first | refine q_rd (wanted_none rfl) rfl rfl (rd_assign (v := bsC _) rfl rfl) ?_ | refine q_rd (wanted_none rfl) rfl rfl (rd_assign (v := .rs _ _ _) rfl rfl) ?_ | refine q_rd (wanted_none rfl) rfl rfl (rd_assign (v := .os _ _ _ _ _) rfl rfl) ?_ | refine q_rd (wanted_none rfl) rfl rfl (rd_assign (v := .c _) rfl rfl) ?_ | refine q_rd (wanted_none rfl) rfl rfl (rd_assign (v := .pv _) rfl rfl) ?_ | refine q_rd (wanted_none rfl) rfl rfl (rd_assign (v := .top) rfl rfl) ?_
    refine seq_nil ?_
    refine then_norm ?_
    refine code_seq ?_
    refine code_block ?_
    refine code_ent (own_nil 3 1 (byF []) rfl) ?_
    refine l_loop (α := Nat × Option Nat) [0, 3, 9, 10, 11, 12, 13, 14, 15, 16, 17] (fun (k, g) => [(0, .c (.int .i64 ((n / 256 ^ k : Nat) : Int))), (3, .os 0 g 0 (lowL n k).length 1)]) (fun (k, g) => [(g, .blk (lowL n k).length (byF (lowL n k)))]) (fun k => k.1 = 0 ∨ k.1 = 1 ∨ (k.1 = 2 ∧ 256 ≤ n)) (fun k => 2 - k.1) ((0, none)) ?_ (fun _ => rfl) ?_ ?_ ?_
    · exact .inl rfl
    · exact .cons (CEnt.int (by simp)) (.cons (CEnt.refl _) .nil)
    · exact .same .nil
    · rintro ⟨k, g'⟩ (hk : k = 0 ∨ k = 1 ∨ (k = 2 ∧ 256 ≤ n))
      refine code_seq ?_
      refine code_seq ?_
      refine code_region ?_
      refine q_rd (wanted_none rfl) rfl rfl (rd_move (v := .c _) rfl rfl) ?_
      refine q_rd (wanted_none rfl) rfl rfl (rd_gt rfl rfl rfl) ?_
      refine seq_nil ?_
      refine then_norm ?_
      first | refine code_condSD rfl rfl (fun h43 => ?_) (fun h43 => ?_) | refine code_condS rfl rfl (fun h43 => ?_) (fun h43 => ?_)
      · refine code_skip ?_
        refine then_norm ?_
        refine code_seq ?_
        refine code_block ?_
        have hlk := lowL_len n k
        have hk3 : k ≤ 2 := by omega
        refine code_region ?_
        first | refine q_rd (wanted_none rfl) rfl rfl (rd_move (v := bsC _) rfl rfl) ?_ | refine q_rd (wanted_none rfl) rfl rfl (rd_move (v := .rs _ _ _) rfl rfl) ?_ | refine q_rd (wanted_none rfl) rfl rfl (rd_move (v := .os _ _ _ _ _) rfl rfl) ?_ | refine q_rd (wanted_none rfl) rfl rfl (rd_move (v := .c _) rfl rfl) ?_ | refine q_rd (wanted_none rfl) rfl rfl (rd_move (v := .pv _) rfl rfl) ?_ | refine q_rd (wanted_none rfl) rfl rfl (rd_move (v := .top) rfl rfl) ?_
        refine q_rd (wanted_none rfl) rfl rfl (rd_move (v := .c _) rfl rfl) ?_
        first | refine q_rd (wanted_none rfl) rfl rfl (rd_convI rfl rfl Tryd.underlying3 Tryd.underlying5 _ (wrap_id (k := .u8) (by show _ ∧ _; (first | omega | (dsimp only at *; omega))))) ?_ | refine q_rd (wanted_none rfl) rfl rfl (rd_convI rfl rfl Tryd.underlying3 Tryd.underlying5 _ rfl) ?_
        refine seq_ex (wanted_none rfl) (e_buildSlice (n := 1) rfl Tryd.underlying23 sz5 zr5 rfl rfl rfl rfl rfl rfl rfl (fun p1 => ?_))
        refine seq_md (wanted_none rfl) (m_appendB (l2 := [b8 (n / 256 ^ k)]) rfl rfl rfl (Nat.le_refl _) (fun _ _ => CEnt.refl _) (src_os rfl (.inl rfl) (by decide)) rfl (hh_bytes (.cons (CEnt.int ((by rw [b8_mod]; generalize n / 256 ^ k = q; first | omega | (simp only [IntKind.wrap_u8]; omega)))) .nil)) Tryd.underlying23 nu23 sz5 zr5 by5 rfl (by first | omega | (simp; omega) | (simp at *; omega)) (leaf_fl rfl rfl) rfl rfl (fun p2 => ?_))
        first | refine q_rd (wanted_none rfl) rfl rfl (rd_assign (v := bsC _) rfl rfl) ?_ | refine q_rd (wanted_none rfl) rfl rfl (rd_assign (v := .rs _ _ _) rfl rfl) ?_ | refine q_rd (wanted_none rfl) rfl rfl (rd_assign (v := .os _ _ _ _ _) rfl rfl) ?_ | refine q_rd (wanted_none rfl) rfl rfl (rd_assign (v := .c _) rfl rfl) ?_ | refine q_rd (wanted_none rfl) rfl rfl (rd_assign (v := .pv _) rfl rfl) ?_ | refine q_rd (wanted_none rfl) rfl rfl (rd_assign (v := .top) rfl rfl) ?_
        refine seq_nil ?_
        refine block_norm ?_
        refine then_norm ?_
        refine code_region ?_
        refine q_rd (wanted_none rfl) rfl rfl (rd_move (v := .c _) rfl rfl) ?_
        refine q_rd (wanted_none rfl) rfl rfl (rd_shr rfl rfl rfl (by (first | omega | (dsimp only at *; omega))) _ rfl) ?_
        refine q_rd (wanted_none rfl) rfl rfl (rd_assign (v := .c _) rfl rfl) ?_
        refine seq_nil ?_
        refine then_norm ?_
        refine ⟨(k + 1, p2), ?_, ?_, rfl, rfl, ?_, by exact Nat.le_of_ble_eq_true rfl, ?_⟩
        · show k + 1 = 0 ∨ k + 1 = 1 ∨ (k + 1 = 2 ∧ 256 ≤ n)
          rcases hk with rfl | rfl | ⟨rfl, h2⟩
          · omega
          · simp at h43; omega
          · simp at h43; omega
        · show 2 - (k + 1) < 2 - k
          rcases hk with rfl | rfl | ⟨rfl, h2⟩
          · omega
          · omega
          · simp at h43; omega
        · simp only [lowL_succ]
          exact .cons (CEnt.int (by rw [Nat.pow_succ, ← Nat.div_div_eq_div_mul, Int.fdiv_eq_ediv_of_nonneg _ (by decide)]; rfl)) (.cons (CEnt.refl _) .nil)
        · simp only [lowL_succ]
          exact .same .nil
      · refine code_exit ?_
        refine then_exit ?_
        refine then_exit ?_
        refine block_exit rfl ?_
        refine then_norm ?_
        refine code_seq ?_
        have hlk := lowL_len n k
        have hk3 : k ≤ 2 := by omega
        refine code_region ?_
        first | refine q_rd (wanted_none rfl) rfl rfl (rd_move (v := bsC _) rfl rfl) ?_ | refine q_rd (wanted_none rfl) rfl rfl (rd_move (v := .rs _ _ _) rfl rfl) ?_ | refine q_rd (wanted_none rfl) rfl rfl (rd_move (v := .os _ _ _ _ _) rfl rfl) ?_ | refine q_rd (wanted_none rfl) rfl rfl (rd_move (v := .c _) rfl rfl) ?_ | refine q_rd (wanted_none rfl) rfl rfl (rd_move (v := .pv _) rfl rfl) ?_ | refine q_rd (wanted_none rfl) rfl rfl (rd_move (v := .top) rfl rfl) ?_
        first | refine q_rd (wanted_none rfl) rfl rfl (rd_move (v := bsC _) rfl rfl) ?_ | refine q_rd (wanted_none rfl) rfl rfl (rd_move (v := .rs _ _ _) rfl rfl) ?_ | refine q_rd (wanted_none rfl) rfl rfl (rd_move (v := .os _ _ _ _ _) rfl rfl) ?_ | refine q_rd (wanted_none rfl) rfl rfl (rd_move (v := .c _) rfl rfl) ?_ | refine q_rd (wanted_none rfl) rfl rfl (rd_move (v := .pv _) rfl rfl) ?_ | refine q_rd (wanted_none rfl) rfl rfl (rd_move (v := .top) rfl rfl) ?_
        first | refine q_rd (wanted_none rfl) rfl rfl (rd_lenR rfl rfl Tryd.underlying23) ?_ | refine q_rd (wanted_none rfl) rfl rfl (rd_lenO rfl rfl Tryd.underlying23) ?_ | refine q_rd (wanted_none rfl) rfl rfl (rd_lenN rfl rfl Tryd.underlying23) ?_
        refine q_rd (wanted_none rfl) rfl rfl (rd_add rfl rfl rfl (wrap_id (k := .i64) (by show _ ∧ _; (first | omega | (dsimp only at *; omega))))) ?_
        first | refine q_rd (wanted_none rfl) rfl rfl (rd_convI rfl rfl Tryd.underlying3 Tryd.underlying5 _ (wrap_id (k := .u8) (by show _ ∧ _; (first | omega | (dsimp only at *; omega))))) ?_ | refine q_rd (wanted_none rfl) rfl rfl (rd_convI rfl rfl Tryd.underlying3 Tryd.underlying5 _ rfl) ?_
        refine seq_ex (wanted_none rfl) (e_buildSlice (n := 1) rfl Tryd.underlying23 sz5 zr5 rfl rfl rfl rfl rfl rfl rfl (fun p1 => ?_))
        refine seq_md (wanted_none rfl) (m_appendB (l2 := [b8 (128 + k)]) rfl rfl rfl (Nat.le_refl _) (fun _ _ => CEnt.refl _) (src_os rfl (.inl rfl) (by decide)) rfl (hh_bytes (.cons (CEnt.int ((by rw [b8_mod]; simp only [hlk]; first | omega | (simp only [IntKind.wrap_u8]; omega)))) .nil)) Tryd.underlying23 nu23 sz5 zr5 by5 rfl (by first | omega | (simp; omega) | (simp at *; omega)) (leaf_fl rfl rfl) rfl rfl (fun p2 => ?_))
        first | refine q_rd (wanted_none rfl) rfl rfl (rd_assign (v := bsC _) rfl rfl) ?_ | refine q_rd (wanted_none rfl) rfl rfl (rd_assign (v := .rs _ _ _) rfl rfl) ?_ | refine q_rd (wanted_none rfl) rfl rfl (rd_assign (v := .os _ _ _ _ _) rfl rfl) ?_ | refine q_rd (wanted_none rfl) rfl rfl (rd_assign (v := .c _) rfl rfl) ?_ | refine q_rd (wanted_none rfl) rfl rfl (rd_assign (v := .pv _) rfl rfl) ?_ | refine q_rd (wanted_none rfl) rfl rfl (rd_assign (v := .top) rfl rfl) ?_
        refine seq_nil ?_
        refine then_norm ?_
        refine code_seq ?_
        refine code_region ?_
        first | refine q_rd (wanted_none rfl) rfl rfl (rd_move (v := bsC _) rfl rfl) ?_ | refine q_rd (wanted_none rfl) rfl rfl (rd_move (v := .rs _ _ _) rfl rfl) ?_ | refine q_rd (wanted_none rfl) rfl rfl (rd_move (v := .os _ _ _ _ _) rfl rfl) ?_ | refine q_rd (wanted_none rfl) rfl rfl (rd_move (v := .c _) rfl rfl) ?_ | refine q_rd (wanted_none rfl) rfl rfl (rd_move (v := .pv _) rfl rfl) ?_ | refine q_rd (wanted_none rfl) rfl rfl (rd_move (v := .top) rfl rfl) ?_
        refine seq_md (wanted_none rfl) (m_callH (i := 0) rfl (by kernel_rfl) rfl (reverse8_ac _ (lowL n k ++ [b8 (128 + k)]) (by simp [hlk]; omega)) (.cons (by first | exact se rfl (CEnt.refl _) | exact se rfl CEnt.nil | exact se rfl CEnt.nilB | exact se rfl (CEnt.osI rfl) | exact se rfl CEnt.opI | exact se_nilO rfl | exact se rfl (CEnt.agg2 (CEnt.refl _) (CEnt.refl _)) | exact se rfl (CEnt.agg3 (CEnt.refl _) (CEnt.refl _) (CEnt.refl _)) | exact se rfl (CEnt.agg4 (CEnt.refl _) (CEnt.refl _) (CEnt.refl _) (CEnt.refl _)) | exact se rfl (CEnt.agg5 (CEnt.refl _) (CEnt.refl _) (CEnt.refl _) (CEnt.refl _) (CEnt.refl _)) | exact se rfl (CEnt.agg6 (CEnt.refl _) (CEnt.refl _) (CEnt.refl _) (CEnt.refl _) (CEnt.refl _) (CEnt.refl _)) | exact se_frzB _ rfl rfl rfl (by simp) (fun _ _ => CEnt.refl _)) .nil) rfl rfl ?_)
        rintro _ _ ⟨rfl, rfl⟩
        refine ⟨_, _, rfl, CEnt.refl _, ?_⟩
        refine seq_nil ?_
        refine then_norm ?_
        refine code_seq ?_
        refine code_region ?_
        first | refine q_rd (wanted_none rfl) rfl rfl (rd_move (v := bsC _) rfl rfl) ?_ | refine q_rd (wanted_none rfl) rfl rfl (rd_move (v := .rs _ _ _) rfl rfl) ?_ | refine q_rd (wanted_none rfl) rfl rfl (rd_move (v := .os _ _ _ _ _) rfl rfl) ?_ | refine q_rd (wanted_none rfl) rfl rfl (rd_move (v := .c _) rfl rfl) ?_ | refine q_rd (wanted_none rfl) rfl rfl (rd_move (v := .pv _) rfl rfl) ?_ | refine q_rd (wanted_none rfl) rfl rfl (rd_move (v := .top) rfl rfl) ?_
        first | refine q_rd (wanted_none rfl) rfl rfl (rd_assign (v := bsC _) rfl rfl) ?_ | refine q_rd (wanted_none rfl) rfl rfl (rd_assign (v := .rs _ _ _) rfl rfl) ?_ | refine q_rd (wanted_none rfl) rfl rfl (rd_assign (v := .os _ _ _ _ _) rfl rfl) ?_ | refine q_rd (wanted_none rfl) rfl rfl (rd_assign (v := .c _) rfl rfl) ?_ | refine q_rd (wanted_none rfl) rfl rfl (rd_assign (v := .pv _) rfl rfl) ?_ | refine q_rd (wanted_none rfl) rfl rfl (rd_assign (v := .top) rfl rfl) ?_
        refine seq_nil ?_
        refine then_norm ?_
        refine code_ent (freeze 0 rfl) ?_
        refine code_ent (thawB 2 ((lowL n k ++ [b8 (128 + k)]).reverse) rfl rfl (by first | rfl | simp) rfl) ?_
        refine code_ret ?_
        refine end_val (.inl rfl) (res_1 rfl (arv_tmp rfl)) ?_
        refine CEnt.bs ?_
        rcases hk with rfl | rfl | ⟨rfl, h2⟩
        · simp at h43; omega
        · simp at h43
          unfold lenL
          rw [if_neg (by omega), if_pos (by omega)]
          simp [lowL, List.range_succ]
          rfl
        · unfold lenL
          rw [if_neg (by omega), if_neg (by omega), if_pos (by omega)]
          simp [lowL, List.range_succ]
          rfl
theorem size_ac {gs : List Nat} (n : Int) : ACp gs Tryd.prog 64 [.c (.int .i64 n)] (.c (.int .i64 (if n < 0 ∨ 65530 < n then 0 else 1 + (lenL n.toNat).length + n))) := by
  refine ac_of 15 Tryd.func64 rfl rfl rfl (fun al w0 F0 St0 => ?_)
  refine code_seq ?_
  refine code_region ?_
  refine q_rd (wanted_none rfl) rfl rfl (rd_assign (v := .c _) rfl rfl) ?_
  refine seq_nil ?_
  refine then_norm ?_
  refine code_seq ?_
  refine code_seq ?_
  refine code_region ?_
  refine q_rd (wanted_none rfl) rfl rfl (rd_move (v := .c _) rfl rfl) ?_
  refine q_rd (wanted_none rfl) rfl rfl (rd_lt rfl rfl rfl) ?_
  refine q_rd (wanted_none rfl) rfl rfl (rd_move (v := .c _) rfl rfl) ?_
  first | refine seq_splitD (d := 5) rfl rfl (fun g53 => ?_) (fun g53 => ?_) | refine seq_split (d := 5) rfl rfl (fun g53 => ?_) (fun g53 => ?_)
  · refine q_skip (wanted_is rfl rfl rfl rfl false rfl) rfl rfl ?_
    refine q_skip (wanted_is rfl rfl rfl rfl false rfl) rfl rfl ?_
    refine q_rd (wanted_none rfl) rfl rfl (rd_pickT (v := .c _) rfl rfl rfl) ?_
    refine seq_nil ?_
    refine then_norm ?_
    refine code_condT rfl ?_
    refine code_seq ?_
    refine code_region ?_
    refine q_rd (wanted_none rfl) rfl rfl (rd_assign (v := .c _) rfl rfl) ?_
    refine seq_nil ?_
    refine then_norm ?_
    refine code_ret ?_
    refine then_ret ?_
    refine end_val (.inl rfl) (res_1 rfl (arv_tmp rfl)) ?_
    refine CEnt.int ?_
    rw [if_pos (by omega)]
  · refine q_rd (wanted_is rfl rfl rfl rfl true rfl) rfl rfl (rd_move (v := .c _) rfl rfl) ?_
    refine q_rd (wanted_is rfl rfl rfl rfl true rfl) rfl rfl (rd_gt rfl rfl rfl) ?_
    refine q_rd (wanted_none rfl) rfl rfl (rd_pickF (v := .c _) rfl rfl rfl) ?_
    refine seq_nil ?_
    refine then_norm ?_
    first | refine code_condSD rfl rfl (fun h53 => ?_) (fun h53 => ?_) | refine code_condS rfl rfl (fun h53 => ?_) (fun h53 => ?_)
    · refine code_seq ?_
      refine code_region ?_
      refine q_rd (wanted_none rfl) rfl rfl (rd_assign (v := .c _) rfl rfl) ?_
      refine seq_nil ?_
      refine then_norm ?_
      refine code_ret ?_
      refine then_ret ?_
      refine end_val (.inl rfl) (res_1 rfl (arv_tmp rfl)) ?_
      refine CEnt.int ?_
      rw [if_pos (by omega)]
    · refine code_skip ?_
      refine then_norm ?_
      refine code_seq ?_
      have hb := lenL_bd n.toNat
      refine code_region ?_
      refine q_rd (wanted_none rfl) rfl rfl (rd_move (v := .c _) rfl rfl) ?_
      refine seq_ex (wanted_none rfl) (e_callP rfl (by kernel_rfl) (length_ac n.toNat (by omega)) (.cons (se rfl (CEnt.int (by omega))) .nil) rfl rfl ?_)
      first | refine q_rd (wanted_none rfl) rfl rfl (rd_lenR rfl rfl Tryd.underlying23) ?_ | refine q_rd (wanted_none rfl) rfl rfl (rd_lenO rfl rfl Tryd.underlying23) ?_ | refine q_rd (wanted_none rfl) rfl rfl (rd_lenN rfl rfl Tryd.underlying23) ?_
      refine q_rd (wanted_none rfl) rfl rfl (rd_add rfl rfl rfl (wrap_id (k := .i64) (by show _ ∧ _; (first | omega | (dsimp only at *; omega))))) ?_
      refine q_rd (wanted_none rfl) rfl rfl (rd_move (v := .c _) rfl rfl) ?_
      refine q_rd (wanted_none rfl) rfl rfl (rd_add rfl rfl rfl (wrap_id (k := .i64) (by show _ ∧ _; (first | omega | (dsimp only at *; omega))))) ?_
      refine q_rd (wanted_none rfl) rfl rfl (rd_assign (v := .c _) rfl rfl) ?_
      refine seq_nil ?_
      refine then_norm ?_
      refine code_ret ?_
      refine end_val (.inl rfl) (res_1 rfl (arv_tmp rfl)) ?_
      refine CEnt.int ?_
      rw [if_neg (by omega)]
/-- tag and body -/
def elC (tag : Nat) (body : List UInt8) : CV := .agg 2 (fl [.c (.int .i64 tag), bsC body])
theorem measure_ac (b : List UInt8) : ACp gs Tryd.prog 129 [bsC b] (.tup 3 (fl [.c (.int .i64 (measM b).n), bsC (measM b).rest, .err (measM b).e])) := by
  refine ac_of 67 Tryd.func129 rfl rfl rfl (fun al w0 F0 St0 => ?_)
  refine code_seq ?_
  refine code_region ?_
  refine q_rd (wanted_none rfl) rfl rfl (rd_assign (v := .c _) rfl rfl) ?_
  first | refine q_rd (wanted_none rfl) rfl rfl (rd_assign (v := bsC _) rfl rfl) ?_ | refine q_rd (wanted_none rfl) rfl rfl (rd_assign (v := .rs _ _ _) rfl rfl) ?_ | refine q_rd (wanted_none rfl) rfl rfl (rd_assign (v := .os _ _ _ _ _) rfl rfl) ?_ | refine q_rd (wanted_none rfl) rfl rfl (rd_assign (v := .c _) rfl rfl) ?_ | refine q_rd (wanted_none rfl) rfl rfl (rd_assign (v := .pv _) rfl rfl) ?_ | refine q_rd (wanted_none rfl) rfl rfl (rd_assign (v := .top) rfl rfl) ?_
  first | refine q_rd (wanted_none rfl) rfl rfl (rd_assign (v := .err _) rfl rfl) ?_ | refine q_rd (wanted_none rfl) rfl rfl (rd_assign (v := .c _) rfl rfl) ?_ | refine q_rd (wanted_none rfl) rfl rfl (rd_assign (v := .pv _) rfl rfl) ?_ | refine q_rd (wanted_none rfl) rfl rfl (rd_assign (v := .top) rfl rfl) ?_
  refine seq_nil ?_
  refine then_norm ?_
  refine code_seq ?_
  refine code_seq ?_
  refine code_region ?_
  first | refine q_rd (wanted_none rfl) rfl rfl (rd_move (v := bsC _) rfl rfl) ?_ | refine q_rd (wanted_none rfl) rfl rfl (rd_move (v := .rs _ _ _) rfl rfl) ?_ | refine q_rd (wanted_none rfl) rfl rfl (rd_move (v := .os _ _ _ _ _) rfl rfl) ?_ | refine q_rd (wanted_none rfl) rfl rfl (rd_move (v := .c _) rfl rfl) ?_ | refine q_rd (wanted_none rfl) rfl rfl (rd_move (v := .pv _) rfl rfl) ?_ | refine q_rd (wanted_none rfl) rfl rfl (rd_move (v := .top) rfl rfl) ?_
  first | refine q_rd (wanted_none rfl) rfl rfl (rd_lenR rfl rfl Tryd.underlying23) ?_ | refine q_rd (wanted_none rfl) rfl rfl (rd_lenO rfl rfl Tryd.underlying23) ?_ | refine q_rd (wanted_none rfl) rfl rfl (rd_lenN rfl rfl Tryd.underlying23) ?_
  refine q_rd (wanted_none rfl) rfl rfl (rd_eqI rfl rfl rfl) ?_
  refine seq_nil ?_
  refine then_norm ?_
  first | refine code_condSD rfl rfl (fun h72 => ?_) (fun h72 => ?_) | refine code_condS rfl rfl (fun h72 => ?_) (fun h72 => ?_)
  · refine code_seq ?_
    refine code_draw (.rd 0 (.rd 1 (.rd 2 (.rd 3 .done)))) (by kernel_rfl) (by kernel_rfl) rfl (by kernel_rfl) (by kernel_rfl) ?_
    simp only [opsOfT, List.getElem?_toArray, List.getElem?_cons_zero, List.getElem?_cons_succ]
    refine y_rd (wanted_none rfl) rfl rfl (rd_loadE 1 rfl rfl Tryd.underlying25 ag25) ?_
    refine y_rd (wanted_none rfl) rfl rfl (rd_assign (v := .c _) rfl rfl) ?_
    first | refine y_rd (wanted_none rfl) rfl rfl (rd_assign (v := bsC _) rfl rfl) ?_ | refine y_rd (wanted_none rfl) rfl rfl (rd_assign (v := .rs _ _ _) rfl rfl) ?_ | refine y_rd (wanted_none rfl) rfl rfl (rd_assign (v := .os _ _ _ _ _) rfl rfl) ?_ | refine y_rd (wanted_none rfl) rfl rfl (rd_assign (v := .c _) rfl rfl) ?_ | refine y_rd (wanted_none rfl) rfl rfl (rd_assign (v := .pv _) rfl rfl) ?_ | refine y_rd (wanted_none rfl) rfl rfl (rd_assign (v := .top) rfl rfl) ?_
    first | refine y_rd (wanted_none rfl) rfl rfl (rd_assign (v := .err _) rfl rfl) ?_ | refine y_rd (wanted_none rfl) rfl rfl (rd_assign (v := .c _) rfl rfl) ?_ | refine y_rd (wanted_none rfl) rfl rfl (rd_assign (v := .pv _) rfl rfl) ?_ | refine y_rd (wanted_none rfl) rfl rfl (rd_assign (v := .top) rfl rfl) ?_
    refine x_done ?_
    refine then_norm ?_
    refine code_ret ?_
    refine then_ret ?_
    refine end_val (.inl rfl) (res_3 rfl (arv_tmp rfl) (arv_tmp rfl) (arv_tmp rfl)) ?_
    have : b.length = 0 := by omega
    unfold measM
    rw [if_pos this]
    exact CEnt.tup3 (CEnt.refl _) CEnt.nilB (CEnt.refl _)
  · refine code_skip ?_
    refine then_norm ?_
    refine code_seq ?_
    refine code_draw (.rd 0 (.rd 1 (.rd 2 (.rd 3 (.rd 4 (.rd 5 (.rd 6 (.rd 7 .done)))))))) (by kernel_rfl) (by kernel_rfl) rfl (by kernel_rfl) (by kernel_rfl) ?_
    simp only [opsOfT, List.getElem?_toArray, List.getElem?_cons_zero, List.getElem?_cons_succ]
    first | refine y_rd (wanted_none rfl) rfl rfl (rd_move (v := bsC _) rfl rfl) ?_ | refine y_rd (wanted_none rfl) rfl rfl (rd_move (v := .rs _ _ _) rfl rfl) ?_ | refine y_rd (wanted_none rfl) rfl rfl (rd_move (v := .os _ _ _ _ _) rfl rfl) ?_ | refine y_rd (wanted_none rfl) rfl rfl (rd_move (v := .c _) rfl rfl) ?_ | refine y_rd (wanted_none rfl) rfl rfl (rd_move (v := .pv _) rfl rfl) ?_ | refine y_rd (wanted_none rfl) rfl rfl (rd_move (v := .top) rfl rfl) ?_
    first | refine y_rd (wanted_none rfl) rfl rfl (rd_iaddrR rfl rfl rfl Tryd.underlying23 sz5 (show (0 : Int) = ((0 : Nat) : Int) from rfl) (by (first | omega | (dsimp only at *; omega))) (by decide)) ?_ | refine y_rd (wanted_none rfl) rfl rfl (rd_iaddrO1 rfl rfl rfl Tryd.underlying23 sz5 (show (0 : Int) = ((0 : Nat) : Int) from rfl) (by (first | omega | (dsimp only at *; omega)))) ?_ | refine y_rd (wanted_none rfl) rfl rfl (rd_iaddrO rfl rfl rfl Tryd.underlying23 sz5 (show (0 : Int) = ((0 : Nat) : Int) from rfl) (by (first | omega | (dsimp only at *; omega)))) ?_
    first | refine y_rdO (wanted_none rfl) rfl rfl (rd_loadO (v := .c _) rfl rfl (.inl rfl) Tryd.underlying5 ag5 (by first | decide | (first | omega | (dsimp only at *; omega))) rfl) ?_ | refine y_rd (wanted_none rfl) rfl rfl (rd_loadR (v := .c _) rfl rfl Tryd.underlying5 ag5 (by first | decide | (first | omega | (dsimp only at *; omega))) rfl) ?_ | refine y_rdO (wanted_none rfl) rfl rfl (rd_loadO (v := .c _) rfl rfl (.inr rfl) Tryd.underlying5 ag5 (by first | decide | (first | omega | (dsimp only at *; omega))) rfl) ?_
    first | refine y_rd (wanted_none rfl) rfl rfl (rd_conv8 rfl rfl Tryd.underlying5 Tryd.underlying3 rfl) ?_ | refine y_rd (wanted_none rfl) rfl rfl (rd_convI rfl rfl Tryd.underlying5 Tryd.underlying3 _ (wrap_id (k := .i64) (by show _ ∧ _; (first | omega | (dsimp only at *; omega))))) ?_ | refine y_rd (wanted_none rfl) rfl rfl (rd_convI rfl rfl Tryd.underlying5 Tryd.underlying3 _ rfl) ?_
    first | refine y_rd (wanted_none rfl) rfl rfl (rd_move (v := bsC _) rfl rfl) ?_ | refine y_rd (wanted_none rfl) rfl rfl (rd_move (v := .rs _ _ _) rfl rfl) ?_ | refine y_rd (wanted_none rfl) rfl rfl (rd_move (v := .os _ _ _ _ _) rfl rfl) ?_ | refine y_rd (wanted_none rfl) rfl rfl (rd_move (v := .c _) rfl rfl) ?_ | refine y_rd (wanted_none rfl) rfl rfl (rd_move (v := .pv _) rfl rfl) ?_ | refine y_rd (wanted_none rfl) rfl rfl (rd_move (v := .top) rfl rfl) ?_
    first | refine y_rd (wanted_none rfl) rfl rfl (rd_sliceB_from rfl rfl Tryd.underlying23 sz5 rfl (show (1 : Int) = ((1 : Nat) : Int) from rfl) (by (first | omega | (dsimp only at *; omega)))) ?_ | refine y_rd (wanted_none rfl) rfl rfl (rd_sliceR rfl rfl Tryd.underlying23 sz5 (bd_some rfl (show (1 : Int) = ((1 : Nat) : Int) from rfl)) (bd_none _ _) (by (first | omega | (dsimp only at *; omega))) (by (first | omega | (dsimp only at *; omega)))) ?_ | refine y_rd (wanted_none rfl) rfl rfl (rd_sliceO rfl rfl Tryd.underlying23 sz5 (bd_some rfl (show (1 : Int) = ((1 : Nat) : Int) from rfl)) (bd_none _ _) (by (first | omega | (dsimp only at *; omega))) (by (first | omega | (dsimp only at *; omega))) (by (first | omega | (dsimp only at *; omega)))) ?_
    refine y_rd (wanted_none rfl) rfl rfl (rd_assign (v := .c _) rfl rfl) ?_
    first | refine y_rd (wanted_none rfl) rfl rfl (rd_assign (v := bsC _) rfl rfl) ?_ | refine y_rd (wanted_none rfl) rfl rfl (rd_assign (v := .rs _ _ _) rfl rfl) ?_ | refine y_rd (wanted_none rfl) rfl rfl (rd_assign (v := .os _ _ _ _ _) rfl rfl) ?_ | refine y_rd (wanted_none rfl) rfl rfl (rd_assign (v := .c _) rfl rfl) ?_ | refine y_rd (wanted_none rfl) rfl rfl (rd_assign (v := .pv _) rfl rfl) ?_ | refine y_rd (wanted_none rfl) rfl rfl (rd_assign (v := .top) rfl rfl) ?_
    refine x_done ?_
    refine then_norm ?_
    refine code_seq ?_
    refine code_seq ?_
    obtain ⟨c, hc⟩ : ∃ c, c = (b.getD 0 0).toNat := ⟨_, rfl⟩
    obtain ⟨r, hr⟩ : ∃ r, r = b.drop 1 := ⟨_, rfl⟩
    have c8 : c < 256 := by rw [hc]; exact (b.getD 0 0).toNat_lt
    have hM := measM_ne (by omega) hc hr
    refine code_ent (weaken 5 (.c (.int .i64 (c : Nat))) (CEnt.int (by rw [hc]))) ?_
    refine code_ent (weaken 0 (bsC r) (CEnt.bs hr.symm)) ?_
    refine code_region ?_
    refine q_rd (wanted_none rfl) rfl rfl (rd_move (v := .c _) rfl rfl) ?_
    refine q_rd (wanted_none rfl) rfl rfl (rd_le rfl rfl rfl) ?_
    refine seq_nil ?_
    refine then_norm ?_
    first | refine code_condSD rfl rfl (fun h76 => ?_) (fun h76 => ?_) | refine code_condS rfl rfl (fun h76 => ?_) (fun h76 => ?_)
    · refine code_seq ?_
      refine code_region ?_
      refine q_rd (wanted_none rfl) rfl rfl (rd_move (v := .c _) rfl rfl) ?_
      first | refine q_rd (wanted_none rfl) rfl rfl (rd_move (v := bsC _) rfl rfl) ?_ | refine q_rd (wanted_none rfl) rfl rfl (rd_move (v := .rs _ _ _) rfl rfl) ?_ | refine q_rd (wanted_none rfl) rfl rfl (rd_move (v := .os _ _ _ _ _) rfl rfl) ?_ | refine q_rd (wanted_none rfl) rfl rfl (rd_move (v := .c _) rfl rfl) ?_ | refine q_rd (wanted_none rfl) rfl rfl (rd_move (v := .pv _) rfl rfl) ?_ | refine q_rd (wanted_none rfl) rfl rfl (rd_move (v := .top) rfl rfl) ?_
      refine q_rd (wanted_none rfl) rfl rfl (rd_assign (v := .c _) rfl rfl) ?_
      first | refine q_rd (wanted_none rfl) rfl rfl (rd_assign (v := bsC _) rfl rfl) ?_ | refine q_rd (wanted_none rfl) rfl rfl (rd_assign (v := .rs _ _ _) rfl rfl) ?_ | refine q_rd (wanted_none rfl) rfl rfl (rd_assign (v := .os _ _ _ _ _) rfl rfl) ?_ | refine q_rd (wanted_none rfl) rfl rfl (rd_assign (v := .c _) rfl rfl) ?_ | refine q_rd (wanted_none rfl) rfl rfl (rd_assign (v := .pv _) rfl rfl) ?_ | refine q_rd (wanted_none rfl) rfl rfl (rd_assign (v := .top) rfl rfl) ?_
      first | refine q_rd (wanted_none rfl) rfl rfl (rd_assign (v := .err _) rfl rfl) ?_ | refine q_rd (wanted_none rfl) rfl rfl (rd_assign (v := .c _) rfl rfl) ?_ | refine q_rd (wanted_none rfl) rfl rfl (rd_assign (v := .pv _) rfl rfl) ?_ | refine q_rd (wanted_none rfl) rfl rfl (rd_assign (v := .top) rfl rfl) ?_
      refine seq_nil ?_
      refine then_norm ?_
      refine code_ret ?_
      refine then_ret ?_
      refine end_val (.inl rfl) (res_3 rfl (arv_tmp rfl) (arv_tmp rfl) (arv_tmp rfl)) ?_
      rw [hM, if_pos (by omega)]
      exact CEnt.tup3 (CEnt.refl _) (CEnt.refl _) CEnt.nil
    · refine code_skip ?_
      refine then_norm ?_
      refine code_seq ?_
      refine code_region ?_
      refine q_rd (wanted_none rfl) rfl rfl (rd_move (v := .c _) rfl rfl) ?_
      refine q_rd (wanted_none rfl) rfl rfl (rd_sub rfl rfl rfl (wrap_id (k := .i64) (by show _ ∧ _; (first | omega | (dsimp only at *; omega))))) ?_
      refine q_rd (wanted_none rfl) rfl rfl (rd_assign (v := .c _) rfl rfl) ?_
      refine seq_nil ?_
      refine then_norm ?_
      refine code_seq ?_
      refine code_block ?_
      refine code_seq ?_
      refine code_region ?_
      refine q_rd (wanted_none rfl) rfl rfl (rd_move (v := .c _) rfl rfl) ?_
      refine q_rd (wanted_none rfl) rfl rfl (rd_eqI rfl rfl rfl) ?_
      refine q_rd (wanted_none rfl) rfl rfl (rd_move (v := .c _) rfl rfl) ?_
      first | refine seq_splitD (d := 29) rfl rfl (fun g81 => ?_) (fun g81 => ?_) | refine seq_split (d := 29) rfl rfl (fun g81 => ?_) (fun g81 => ?_)
      · refine q_skip (wanted_is rfl rfl rfl rfl false rfl) rfl rfl ?_
        refine q_skip (wanted_is rfl rfl rfl rfl false rfl) rfl rfl ?_
        refine q_rd (wanted_none rfl) rfl rfl (rd_pickT (v := .c _) rfl rfl rfl) ?_
        refine q_rd (wanted_none rfl) rfl rfl (rd_assign (v := .c _) rfl rfl) ?_
        refine seq_nil ?_
        refine then_norm ?_
        refine code_condT rfl ?_
        refine code_seq ?_
        refine code_draw (.rd 0 (.rd 1 (.rd 2 (.rd 3 .done)))) (by kernel_rfl) (by kernel_rfl) rfl (by kernel_rfl) (by kernel_rfl) ?_
        simp only [opsOfT, List.getElem?_toArray, List.getElem?_cons_zero, List.getElem?_cons_succ]
        refine y_rd (wanted_none rfl) rfl rfl (rd_loadE 3 rfl rfl Tryd.underlying25 ag25) ?_
        refine y_rd (wanted_none rfl) rfl rfl (rd_assign (v := .c _) rfl rfl) ?_
        first | refine y_rd (wanted_none rfl) rfl rfl (rd_assign (v := bsC _) rfl rfl) ?_ | refine y_rd (wanted_none rfl) rfl rfl (rd_assign (v := .rs _ _ _) rfl rfl) ?_ | refine y_rd (wanted_none rfl) rfl rfl (rd_assign (v := .os _ _ _ _ _) rfl rfl) ?_ | refine y_rd (wanted_none rfl) rfl rfl (rd_assign (v := .c _) rfl rfl) ?_ | refine y_rd (wanted_none rfl) rfl rfl (rd_assign (v := .pv _) rfl rfl) ?_ | refine y_rd (wanted_none rfl) rfl rfl (rd_assign (v := .top) rfl rfl) ?_
        first | refine y_rd (wanted_none rfl) rfl rfl (rd_assign (v := .err _) rfl rfl) ?_ | refine y_rd (wanted_none rfl) rfl rfl (rd_assign (v := .c _) rfl rfl) ?_ | refine y_rd (wanted_none rfl) rfl rfl (rd_assign (v := .pv _) rfl rfl) ?_ | refine y_rd (wanted_none rfl) rfl rfl (rd_assign (v := .top) rfl rfl) ?_
        refine x_done ?_
        refine then_norm ?_
        refine code_ret ?_
        refine block_ret ?_
        refine then_ret ?_
        refine end_val (.inl rfl) (res_3 rfl (arv_tmp rfl) (arv_tmp rfl) (arv_tmp rfl)) ?_
        rw [hM, if_neg (by omega), if_pos (by omega)]
        exact CEnt.tup3 (CEnt.refl _) CEnt.nilB (CEnt.refl _)
      · refine q_rd (wanted_is rfl rfl rfl rfl true rfl) rfl rfl (rd_move (v := .c _) rfl rfl) ?_
        refine q_rd (wanted_is rfl rfl rfl rfl true rfl) rfl rfl (rd_gt rfl rfl rfl) ?_
        refine q_rd (wanted_none rfl) rfl rfl (rd_pickF (v := .c _) rfl rfl rfl) ?_
        refine q_rd (wanted_none rfl) rfl rfl (rd_assign (v := .c _) rfl rfl) ?_
        refine seq_nil ?_
        refine then_norm ?_
        first | refine code_condSD rfl rfl (fun h81 => ?_) (fun h81 => ?_) | refine code_condS rfl rfl (fun h81 => ?_) (fun h81 => ?_)
        · refine code_seq ?_
          refine code_draw (.rd 0 (.rd 1 (.rd 2 (.rd 3 .done)))) (by kernel_rfl) (by kernel_rfl) rfl (by kernel_rfl) (by kernel_rfl) ?_
          simp only [opsOfT, List.getElem?_toArray, List.getElem?_cons_zero, List.getElem?_cons_succ]
          refine y_rd (wanted_none rfl) rfl rfl (rd_loadE 3 rfl rfl Tryd.underlying25 ag25) ?_
          refine y_rd (wanted_none rfl) rfl rfl (rd_assign (v := .c _) rfl rfl) ?_
          first | refine y_rd (wanted_none rfl) rfl rfl (rd_assign (v := bsC _) rfl rfl) ?_ | refine y_rd (wanted_none rfl) rfl rfl (rd_assign (v := .rs _ _ _) rfl rfl) ?_ | refine y_rd (wanted_none rfl) rfl rfl (rd_assign (v := .os _ _ _ _ _) rfl rfl) ?_ | refine y_rd (wanted_none rfl) rfl rfl (rd_assign (v := .c _) rfl rfl) ?_ | refine y_rd (wanted_none rfl) rfl rfl (rd_assign (v := .pv _) rfl rfl) ?_ | refine y_rd (wanted_none rfl) rfl rfl (rd_assign (v := .top) rfl rfl) ?_
          first | refine y_rd (wanted_none rfl) rfl rfl (rd_assign (v := .err _) rfl rfl) ?_ | refine y_rd (wanted_none rfl) rfl rfl (rd_assign (v := .c _) rfl rfl) ?_ | refine y_rd (wanted_none rfl) rfl rfl (rd_assign (v := .pv _) rfl rfl) ?_ | refine y_rd (wanted_none rfl) rfl rfl (rd_assign (v := .top) rfl rfl) ?_
          refine x_done ?_
          refine then_norm ?_
          refine code_ret ?_
          refine block_ret ?_
          refine then_ret ?_
          refine end_val (.inl rfl) (res_3 rfl (arv_tmp rfl) (arv_tmp rfl) (arv_tmp rfl)) ?_
          rw [hM, if_neg (by omega), if_pos (by omega)]
          exact CEnt.tup3 (CEnt.refl _) CEnt.nilB (CEnt.refl _)
        · refine code_seq ?_
          refine code_region ?_
          first | refine q_rd (wanted_none rfl) rfl rfl (rd_move (v := bsC _) rfl rfl) ?_ | refine q_rd (wanted_none rfl) rfl rfl (rd_move (v := .rs _ _ _) rfl rfl) ?_ | refine q_rd (wanted_none rfl) rfl rfl (rd_move (v := .os _ _ _ _ _) rfl rfl) ?_ | refine q_rd (wanted_none rfl) rfl rfl (rd_move (v := .c _) rfl rfl) ?_ | refine q_rd (wanted_none rfl) rfl rfl (rd_move (v := .pv _) rfl rfl) ?_ | refine q_rd (wanted_none rfl) rfl rfl (rd_move (v := .top) rfl rfl) ?_
          first | refine q_rd (wanted_none rfl) rfl rfl (rd_lenR rfl rfl Tryd.underlying23) ?_ | refine q_rd (wanted_none rfl) rfl rfl (rd_lenO rfl rfl Tryd.underlying23) ?_ | refine q_rd (wanted_none rfl) rfl rfl (rd_lenN rfl rfl Tryd.underlying23) ?_
          refine q_rd (wanted_none rfl) rfl rfl (rd_move (v := .c _) rfl rfl) ?_
          refine q_rd (wanted_none rfl) rfl rfl (rd_lt rfl rfl rfl) ?_
          refine q_rd (wanted_none rfl) rfl rfl (rd_assign (v := .c _) rfl rfl) ?_
          refine seq_nil ?_
          refine then_norm ?_
          first | refine code_condSD rfl rfl (fun h83 => ?_) (fun h83 => ?_) | refine code_condS rfl rfl (fun h83 => ?_) (fun h83 => ?_)
          · refine code_seq ?_
            refine code_draw (.rd 0 (.rd 1 (.rd 2 (.rd 3 .done)))) (by kernel_rfl) (by kernel_rfl) rfl (by kernel_rfl) (by kernel_rfl) ?_
            simp only [opsOfT, List.getElem?_toArray, List.getElem?_cons_zero, List.getElem?_cons_succ]
            refine y_rd (wanted_none rfl) rfl rfl (rd_loadE 1 rfl rfl Tryd.underlying25 ag25) ?_
            refine y_rd (wanted_none rfl) rfl rfl (rd_assign (v := .c _) rfl rfl) ?_
            first | refine y_rd (wanted_none rfl) rfl rfl (rd_assign (v := bsC _) rfl rfl) ?_ | refine y_rd (wanted_none rfl) rfl rfl (rd_assign (v := .rs _ _ _) rfl rfl) ?_ | refine y_rd (wanted_none rfl) rfl rfl (rd_assign (v := .os _ _ _ _ _) rfl rfl) ?_ | refine y_rd (wanted_none rfl) rfl rfl (rd_assign (v := .c _) rfl rfl) ?_ | refine y_rd (wanted_none rfl) rfl rfl (rd_assign (v := .pv _) rfl rfl) ?_ | refine y_rd (wanted_none rfl) rfl rfl (rd_assign (v := .top) rfl rfl) ?_
            first | refine y_rd (wanted_none rfl) rfl rfl (rd_assign (v := .err _) rfl rfl) ?_ | refine y_rd (wanted_none rfl) rfl rfl (rd_assign (v := .c _) rfl rfl) ?_ | refine y_rd (wanted_none rfl) rfl rfl (rd_assign (v := .pv _) rfl rfl) ?_ | refine y_rd (wanted_none rfl) rfl rfl (rd_assign (v := .top) rfl rfl) ?_
            refine x_done ?_
            refine then_norm ?_
            refine code_ret ?_
            refine block_ret ?_
            refine then_ret ?_
            refine end_val (.inl rfl) (res_3 rfl (arv_tmp rfl) (arv_tmp rfl) (arv_tmp rfl)) ?_
            rw [hM, if_neg (by omega), if_neg (by omega), if_pos (by omega)]
            exact CEnt.tup3 (CEnt.refl _) CEnt.nilB (CEnt.refl _)
          · refine code_skip ?_
            refine block_norm ?_
            refine then_norm ?_
            refine code_seq ?_
            obtain ⟨w, hw⟩ : ∃ w, w = c - 128 := ⟨_, rfl⟩
            have hwr : w ≤ r.length := by omega
            refine code_ent (weaken 6 (.c (.int .i64 (w : Nat))) (CEnt.int (by omega))) ?_
            refine code_region ?_
            refine q_rd (wanted_none rfl) rfl rfl (rd_assign (v := .c _) rfl rfl) ?_
            refine seq_nil ?_
            refine then_norm ?_
            refine code_seq ?_
            refine code_seq ?_
            have htl : (r.take w).length = w := by simp; omega
            refine code_region ?_
            first | refine q_rd (wanted_none rfl) rfl rfl (rd_move (v := bsC _) rfl rfl) ?_ | refine q_rd (wanted_none rfl) rfl rfl (rd_move (v := .rs _ _ _) rfl rfl) ?_ | refine q_rd (wanted_none rfl) rfl rfl (rd_move (v := .os _ _ _ _ _) rfl rfl) ?_ | refine q_rd (wanted_none rfl) rfl rfl (rd_move (v := .c _) rfl rfl) ?_ | refine q_rd (wanted_none rfl) rfl rfl (rd_move (v := .pv _) rfl rfl) ?_ | refine q_rd (wanted_none rfl) rfl rfl (rd_move (v := .top) rfl rfl) ?_
            refine q_rd (wanted_none rfl) rfl rfl (rd_move (v := .c _) rfl rfl) ?_
            first | refine q_rd (wanted_none rfl) rfl rfl (rd_sliceB_to rfl rfl Tryd.underlying23 sz5 rfl (by first | exact rfl | exact natI (by omega)) (by (first | omega | (dsimp only at *; omega)))) ?_ | refine q_rd (wanted_none rfl) rfl rfl (rd_sliceR rfl rfl Tryd.underlying23 sz5 (bd_none _ _) (bd_some rfl (by first | exact rfl | exact natI (by omega))) (by (first | omega | (dsimp only at *; omega))) (by (first | omega | (dsimp only at *; omega)))) ?_ | refine q_rd (wanted_none rfl) rfl rfl (rd_sliceO rfl rfl Tryd.underlying23 sz5 (bd_none _ _) (bd_some rfl (by first | exact rfl | exact natI (by omega))) (by (first | omega | (dsimp only at *; omega))) (by (first | omega | (dsimp only at *; omega))) (by (first | omega | (dsimp only at *; omega)))) ?_
            first | refine q_rd (wanted_none rfl) rfl rfl (rd_lenR rfl rfl Tryd.underlying23) ?_ | refine q_rd (wanted_none rfl) rfl rfl (rd_lenO rfl rfl Tryd.underlying23) ?_ | refine q_rd (wanted_none rfl) rfl rfl (rd_lenN rfl rfl Tryd.underlying23) ?_
            refine q_rd (wanted_none rfl) rfl rfl (rd_move (v := .c _) rfl rfl) ?_
            refine seq_nil ?_
            refine then_norm ?_
            refine code_block ?_
            refine l_loop (α := Nat) [7, 9, 44, 45, 46, 47, 48, 49, 50, 51, 52, 53] (fun i => [(7, .c (.int .i64 (beN ((r.take w).take i) : Nat))), (44, .c (.int .i64 (i : Nat)))]) (fun _ => []) (fun i => i ≤ w) (fun i => w - i) (0) ?_ (fun _ => rfl) ?_ ?_ ?_
            · exact Nat.zero_le _
            · (repeat (first | exact EntE.nil | refine EntE.cons (CEnt.refl _) ?_ | refine EntE.cons (CEnt.int (by omega)) ?_))
            · (repeat (first | exact HEnt.nil | refine HEnt.same ?_ | refine HEnt.blk rfl (fun j hj => by rcases j with _|_|_|_|_|_|_|_|j <;> first | exact CEnt.refl _ | exact CEnt.int (by omega) | omega) ?_))
            · rintro i (hi : i ≤ w)
              refine code_seq ?_
              have htl : (r.take w).length = w := by simp; omega
              refine code_region ?_
              refine q_rd (wanted_none rfl) rfl rfl (rd_lt rfl rfl rfl) ?_
              refine seq_nil ?_
              refine then_norm ?_
              refine code_seq ?_
              first | refine code_condSD rfl rfl (fun h87 => ?_) (fun h87 => ?_) | refine code_condS rfl rfl (fun h87 => ?_) (fun h87 => ?_)
              · refine code_skip ?_
                refine then_norm ?_
                refine code_seq ?_
                refine code_block ?_
                refine code_seq ?_
                have htl : (r.take w).length = w := by simp; omega
                refine code_region ?_
                first | refine q_rd (wanted_none rfl) rfl rfl (rd_iaddrR rfl rfl rfl Tryd.underlying23 sz5 rfl (by (first | omega | (dsimp only at *; omega))) (by decide)) ?_ | refine q_rd (wanted_none rfl) rfl rfl (rd_iaddrO1 rfl rfl rfl Tryd.underlying23 sz5 rfl (by (first | omega | (dsimp only at *; omega)))) ?_ | refine q_rd (wanted_none rfl) rfl rfl (rd_iaddrO rfl rfl rfl Tryd.underlying23 sz5 rfl (by (first | omega | (dsimp only at *; omega)))) ?_ | refine q_rd (wanted_none rfl) rfl rfl (rd_iaddrR rfl rfl rfl Tryd.underlying23 sz5 (natI (by omega)) (by (first | omega | (dsimp only at *; omega))) (by decide)) ?_ | refine q_rd (wanted_none rfl) rfl rfl (rd_iaddrO1 rfl rfl rfl Tryd.underlying23 sz5 (natI (by omega)) (by (first | omega | (dsimp only at *; omega)))) ?_ | refine q_rd (wanted_none rfl) rfl rfl (rd_iaddrO rfl rfl rfl Tryd.underlying23 sz5 (natI (by omega)) (by (first | omega | (dsimp only at *; omega)))) ?_
                first | refine q_rdO (wanted_none rfl) rfl rfl (rd_loadO (v := .c _) rfl rfl (.inl rfl) Tryd.underlying5 ag5 (by first | decide | (first | omega | (dsimp only at *; omega))) rfl) ?_ | refine q_rd (wanted_none rfl) rfl rfl (rd_loadR (v := .c _) rfl rfl Tryd.underlying5 ag5 (by first | decide | (first | omega | (dsimp only at *; omega))) rfl) ?_ | refine q_rdO (wanted_none rfl) rfl rfl (rd_loadO (v := .c _) rfl rfl (.inr rfl) Tryd.underlying5 ag5 (by first | decide | (first | omega | (dsimp only at *; omega))) rfl) ?_
                refine q_rd (wanted_none rfl) rfl rfl (rd_assign (v := .c _) rfl rfl) ?_
                refine seq_nil ?_
                refine then_norm ?_
                have hbn := beN_lt ((r.take w).take i)
                have hbl : ((r.take w).take i).length = i := by simp; omega
                have hb3 : beN ((r.take w).take i) < 16777216 := by
                  rw [hbl] at hbn
                  have : i ≤ 3 := by omega
                  have := Nat.pow_le_pow_right (n := 256) (by decide) this
                  omega
                have hc8 := ((r.take w).getD i 0).toNat_lt
                refine code_region ?_
                refine q_rd (wanted_none rfl) rfl rfl (rd_move (v := .c _) rfl rfl) ?_
                refine q_rd (wanted_none rfl) rfl rfl (rd_shl rfl rfl rfl (by (first | omega | (dsimp only at *; omega))) (((beN ((r.take w).take i) * 256 : Nat) : Int)) ((by show IntKind.i64.wrap (((beN ((r.take w).take i) : Nat) : Int) * 2 ^ 8) = _; rw [IntWalk.i64_in _ (by omega)]; omega))) ?_
                refine q_rd (wanted_none rfl) rfl rfl (rd_move (v := .c _) rfl rfl) ?_
                first | refine q_rd (wanted_none rfl) rfl rfl (rd_conv8 rfl rfl Tryd.underlying5 Tryd.underlying3 rfl) ?_ | refine q_rd (wanted_none rfl) rfl rfl (rd_convI rfl rfl Tryd.underlying5 Tryd.underlying3 _ (wrap_id (k := .i64) (by show _ ∧ _; (first | omega | (dsimp only at *; omega))))) ?_ | refine q_rd (wanted_none rfl) rfl rfl (rd_convI rfl rfl Tryd.underlying5 Tryd.underlying3 _ rfl) ?_
                refine q_rd (wanted_none rfl) rfl rfl (rd_add rfl rfl rfl (wrap_id (k := .i64) (by show _ ∧ _; (first | omega | (dsimp only at *; omega))))) ?_
                refine q_rd (wanted_none rfl) rfl rfl (rd_assign (v := .c _) rfl rfl) ?_
                refine seq_nil ?_
                refine block_norm ?_
                refine then_norm ?_
                have htl : (r.take w).length = w := by simp; omega
                refine code_region ?_
                refine q_rd (wanted_none rfl) rfl rfl (rd_add rfl rfl rfl (wrap_id (k := .i64) (by show _ ∧ _; (first | omega | (dsimp only at *; omega))))) ?_
                refine q_rd (wanted_none rfl) rfl rfl (rd_move (v := .c _) rfl rfl) ?_
                refine seq_nil ?_
                refine then_norm ?_
                refine ⟨i + 1, ?_, ?_, rfl, rfl, ?_, by exact Nat.le_of_ble_eq_true rfl, ?_⟩
                · show i + 1 ≤ w; omega
                · omega
                · exact .cons (CEnt.int (by rw [beN_take (by omega)]; omega)) (.cons (CEnt.refl _) .nil)
                · (repeat (first | exact HEnt.nil | refine HEnt.same ?_ | refine HEnt.blk rfl (fun j hj => by rcases j with _|_|_|_|_|_|_|_|j <;> first | exact CEnt.refl _ | exact CEnt.int (by omega) | omega) ?_))
              · refine code_exit ?_
                refine then_exit ?_
                refine then_exit ?_
                refine block_exit rfl ?_
                refine then_norm ?_
                refine code_seq ?_
                refine code_seq ?_
                have hiw : i = w := by omega
                have htt : (r.take w).take i = r.take (c - 128) := by rw [hiw, hw, List.take_take, Nat.min_self]
                refine code_ent (weaken 7 (.c (.int .i64 (beN (r.take (c - 128)) : Nat))) (CEnt.int (by rw [htt]))) ?_
                refine code_region ?_
                refine q_rd (wanted_none rfl) rfl rfl (rd_move (v := .c _) rfl rfl) ?_
                refine q_rd (wanted_none rfl) rfl rfl (rd_le rfl rfl rfl) ?_
                refine q_rd (wanted_none rfl) rfl rfl (rd_move (v := .c _) rfl rfl) ?_
                first | refine seq_splitD (d := 56) rfl rfl (fun g90 => ?_) (fun g90 => ?_) | refine seq_split (d := 56) rfl rfl (fun g90 => ?_) (fun g90 => ?_)
                · refine q_skip (wanted_is rfl rfl rfl rfl false rfl) rfl rfl ?_
                  refine q_skip (wanted_is rfl rfl rfl rfl false rfl) rfl rfl ?_
                  refine q_skip (wanted_is rfl rfl rfl rfl false rfl) rfl rfl ?_
                  refine q_skip (wanted_is rfl rfl rfl rfl false rfl) rfl rfl ?_
                  refine q_rd (wanted_none rfl) rfl rfl (rd_pickT (v := .c _) rfl rfl rfl) ?_
                  refine seq_nil ?_
                  refine then_norm ?_
                  refine code_condT rfl ?_
                  refine code_seq ?_
                  refine code_draw (.rd 0 (.rd 1 (.rd 2 (.rd 3 .done)))) (by kernel_rfl) (by kernel_rfl) rfl (by kernel_rfl) (by kernel_rfl) ?_
                  simp only [opsOfT, List.getElem?_toArray, List.getElem?_cons_zero, List.getElem?_cons_succ]
                  refine y_rd (wanted_none rfl) rfl rfl (rd_loadE 3 rfl rfl Tryd.underlying25 ag25) ?_
                  refine y_rd (wanted_none rfl) rfl rfl (rd_assign (v := .c _) rfl rfl) ?_
                  first | refine y_rd (wanted_none rfl) rfl rfl (rd_assign (v := bsC _) rfl rfl) ?_ | refine y_rd (wanted_none rfl) rfl rfl (rd_assign (v := .rs _ _ _) rfl rfl) ?_ | refine y_rd (wanted_none rfl) rfl rfl (rd_assign (v := .os _ _ _ _ _) rfl rfl) ?_ | refine y_rd (wanted_none rfl) rfl rfl (rd_assign (v := .c _) rfl rfl) ?_ | refine y_rd (wanted_none rfl) rfl rfl (rd_assign (v := .pv _) rfl rfl) ?_ | refine y_rd (wanted_none rfl) rfl rfl (rd_assign (v := .top) rfl rfl) ?_
                  first | refine y_rd (wanted_none rfl) rfl rfl (rd_assign (v := .err _) rfl rfl) ?_ | refine y_rd (wanted_none rfl) rfl rfl (rd_assign (v := .c _) rfl rfl) ?_ | refine y_rd (wanted_none rfl) rfl rfl (rd_assign (v := .pv _) rfl rfl) ?_ | refine y_rd (wanted_none rfl) rfl rfl (rd_assign (v := .top) rfl rfl) ?_
                  refine x_done ?_
                  refine then_norm ?_
                  refine code_ret ?_
                  refine then_ret ?_
                  refine end_val (.inl rfl) (res_3 rfl (arv_tmp rfl) (arv_tmp rfl) (arv_tmp rfl)) ?_
                  rw [hM, if_neg (by omega), if_neg (by omega), if_neg (by omega), if_pos (by omega)]
                  exact CEnt.tup3 (CEnt.refl _) CEnt.nilB (CEnt.refl _)
                · first | refine q_rd (wanted_is rfl rfl rfl rfl true rfl) rfl rfl (rd_move (v := bsC _) rfl rfl) ?_ | refine q_rd (wanted_is rfl rfl rfl rfl true rfl) rfl rfl (rd_move (v := .rs _ _ _) rfl rfl) ?_ | refine q_rd (wanted_is rfl rfl rfl rfl true rfl) rfl rfl (rd_move (v := .os _ _ _ _ _) rfl rfl) ?_ | refine q_rd (wanted_is rfl rfl rfl rfl true rfl) rfl rfl (rd_move (v := .c _) rfl rfl) ?_ | refine q_rd (wanted_is rfl rfl rfl rfl true rfl) rfl rfl (rd_move (v := .pv _) rfl rfl) ?_ | refine q_rd (wanted_is rfl rfl rfl rfl true rfl) rfl rfl (rd_move (v := .top) rfl rfl) ?_
                  first | refine q_rd (wanted_is rfl rfl rfl rfl true rfl) rfl rfl (rd_iaddrR rfl rfl rfl Tryd.underlying23 sz5 (show (0 : Int) = ((0 : Nat) : Int) from rfl) (by (first | omega | (dsimp only at *; omega))) (by decide)) ?_ | refine q_rd (wanted_is rfl rfl rfl rfl true rfl) rfl rfl (rd_iaddrO1 rfl rfl rfl Tryd.underlying23 sz5 (show (0 : Int) = ((0 : Nat) : Int) from rfl) (by (first | omega | (dsimp only at *; omega)))) ?_ | refine q_rd (wanted_is rfl rfl rfl rfl true rfl) rfl rfl (rd_iaddrO rfl rfl rfl Tryd.underlying23 sz5 (show (0 : Int) = ((0 : Nat) : Int) from rfl) (by (first | omega | (dsimp only at *; omega)))) ?_
                  first | refine q_rdO (wanted_is rfl rfl rfl rfl true rfl) rfl rfl (rd_loadO (v := .c _) rfl rfl (.inl rfl) Tryd.underlying5 ag5 (by first | decide | (first | omega | (dsimp only at *; omega))) rfl) ?_ | refine q_rd (wanted_is rfl rfl rfl rfl true rfl) rfl rfl (rd_loadR (v := .c _) rfl rfl Tryd.underlying5 ag5 (by first | decide | (first | omega | (dsimp only at *; omega))) rfl) ?_ | refine q_rdO (wanted_is rfl rfl rfl rfl true rfl) rfl rfl (rd_loadO (v := .c _) rfl rfl (.inr rfl) Tryd.underlying5 ag5 (by first | decide | (first | omega | (dsimp only at *; omega))) rfl) ?_
                  refine q_rd (wanted_is rfl rfl rfl rfl true rfl) rfl rfl (rd_eqI rfl rfl rfl) ?_
                  refine q_rd (wanted_none rfl) rfl rfl (rd_pickF (v := .c _) rfl rfl rfl) ?_
                  refine seq_nil ?_
                  refine then_norm ?_
                  first | refine code_condSD rfl rfl (fun h90 => ?_) (fun h90 => ?_) | refine code_condS rfl rfl (fun h90 => ?_) (fun h90 => ?_)
                  · refine code_seq ?_
                    refine code_draw (.rd 0 (.rd 1 (.rd 2 (.rd 3 .done)))) (by kernel_rfl) (by kernel_rfl) rfl (by kernel_rfl) (by kernel_rfl) ?_
                    simp only [opsOfT, List.getElem?_toArray, List.getElem?_cons_zero, List.getElem?_cons_succ]
                    refine y_rd (wanted_none rfl) rfl rfl (rd_loadE 3 rfl rfl Tryd.underlying25 ag25) ?_
                    refine y_rd (wanted_none rfl) rfl rfl (rd_assign (v := .c _) rfl rfl) ?_
                    first | refine y_rd (wanted_none rfl) rfl rfl (rd_assign (v := bsC _) rfl rfl) ?_ | refine y_rd (wanted_none rfl) rfl rfl (rd_assign (v := .rs _ _ _) rfl rfl) ?_ | refine y_rd (wanted_none rfl) rfl rfl (rd_assign (v := .os _ _ _ _ _) rfl rfl) ?_ | refine y_rd (wanted_none rfl) rfl rfl (rd_assign (v := .c _) rfl rfl) ?_ | refine y_rd (wanted_none rfl) rfl rfl (rd_assign (v := .pv _) rfl rfl) ?_ | refine y_rd (wanted_none rfl) rfl rfl (rd_assign (v := .top) rfl rfl) ?_
                    first | refine y_rd (wanted_none rfl) rfl rfl (rd_assign (v := .err _) rfl rfl) ?_ | refine y_rd (wanted_none rfl) rfl rfl (rd_assign (v := .c _) rfl rfl) ?_ | refine y_rd (wanted_none rfl) rfl rfl (rd_assign (v := .pv _) rfl rfl) ?_ | refine y_rd (wanted_none rfl) rfl rfl (rd_assign (v := .top) rfl rfl) ?_
                    refine x_done ?_
                    refine then_norm ?_
                    refine code_ret ?_
                    refine then_ret ?_
                    refine end_val (.inl rfl) (res_3 rfl (arv_tmp rfl) (arv_tmp rfl) (arv_tmp rfl)) ?_
                    rw [hM, if_neg (by omega), if_neg (by omega), if_neg (by omega), if_pos (by omega)]
                    exact CEnt.tup3 (CEnt.refl _) CEnt.nilB (CEnt.refl _)
                  · refine code_skip ?_
                    refine then_norm ?_
                    refine code_seq ?_
                    refine code_draw (.rd 0 (.rd 1 (.rd 2 (.rd 3 (.rd 4 (.rd 5 (.rd 6 .done))))))) (by kernel_rfl) (by kernel_rfl) rfl (by kernel_rfl) (by kernel_rfl) ?_
                    simp only [opsOfT, List.getElem?_toArray, List.getElem?_cons_zero, List.getElem?_cons_succ]
                    refine y_rd (wanted_none rfl) rfl rfl (rd_move (v := .c _) rfl rfl) ?_
                    first | refine y_rd (wanted_none rfl) rfl rfl (rd_move (v := bsC _) rfl rfl) ?_ | refine y_rd (wanted_none rfl) rfl rfl (rd_move (v := .rs _ _ _) rfl rfl) ?_ | refine y_rd (wanted_none rfl) rfl rfl (rd_move (v := .os _ _ _ _ _) rfl rfl) ?_ | refine y_rd (wanted_none rfl) rfl rfl (rd_move (v := .c _) rfl rfl) ?_ | refine y_rd (wanted_none rfl) rfl rfl (rd_move (v := .pv _) rfl rfl) ?_ | refine y_rd (wanted_none rfl) rfl rfl (rd_move (v := .top) rfl rfl) ?_
                    refine y_rd (wanted_none rfl) rfl rfl (rd_move (v := .c _) rfl rfl) ?_
                    first | refine y_rd (wanted_none rfl) rfl rfl (rd_sliceB_from rfl rfl Tryd.underlying23 sz5 rfl (by first | exact rfl | exact natI (by omega)) (by (first | omega | (dsimp only at *; omega)))) ?_ | refine y_rd (wanted_none rfl) rfl rfl (rd_sliceR rfl rfl Tryd.underlying23 sz5 (bd_some rfl (by first | exact rfl | exact natI (by omega))) (bd_none _ _) (by (first | omega | (dsimp only at *; omega))) (by (first | omega | (dsimp only at *; omega)))) ?_ | refine y_rd (wanted_none rfl) rfl rfl (rd_sliceO rfl rfl Tryd.underlying23 sz5 (bd_some rfl (by first | exact rfl | exact natI (by omega))) (bd_none _ _) (by (first | omega | (dsimp only at *; omega))) (by (first | omega | (dsimp only at *; omega))) (by (first | omega | (dsimp only at *; omega)))) ?_
                    refine y_rd (wanted_none rfl) rfl rfl (rd_assign (v := .c _) rfl rfl) ?_
                    first | refine y_rd (wanted_none rfl) rfl rfl (rd_assign (v := bsC _) rfl rfl) ?_ | refine y_rd (wanted_none rfl) rfl rfl (rd_assign (v := .rs _ _ _) rfl rfl) ?_ | refine y_rd (wanted_none rfl) rfl rfl (rd_assign (v := .os _ _ _ _ _) rfl rfl) ?_ | refine y_rd (wanted_none rfl) rfl rfl (rd_assign (v := .c _) rfl rfl) ?_ | refine y_rd (wanted_none rfl) rfl rfl (rd_assign (v := .pv _) rfl rfl) ?_ | refine y_rd (wanted_none rfl) rfl rfl (rd_assign (v := .top) rfl rfl) ?_
                    first | refine y_rd (wanted_none rfl) rfl rfl (rd_assign (v := .err _) rfl rfl) ?_ | refine y_rd (wanted_none rfl) rfl rfl (rd_assign (v := .c _) rfl rfl) ?_ | refine y_rd (wanted_none rfl) rfl rfl (rd_assign (v := .pv _) rfl rfl) ?_ | refine y_rd (wanted_none rfl) rfl rfl (rd_assign (v := .top) rfl rfl) ?_
                    refine x_done ?_
                    refine then_norm ?_
                    refine code_ret ?_
                    refine end_val (.inl rfl) (res_3 rfl (arv_tmp rfl) (arv_tmp rfl) (arv_tmp rfl)) ?_
                    rw [hM, if_neg (by omega), if_neg (by omega), if_neg (by omega), if_neg (by omega)]
                    refine CEnt.tup3 (CEnt.refl _) (CEnt.bs ?_) CEnt.nil
                    rw [hw]
end Am
end Go.Proofs.YtndbjkapdmpbbaaDoor
