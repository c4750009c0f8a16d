/- Chapter 6: the example, the laws MomentsSeconds and MomentsAdd. -/
import Derived.Test.YtmlnipbeancnpaaDoorW06c
namespace Go.Proofs.YtmlnipbeancnpaaDoor
set_option linter.unusedVariables false
namespace Am
open Go.RowKit Cal
set_option linter.unusedVariables false
set_option maxRecDepth 100000

theorem example06 : bodyL (ofM 951782400) = [50, 48, 48, 48, 48, 50, 50, 57, 48, 48, 48, 48, 48, 48, 90] := by decide
theorem alive06_ac : ACp gs Tryd.prog 13 [] (.c (.bool true)) := by
  have h1 : inT 951782400 := by decide
  have h2 := example06
  have h3 : ofE 951782400 = 0 := by decide
  refine ac_of 18 Tryd.func13 rfl rfl rfl (fun al w0 F0 St0 => ?_)
  refine code_seq ?_
  refine code_region ?_
  refine q_rd (wanted_none rfl) rfl rfl (rd_assign (v := .c _) rfl rfl) ?_
  refine seq_nil ?_
  refine then_norm ?_
  refine code_seq ?_
  refine code_region ?_
  refine seq_ex (wanted_none rfl) (e_callP rfl (by kernel_rfl) (put_ac _) (.cons (by first | exact se rfl (CEnt.refl _) | exact se rfl CEnt.nil | exact se rfl CEnt.nilB | exact se rfl (CEnt.osI rfl) | exact se rfl CEnt.opI | exact se_nilO rfl | exact se rfl (CEnt.agg2 (CEnt.refl _) (CEnt.refl _)) | exact se rfl (CEnt.agg3 (CEnt.refl _) (CEnt.refl _) (CEnt.refl _)) | exact se rfl (CEnt.agg4 (CEnt.refl _) (CEnt.refl _) (CEnt.refl _) (CEnt.refl _)) | exact se rfl (CEnt.agg5 (CEnt.refl _) (CEnt.refl _) (CEnt.refl _) (CEnt.refl _) (CEnt.refl _)) | exact se rfl (CEnt.agg6 (CEnt.refl _) (CEnt.refl _) (CEnt.refl _) (CEnt.refl _) (CEnt.refl _) (CEnt.refl _)) | exact se_frzB _ rfl rfl rfl (by simp) (fun _ _ => CEnt.refl _)) .nil) rfl rfl ?_)
  first | refine q_rd (wanted_none rfl) rfl rfl (rd_move (v := .tup _ _) rfl rfl) ?_ | refine q_rd (wanted_none rfl) rfl rfl (rd_move (v := .c _) rfl rfl) ?_ | refine q_rd (wanted_none rfl) rfl rfl (rd_move (v := .pv _) rfl rfl) ?_ | refine q_rd (wanted_none rfl) rfl rfl (rd_move (v := .top) rfl rfl) ?_
  first | refine q_rd (wanted_none rfl) rfl rfl (rd_extract (v := bsC _) rfl rfl rfl rfl) ?_ | refine q_rd (wanted_none rfl) rfl rfl (rd_extract (v := .rs _ _ _) rfl rfl rfl rfl) ?_ | refine q_rd (wanted_none rfl) rfl rfl (rd_extract (v := .os _ _ _ _ _) rfl rfl rfl rfl) ?_ | refine q_rd (wanted_none rfl) rfl rfl (rd_extract (v := .c _) rfl rfl rfl rfl) ?_ | refine q_rd (wanted_none rfl) rfl rfl (rd_extract (v := .pv _) rfl rfl rfl rfl) ?_ | refine q_rd (wanted_none rfl) rfl rfl (rd_extract (v := .top) rfl rfl rfl rfl) ?_
  first | refine q_rd (wanted_none rfl) rfl rfl (rd_extract (v := .err _) rfl rfl rfl rfl) ?_ | refine q_rd (wanted_none rfl) rfl rfl (rd_extract (v := .c _) rfl rfl rfl rfl) ?_ | refine q_rd (wanted_none rfl) rfl rfl (rd_extract (v := .pv _) rfl rfl rfl rfl) ?_ | refine q_rd (wanted_none rfl) rfl rfl (rd_extract (v := .top) rfl rfl rfl rfl) ?_
  first | refine q_rd (wanted_none rfl) rfl rfl (rd_assign (v := bsC _) rfl rfl) ?_ | refine q_rd (wanted_none rfl) rfl rfl (rd_assign (v := .rs _ _ _) rfl rfl) ?_ | refine q_rd (wanted_none rfl) rfl rfl (rd_assign (v := .os _ _ _ _ _) rfl rfl) ?_ | refine q_rd (wanted_none rfl) rfl rfl (rd_assign (v := .c _) rfl rfl) ?_ | refine q_rd (wanted_none rfl) rfl rfl (rd_assign (v := .pv _) rfl rfl) ?_ | refine q_rd (wanted_none rfl) rfl rfl (rd_assign (v := .top) rfl rfl) ?_
  first | refine q_rd (wanted_none rfl) rfl rfl (rd_assign (v := .err _) rfl rfl) ?_ | refine q_rd (wanted_none rfl) rfl rfl (rd_assign (v := .c _) rfl rfl) ?_ | refine q_rd (wanted_none rfl) rfl rfl (rd_assign (v := .pv _) rfl rfl) ?_ | refine q_rd (wanted_none rfl) rfl rfl (rd_assign (v := .top) rfl rfl) ?_
  refine seq_nil ?_
  refine then_norm ?_
  refine code_seq ?_
  refine code_region ?_
  first | refine q_rd (wanted_none rfl) rfl rfl (rd_move (v := .err _) rfl rfl) ?_ | refine q_rd (wanted_none rfl) rfl rfl (rd_move (v := .c _) rfl rfl) ?_ | refine q_rd (wanted_none rfl) rfl rfl (rd_move (v := .pv _) rfl rfl) ?_ | refine q_rd (wanted_none rfl) rfl rfl (rd_move (v := .top) rfl rfl) ?_
  first | refine q_rd (wanted_none rfl) rfl rfl (rd_eqE rfl rfl) ?_ | refine q_rd (wanted_none rfl) rfl rfl (rd_eqE0 rfl rfl) ?_
  refine q_rd (wanted_none rfl) rfl rfl (rd_move (v := .c _) rfl rfl) ?_
  first | refine seq_splitD (d := 9) rfl rfl (fun g13 => ?_) (fun g13 => ?_) | refine seq_split (d := 9) rfl rfl (fun g13 => ?_) (fun g13 => ?_)
  · first | refine q_rd (wanted_is rfl rfl rfl rfl true rfl) rfl rfl (rd_move (v := bsC _) rfl rfl) ?_ | refine q_rd (wanted_is rfl rfl rfl rfl true rfl) rfl rfl (rd_move (v := .rs _ _ _) rfl rfl) ?_ | refine q_rd (wanted_is rfl rfl rfl rfl true rfl) rfl rfl (rd_move (v := .os _ _ _ _ _) rfl rfl) ?_ | refine q_rd (wanted_is rfl rfl rfl rfl true rfl) rfl rfl (rd_move (v := .c _) rfl rfl) ?_ | refine q_rd (wanted_is rfl rfl rfl rfl true rfl) rfl rfl (rd_move (v := .pv _) rfl rfl) ?_ | refine q_rd (wanted_is rfl rfl rfl rfl true rfl) rfl rfl (rd_move (v := .top) rfl rfl) ?_
    first | refine q_rd (wanted_is rfl rfl rfl rfl true rfl) rfl rfl (rd_convBS rfl rfl Tryd.underlying30 Tryd.underlying5 Tryd.underlying9) ?_ | refine q_rdO (wanted_is rfl rfl rfl rfl true rfl) rfl rfl (rd_convBO rfl rfl (.inl rfl) Tryd.underlying30 Tryd.underlying5 Tryd.underlying9 (by simp)) ?_ | refine q_rdO (wanted_is rfl rfl rfl rfl true rfl) rfl rfl (rd_convBO rfl rfl (.inr rfl) Tryd.underlying30 Tryd.underlying5 Tryd.underlying9 (by simp)) ?_ | refine q_rd (wanted_is rfl rfl rfl rfl true rfl) rfl rfl (rd_convBN rfl rfl Tryd.underlying30 Tryd.underlying5 Tryd.underlying9) ?_
    refine q_rd (wanted_is rfl rfl rfl rfl true rfl) rfl rfl (rd_eqS rfl rfl rfl) ?_
    refine q_rd (wanted_none rfl) rfl rfl (rd_pickT (v := .c _) rfl rfl rfl) ?_
    refine q_rd (wanted_none rfl) rfl rfl (rd_move (v := .c _) rfl rfl) ?_
    first | refine seq_splitD (d := 14) rfl rfl (fun g13_2 => ?_) (fun g13_2 => ?_) | refine seq_split (d := 14) rfl rfl (fun g13_2 => ?_) (fun g13_2 => ?_)
    · refine seq_ex (wanted_is rfl rfl rfl rfl true rfl) (e_callP rfl (by kernel_rfl) (weekday_ac _) (.cons (by first | exact se rfl (CEnt.refl _) | exact se rfl CEnt.nil | exact se rfl CEnt.nilB | exact se rfl (CEnt.osI rfl) | exact se rfl CEnt.opI | exact se_nilO rfl | exact se rfl (CEnt.agg2 (CEnt.refl _) (CEnt.refl _)) | exact se rfl (CEnt.agg3 (CEnt.refl _) (CEnt.refl _) (CEnt.refl _)) | exact se rfl (CEnt.agg4 (CEnt.refl _) (CEnt.refl _) (CEnt.refl _) (CEnt.refl _)) | exact se rfl (CEnt.agg5 (CEnt.refl _) (CEnt.refl _) (CEnt.refl _) (CEnt.refl _) (CEnt.refl _)) | exact se rfl (CEnt.agg6 (CEnt.refl _) (CEnt.refl _) (CEnt.refl _) (CEnt.refl _) (CEnt.refl _) (CEnt.refl _)) | exact se_frzB _ rfl rfl rfl (by simp) (fun _ _ => CEnt.refl _)) .nil) rfl rfl ?_)
      refine q_rd (wanted_is rfl rfl rfl rfl true rfl) rfl rfl (rd_eqI rfl rfl rfl) ?_
      refine q_rd (wanted_none rfl) rfl rfl (rd_pickT (v := .c _) rfl rfl rfl) ?_
      refine q_rd (wanted_none rfl) rfl rfl (rd_assign (v := .c _) rfl rfl) ?_
      refine seq_nil ?_
      refine then_norm ?_
      refine code_ret ?_
      refine end_val (.inl rfl) (res_1 rfl (arv_tmp rfl)) ?_
      refine CEnt.bool ?_
      first | (simp [*]; done) | (rw [if_pos h1, h2] at g13_2; exact absurd rfl g13_2) | exact absurd h3 g13
    · refine q_skip (wanted_is rfl rfl rfl rfl false rfl) rfl rfl ?_
      refine q_skip (wanted_is rfl rfl rfl rfl false rfl) rfl rfl ?_
      refine q_rd (wanted_none rfl) rfl rfl (rd_pickF (v := .c _) rfl rfl rfl) ?_
      refine q_rd (wanted_none rfl) rfl rfl (rd_assign (v := .c _) rfl rfl) ?_
      refine seq_nil ?_
      refine then_norm ?_
      refine code_ret ?_
      refine end_val (.inl rfl) (res_1 rfl (arv_tmp rfl)) ?_
      refine CEnt.bool ?_
      first | (simp [*]; done) | (rw [if_pos h1, h2] at g13_2; exact absurd rfl g13_2) | exact absurd h3 g13
  · refine q_skip (wanted_is rfl rfl rfl rfl false rfl) rfl rfl ?_
    refine q_skip (wanted_is rfl rfl rfl rfl false rfl) rfl rfl ?_
    refine q_skip (wanted_is rfl rfl rfl rfl false rfl) rfl rfl ?_
    refine q_rd (wanted_none rfl) rfl rfl (rd_pickF (v := .c _) rfl rfl rfl) ?_
    refine q_rd (wanted_none rfl) rfl rfl (rd_move (v := .c _) rfl rfl) ?_
    refine q_skip (wanted_is rfl rfl rfl rfl false rfl) rfl rfl ?_
    refine q_skip (wanted_is rfl rfl rfl rfl false rfl) rfl rfl ?_
    refine q_rd (wanted_none rfl) rfl rfl (rd_pickF (v := .c _) rfl rfl rfl) ?_
    refine q_rd (wanted_none rfl) rfl rfl (rd_assign (v := .c _) rfl rfl) ?_
    refine seq_nil ?_
    refine then_norm ?_
    refine code_ret ?_
    refine end_val (.inl rfl) (res_1 rfl (arv_tmp rfl)) ?_
    refine CEnt.bool ?_
    first | (simp [*]; done) | (rw [if_pos h1, h2] at g13_2; exact absurd rfl g13_2) | exact absurd h3 g13

theorem momentsSeconds_ac (x : D6) : ACp gs Tryd.prog 4 [dateC x] (.c (.bool true)) := by
  refine ac_of 48 Tryd.func4 rfl rfl rfl (fun al w0 F0 St0 => ?_)
  refine code_seq ?_
  refine code_region ?_
  refine seq_ex (wanted_none rfl) (e_box (n := 6) rfl rfl rfl rfl rfl rfl (fun p1 => ?_))
  refine q_rd (wanted_none rfl) rfl rfl (rd_assign (v := .c _) rfl rfl) ?_
  refine seq_nil ?_
  refine then_norm ?_
  refine code_seq ?_
  refine code_seq ?_
  refine code_region ?_
  refine seq_ex (wanted_none rfl) (e_callP rfl (by kernel_rfl) (alive06_ac) .nil rfl rfl ?_)
  first | refine q_rd (wanted_none rfl) rfl rfl (rd_notD rfl rfl) ?_ | refine q_rd (wanted_none rfl) rfl rfl (rd_not rfl rfl) ?_
  refine seq_nil ?_
  refine then_norm ?_
  first | refine code_condSD rfl rfl (fun h34 => ?_) (fun h34 => ?_) | refine code_condS rfl rfl (fun h34 => ?_) (fun h34 => ?_)
  · refine code_seq ?_
    refine code_region ?_
    refine q_rd (wanted_none rfl) rfl rfl (rd_assign (v := .c _) rfl rfl) ?_
    refine seq_nil ?_
    refine then_norm ?_
    refine code_ret ?_
    refine then_ret ?_
    refine end_val (.inl rfl) (res_1 rfl (arv_tmp rfl)) ?_
    exact absurd h34 (by decide)
  · refine code_skip ?_
    refine then_norm ?_
    refine code_seq ?_
    refine code_region ?_
    first | refine q_rdO (wanted_none rfl) rfl rfl (rd_loadOA rfl rfl (.inl rfl) Tryd.underlying35 ag35 sz35 (by first | decide | (first | omega | (dsimp only at *; omega)))) ?_ | refine q_rd (wanted_none rfl) rfl rfl (rd_loadRA rfl rfl Tryd.underlying35 ag35 sz35 (by first | decide | (first | omega | (dsimp only at *; omega)))) ?_ | refine q_rdO (wanted_none rfl) rfl rfl (rd_loadOA rfl rfl (.inr rfl) Tryd.underlying35 ag35 sz35 (by first | decide | (first | omega | (dsimp only at *; omega)))) ?_
    refine seq_ex (wanted_none rfl) (e_callP rfl (by kernel_rfl) (secs_ac x) (.cons (by first | exact se rfl (CEnt.refl _) | exact se rfl CEnt.nil | exact se rfl CEnt.nilB | exact se rfl (CEnt.osI rfl) | exact se rfl CEnt.opI | exact se_nilO rfl | exact se rfl (CEnt.agg2 (CEnt.refl _) (CEnt.refl _)) | exact se rfl (CEnt.agg3 (CEnt.refl _) (CEnt.refl _) (CEnt.refl _)) | exact se rfl (CEnt.agg4 (CEnt.refl _) (CEnt.refl _) (CEnt.refl _) (CEnt.refl _)) | exact se rfl (CEnt.agg5 (CEnt.refl _) (CEnt.refl _) (CEnt.refl _) (CEnt.refl _) (CEnt.refl _)) | exact se rfl (CEnt.agg6 (CEnt.refl _) (CEnt.refl _) (CEnt.refl _) (CEnt.refl _) (CEnt.refl _) (CEnt.refl _)) | exact se_frzB _ rfl rfl rfl (by simp) (fun _ _ => CEnt.refl _)) .nil) rfl rfl ?_)
    first | refine q_rd (wanted_none rfl) rfl rfl (rd_move (v := .tup _ _) rfl rfl) ?_ | refine q_rd (wanted_none rfl) rfl rfl (rd_move (v := .c _) rfl rfl) ?_ | refine q_rd (wanted_none rfl) rfl rfl (rd_move (v := .pv _) rfl rfl) ?_ | refine q_rd (wanted_none rfl) rfl rfl (rd_move (v := .top) rfl rfl) ?_
    refine q_rd (wanted_none rfl) rfl rfl (rd_extract (v := .c _) rfl rfl rfl rfl) ?_
    first | refine q_rd (wanted_none rfl) rfl rfl (rd_extract (v := .err _) rfl rfl rfl rfl) ?_ | refine q_rd (wanted_none rfl) rfl rfl (rd_extract (v := .c _) rfl rfl rfl rfl) ?_ | refine q_rd (wanted_none rfl) rfl rfl (rd_extract (v := .pv _) rfl rfl rfl rfl) ?_ | refine q_rd (wanted_none rfl) rfl rfl (rd_extract (v := .top) rfl rfl rfl rfl) ?_
    refine q_rd (wanted_none rfl) rfl rfl (rd_assign (v := .c _) rfl rfl) ?_
    first | refine q_rd (wanted_none rfl) rfl rfl (rd_assign (v := .err _) rfl rfl) ?_ | refine q_rd (wanted_none rfl) rfl rfl (rd_assign (v := .c _) rfl rfl) ?_ | refine q_rd (wanted_none rfl) rfl rfl (rd_assign (v := .pv _) rfl rfl) ?_ | refine q_rd (wanted_none rfl) rfl rfl (rd_assign (v := .top) rfl rfl) ?_
    refine seq_nil ?_
    refine then_norm ?_
    refine code_seq ?_
    refine code_region ?_
    first | refine q_rdO (wanted_none rfl) rfl rfl (rd_loadOA rfl rfl (.inl rfl) Tryd.underlying35 ag35 sz35 (by first | decide | (first | omega | (dsimp only at *; omega)))) ?_ | refine q_rd (wanted_none rfl) rfl rfl (rd_loadRA rfl rfl Tryd.underlying35 ag35 sz35 (by first | decide | (first | omega | (dsimp only at *; omega)))) ?_ | refine q_rdO (wanted_none rfl) rfl rfl (rd_loadOA rfl rfl (.inr rfl) Tryd.underlying35 ag35 sz35 (by first | decide | (first | omega | (dsimp only at *; omega)))) ?_
    refine seq_ex (wanted_none rfl) (e_alloc (n := 6) rfl zr37 rfl rfl rfl (fun p2 => ?_))
    refine seq_md (wanted_none rfl) (m_store rfl rfl rfl rfl rfl sz37 rfl rfl (by first | decide | (first | omega | (dsimp only at *; omega))) _ (fun _ _ => CEnt.refl _) rfl ?_)
    refine seq_nil ?_
    refine then_norm ?_
    refine code_seq ?_
    refine code_seq ?_
    refine code_region ?_
    first | refine q_rdO (wanted_none rfl) rfl rfl (rd_loadOA rfl rfl (.inl rfl) Tryd.underlying37 ag37 sz37 (by first | decide | (first | omega | (dsimp only at *; omega)))) ?_ | refine q_rd (wanted_none rfl) rfl rfl (rd_loadRA rfl rfl Tryd.underlying37 ag37 sz37 (by first | decide | (first | omega | (dsimp only at *; omega)))) ?_ | refine q_rdO (wanted_none rfl) rfl rfl (rd_loadOA rfl rfl (.inr rfl) Tryd.underlying37 ag37 sz37 (by first | decide | (first | omega | (dsimp only at *; omega)))) ?_
    refine seq_ex (wanted_none rfl) (e_callP rfl (by kernel_rfl) (rright_ac x) (.cons (by first | exact se rfl (CEnt.refl _) | exact se rfl CEnt.nil | exact se rfl CEnt.nilB | exact se rfl (CEnt.osI rfl) | exact se rfl CEnt.opI | exact se_nilO rfl | exact se rfl (CEnt.agg2 (CEnt.refl _) (CEnt.refl _)) | exact se rfl (CEnt.agg3 (CEnt.refl _) (CEnt.refl _) (CEnt.refl _)) | exact se rfl (CEnt.agg4 (CEnt.refl _) (CEnt.refl _) (CEnt.refl _) (CEnt.refl _)) | exact se rfl (CEnt.agg5 (CEnt.refl _) (CEnt.refl _) (CEnt.refl _) (CEnt.refl _) (CEnt.refl _)) | exact se rfl (CEnt.agg6 (CEnt.refl _) (CEnt.refl _) (CEnt.refl _) (CEnt.refl _) (CEnt.refl _) (CEnt.refl _)) | exact se_frzB _ rfl rfl rfl (by simp) (fun _ _ => CEnt.refl _)) .nil) rfl rfl ?_)
    first | refine q_rd (wanted_none rfl) rfl rfl (rd_notD rfl rfl) ?_ | refine q_rd (wanted_none rfl) rfl rfl (rd_not rfl rfl) ?_
    refine seq_nil ?_
    refine then_norm ?_
    first | refine code_condSD rfl rfl (fun h39 => ?_) (fun h39 => ?_) | refine code_condS rfl rfl (fun h39 => ?_) (fun h39 => ?_)
    · refine code_seq ?_
      refine code_region ?_
      refine q_rd (wanted_none rfl) rfl rfl (rd_move (v := .c _) rfl rfl) ?_
      refine q_rd (wanted_none rfl) rfl rfl (rd_eqI rfl rfl rfl) ?_
      refine q_rd (wanted_none rfl) rfl rfl (rd_move (v := .c _) rfl rfl) ?_
      first | refine seq_splitD (d := 21) rfl rfl (fun g40 => ?_) (fun g40 => ?_) | refine seq_split (d := 21) rfl rfl (fun g40 => ?_) (fun g40 => ?_)
      · first | refine q_rd (wanted_is rfl rfl rfl rfl true rfl) rfl rfl (rd_move (v := .err _) rfl rfl) ?_ | refine q_rd (wanted_is rfl rfl rfl rfl true rfl) rfl rfl (rd_move (v := .c _) rfl rfl) ?_ | refine q_rd (wanted_is rfl rfl rfl rfl true rfl) rfl rfl (rd_move (v := .pv _) rfl rfl) ?_ | refine q_rd (wanted_is rfl rfl rfl rfl true rfl) rfl rfl (rd_move (v := .top) rfl rfl) ?_
        refine seq_ex (wanted_is rfl rfl rfl rfl true rfl) (e_callP rfl (by kernel_rfl) (num_ac (if RightP x then 0 else 1) (by split <;> decide)) (.cons (by first | exact se rfl (CEnt.refl _) | exact se rfl CEnt.nil | exact se rfl CEnt.nilB | exact se rfl (CEnt.osI rfl) | exact se rfl CEnt.opI | exact se_nilO rfl | exact se rfl (CEnt.agg2 (CEnt.refl _) (CEnt.refl _)) | exact se rfl (CEnt.agg3 (CEnt.refl _) (CEnt.refl _) (CEnt.refl _)) | exact se rfl (CEnt.agg4 (CEnt.refl _) (CEnt.refl _) (CEnt.refl _) (CEnt.refl _)) | exact se rfl (CEnt.agg5 (CEnt.refl _) (CEnt.refl _) (CEnt.refl _) (CEnt.refl _) (CEnt.refl _)) | exact se rfl (CEnt.agg6 (CEnt.refl _) (CEnt.refl _) (CEnt.refl _) (CEnt.refl _) (CEnt.refl _) (CEnt.refl _)) | exact se_frzB _ rfl rfl rfl (by simp) (fun _ _ => CEnt.refl _)) .nil) rfl rfl ?_)
        refine q_rd (wanted_is rfl rfl rfl rfl true rfl) rfl rfl (rd_eqI rfl rfl rfl) ?_
        refine q_rd (wanted_none rfl) rfl rfl (rd_pickT (v := .c _) rfl rfl rfl) ?_
        refine q_rd (wanted_none rfl) rfl rfl (rd_assign (v := .c _) rfl rfl) ?_
        refine seq_nil ?_
        refine then_norm ?_
        refine code_ret ?_
        refine then_ret ?_
        refine end_val (.inl rfl) (res_1 rfl (arv_tmp rfl)) ?_
        refine CEnt.bool ?_
        simp [h39] at *
      · refine q_skip (wanted_is rfl rfl rfl rfl false rfl) rfl rfl ?_
        refine q_skip (wanted_is rfl rfl rfl rfl false rfl) rfl rfl ?_
        refine q_skip (wanted_is rfl rfl rfl rfl false rfl) rfl rfl ?_
        refine q_rd (wanted_none rfl) rfl rfl (rd_pickF (v := .c _) rfl rfl rfl) ?_
        refine q_rd (wanted_none rfl) rfl rfl (rd_assign (v := .c _) rfl rfl) ?_
        refine seq_nil ?_
        refine then_norm ?_
        refine code_ret ?_
        refine then_ret ?_
        refine end_val (.inl rfl) (res_1 rfl (arv_tmp rfl)) ?_
        refine CEnt.bool ?_
        simp [h39] at *
    · refine code_skip ?_
      refine then_norm ?_
      refine code_seq ?_
      have hr : RightP x := Decidable.not_not.1 h39
      refine code_region ?_
      refine q_rd (wanted_none rfl) rfl rfl (rd_move (v := .c _) rfl rfl) ?_
      refine seq_ex (wanted_none rfl) (e_callP rfl (by kernel_rfl) (of_ac _) (.cons (by first | exact se rfl (CEnt.refl _) | exact se rfl CEnt.nil | exact se rfl CEnt.nilB | exact se rfl (CEnt.osI rfl) | exact se rfl CEnt.opI | exact se_nilO rfl | exact se rfl (CEnt.agg2 (CEnt.refl _) (CEnt.refl _)) | exact se rfl (CEnt.agg3 (CEnt.refl _) (CEnt.refl _) (CEnt.refl _)) | exact se rfl (CEnt.agg4 (CEnt.refl _) (CEnt.refl _) (CEnt.refl _) (CEnt.refl _)) | exact se rfl (CEnt.agg5 (CEnt.refl _) (CEnt.refl _) (CEnt.refl _) (CEnt.refl _) (CEnt.refl _)) | exact se rfl (CEnt.agg6 (CEnt.refl _) (CEnt.refl _) (CEnt.refl _) (CEnt.refl _) (CEnt.refl _) (CEnt.refl _)) | exact se_frzB _ rfl rfl rfl (by simp) (fun _ _ => CEnt.refl _)) .nil) rfl rfl ?_)
      first | refine q_rd (wanted_none rfl) rfl rfl (rd_move (v := .tup _ _) rfl rfl) ?_ | refine q_rd (wanted_none rfl) rfl rfl (rd_move (v := .c _) rfl rfl) ?_ | refine q_rd (wanted_none rfl) rfl rfl (rd_move (v := .pv _) rfl rfl) ?_ | refine q_rd (wanted_none rfl) rfl rfl (rd_move (v := .top) rfl rfl) ?_
      first | refine q_rd (wanted_none rfl) rfl rfl (rd_extract (v := .agg _ _) rfl rfl rfl rfl) ?_ | refine q_rd (wanted_none rfl) rfl rfl (rd_extract (v := .c _) rfl rfl rfl rfl) ?_ | refine q_rd (wanted_none rfl) rfl rfl (rd_extract (v := .pv _) rfl rfl rfl rfl) ?_
      first | refine q_rd (wanted_none rfl) rfl rfl (rd_extract (v := .err _) rfl rfl rfl rfl) ?_ | refine q_rd (wanted_none rfl) rfl rfl (rd_extract (v := .c _) rfl rfl rfl rfl) ?_ | refine q_rd (wanted_none rfl) rfl rfl (rd_extract (v := .pv _) rfl rfl rfl rfl) ?_ | refine q_rd (wanted_none rfl) rfl rfl (rd_extract (v := .top) rfl rfl rfl rfl) ?_
      refine seq_ex (wanted_none rfl) (e_alloc (n := 6) rfl zr35 rfl rfl rfl (fun p3 => ?_))
      refine seq_md (wanted_none rfl) (m_store rfl rfl rfl rfl rfl sz35 rfl rfl (by first | decide | (first | omega | (dsimp only at *; omega))) _ (fun _ _ => CEnt.refl _) rfl ?_)
      first | refine q_rd (wanted_none rfl) rfl rfl (rd_assign (v := .err _) rfl rfl) ?_ | refine q_rd (wanted_none rfl) rfl rfl (rd_assign (v := .c _) rfl rfl) ?_ | refine q_rd (wanted_none rfl) rfl rfl (rd_assign (v := .pv _) rfl rfl) ?_ | refine q_rd (wanted_none rfl) rfl rfl (rd_assign (v := .top) rfl rfl) ?_
      refine seq_nil ?_
      refine then_norm ?_
      refine code_seq ?_
      refine code_region ?_
      first | refine q_rd (wanted_none rfl) rfl rfl (rd_move (v := .err _) rfl rfl) ?_ | refine q_rd (wanted_none rfl) rfl rfl (rd_move (v := .c _) rfl rfl) ?_ | refine q_rd (wanted_none rfl) rfl rfl (rd_move (v := .pv _) rfl rfl) ?_ | refine q_rd (wanted_none rfl) rfl rfl (rd_move (v := .top) rfl rfl) ?_
      first | refine q_rd (wanted_none rfl) rfl rfl (rd_eqE rfl rfl) ?_ | refine q_rd (wanted_none rfl) rfl rfl (rd_eqE0 rfl rfl) ?_
      refine q_rd (wanted_none rfl) rfl rfl (rd_move (v := .c _) rfl rfl) ?_
      first | refine seq_splitD (d := 33) rfl rfl (fun g43 => ?_) (fun g43 => ?_) | refine seq_split (d := 33) rfl rfl (fun g43 => ?_) (fun g43 => ?_)
      · refine q_rd (wanted_is rfl rfl rfl rfl true rfl) rfl rfl (rd_move (v := .c _) rfl rfl) ?_
        first | refine q_rdO (wanted_is rfl rfl rfl rfl true rfl) rfl rfl (rd_loadOA rfl rfl (.inl rfl) Tryd.underlying37 ag37 sz37 (by first | decide | (first | omega | (dsimp only at *; omega)))) ?_ | refine q_rd (wanted_is rfl rfl rfl rfl true rfl) rfl rfl (rd_loadRA rfl rfl Tryd.underlying37 ag37 sz37 (by first | decide | (first | omega | (dsimp only at *; omega)))) ?_ | refine q_rdO (wanted_is rfl rfl rfl rfl true rfl) rfl rfl (rd_loadOA rfl rfl (.inr rfl) Tryd.underlying37 ag37 sz37 (by first | decide | (first | omega | (dsimp only at *; omega)))) ?_
        refine seq_ex (wanted_is rfl rfl rfl rfl true rfl) (e_callP rfl (by kernel_rfl) (rsecs_ac x hr) (.cons (by first | exact se rfl (CEnt.refl _) | exact se rfl CEnt.nil | exact se rfl CEnt.nilB | exact se rfl (CEnt.osI rfl) | exact se rfl CEnt.opI | exact se_nilO rfl | exact se rfl (CEnt.agg2 (CEnt.refl _) (CEnt.refl _)) | exact se rfl (CEnt.agg3 (CEnt.refl _) (CEnt.refl _) (CEnt.refl _)) | exact se rfl (CEnt.agg4 (CEnt.refl _) (CEnt.refl _) (CEnt.refl _) (CEnt.refl _)) | exact se rfl (CEnt.agg5 (CEnt.refl _) (CEnt.refl _) (CEnt.refl _) (CEnt.refl _) (CEnt.refl _)) | exact se rfl (CEnt.agg6 (CEnt.refl _) (CEnt.refl _) (CEnt.refl _) (CEnt.refl _) (CEnt.refl _) (CEnt.refl _)) | exact se_frzB _ rfl rfl rfl (by simp) (fun _ _ => CEnt.refl _)) .nil) rfl rfl ?_)
        refine q_rd (wanted_is rfl rfl rfl rfl true rfl) rfl rfl (rd_eqI rfl rfl rfl) ?_
        refine q_rd (wanted_none rfl) rfl rfl (rd_pickT (v := .c _) rfl rfl rfl) ?_
        refine q_rd (wanted_none rfl) rfl rfl (rd_move (v := .c _) rfl rfl) ?_
        first | refine seq_splitD (d := 39) rfl rfl (fun g43_2 => ?_) (fun g43_2 => ?_) | refine seq_split (d := 39) rfl rfl (fun g43_2 => ?_) (fun g43_2 => ?_)
        · first | refine q_rd (wanted_is rfl rfl rfl rfl true rfl) rfl rfl (rd_move (v := .err _) rfl rfl) ?_ | refine q_rd (wanted_is rfl rfl rfl rfl true rfl) rfl rfl (rd_move (v := .c _) rfl rfl) ?_ | refine q_rd (wanted_is rfl rfl rfl rfl true rfl) rfl rfl (rd_move (v := .pv _) rfl rfl) ?_ | refine q_rd (wanted_is rfl rfl rfl rfl true rfl) rfl rfl (rd_move (v := .top) rfl rfl) ?_
          first | refine q_rd (wanted_is rfl rfl rfl rfl true rfl) rfl rfl (rd_eqE rfl rfl) ?_ | refine q_rd (wanted_is rfl rfl rfl rfl true rfl) rfl rfl (rd_eqE0 rfl rfl) ?_
          refine q_rd (wanted_none rfl) rfl rfl (rd_pickT (v := .c _) rfl rfl rfl) ?_
          refine q_rd (wanted_none rfl) rfl rfl (rd_move (v := .c _) rfl rfl) ?_
          first | refine seq_splitD (d := 43) rfl rfl (fun g43_3 => ?_) (fun g43_3 => ?_) | refine seq_split (d := 43) rfl rfl (fun g43_3 => ?_) (fun g43_3 => ?_)
          · first | refine q_rdO (wanted_is rfl rfl rfl rfl true rfl) rfl rfl (rd_loadOA rfl rfl (.inl rfl) Tryd.underlying35 ag35 sz35 (by first | decide | (first | omega | (dsimp only at *; omega)))) ?_ | refine q_rd (wanted_is rfl rfl rfl rfl true rfl) rfl rfl (rd_loadRA rfl rfl Tryd.underlying35 ag35 sz35 (by first | decide | (first | omega | (dsimp only at *; omega)))) ?_ | refine q_rdO (wanted_is rfl rfl rfl rfl true rfl) rfl rfl (rd_loadOA rfl rfl (.inr rfl) Tryd.underlying35 ag35 sz35 (by first | decide | (first | omega | (dsimp only at *; omega)))) ?_
            first | refine q_rdO (wanted_is rfl rfl rfl rfl true rfl) rfl rfl (rd_loadOA rfl rfl (.inl rfl) Tryd.underlying35 ag35 sz35 (by first | decide | (first | omega | (dsimp only at *; omega)))) ?_ | refine q_rd (wanted_is rfl rfl rfl rfl true rfl) rfl rfl (rd_loadRA rfl rfl Tryd.underlying35 ag35 sz35 (by first | decide | (first | omega | (dsimp only at *; omega)))) ?_ | refine q_rdO (wanted_is rfl rfl rfl rfl true rfl) rfl rfl (rd_loadOA rfl rfl (.inr rfl) Tryd.underlying35 ag35 sz35 (by first | decide | (first | omega | (dsimp only at *; omega)))) ?_
            refine q_rd (wanted_is rfl rfl rfl rfl true rfl) rfl rfl (rd_eqAgg rfl rfl rfl Tryd.underlying35 (by kernel_rfl) (by kernel_rfl) (.int Tryd.underlying3 (by decide) rfl rfl (.int Tryd.underlying3 (by decide) rfl rfl (.int Tryd.underlying3 (by decide) rfl rfl (.int Tryd.underlying3 (by decide) rfl rfl (.int Tryd.underlying3 (by decide) rfl rfl (.int Tryd.underlying3 (by decide) rfl rfl .nil)))))) rfl) ?_
            refine q_rd (wanted_none rfl) rfl rfl (rd_pickT (v := .c _) rfl rfl rfl) ?_
            refine q_rd (wanted_none rfl) rfl rfl (rd_assign (v := .c _) rfl rfl) ?_
            refine seq_nil ?_
            refine then_norm ?_
            refine code_ret ?_
            refine end_val (.inl rfl) (res_1 rfl (arv_tmp rfl)) ?_
            refine CEnt.bool ?_
            have ht := sec_bd hr
            have hof : ofM (secM x) = x := by rw [ofM, if_pos ht]; exact of_sec hr
            have hoe : ofE (secM x) = 0 := if_pos ht
            simp [hr, hof, hoe] at *
          · refine q_skip (wanted_is rfl rfl rfl rfl false rfl) rfl rfl ?_
            refine q_skip (wanted_is rfl rfl rfl rfl false rfl) rfl rfl ?_
            refine q_skip (wanted_is rfl rfl rfl rfl false rfl) rfl rfl ?_
            refine q_rd (wanted_none rfl) rfl rfl (rd_pickF (v := .c _) rfl rfl rfl) ?_
            refine q_rd (wanted_none rfl) rfl rfl (rd_assign (v := .c _) rfl rfl) ?_
            refine seq_nil ?_
            refine then_norm ?_
            refine code_ret ?_
            refine end_val (.inl rfl) (res_1 rfl (arv_tmp rfl)) ?_
            refine CEnt.bool ?_
            have ht := sec_bd hr
            have hof : ofM (secM x) = x := by rw [ofM, if_pos ht]; exact of_sec hr
            have hoe : ofE (secM x) = 0 := if_pos ht
            simp [hr, hof, hoe] at *
        · refine q_skip (wanted_is rfl rfl rfl rfl false rfl) rfl rfl ?_
          refine q_skip (wanted_is rfl rfl rfl rfl false rfl) rfl rfl ?_
          refine q_rd (wanted_none rfl) rfl rfl (rd_pickF (v := .c _) rfl rfl rfl) ?_
          refine q_rd (wanted_none rfl) rfl rfl (rd_move (v := .c _) rfl rfl) ?_
          refine q_skip (wanted_is rfl rfl rfl rfl false rfl) rfl rfl ?_
          refine q_skip (wanted_is rfl rfl rfl rfl false rfl) rfl rfl ?_
          refine q_skip (wanted_is rfl rfl rfl rfl false rfl) rfl rfl ?_
          refine q_rd (wanted_none rfl) rfl rfl (rd_pickF (v := .c _) rfl rfl rfl) ?_
          refine q_rd (wanted_none rfl) rfl rfl (rd_assign (v := .c _) rfl rfl) ?_
          refine seq_nil ?_
          refine then_norm ?_
          refine code_ret ?_
          refine end_val (.inl rfl) (res_1 rfl (arv_tmp rfl)) ?_
          refine CEnt.bool ?_
          have ht := sec_bd hr
          have hof : ofM (secM x) = x := by rw [ofM, if_pos ht]; exact of_sec hr
          have hoe : ofE (secM x) = 0 := if_pos ht
          simp [hr, hof, hoe] at *
      · refine q_skip (wanted_is rfl rfl rfl rfl false rfl) rfl rfl ?_
        refine q_skip (wanted_is rfl rfl rfl rfl false rfl) rfl rfl ?_
        refine q_skip (wanted_is rfl rfl rfl rfl false rfl) rfl rfl ?_
        refine q_skip (wanted_is rfl rfl rfl rfl false rfl) rfl rfl ?_
        refine q_rd (wanted_none rfl) rfl rfl (rd_pickF (v := .c _) rfl rfl rfl) ?_
        refine q_rd (wanted_none rfl) rfl rfl (rd_move (v := .c _) rfl rfl) ?_
        refine q_skip (wanted_is rfl rfl rfl rfl false rfl) rfl rfl ?_
        refine q_skip (wanted_is rfl rfl rfl rfl false rfl) rfl rfl ?_
        refine q_rd (wanted_none rfl) rfl rfl (rd_pickF (v := .c _) rfl rfl rfl) ?_
        refine q_rd (wanted_none rfl) rfl rfl (rd_move (v := .c _) rfl rfl) ?_
        refine q_skip (wanted_is rfl rfl rfl rfl false rfl) rfl rfl ?_
        refine q_skip (wanted_is rfl rfl rfl rfl false rfl) rfl rfl ?_
        refine q_skip (wanted_is rfl rfl rfl rfl false rfl) rfl rfl ?_
        refine q_rd (wanted_none rfl) rfl rfl (rd_pickF (v := .c _) rfl rfl rfl) ?_
        refine q_rd (wanted_none rfl) rfl rfl (rd_assign (v := .c _) rfl rfl) ?_
        refine seq_nil ?_
        refine then_norm ?_
        refine code_ret ?_
        refine end_val (.inl rfl) (res_1 rfl (arv_tmp rfl)) ?_
        refine CEnt.bool ?_
        have ht := sec_bd hr
        have hof : ofM (secM x) = x := by rw [ofM, if_pos ht]; exact of_sec hr
        have hoe : ofE (secM x) = 0 := if_pos ht
        simp [hr, hof, hoe] at *
end Am
end Go.Proofs.YtmlnipbeancnpaaDoor
