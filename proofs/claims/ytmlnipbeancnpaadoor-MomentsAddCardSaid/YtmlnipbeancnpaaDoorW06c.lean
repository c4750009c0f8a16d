/- Chapter 6: the reference's dates and moments, the example, the laws MomentsSeconds and MomentsAdd. -/
import Derived.Test.YtmlnipbeancnpaaDoorW06b
import Derived.Test.YtmlnipbeancnpaaDoorNumC
namespace Go.Proofs.YtmlnipbeancnpaaDoor
set_option linter.unusedVariables false
namespace Am
open Go.RowKit Cal
set_option linter.unusedVariables false
set_option maxRecDepth 100000

theorem before_ac {gs : List Nat} (y : Int) (h1 : 1970 ≤ y) (h2 : y ≤ 9999) : ACp gs Tryd.prog 74 [.c (.int .i64 y)] (.c (.int .i64 (bf y))) := by
  refine ac_of 17 Tryd.func74 rfl rfl rfl (fun al w0 F0 St0 => ?_)
  refine code_seq ?_
  refine code_region ?_
  refine q_rd (wanted_none rfl) rfl rfl (rd_assign (v := .c _) rfl rfl) ?_
  refine seq_nil ?_
  refine then_norm ?_
  refine code_seq ?_
  refine code_region ?_
  refine q_rd (wanted_none rfl) rfl rfl (rd_assign (v := .c _) rfl rfl) ?_
  refine seq_nil ?_
  refine then_norm ?_
  refine code_seq ?_
  refine code_seq ?_
  refine code_region ?_
  refine q_rd (wanted_none rfl) rfl rfl (rd_assign (v := .c _) rfl rfl) ?_
  refine seq_nil ?_
  refine then_norm ?_
  refine code_block ?_
  refine l_loop (α := Nat) [3, 4, 5, 6, 7, 8, 9, 10, 11, 12, 13, 14, 15] (fun i => [(3, .c (.int .i64 (bf (1970 + i)))), (4, .c (.int .i64 (1970 + i)))]) (fun _ => []) (fun i => 1970 + (i : Int) ≤ y) (fun i => (y - 1970 - i).toNat) (0) ?_ (fun _ => rfl) ?_ ?_ ?_
  · show 1970 + ((0 : Nat) : Int) ≤ y; omega
  · exact .cons (CEnt.int bf_1970.symm) (.cons (CEnt.refl _) .nil)
  · (repeat (first | exact HEnt.nil | refine HEnt.same ?_ | refine HEnt.blk rfl (fun j hj => by rcases j with _|_|_|_|_|_|_|_|j <;> first | exact CEnt.refl _ | exact CEnt.int (by omega) | omega) ?_))
  · rintro i (hi : 1970 + (i : Int) ≤ y)
    have hb := bf_bd (1970 + i) (by omega) (by omega)
    have hs := bf_succ (1970 + i)
    refine code_seq ?_
    refine code_seq ?_
    refine code_region ?_
    refine q_rd (wanted_none rfl) rfl rfl (rd_move (v := .c _) rfl rfl) ?_
    refine q_rd (wanted_none rfl) rfl rfl (rd_move (v := .c _) rfl rfl) ?_
    refine q_rd (wanted_none rfl) rfl rfl (rd_lt rfl rfl rfl) ?_
    refine seq_nil ?_
    refine then_norm ?_
    first | refine code_condSD rfl rfl (fun h33 => ?_) (fun h33 => ?_) | refine code_condS rfl rfl (fun h33 => ?_) (fun h33 => ?_)
    · refine code_skip ?_
      refine then_norm ?_
      refine code_seq ?_
      refine code_block ?_
      refine code_seq ?_
      refine code_region ?_
      refine q_rd (wanted_none rfl) rfl rfl (rd_move (v := .c _) rfl rfl) ?_
      refine q_rd (wanted_none rfl) rfl rfl (rd_add rfl rfl rfl (wrap_id (k := .i64) (by show _ ∧ _; (first | omega | (dsimp only at *; omega))))) ?_
      refine q_rd (wanted_none rfl) rfl rfl (rd_assign (v := .c _) rfl rfl) ?_
      refine seq_nil ?_
      refine then_norm ?_
      refine code_seq ?_
      refine code_region ?_
      refine q_rd (wanted_none rfl) rfl rfl (rd_move (v := .c _) rfl rfl) ?_
      refine seq_ex (wanted_none rfl) (e_callP rfl (by kernel_rfl) (rleap_ac _) (.cons (by first | exact se rfl (CEnt.refl _) | exact se rfl CEnt.nil | exact se rfl CEnt.nilB | exact se rfl (CEnt.osI rfl) | exact se rfl CEnt.opI | exact se_nilO rfl | exact se rfl (CEnt.agg2 (CEnt.refl _) (CEnt.refl _)) | exact se rfl (CEnt.agg3 (CEnt.refl _) (CEnt.refl _) (CEnt.refl _)) | exact se rfl (CEnt.agg4 (CEnt.refl _) (CEnt.refl _) (CEnt.refl _) (CEnt.refl _)) | exact se rfl (CEnt.agg5 (CEnt.refl _) (CEnt.refl _) (CEnt.refl _) (CEnt.refl _) (CEnt.refl _)) | exact se rfl (CEnt.agg6 (CEnt.refl _) (CEnt.refl _) (CEnt.refl _) (CEnt.refl _) (CEnt.refl _) (CEnt.refl _)) | exact se_frzB _ rfl rfl rfl (by simp) (fun _ _ => CEnt.refl _)) .nil) rfl rfl ?_)
      refine seq_nil ?_
      refine then_norm ?_
      first | refine code_condSD rfl rfl (fun h35 => ?_) (fun h35 => ?_) | refine code_condS rfl rfl (fun h35 => ?_) (fun h35 => ?_)
      · refine code_region ?_
        refine q_rd (wanted_none rfl) rfl rfl (rd_move (v := .c _) rfl rfl) ?_
        refine q_rd (wanted_none rfl) rfl rfl (rd_add rfl rfl rfl (wrap_id (k := .i64) (by show _ ∧ _; (first | omega | (dsimp only at *; omega))))) ?_
        refine q_rd (wanted_none rfl) rfl rfl (rd_assign (v := .c _) rfl rfl) ?_
        refine seq_nil ?_
        refine block_norm ?_
        refine then_norm ?_
        refine code_region ?_
        refine q_rd (wanted_none rfl) rfl rfl (rd_move (v := .c _) rfl rfl) ?_
        refine q_rd (wanted_none rfl) rfl rfl (rd_add rfl rfl rfl (wrap_id (k := .i64) (by show _ ∧ _; (first | omega | (dsimp only at *; omega))))) ?_
        refine q_rd (wanted_none rfl) rfl rfl (rd_assign (v := .c _) rfl rfl) ?_
        refine seq_nil ?_
        refine then_norm ?_
        refine ⟨i + 1, ?_, ?_, rfl, rfl, ?_, by exact Nat.le_of_ble_eq_true rfl, ?_⟩
        · omega
        · omega
        · refine .cons (CEnt.int ?_) (.cons (CEnt.int (by omega)) .nil)
          show _ = bf (1970 + ((i + 1 : Nat) : Int))
          rw [show (1970 : Int) + ((i + 1 : Nat) : Int) = 1970 + i + 1 by omega, hs]
          simp only [*, if_true, Bool.false_eq_true, if_false]
          all_goals omega
        · (repeat (first | exact HEnt.nil | refine HEnt.same ?_ | refine HEnt.blk rfl (fun j hj => by rcases j with _|_|_|_|_|_|_|_|j <;> first | exact CEnt.refl _ | exact CEnt.int (by omega) | omega) ?_))
      · refine code_skip ?_
        refine block_norm ?_
        refine then_norm ?_
        refine code_region ?_
        refine q_rd (wanted_none rfl) rfl rfl (rd_move (v := .c _) rfl rfl) ?_
        refine q_rd (wanted_none rfl) rfl rfl (rd_add rfl rfl rfl (wrap_id (k := .i64) (by show _ ∧ _; (first | omega | (dsimp only at *; omega))))) ?_
        refine q_rd (wanted_none rfl) rfl rfl (rd_assign (v := .c _) rfl rfl) ?_
        refine seq_nil ?_
        refine then_norm ?_
        refine ⟨i + 1, ?_, ?_, rfl, rfl, ?_, by exact Nat.le_of_ble_eq_true rfl, ?_⟩
        · omega
        · omega
        · refine .cons (CEnt.int ?_) (.cons (CEnt.int (by omega)) .nil)
          show _ = bf (1970 + ((i + 1 : Nat) : Int))
          rw [show (1970 : Int) + ((i + 1 : Nat) : Int) = 1970 + i + 1 by omega, hs]
          simp only [*, if_true, Bool.false_eq_true, if_false]
          all_goals omega
        · (repeat (first | exact HEnt.nil | refine HEnt.same ?_ | refine HEnt.blk rfl (fun j hj => by rcases j with _|_|_|_|_|_|_|_|j <;> first | exact CEnt.refl _ | exact CEnt.int (by omega) | omega) ?_))
    · refine code_exit ?_
      refine then_exit ?_
      refine then_exit ?_
      refine block_exit rfl ?_
      refine then_norm ?_
      refine code_seq ?_
      refine code_region ?_
      refine q_rd (wanted_none rfl) rfl rfl (rd_move (v := .c _) rfl rfl) ?_
      refine q_rd (wanted_none rfl) rfl rfl (rd_assign (v := .c _) rfl rfl) ?_
      refine seq_nil ?_
      refine then_norm ?_
      refine code_ret ?_
      refine end_val (.inl rfl) (res_1 rfl (arv_tmp rfl)) ?_
      have e : y = 1970 + i := by omega
      rw [e]
      exact CEnt.refl _
theorem rright_ac {g : List Nat} (x : D6) : ACp g Tryd.prog 22 [dateC x] (.c (.bool (decide (RightP x)))) := by
  refine ac_of 66 Tryd.func22 rfl rfl rfl (fun al w0 F0 St0 => ?_)
  refine code_seq ?_
  refine code_region ?_
  refine seq_ex (wanted_none rfl) (e_box (n := 6) rfl rfl rfl rfl rfl rfl (fun p1 => ?_))
  refine q_rd (wanted_none rfl) rfl rfl (rd_assign (v := .c _) rfl rfl) ?_
  refine seq_nil ?_
  refine then_norm ?_
  refine code_seq ?_
  refine code_draw (.rd 0 (.rd 1 (.rd 2 (.rd 3 (.rd 4 (.rd 5 (.rd 6 (.rd 7 (.rd 8 (.rd 9 (.rd 10 (.rd 11 (.rd 12 (.rd 13 (.rd 14 (.rd 15 (.rd 16 (.rd 17 (.rd 18 (.rd 19 (.rd 20 (.rd 21 (.rd 22 (.rd 23 (.rd 24 (.rd 25 (.rd 26 (.rd 27 (.rd 28 (.rd 29 (.one 30 (.rd 31 (.rd 32 (.rd 33 (.rd 34 (.rd 35 (.rd 36 (.rd 37 (.rd 38 (.rd 39 (.rd 40 (.rd 41 (.rd 42 (.rd 43 (.rd 44 (.rd 45 (.rd 46 (.rd 47 (.rd 48 (.rd 49 (.rd 50 (.rd 51 (.rd 52 (.rd 53 (.rd 54 (.rd 55 (.rd 56 (.rd 57 (.rd 58 (.rd 59 (.rd 60 (.rd 61 (.rd 62 (.rd 63 .done)))))))))))))))))))))))))))))))))))))))))))))))))))))))))))))))) (by kernel_rfl) (by kernel_rfl) rfl (by kernel_rfl) (by kernel_rfl) ?_
  simp only [opsOfT, List.getElem?_toArray, List.getElem?_cons_zero, List.getElem?_cons_succ]
  first | refine y_rd (wanted_none rfl) rfl rfl (rd_faddrO rfl rfl Tryd.underlying37 rfl sz3 rfl) ?_ | refine y_rd (wanted_none rfl) rfl rfl (rd_faddrR rfl rfl Tryd.underlying37 rfl sz3 rfl) ?_
  first | refine y_rdO (wanted_none rfl) rfl rfl (rd_loadO (v := .c _) rfl rfl (.inl rfl) Tryd.underlying3 ag3 (by first | decide | (first | omega | (dsimp only at *; omega))) rfl) ?_ | refine y_rd (wanted_none rfl) rfl rfl (rd_loadR (v := .c _) rfl rfl Tryd.underlying3 ag3 (by first | decide | (first | omega | (dsimp only at *; omega))) rfl) ?_ | refine y_rdO (wanted_none rfl) rfl rfl (rd_loadO (v := .c _) rfl rfl (.inr rfl) Tryd.underlying3 ag3 (by first | decide | (first | omega | (dsimp only at *; omega))) rfl) ?_
  refine y_rd (wanted_none rfl) rfl rfl (rd_ge rfl rfl rfl) ?_
  refine y_rd (wanted_none rfl) rfl rfl (rd_move (v := .c _) rfl rfl) ?_
  first | refine x_splitD (d := 6) rfl rfl (fun g44 => ?_) (fun g44 => ?_) | refine x_split (d := 6) rfl rfl (fun g44 => ?_) (fun g44 => ?_)
  · first | refine y_rd (wanted_is rfl rfl rfl rfl true rfl) rfl rfl (rd_faddrO rfl rfl Tryd.underlying37 rfl sz3 rfl) ?_ | refine y_rd (wanted_is rfl rfl rfl rfl true rfl) rfl rfl (rd_faddrR rfl rfl Tryd.underlying37 rfl sz3 rfl) ?_
    first | refine y_rdO (wanted_is rfl rfl rfl rfl true rfl) rfl rfl (rd_loadO (v := .c _) rfl rfl (.inl rfl) Tryd.underlying3 ag3 (by first | decide | (first | omega | (dsimp only at *; omega))) rfl) ?_ | refine y_rd (wanted_is rfl rfl rfl rfl true rfl) rfl rfl (rd_loadR (v := .c _) rfl rfl Tryd.underlying3 ag3 (by first | decide | (first | omega | (dsimp only at *; omega))) rfl) ?_ | refine y_rdO (wanted_is rfl rfl rfl rfl true rfl) rfl rfl (rd_loadO (v := .c _) rfl rfl (.inr rfl) Tryd.underlying3 ag3 (by first | decide | (first | omega | (dsimp only at *; omega))) rfl) ?_
    refine y_rd (wanted_is rfl rfl rfl rfl true rfl) rfl rfl (rd_le rfl rfl rfl) ?_
    refine y_rd (wanted_none rfl) rfl rfl (rd_pickT (v := .c _) rfl rfl rfl) ?_
    refine y_rd (wanted_none rfl) rfl rfl (rd_move (v := .c _) rfl rfl) ?_
    first | refine x_splitD (d := 11) rfl rfl (fun g44_2 => ?_) (fun g44_2 => ?_) | refine x_split (d := 11) rfl rfl (fun g44_2 => ?_) (fun g44_2 => ?_)
    · first | refine y_rd (wanted_is rfl rfl rfl rfl true rfl) rfl rfl (rd_faddrO rfl rfl Tryd.underlying37 rfl sz3 rfl) ?_ | refine y_rd (wanted_is rfl rfl rfl rfl true rfl) rfl rfl (rd_faddrR rfl rfl Tryd.underlying37 rfl sz3 rfl) ?_
      first | refine y_rdO (wanted_is rfl rfl rfl rfl true rfl) rfl rfl (rd_loadO (v := .c _) rfl rfl (.inl rfl) Tryd.underlying3 ag3 (by first | decide | (first | omega | (dsimp only at *; omega))) rfl) ?_ | refine y_rd (wanted_is rfl rfl rfl rfl true rfl) rfl rfl (rd_loadR (v := .c _) rfl rfl Tryd.underlying3 ag3 (by first | decide | (first | omega | (dsimp only at *; omega))) rfl) ?_ | refine y_rdO (wanted_is rfl rfl rfl rfl true rfl) rfl rfl (rd_loadO (v := .c _) rfl rfl (.inr rfl) Tryd.underlying3 ag3 (by first | decide | (first | omega | (dsimp only at *; omega))) rfl) ?_
      refine y_rd (wanted_is rfl rfl rfl rfl true rfl) rfl rfl (rd_ge rfl rfl rfl) ?_
      refine y_rd (wanted_none rfl) rfl rfl (rd_pickT (v := .c _) rfl rfl rfl) ?_
      refine y_rd (wanted_none rfl) rfl rfl (rd_move (v := .c _) rfl rfl) ?_
      first | refine x_splitD (d := 16) rfl rfl (fun g44_3 => ?_) (fun g44_3 => ?_) | refine x_split (d := 16) rfl rfl (fun g44_3 => ?_) (fun g44_3 => ?_)
      · first | refine y_rd (wanted_is rfl rfl rfl rfl true rfl) rfl rfl (rd_faddrO rfl rfl Tryd.underlying37 rfl sz3 rfl) ?_ | refine y_rd (wanted_is rfl rfl rfl rfl true rfl) rfl rfl (rd_faddrR rfl rfl Tryd.underlying37 rfl sz3 rfl) ?_
        first | refine y_rdO (wanted_is rfl rfl rfl rfl true rfl) rfl rfl (rd_loadO (v := .c _) rfl rfl (.inl rfl) Tryd.underlying3 ag3 (by first | decide | (first | omega | (dsimp only at *; omega))) rfl) ?_ | refine y_rd (wanted_is rfl rfl rfl rfl true rfl) rfl rfl (rd_loadR (v := .c _) rfl rfl Tryd.underlying3 ag3 (by first | decide | (first | omega | (dsimp only at *; omega))) rfl) ?_ | refine y_rdO (wanted_is rfl rfl rfl rfl true rfl) rfl rfl (rd_loadO (v := .c _) rfl rfl (.inr rfl) Tryd.underlying3 ag3 (by first | decide | (first | omega | (dsimp only at *; omega))) rfl) ?_
        refine y_rd (wanted_is rfl rfl rfl rfl true rfl) rfl rfl (rd_le rfl rfl rfl) ?_
        refine y_rd (wanted_none rfl) rfl rfl (rd_pickT (v := .c _) rfl rfl rfl) ?_
        refine y_rd (wanted_none rfl) rfl rfl (rd_move (v := .c _) rfl rfl) ?_
        first | refine x_splitD (d := 21) rfl rfl (fun g44_4 => ?_) (fun g44_4 => ?_) | refine x_split (d := 21) rfl rfl (fun g44_4 => ?_) (fun g44_4 => ?_)
        · first | refine y_rd (wanted_is rfl rfl rfl rfl true rfl) rfl rfl (rd_faddrO rfl rfl Tryd.underlying37 rfl sz3 rfl) ?_ | refine y_rd (wanted_is rfl rfl rfl rfl true rfl) rfl rfl (rd_faddrR rfl rfl Tryd.underlying37 rfl sz3 rfl) ?_
          first | refine y_rdO (wanted_is rfl rfl rfl rfl true rfl) rfl rfl (rd_loadO (v := .c _) rfl rfl (.inl rfl) Tryd.underlying3 ag3 (by first | decide | (first | omega | (dsimp only at *; omega))) rfl) ?_ | refine y_rd (wanted_is rfl rfl rfl rfl true rfl) rfl rfl (rd_loadR (v := .c _) rfl rfl Tryd.underlying3 ag3 (by first | decide | (first | omega | (dsimp only at *; omega))) rfl) ?_ | refine y_rdO (wanted_is rfl rfl rfl rfl true rfl) rfl rfl (rd_loadO (v := .c _) rfl rfl (.inr rfl) Tryd.underlying3 ag3 (by first | decide | (first | omega | (dsimp only at *; omega))) rfl) ?_
          refine y_rd (wanted_is rfl rfl rfl rfl true rfl) rfl rfl (rd_ge rfl rfl rfl) ?_
          refine y_rd (wanted_none rfl) rfl rfl (rd_pickT (v := .c _) rfl rfl rfl) ?_
          refine y_rd (wanted_none rfl) rfl rfl (rd_move (v := .c _) rfl rfl) ?_
          first | refine x_splitD (d := 26) rfl rfl (fun g44_5 => ?_) (fun g44_5 => ?_) | refine x_split (d := 26) rfl rfl (fun g44_5 => ?_) (fun g44_5 => ?_)
          · first | refine y_rd (wanted_is rfl rfl rfl rfl true rfl) rfl rfl (rd_faddrO rfl rfl Tryd.underlying37 rfl sz3 rfl) ?_ | refine y_rd (wanted_is rfl rfl rfl rfl true rfl) rfl rfl (rd_faddrR rfl rfl Tryd.underlying37 rfl sz3 rfl) ?_
            first | refine y_rdO (wanted_is rfl rfl rfl rfl true rfl) rfl rfl (rd_loadO (v := .c _) rfl rfl (.inl rfl) Tryd.underlying3 ag3 (by first | decide | (first | omega | (dsimp only at *; omega))) rfl) ?_ | refine y_rd (wanted_is rfl rfl rfl rfl true rfl) rfl rfl (rd_loadR (v := .c _) rfl rfl Tryd.underlying3 ag3 (by first | decide | (first | omega | (dsimp only at *; omega))) rfl) ?_ | refine y_rdO (wanted_is rfl rfl rfl rfl true rfl) rfl rfl (rd_loadO (v := .c _) rfl rfl (.inr rfl) Tryd.underlying3 ag3 (by first | decide | (first | omega | (dsimp only at *; omega))) rfl) ?_
            first | refine y_rd (wanted_is rfl rfl rfl rfl true rfl) rfl rfl (rd_faddrO rfl rfl Tryd.underlying37 rfl sz3 rfl) ?_ | refine y_rd (wanted_is rfl rfl rfl rfl true rfl) rfl rfl (rd_faddrR rfl rfl Tryd.underlying37 rfl sz3 rfl) ?_
            first | refine y_rdO (wanted_is rfl rfl rfl rfl true rfl) rfl rfl (rd_loadO (v := .c _) rfl rfl (.inl rfl) Tryd.underlying3 ag3 (by first | decide | (first | omega | (dsimp only at *; omega))) rfl) ?_ | refine y_rd (wanted_is rfl rfl rfl rfl true rfl) rfl rfl (rd_loadR (v := .c _) rfl rfl Tryd.underlying3 ag3 (by first | decide | (first | omega | (dsimp only at *; omega))) rfl) ?_ | refine y_rdO (wanted_is rfl rfl rfl rfl true rfl) rfl rfl (rd_loadO (v := .c _) rfl rfl (.inr rfl) Tryd.underlying3 ag3 (by first | decide | (first | omega | (dsimp only at *; omega))) rfl) ?_
            first | refine y_rd (wanted_is rfl rfl rfl rfl true rfl) rfl rfl (rd_faddrO rfl rfl Tryd.underlying37 rfl sz3 rfl) ?_ | refine y_rd (wanted_is rfl rfl rfl rfl true rfl) rfl rfl (rd_faddrR rfl rfl Tryd.underlying37 rfl sz3 rfl) ?_
            first | refine y_rdO (wanted_is rfl rfl rfl rfl true rfl) rfl rfl (rd_loadO (v := .c _) rfl rfl (.inl rfl) Tryd.underlying3 ag3 (by first | decide | (first | omega | (dsimp only at *; omega))) rfl) ?_ | refine y_rd (wanted_is rfl rfl rfl rfl true rfl) rfl rfl (rd_loadR (v := .c _) rfl rfl Tryd.underlying3 ag3 (by first | decide | (first | omega | (dsimp only at *; omega))) rfl) ?_ | refine y_rdO (wanted_is rfl rfl rfl rfl true rfl) rfl rfl (rd_loadO (v := .c _) rfl rfl (.inr rfl) Tryd.underlying3 ag3 (by first | decide | (first | omega | (dsimp only at *; omega))) rfl) ?_
            refine x_one (wanted_is rfl rfl rfl rfl true rfl) (e_callP rfl (by kernel_rfl) (rdays_ac _ _) (.cons (by first | exact se rfl (CEnt.refl _) | exact se rfl CEnt.nil | exact se rfl CEnt.nilB | exact se rfl (CEnt.osI rfl) | exact se rfl CEnt.opI | exact se_nilO rfl | exact se rfl (CEnt.agg2 (CEnt.refl _) (CEnt.refl _)) | exact se rfl (CEnt.agg3 (CEnt.refl _) (CEnt.refl _) (CEnt.refl _)) | exact se rfl (CEnt.agg4 (CEnt.refl _) (CEnt.refl _) (CEnt.refl _) (CEnt.refl _)) | exact se rfl (CEnt.agg5 (CEnt.refl _) (CEnt.refl _) (CEnt.refl _) (CEnt.refl _) (CEnt.refl _)) | exact se rfl (CEnt.agg6 (CEnt.refl _) (CEnt.refl _) (CEnt.refl _) (CEnt.refl _) (CEnt.refl _) (CEnt.refl _)) | exact se_frzB _ rfl rfl rfl (by simp) (fun _ _ => CEnt.refl _)) (.cons (by first | exact se rfl (CEnt.refl _) | exact se rfl CEnt.nil | exact se rfl CEnt.nilB | exact se rfl (CEnt.osI rfl) | exact se rfl CEnt.opI | exact se_nilO rfl | exact se rfl (CEnt.agg2 (CEnt.refl _) (CEnt.refl _)) | exact se rfl (CEnt.agg3 (CEnt.refl _) (CEnt.refl _) (CEnt.refl _)) | exact se rfl (CEnt.agg4 (CEnt.refl _) (CEnt.refl _) (CEnt.refl _) (CEnt.refl _)) | exact se rfl (CEnt.agg5 (CEnt.refl _) (CEnt.refl _) (CEnt.refl _) (CEnt.refl _) (CEnt.refl _)) | exact se rfl (CEnt.agg6 (CEnt.refl _) (CEnt.refl _) (CEnt.refl _) (CEnt.refl _) (CEnt.refl _) (CEnt.refl _)) | exact se_frzB _ rfl rfl rfl (by simp) (fun _ _ => CEnt.refl _)) .nil)) rfl rfl ?_)
            refine y_rd (wanted_is rfl rfl rfl rfl true rfl) rfl rfl (rd_le rfl rfl rfl) ?_
            refine y_rd (wanted_none rfl) rfl rfl (rd_pickT (v := .c _) rfl rfl rfl) ?_
            refine y_rd (wanted_none rfl) rfl rfl (rd_move (v := .c _) rfl rfl) ?_
            first | refine x_splitD (d := 36) rfl rfl (fun g44_6 => ?_) (fun g44_6 => ?_) | refine x_split (d := 36) rfl rfl (fun g44_6 => ?_) (fun g44_6 => ?_)
            · first | refine y_rd (wanted_is rfl rfl rfl rfl true rfl) rfl rfl (rd_faddrO rfl rfl Tryd.underlying37 rfl sz3 rfl) ?_ | refine y_rd (wanted_is rfl rfl rfl rfl true rfl) rfl rfl (rd_faddrR rfl rfl Tryd.underlying37 rfl sz3 rfl) ?_
              first | refine y_rdO (wanted_is rfl rfl rfl rfl true rfl) rfl rfl (rd_loadO (v := .c _) rfl rfl (.inl rfl) Tryd.underlying3 ag3 (by first | decide | (first | omega | (dsimp only at *; omega))) rfl) ?_ | refine y_rd (wanted_is rfl rfl rfl rfl true rfl) rfl rfl (rd_loadR (v := .c _) rfl rfl Tryd.underlying3 ag3 (by first | decide | (first | omega | (dsimp only at *; omega))) rfl) ?_ | refine y_rdO (wanted_is rfl rfl rfl rfl true rfl) rfl rfl (rd_loadO (v := .c _) rfl rfl (.inr rfl) Tryd.underlying3 ag3 (by first | decide | (first | omega | (dsimp only at *; omega))) rfl) ?_
              refine y_rd (wanted_is rfl rfl rfl rfl true rfl) rfl rfl (rd_ge rfl rfl rfl) ?_
              refine y_rd (wanted_none rfl) rfl rfl (rd_pickT (v := .c _) rfl rfl rfl) ?_
              refine y_rd (wanted_none rfl) rfl rfl (rd_move (v := .c _) rfl rfl) ?_
              first | refine x_splitD (d := 41) rfl rfl (fun g44_7 => ?_) (fun g44_7 => ?_) | refine x_split (d := 41) rfl rfl (fun g44_7 => ?_) (fun g44_7 => ?_)
              · first | refine y_rd (wanted_is rfl rfl rfl rfl true rfl) rfl rfl (rd_faddrO rfl rfl Tryd.underlying37 rfl sz3 rfl) ?_ | refine y_rd (wanted_is rfl rfl rfl rfl true rfl) rfl rfl (rd_faddrR rfl rfl Tryd.underlying37 rfl sz3 rfl) ?_
                first | refine y_rdO (wanted_is rfl rfl rfl rfl true rfl) rfl rfl (rd_loadO (v := .c _) rfl rfl (.inl rfl) Tryd.underlying3 ag3 (by first | decide | (first | omega | (dsimp only at *; omega))) rfl) ?_ | refine y_rd (wanted_is rfl rfl rfl rfl true rfl) rfl rfl (rd_loadR (v := .c _) rfl rfl Tryd.underlying3 ag3 (by first | decide | (first | omega | (dsimp only at *; omega))) rfl) ?_ | refine y_rdO (wanted_is rfl rfl rfl rfl true rfl) rfl rfl (rd_loadO (v := .c _) rfl rfl (.inr rfl) Tryd.underlying3 ag3 (by first | decide | (first | omega | (dsimp only at *; omega))) rfl) ?_
                refine y_rd (wanted_is rfl rfl rfl rfl true rfl) rfl rfl (rd_le rfl rfl rfl) ?_
                refine y_rd (wanted_none rfl) rfl rfl (rd_pickT (v := .c _) rfl rfl rfl) ?_
                refine y_rd (wanted_none rfl) rfl rfl (rd_move (v := .c _) rfl rfl) ?_
                first | refine x_splitD (d := 46) rfl rfl (fun g44_8 => ?_) (fun g44_8 => ?_) | refine x_split (d := 46) rfl rfl (fun g44_8 => ?_) (fun g44_8 => ?_)
                · first | refine y_rd (wanted_is rfl rfl rfl rfl true rfl) rfl rfl (rd_faddrO rfl rfl Tryd.underlying37 rfl sz3 rfl) ?_ | refine y_rd (wanted_is rfl rfl rfl rfl true rfl) rfl rfl (rd_faddrR rfl rfl Tryd.underlying37 rfl sz3 rfl) ?_
                  first | refine y_rdO (wanted_is rfl rfl rfl rfl true rfl) rfl rfl (rd_loadO (v := .c _) rfl rfl (.inl rfl) Tryd.underlying3 ag3 (by first | decide | (first | omega | (dsimp only at *; omega))) rfl) ?_ | refine y_rd (wanted_is rfl rfl rfl rfl true rfl) rfl rfl (rd_loadR (v := .c _) rfl rfl Tryd.underlying3 ag3 (by first | decide | (first | omega | (dsimp only at *; omega))) rfl) ?_ | refine y_rdO (wanted_is rfl rfl rfl rfl true rfl) rfl rfl (rd_loadO (v := .c _) rfl rfl (.inr rfl) Tryd.underlying3 ag3 (by first | decide | (first | omega | (dsimp only at *; omega))) rfl) ?_
                  refine y_rd (wanted_is rfl rfl rfl rfl true rfl) rfl rfl (rd_ge rfl rfl rfl) ?_
                  refine y_rd (wanted_none rfl) rfl rfl (rd_pickT (v := .c _) rfl rfl rfl) ?_
                  refine y_rd (wanted_none rfl) rfl rfl (rd_move (v := .c _) rfl rfl) ?_
                  first | refine x_splitD (d := 51) rfl rfl (fun g44_9 => ?_) (fun g44_9 => ?_) | refine x_split (d := 51) rfl rfl (fun g44_9 => ?_) (fun g44_9 => ?_)
                  · first | refine y_rd (wanted_is rfl rfl rfl rfl true rfl) rfl rfl (rd_faddrO rfl rfl Tryd.underlying37 rfl sz3 rfl) ?_ | refine y_rd (wanted_is rfl rfl rfl rfl true rfl) rfl rfl (rd_faddrR rfl rfl Tryd.underlying37 rfl sz3 rfl) ?_
                    first | refine y_rdO (wanted_is rfl rfl rfl rfl true rfl) rfl rfl (rd_loadO (v := .c _) rfl rfl (.inl rfl) Tryd.underlying3 ag3 (by first | decide | (first | omega | (dsimp only at *; omega))) rfl) ?_ | refine y_rd (wanted_is rfl rfl rfl rfl true rfl) rfl rfl (rd_loadR (v := .c _) rfl rfl Tryd.underlying3 ag3 (by first | decide | (first | omega | (dsimp only at *; omega))) rfl) ?_ | refine y_rdO (wanted_is rfl rfl rfl rfl true rfl) rfl rfl (rd_loadO (v := .c _) rfl rfl (.inr rfl) Tryd.underlying3 ag3 (by first | decide | (first | omega | (dsimp only at *; omega))) rfl) ?_
                    refine y_rd (wanted_is rfl rfl rfl rfl true rfl) rfl rfl (rd_le rfl rfl rfl) ?_
                    refine y_rd (wanted_none rfl) rfl rfl (rd_pickT (v := .c _) rfl rfl rfl) ?_
                    refine y_rd (wanted_none rfl) rfl rfl (rd_move (v := .c _) rfl rfl) ?_
                    first | refine x_splitD (d := 56) rfl rfl (fun g44_10 => ?_) (fun g44_10 => ?_) | refine x_split (d := 56) rfl rfl (fun g44_10 => ?_) (fun g44_10 => ?_)
                    · first | refine y_rd (wanted_is rfl rfl rfl rfl true rfl) rfl rfl (rd_faddrO rfl rfl Tryd.underlying37 rfl sz3 rfl) ?_ | refine y_rd (wanted_is rfl rfl rfl rfl true rfl) rfl rfl (rd_faddrR rfl rfl Tryd.underlying37 rfl sz3 rfl) ?_
                      first | refine y_rdO (wanted_is rfl rfl rfl rfl true rfl) rfl rfl (rd_loadO (v := .c _) rfl rfl (.inl rfl) Tryd.underlying3 ag3 (by first | decide | (first | omega | (dsimp only at *; omega))) rfl) ?_ | refine y_rd (wanted_is rfl rfl rfl rfl true rfl) rfl rfl (rd_loadR (v := .c _) rfl rfl Tryd.underlying3 ag3 (by first | decide | (first | omega | (dsimp only at *; omega))) rfl) ?_ | refine y_rdO (wanted_is rfl rfl rfl rfl true rfl) rfl rfl (rd_loadO (v := .c _) rfl rfl (.inr rfl) Tryd.underlying3 ag3 (by first | decide | (first | omega | (dsimp only at *; omega))) rfl) ?_
                      refine y_rd (wanted_is rfl rfl rfl rfl true rfl) rfl rfl (rd_ge rfl rfl rfl) ?_
                      refine y_rd (wanted_none rfl) rfl rfl (rd_pickT (v := .c _) rfl rfl rfl) ?_
                      refine y_rd (wanted_none rfl) rfl rfl (rd_move (v := .c _) rfl rfl) ?_
                      first | refine x_splitD (d := 61) rfl rfl (fun g44_11 => ?_) (fun g44_11 => ?_) | refine x_split (d := 61) rfl rfl (fun g44_11 => ?_) (fun g44_11 => ?_)
                      · first | refine y_rd (wanted_is rfl rfl rfl rfl true rfl) rfl rfl (rd_faddrO rfl rfl Tryd.underlying37 rfl sz3 rfl) ?_ | refine y_rd (wanted_is rfl rfl rfl rfl true rfl) rfl rfl (rd_faddrR rfl rfl Tryd.underlying37 rfl sz3 rfl) ?_
                        first | refine y_rdO (wanted_is rfl rfl rfl rfl true rfl) rfl rfl (rd_loadO (v := .c _) rfl rfl (.inl rfl) Tryd.underlying3 ag3 (by first | decide | (first | omega | (dsimp only at *; omega))) rfl) ?_ | refine y_rd (wanted_is rfl rfl rfl rfl true rfl) rfl rfl (rd_loadR (v := .c _) rfl rfl Tryd.underlying3 ag3 (by first | decide | (first | omega | (dsimp only at *; omega))) rfl) ?_ | refine y_rdO (wanted_is rfl rfl rfl rfl true rfl) rfl rfl (rd_loadO (v := .c _) rfl rfl (.inr rfl) Tryd.underlying3 ag3 (by first | decide | (first | omega | (dsimp only at *; omega))) rfl) ?_
                        refine y_rd (wanted_is rfl rfl rfl rfl true rfl) rfl rfl (rd_le rfl rfl rfl) ?_
                        refine y_rd (wanted_none rfl) rfl rfl (rd_pickT (v := .c _) rfl rfl rfl) ?_
                        refine y_rd (wanted_none rfl) rfl rfl (rd_assign (v := .c _) rfl rfl) ?_
                        refine x_done ?_
                        refine then_norm ?_
                        refine code_ret ?_
                        refine end_val (.inl rfl) (res_1 rfl (arv_tmp rfl)) ?_
                        refine CEnt.bool ?_
                        have qd := @days_pos x.y x.m x.d
                        first | (simp [RightP, *]; done) | (simp [RightP, *]; omega) | (refine decide_eq_decide.2 ?_; unfold RightP; omega)
                      · refine y_skip (wanted_is rfl rfl rfl rfl false rfl) rfl rfl ?_
                        refine y_skip (wanted_is rfl rfl rfl rfl false rfl) rfl rfl ?_
                        refine y_skip (wanted_is rfl rfl rfl rfl false rfl) rfl rfl ?_
                        refine y_rd (wanted_none rfl) rfl rfl (rd_pickF (v := .c _) rfl rfl rfl) ?_
                        refine y_rd (wanted_none rfl) rfl rfl (rd_assign (v := .c _) rfl rfl) ?_
                        refine x_done ?_
                        refine then_norm ?_
                        refine code_ret ?_
                        refine end_val (.inl rfl) (res_1 rfl (arv_tmp rfl)) ?_
                        refine CEnt.bool ?_
                        have qd := @days_pos x.y x.m x.d
                        first | (simp [RightP, *]; done) | (simp [RightP, *]; omega) | (refine decide_eq_decide.2 ?_; unfold RightP; omega)
                    · refine y_skip (wanted_is rfl rfl rfl rfl false rfl) rfl rfl ?_
                      refine y_skip (wanted_is rfl rfl rfl rfl false rfl) rfl rfl ?_
                      refine y_skip (wanted_is rfl rfl rfl rfl false rfl) rfl rfl ?_
                      refine y_rd (wanted_none rfl) rfl rfl (rd_pickF (v := .c _) rfl rfl rfl) ?_
                      refine y_rd (wanted_none rfl) rfl rfl (rd_move (v := .c _) rfl rfl) ?_
                      refine y_skip (wanted_is rfl rfl rfl rfl false rfl) rfl rfl ?_
                      refine y_skip (wanted_is rfl rfl rfl rfl false rfl) rfl rfl ?_
                      refine y_skip (wanted_is rfl rfl rfl rfl false rfl) rfl rfl ?_
                      refine y_rd (wanted_none rfl) rfl rfl (rd_pickF (v := .c _) rfl rfl rfl) ?_
                      refine y_rd (wanted_none rfl) rfl rfl (rd_assign (v := .c _) rfl rfl) ?_
                      refine x_done ?_
                      refine then_norm ?_
                      refine code_ret ?_
                      refine end_val (.inl rfl) (res_1 rfl (arv_tmp rfl)) ?_
                      refine CEnt.bool ?_
                      have qd := @days_pos x.y x.m x.d
                      first | (simp [RightP, *]; done) | (simp [RightP, *]; omega) | (refine decide_eq_decide.2 ?_; unfold RightP; omega)
                  · refine y_skip (wanted_is rfl rfl rfl rfl false rfl) rfl rfl ?_
                    refine y_skip (wanted_is rfl rfl rfl rfl false rfl) rfl rfl ?_
                    refine y_skip (wanted_is rfl rfl rfl rfl false rfl) rfl rfl ?_
                    refine y_rd (wanted_none rfl) rfl rfl (rd_pickF (v := .c _) rfl rfl rfl) ?_
                    refine y_rd (wanted_none rfl) rfl rfl (rd_move (v := .c _) rfl rfl) ?_
                    refine y_skip (wanted_is rfl rfl rfl rfl false rfl) rfl rfl ?_
                    refine y_skip (wanted_is rfl rfl rfl rfl false rfl) rfl rfl ?_
                    refine y_skip (wanted_is rfl rfl rfl rfl false rfl) rfl rfl ?_
                    refine y_rd (wanted_none rfl) rfl rfl (rd_pickF (v := .c _) rfl rfl rfl) ?_
                    refine y_rd (wanted_none rfl) rfl rfl (rd_move (v := .c _) rfl rfl) ?_
                    refine y_skip (wanted_is rfl rfl rfl rfl false rfl) rfl rfl ?_
                    refine y_skip (wanted_is rfl rfl rfl rfl false rfl) rfl rfl ?_
                    refine y_skip (wanted_is rfl rfl rfl rfl false rfl) rfl rfl ?_
                    refine y_rd (wanted_none rfl) rfl rfl (rd_pickF (v := .c _) rfl rfl rfl) ?_
                    refine y_rd (wanted_none rfl) rfl rfl (rd_assign (v := .c _) rfl rfl) ?_
                    refine x_done ?_
                    refine then_norm ?_
                    refine code_ret ?_
                    refine end_val (.inl rfl) (res_1 rfl (arv_tmp rfl)) ?_
                    refine CEnt.bool ?_
                    have qd := @days_pos x.y x.m x.d
                    first | (simp [RightP, *]; done) | (simp [RightP, *]; omega) | (refine decide_eq_decide.2 ?_; unfold RightP; omega)
                · refine y_skip (wanted_is rfl rfl rfl rfl false rfl) rfl rfl ?_
                  refine y_skip (wanted_is rfl rfl rfl rfl false rfl) rfl rfl ?_
                  refine y_skip (wanted_is rfl rfl rfl rfl false rfl) rfl rfl ?_
                  refine y_rd (wanted_none rfl) rfl rfl (rd_pickF (v := .c _) rfl rfl rfl) ?_
                  refine y_rd (wanted_none rfl) rfl rfl (rd_move (v := .c _) rfl rfl) ?_
                  refine y_skip (wanted_is rfl rfl rfl rfl false rfl) rfl rfl ?_
                  refine y_skip (wanted_is rfl rfl rfl rfl false rfl) rfl rfl ?_
                  refine y_skip (wanted_is rfl rfl rfl rfl false rfl) rfl rfl ?_
                  refine y_rd (wanted_none rfl) rfl rfl (rd_pickF (v := .c _) rfl rfl rfl) ?_
                  refine y_rd (wanted_none rfl) rfl rfl (rd_move (v := .c _) rfl rfl) ?_
                  refine y_skip (wanted_is rfl rfl rfl rfl false rfl) rfl rfl ?_
                  refine y_skip (wanted_is rfl rfl rfl rfl false rfl) rfl rfl ?_
                  refine y_skip (wanted_is rfl rfl rfl rfl false rfl) rfl rfl ?_
                  refine y_rd (wanted_none rfl) rfl rfl (rd_pickF (v := .c _) rfl rfl rfl) ?_
                  refine y_rd (wanted_none rfl) rfl rfl (rd_move (v := .c _) rfl rfl) ?_
                  refine y_skip (wanted_is rfl rfl rfl rfl false rfl) rfl rfl ?_
                  refine y_skip (wanted_is rfl rfl rfl rfl false rfl) rfl rfl ?_
                  refine y_skip (wanted_is rfl rfl rfl rfl false rfl) rfl rfl ?_
                  refine y_rd (wanted_none rfl) rfl rfl (rd_pickF (v := .c _) rfl rfl rfl) ?_
                  refine y_rd (wanted_none rfl) rfl rfl (rd_assign (v := .c _) rfl rfl) ?_
                  refine x_done ?_
                  refine then_norm ?_
                  refine code_ret ?_
                  refine end_val (.inl rfl) (res_1 rfl (arv_tmp rfl)) ?_
                  refine CEnt.bool ?_
                  have qd := @days_pos x.y x.m x.d
                  first | (simp [RightP, *]; done) | (simp [RightP, *]; omega) | (refine decide_eq_decide.2 ?_; unfold RightP; omega)
              · refine y_skip (wanted_is rfl rfl rfl rfl false rfl) rfl rfl ?_
                refine y_skip (wanted_is rfl rfl rfl rfl false rfl) rfl rfl ?_
                refine y_skip (wanted_is rfl rfl rfl rfl false rfl) rfl rfl ?_
                refine y_rd (wanted_none rfl) rfl rfl (rd_pickF (v := .c _) rfl rfl rfl) ?_
                refine y_rd (wanted_none rfl) rfl rfl (rd_move (v := .c _) rfl rfl) ?_
                refine y_skip (wanted_is rfl rfl rfl rfl false rfl) rfl rfl ?_
                refine y_skip (wanted_is rfl rfl rfl rfl false rfl) rfl rfl ?_
                refine y_skip (wanted_is rfl rfl rfl rfl false rfl) rfl rfl ?_
                refine y_rd (wanted_none rfl) rfl rfl (rd_pickF (v := .c _) rfl rfl rfl) ?_
                refine y_rd (wanted_none rfl) rfl rfl (rd_move (v := .c _) rfl rfl) ?_
                refine y_skip (wanted_is rfl rfl rfl rfl false rfl) rfl rfl ?_
                refine y_skip (wanted_is rfl rfl rfl rfl false rfl) rfl rfl ?_
                refine y_skip (wanted_is rfl rfl rfl rfl false rfl) rfl rfl ?_
                refine y_rd (wanted_none rfl) rfl rfl (rd_pickF (v := .c _) rfl rfl rfl) ?_
                refine y_rd (wanted_none rfl) rfl rfl (rd_move (v := .c _) rfl rfl) ?_
                refine y_skip (wanted_is rfl rfl rfl rfl false rfl) rfl rfl ?_
                refine y_skip (wanted_is rfl rfl rfl rfl false rfl) rfl rfl ?_
                refine y_skip (wanted_is rfl rfl rfl rfl false rfl) rfl rfl ?_
                refine y_rd (wanted_none rfl) rfl rfl (rd_pickF (v := .c _) rfl rfl rfl) ?_
                refine y_rd (wanted_none rfl) rfl rfl (rd_move (v := .c _) rfl rfl) ?_
                refine y_skip (wanted_is rfl rfl rfl rfl false rfl) rfl rfl ?_
                refine y_skip (wanted_is rfl rfl rfl rfl false rfl) rfl rfl ?_
                refine y_skip (wanted_is rfl rfl rfl rfl false rfl) rfl rfl ?_
                refine y_rd (wanted_none rfl) rfl rfl (rd_pickF (v := .c _) rfl rfl rfl) ?_
                refine y_rd (wanted_none rfl) rfl rfl (rd_assign (v := .c _) rfl rfl) ?_
                refine x_done ?_
                refine then_norm ?_
                refine code_ret ?_
                refine end_val (.inl rfl) (res_1 rfl (arv_tmp rfl)) ?_
                refine CEnt.bool ?_
                have qd := @days_pos x.y x.m x.d
                first | (simp [RightP, *]; done) | (simp [RightP, *]; omega) | (refine decide_eq_decide.2 ?_; unfold RightP; omega)
            · refine y_skip (wanted_is rfl rfl rfl rfl false rfl) rfl rfl ?_
              refine y_skip (wanted_is rfl rfl rfl rfl false rfl) rfl rfl ?_
              refine y_skip (wanted_is rfl rfl rfl rfl false rfl) rfl rfl ?_
              refine y_rd (wanted_none rfl) rfl rfl (rd_pickF (v := .c _) rfl rfl rfl) ?_
              refine y_rd (wanted_none rfl) rfl rfl (rd_move (v := .c _) rfl rfl) ?_
              refine y_skip (wanted_is rfl rfl rfl rfl false rfl) rfl rfl ?_
              refine y_skip (wanted_is rfl rfl rfl rfl false rfl) rfl rfl ?_
              refine y_skip (wanted_is rfl rfl rfl rfl false rfl) rfl rfl ?_
              refine y_rd (wanted_none rfl) rfl rfl (rd_pickF (v := .c _) rfl rfl rfl) ?_
              refine y_rd (wanted_none rfl) rfl rfl (rd_move (v := .c _) rfl rfl) ?_
              refine y_skip (wanted_is rfl rfl rfl rfl false rfl) rfl rfl ?_
              refine y_skip (wanted_is rfl rfl rfl rfl false rfl) rfl rfl ?_
              refine y_skip (wanted_is rfl rfl rfl rfl false rfl) rfl rfl ?_
              refine y_rd (wanted_none rfl) rfl rfl (rd_pickF (v := .c _) rfl rfl rfl) ?_
              refine y_rd (wanted_none rfl) rfl rfl (rd_move (v := .c _) rfl rfl) ?_
              refine y_skip (wanted_is rfl rfl rfl rfl false rfl) rfl rfl ?_
              refine y_skip (wanted_is rfl rfl rfl rfl false rfl) rfl rfl ?_
              refine y_skip (wanted_is rfl rfl rfl rfl false rfl) rfl rfl ?_
              refine y_rd (wanted_none rfl) rfl rfl (rd_pickF (v := .c _) rfl rfl rfl) ?_
              refine y_rd (wanted_none rfl) rfl rfl (rd_move (v := .c _) rfl rfl) ?_
              refine y_skip (wanted_is rfl rfl rfl rfl false rfl) rfl rfl ?_
              refine y_skip (wanted_is rfl rfl rfl rfl false rfl) rfl rfl ?_
              refine y_skip (wanted_is rfl rfl rfl rfl false rfl) rfl rfl ?_
              refine y_rd (wanted_none rfl) rfl rfl (rd_pickF (v := .c _) rfl rfl rfl) ?_
              refine y_rd (wanted_none rfl) rfl rfl (rd_move (v := .c _) rfl rfl) ?_
              refine y_skip (wanted_is rfl rfl rfl rfl false rfl) rfl rfl ?_
              refine y_skip (wanted_is rfl rfl rfl rfl false rfl) rfl rfl ?_
              refine y_skip (wanted_is rfl rfl rfl rfl false rfl) rfl rfl ?_
              refine y_rd (wanted_none rfl) rfl rfl (rd_pickF (v := .c _) rfl rfl rfl) ?_
              refine y_rd (wanted_none rfl) rfl rfl (rd_assign (v := .c _) rfl rfl) ?_
              refine x_done ?_
              refine then_norm ?_
              refine code_ret ?_
              refine end_val (.inl rfl) (res_1 rfl (arv_tmp rfl)) ?_
              refine CEnt.bool ?_
              have qd := @days_pos x.y x.m x.d
              first | (simp [RightP, *]; done) | (simp [RightP, *]; omega) | (refine decide_eq_decide.2 ?_; unfold RightP; omega)
          · refine y_skip (wanted_is rfl rfl rfl rfl false rfl) rfl rfl ?_
            refine y_skip (wanted_is rfl rfl rfl rfl false rfl) rfl rfl ?_
            refine y_skip (wanted_is rfl rfl rfl rfl false rfl) rfl rfl ?_
            refine y_skip (wanted_is rfl rfl rfl rfl false rfl) rfl rfl ?_
            refine y_skip (wanted_is rfl rfl rfl rfl false rfl) rfl rfl ?_
            refine y_skip (wanted_is rfl rfl rfl rfl false rfl) rfl rfl ?_
            refine y_noone (wanted_is rfl rfl rfl rfl false rfl) rfl rfl ?_
            refine y_skip (wanted_is rfl rfl rfl rfl false rfl) rfl rfl ?_
            refine y_rd (wanted_none rfl) rfl rfl (rd_pickF (v := .c _) rfl rfl rfl) ?_
            refine y_rd (wanted_none rfl) rfl rfl (rd_move (v := .c _) rfl rfl) ?_
            refine y_skip (wanted_is rfl rfl rfl rfl false rfl) rfl rfl ?_
            refine y_skip (wanted_is rfl rfl rfl rfl false rfl) rfl rfl ?_
            refine y_skip (wanted_is rfl rfl rfl rfl false rfl) rfl rfl ?_
            refine y_rd (wanted_none rfl) rfl rfl (rd_pickF (v := .c _) rfl rfl rfl) ?_
            refine y_rd (wanted_none rfl) rfl rfl (rd_move (v := .c _) rfl rfl) ?_
            refine y_skip (wanted_is rfl rfl rfl rfl false rfl) rfl rfl ?_
            refine y_skip (wanted_is rfl rfl rfl rfl false rfl) rfl rfl ?_
            refine y_skip (wanted_is rfl rfl rfl rfl false rfl) rfl rfl ?_
            refine y_rd (wanted_none rfl) rfl rfl (rd_pickF (v := .c _) rfl rfl rfl) ?_
            refine y_rd (wanted_none rfl) rfl rfl (rd_move (v := .c _) rfl rfl) ?_
            refine y_skip (wanted_is rfl rfl rfl rfl false rfl) rfl rfl ?_
            refine y_skip (wanted_is rfl rfl rfl rfl false rfl) rfl rfl ?_
            refine y_skip (wanted_is rfl rfl rfl rfl false rfl) rfl rfl ?_
            refine y_rd (wanted_none rfl) rfl rfl (rd_pickF (v := .c _) rfl rfl rfl) ?_
            refine y_rd (wanted_none rfl) rfl rfl (rd_move (v := .c _) rfl rfl) ?_
            refine y_skip (wanted_is rfl rfl rfl rfl false rfl) rfl rfl ?_
            refine y_skip (wanted_is rfl rfl rfl rfl false rfl) rfl rfl ?_
            refine y_skip (wanted_is rfl rfl rfl rfl false rfl) rfl rfl ?_
            refine y_rd (wanted_none rfl) rfl rfl (rd_pickF (v := .c _) rfl rfl rfl) ?_
            refine y_rd (wanted_none rfl) rfl rfl (rd_move (v := .c _) rfl rfl) ?_
            refine y_skip (wanted_is rfl rfl rfl rfl false rfl) rfl rfl ?_
            refine y_skip (wanted_is rfl rfl rfl rfl false rfl) rfl rfl ?_
            refine y_skip (wanted_is rfl rfl rfl rfl false rfl) rfl rfl ?_
            refine y_rd (wanted_none rfl) rfl rfl (rd_pickF (v := .c _) rfl rfl rfl) ?_
            refine y_rd (wanted_none rfl) rfl rfl (rd_move (v := .c _) rfl rfl) ?_
            refine y_skip (wanted_is rfl rfl rfl rfl false rfl) rfl rfl ?_
            refine y_skip (wanted_is rfl rfl rfl rfl false rfl) rfl rfl ?_
            refine y_skip (wanted_is rfl rfl rfl rfl false rfl) rfl rfl ?_
            refine y_rd (wanted_none rfl) rfl rfl (rd_pickF (v := .c _) rfl rfl rfl) ?_
            refine y_rd (wanted_none rfl) rfl rfl (rd_assign (v := .c _) rfl rfl) ?_
            refine x_done ?_
            refine then_norm ?_
            refine code_ret ?_
            refine end_val (.inl rfl) (res_1 rfl (arv_tmp rfl)) ?_
            refine CEnt.bool ?_
            have qd := @days_pos x.y x.m x.d
            first | (simp [RightP, *]; done) | (simp [RightP, *]; omega) | (refine decide_eq_decide.2 ?_; unfold RightP; omega)
        · refine y_skip (wanted_is rfl rfl rfl rfl false rfl) rfl rfl ?_
          refine y_skip (wanted_is rfl rfl rfl rfl false rfl) rfl rfl ?_
          refine y_skip (wanted_is rfl rfl rfl rfl false rfl) rfl rfl ?_
          refine y_rd (wanted_none rfl) rfl rfl (rd_pickF (v := .c _) rfl rfl rfl) ?_
          refine y_rd (wanted_none rfl) rfl rfl (rd_move (v := .c _) rfl rfl) ?_
          refine y_skip (wanted_is rfl rfl rfl rfl false rfl) rfl rfl ?_
          refine y_skip (wanted_is rfl rfl rfl rfl false rfl) rfl rfl ?_
          refine y_skip (wanted_is rfl rfl rfl rfl false rfl) rfl rfl ?_
          refine y_skip (wanted_is rfl rfl rfl rfl false rfl) rfl rfl ?_
          refine y_skip (wanted_is rfl rfl rfl rfl false rfl) rfl rfl ?_
          refine y_skip (wanted_is rfl rfl rfl rfl false rfl) rfl rfl ?_
          refine y_noone (wanted_is rfl rfl rfl rfl false rfl) rfl rfl ?_
          refine y_skip (wanted_is rfl rfl rfl rfl false rfl) rfl rfl ?_
          refine y_rd (wanted_none rfl) rfl rfl (rd_pickF (v := .c _) rfl rfl rfl) ?_
          refine y_rd (wanted_none rfl) rfl rfl (rd_move (v := .c _) rfl rfl) ?_
          refine y_skip (wanted_is rfl rfl rfl rfl false rfl) rfl rfl ?_
          refine y_skip (wanted_is rfl rfl rfl rfl false rfl) rfl rfl ?_
          refine y_skip (wanted_is rfl rfl rfl rfl false rfl) rfl rfl ?_
          refine y_rd (wanted_none rfl) rfl rfl (rd_pickF (v := .c _) rfl rfl rfl) ?_
          refine y_rd (wanted_none rfl) rfl rfl (rd_move (v := .c _) rfl rfl) ?_
          refine y_skip (wanted_is rfl rfl rfl rfl false rfl) rfl rfl ?_
          refine y_skip (wanted_is rfl rfl rfl rfl false rfl) rfl rfl ?_
          refine y_skip (wanted_is rfl rfl rfl rfl false rfl) rfl rfl ?_
          refine y_rd (wanted_none rfl) rfl rfl (rd_pickF (v := .c _) rfl rfl rfl) ?_
          refine y_rd (wanted_none rfl) rfl rfl (rd_move (v := .c _) rfl rfl) ?_
          refine y_skip (wanted_is rfl rfl rfl rfl false rfl) rfl rfl ?_
          refine y_skip (wanted_is rfl rfl rfl rfl false rfl) rfl rfl ?_
          refine y_skip (wanted_is rfl rfl rfl rfl false rfl) rfl rfl ?_
          refine y_rd (wanted_none rfl) rfl rfl (rd_pickF (v := .c _) rfl rfl rfl) ?_
          refine y_rd (wanted_none rfl) rfl rfl (rd_move (v := .c _) rfl rfl) ?_
          refine y_skip (wanted_is rfl rfl rfl rfl false rfl) rfl rfl ?_
          refine y_skip (wanted_is rfl rfl rfl rfl false rfl) rfl rfl ?_
          refine y_skip (wanted_is rfl rfl rfl rfl false rfl) rfl rfl ?_
          refine y_rd (wanted_none rfl) rfl rfl (rd_pickF (v := .c _) rfl rfl rfl) ?_
          refine y_rd (wanted_none rfl) rfl rfl (rd_move (v := .c _) rfl rfl) ?_
          refine y_skip (wanted_is rfl rfl rfl rfl false rfl) rfl rfl ?_
          refine y_skip (wanted_is rfl rfl rfl rfl false rfl) rfl rfl ?_
          refine y_skip (wanted_is rfl rfl rfl rfl false rfl) rfl rfl ?_
          refine y_rd (wanted_none rfl) rfl rfl (rd_pickF (v := .c _) rfl rfl rfl) ?_
          refine y_rd (wanted_none rfl) rfl rfl (rd_move (v := .c _) rfl rfl) ?_
          refine y_skip (wanted_is rfl rfl rfl rfl false rfl) rfl rfl ?_
          refine y_skip (wanted_is rfl rfl rfl rfl false rfl) rfl rfl ?_
          refine y_skip (wanted_is rfl rfl rfl rfl false rfl) rfl rfl ?_
          refine y_rd (wanted_none rfl) rfl rfl (rd_pickF (v := .c _) rfl rfl rfl) ?_
          refine y_rd (wanted_none rfl) rfl rfl (rd_assign (v := .c _) rfl rfl) ?_
          refine x_done ?_
          refine then_norm ?_
          refine code_ret ?_
          refine end_val (.inl rfl) (res_1 rfl (arv_tmp rfl)) ?_
          refine CEnt.bool ?_
          have qd := @days_pos x.y x.m x.d
          first | (simp [RightP, *]; done) | (simp [RightP, *]; omega) | (refine decide_eq_decide.2 ?_; unfold RightP; omega)
      · refine y_skip (wanted_is rfl rfl rfl rfl false rfl) rfl rfl ?_
        refine y_skip (wanted_is rfl rfl rfl rfl false rfl) rfl rfl ?_
        refine y_skip (wanted_is rfl rfl rfl rfl false rfl) rfl rfl ?_
        refine y_rd (wanted_none rfl) rfl rfl (rd_pickF (v := .c _) rfl rfl rfl) ?_
        refine y_rd (wanted_none rfl) rfl rfl (rd_move (v := .c _) rfl rfl) ?_
        refine y_skip (wanted_is rfl rfl rfl rfl false rfl) rfl rfl ?_
        refine y_skip (wanted_is rfl rfl rfl rfl false rfl) rfl rfl ?_
        refine y_skip (wanted_is rfl rfl rfl rfl false rfl) rfl rfl ?_
        refine y_rd (wanted_none rfl) rfl rfl (rd_pickF (v := .c _) rfl rfl rfl) ?_
        refine y_rd (wanted_none rfl) rfl rfl (rd_move (v := .c _) rfl rfl) ?_
        refine y_skip (wanted_is rfl rfl rfl rfl false rfl) rfl rfl ?_
        refine y_skip (wanted_is rfl rfl rfl rfl false rfl) rfl rfl ?_
        refine y_skip (wanted_is rfl rfl rfl rfl false rfl) rfl rfl ?_
        refine y_skip (wanted_is rfl rfl rfl rfl false rfl) rfl rfl ?_
        refine y_skip (wanted_is rfl rfl rfl rfl false rfl) rfl rfl ?_
        refine y_skip (wanted_is rfl rfl rfl rfl false rfl) rfl rfl ?_
        refine y_noone (wanted_is rfl rfl rfl rfl false rfl) rfl rfl ?_
        refine y_skip (wanted_is rfl rfl rfl rfl false rfl) rfl rfl ?_
        refine y_rd (wanted_none rfl) rfl rfl (rd_pickF (v := .c _) rfl rfl rfl) ?_
        refine y_rd (wanted_none rfl) rfl rfl (rd_move (v := .c _) rfl rfl) ?_
        refine y_skip (wanted_is rfl rfl rfl rfl false rfl) rfl rfl ?_
        refine y_skip (wanted_is rfl rfl rfl rfl false rfl) rfl rfl ?_
        refine y_skip (wanted_is rfl rfl rfl rfl false rfl) rfl rfl ?_
        refine y_rd (wanted_none rfl) rfl rfl (rd_pickF (v := .c _) rfl rfl rfl) ?_
        refine y_rd (wanted_none rfl) rfl rfl (rd_move (v := .c _) rfl rfl) ?_
        refine y_skip (wanted_is rfl rfl rfl rfl false rfl) rfl rfl ?_
        refine y_skip (wanted_is rfl rfl rfl rfl false rfl) rfl rfl ?_
        refine y_skip (wanted_is rfl rfl rfl rfl false rfl) rfl rfl ?_
        refine y_rd (wanted_none rfl) rfl rfl (rd_pickF (v := .c _) rfl rfl rfl) ?_
        refine y_rd (wanted_none rfl) rfl rfl (rd_move (v := .c _) rfl rfl) ?_
        refine y_skip (wanted_is rfl rfl rfl rfl false rfl) rfl rfl ?_
        refine y_skip (wanted_is rfl rfl rfl rfl false rfl) rfl rfl ?_
        refine y_skip (wanted_is rfl rfl rfl rfl false rfl) rfl rfl ?_
        refine y_rd (wanted_none rfl) rfl rfl (rd_pickF (v := .c _) rfl rfl rfl) ?_
        refine y_rd (wanted_none rfl) rfl rfl (rd_move (v := .c _) rfl rfl) ?_
        refine y_skip (wanted_is rfl rfl rfl rfl false rfl) rfl rfl ?_
        refine y_skip (wanted_is rfl rfl rfl rfl false rfl) rfl rfl ?_
        refine y_skip (wanted_is rfl rfl rfl rfl false rfl) rfl rfl ?_
        refine y_rd (wanted_none rfl) rfl rfl (rd_pickF (v := .c _) rfl rfl rfl) ?_
        refine y_rd (wanted_none rfl) rfl rfl (rd_move (v := .c _) rfl rfl) ?_
        refine y_skip (wanted_is rfl rfl rfl rfl false rfl) rfl rfl ?_
        refine y_skip (wanted_is rfl rfl rfl rfl false rfl) rfl rfl ?_
        refine y_skip (wanted_is rfl rfl rfl rfl false rfl) rfl rfl ?_
        refine y_rd (wanted_none rfl) rfl rfl (rd_pickF (v := .c _) rfl rfl rfl) ?_
        refine y_rd (wanted_none rfl) rfl rfl (rd_move (v := .c _) rfl rfl) ?_
        refine y_skip (wanted_is rfl rfl rfl rfl false rfl) rfl rfl ?_
        refine y_skip (wanted_is rfl rfl rfl rfl false rfl) rfl rfl ?_
        refine y_skip (wanted_is rfl rfl rfl rfl false rfl) rfl rfl ?_
        refine y_rd (wanted_none rfl) rfl rfl (rd_pickF (v := .c _) rfl rfl rfl) ?_
        refine y_rd (wanted_none rfl) rfl rfl (rd_assign (v := .c _) rfl rfl) ?_
        refine x_done ?_
        refine then_norm ?_
        refine code_ret ?_
        refine end_val (.inl rfl) (res_1 rfl (arv_tmp rfl)) ?_
        refine CEnt.bool ?_
        have qd := @days_pos x.y x.m x.d
        first | (simp [RightP, *]; done) | (simp [RightP, *]; omega) | (refine decide_eq_decide.2 ?_; unfold RightP; omega)
    · refine y_skip (wanted_is rfl rfl rfl rfl false rfl) rfl rfl ?_
      refine y_skip (wanted_is rfl rfl rfl rfl false rfl) rfl rfl ?_
      refine y_skip (wanted_is rfl rfl rfl rfl false rfl) rfl rfl ?_
      refine y_rd (wanted_none rfl) rfl rfl (rd_pickF (v := .c _) rfl rfl rfl) ?_
      refine y_rd (wanted_none rfl) rfl rfl (rd_move (v := .c _) rfl rfl) ?_
      refine y_skip (wanted_is rfl rfl rfl rfl false rfl) rfl rfl ?_
      refine y_skip (wanted_is rfl rfl rfl rfl false rfl) rfl rfl ?_
      refine y_skip (wanted_is rfl rfl rfl rfl false rfl) rfl rfl ?_
      refine y_rd (wanted_none rfl) rfl rfl (rd_pickF (v := .c _) rfl rfl rfl) ?_
      refine y_rd (wanted_none rfl) rfl rfl (rd_move (v := .c _) rfl rfl) ?_
      refine y_skip (wanted_is rfl rfl rfl rfl false rfl) rfl rfl ?_
      refine y_skip (wanted_is rfl rfl rfl rfl false rfl) rfl rfl ?_
      refine y_skip (wanted_is rfl rfl rfl rfl false rfl) rfl rfl ?_
      refine y_rd (wanted_none rfl) rfl rfl (rd_pickF (v := .c _) rfl rfl rfl) ?_
      refine y_rd (wanted_none rfl) rfl rfl (rd_move (v := .c _) rfl rfl) ?_
      refine y_skip (wanted_is rfl rfl rfl rfl false rfl) rfl rfl ?_
      refine y_skip (wanted_is rfl rfl rfl rfl false rfl) rfl rfl ?_
      refine y_skip (wanted_is rfl rfl rfl rfl false rfl) rfl rfl ?_
      refine y_skip (wanted_is rfl rfl rfl rfl false rfl) rfl rfl ?_
      refine y_skip (wanted_is rfl rfl rfl rfl false rfl) rfl rfl ?_
      refine y_skip (wanted_is rfl rfl rfl rfl false rfl) rfl rfl ?_
      refine y_noone (wanted_is rfl rfl rfl rfl false rfl) rfl rfl ?_
      refine y_skip (wanted_is rfl rfl rfl rfl false rfl) rfl rfl ?_
      refine y_rd (wanted_none rfl) rfl rfl (rd_pickF (v := .c _) rfl rfl rfl) ?_
      refine y_rd (wanted_none rfl) rfl rfl (rd_move (v := .c _) rfl rfl) ?_
      refine y_skip (wanted_is rfl rfl rfl rfl false rfl) rfl rfl ?_
      refine y_skip (wanted_is rfl rfl rfl rfl false rfl) rfl rfl ?_
      refine y_skip (wanted_is rfl rfl rfl rfl false rfl) rfl rfl ?_
      refine y_rd (wanted_none rfl) rfl rfl (rd_pickF (v := .c _) rfl rfl rfl) ?_
      refine y_rd (wanted_none rfl) rfl rfl (rd_move (v := .c _) rfl rfl) ?_
      refine y_skip (wanted_is rfl rfl rfl rfl false rfl) rfl rfl ?_
      refine y_skip (wanted_is rfl rfl rfl rfl false rfl) rfl rfl ?_
      refine y_skip (wanted_is rfl rfl rfl rfl false rfl) rfl rfl ?_
      refine y_rd (wanted_none rfl) rfl rfl (rd_pickF (v := .c _) rfl rfl rfl) ?_
      refine y_rd (wanted_none rfl) rfl rfl (rd_move (v := .c _) rfl rfl) ?_
      refine y_skip (wanted_is rfl rfl rfl rfl false rfl) rfl rfl ?_
      refine y_skip (wanted_is rfl rfl rfl rfl false rfl) rfl rfl ?_
      refine y_skip (wanted_is rfl rfl rfl rfl false rfl) rfl rfl ?_
      refine y_rd (wanted_none rfl) rfl rfl (rd_pickF (v := .c _) rfl rfl rfl) ?_
      refine y_rd (wanted_none rfl) rfl rfl (rd_move (v := .c _) rfl rfl) ?_
      refine y_skip (wanted_is rfl rfl rfl rfl false rfl) rfl rfl ?_
      refine y_skip (wanted_is rfl rfl rfl rfl false rfl) rfl rfl ?_
      refine y_skip (wanted_is rfl rfl rfl rfl false rfl) rfl rfl ?_
      refine y_rd (wanted_none rfl) rfl rfl (rd_pickF (v := .c _) rfl rfl rfl) ?_
      refine y_rd (wanted_none rfl) rfl rfl (rd_move (v := .c _) rfl rfl) ?_
      refine y_skip (wanted_is rfl rfl rfl rfl false rfl) rfl rfl ?_
      refine y_skip (wanted_is rfl rfl rfl rfl false rfl) rfl rfl ?_
      refine y_skip (wanted_is rfl rfl rfl rfl false rfl) rfl rfl ?_
      refine y_rd (wanted_none rfl) rfl rfl (rd_pickF (v := .c _) rfl rfl rfl) ?_
      refine y_rd (wanted_none rfl) rfl rfl (rd_move (v := .c _) rfl rfl) ?_
      refine y_skip (wanted_is rfl rfl rfl rfl false rfl) rfl rfl ?_
      refine y_skip (wanted_is rfl rfl rfl rfl false rfl) rfl rfl ?_
      refine y_skip (wanted_is rfl rfl rfl rfl false rfl) rfl rfl ?_
      refine y_rd (wanted_none rfl) rfl rfl (rd_pickF (v := .c _) rfl rfl rfl) ?_
      refine y_rd (wanted_none rfl) rfl rfl (rd_assign (v := .c _) rfl rfl) ?_
      refine x_done ?_
      refine then_norm ?_
      refine code_ret ?_
      refine end_val (.inl rfl) (res_1 rfl (arv_tmp rfl)) ?_
      refine CEnt.bool ?_
      have qd := @days_pos x.y x.m x.d
      first | (simp [RightP, *]; done) | (simp [RightP, *]; omega) | (refine decide_eq_decide.2 ?_; unfold RightP; omega)
  · refine y_skip (wanted_is rfl rfl rfl rfl false rfl) rfl rfl ?_
    refine y_skip (wanted_is rfl rfl rfl rfl false rfl) rfl rfl ?_
    refine y_skip (wanted_is rfl rfl rfl rfl false rfl) rfl rfl ?_
    refine y_rd (wanted_none rfl) rfl rfl (rd_pickF (v := .c _) rfl rfl rfl) ?_
    refine y_rd (wanted_none rfl) rfl rfl (rd_move (v := .c _) rfl rfl) ?_
    refine y_skip (wanted_is rfl rfl rfl rfl false rfl) rfl rfl ?_
    refine y_skip (wanted_is rfl rfl rfl rfl false rfl) rfl rfl ?_
    refine y_skip (wanted_is rfl rfl rfl rfl false rfl) rfl rfl ?_
    refine y_rd (wanted_none rfl) rfl rfl (rd_pickF (v := .c _) rfl rfl rfl) ?_
    refine y_rd (wanted_none rfl) rfl rfl (rd_move (v := .c _) rfl rfl) ?_
    refine y_skip (wanted_is rfl rfl rfl rfl false rfl) rfl rfl ?_
    refine y_skip (wanted_is rfl rfl rfl rfl false rfl) rfl rfl ?_
    refine y_skip (wanted_is rfl rfl rfl rfl false rfl) rfl rfl ?_
    refine y_rd (wanted_none rfl) rfl rfl (rd_pickF (v := .c _) rfl rfl rfl) ?_
    refine y_rd (wanted_none rfl) rfl rfl (rd_move (v := .c _) rfl rfl) ?_
    refine y_skip (wanted_is rfl rfl rfl rfl false rfl) rfl rfl ?_
    refine y_skip (wanted_is rfl rfl rfl rfl false rfl) rfl rfl ?_
    refine y_skip (wanted_is rfl rfl rfl rfl false rfl) rfl rfl ?_
    refine y_rd (wanted_none rfl) rfl rfl (rd_pickF (v := .c _) rfl rfl rfl) ?_
    refine y_rd (wanted_none rfl) rfl rfl (rd_move (v := .c _) rfl rfl) ?_
    refine y_skip (wanted_is rfl rfl rfl rfl false rfl) rfl rfl ?_
    refine y_skip (wanted_is rfl rfl rfl rfl false rfl) rfl rfl ?_
    refine y_skip (wanted_is rfl rfl rfl rfl false rfl) rfl rfl ?_
    refine y_skip (wanted_is rfl rfl rfl rfl false rfl) rfl rfl ?_
    refine y_skip (wanted_is rfl rfl rfl rfl false rfl) rfl rfl ?_
    refine y_skip (wanted_is rfl rfl rfl rfl false rfl) rfl rfl ?_
    refine y_noone (wanted_is rfl rfl rfl rfl false rfl) rfl rfl ?_
    refine y_skip (wanted_is rfl rfl rfl rfl false rfl) rfl rfl ?_
    refine y_rd (wanted_none rfl) rfl rfl (rd_pickF (v := .c _) rfl rfl rfl) ?_
    refine y_rd (wanted_none rfl) rfl rfl (rd_move (v := .c _) rfl rfl) ?_
    refine y_skip (wanted_is rfl rfl rfl rfl false rfl) rfl rfl ?_
    refine y_skip (wanted_is rfl rfl rfl rfl false rfl) rfl rfl ?_
    refine y_skip (wanted_is rfl rfl rfl rfl false rfl) rfl rfl ?_
    refine y_rd (wanted_none rfl) rfl rfl (rd_pickF (v := .c _) rfl rfl rfl) ?_
    refine y_rd (wanted_none rfl) rfl rfl (rd_move (v := .c _) rfl rfl) ?_
    refine y_skip (wanted_is rfl rfl rfl rfl false rfl) rfl rfl ?_
    refine y_skip (wanted_is rfl rfl rfl rfl false rfl) rfl rfl ?_
    refine y_skip (wanted_is rfl rfl rfl rfl false rfl) rfl rfl ?_
    refine y_rd (wanted_none rfl) rfl rfl (rd_pickF (v := .c _) rfl rfl rfl) ?_
    refine y_rd (wanted_none rfl) rfl rfl (rd_move (v := .c _) rfl rfl) ?_
    refine y_skip (wanted_is rfl rfl rfl rfl false rfl) rfl rfl ?_
    refine y_skip (wanted_is rfl rfl rfl rfl false rfl) rfl rfl ?_
    refine y_skip (wanted_is rfl rfl rfl rfl false rfl) rfl rfl ?_
    refine y_rd (wanted_none rfl) rfl rfl (rd_pickF (v := .c _) rfl rfl rfl) ?_
    refine y_rd (wanted_none rfl) rfl rfl (rd_move (v := .c _) rfl rfl) ?_
    refine y_skip (wanted_is rfl rfl rfl rfl false rfl) rfl rfl ?_
    refine y_skip (wanted_is rfl rfl rfl rfl false rfl) rfl rfl ?_
    refine y_skip (wanted_is rfl rfl rfl rfl false rfl) rfl rfl ?_
    refine y_rd (wanted_none rfl) rfl rfl (rd_pickF (v := .c _) rfl rfl rfl) ?_
    refine y_rd (wanted_none rfl) rfl rfl (rd_move (v := .c _) rfl rfl) ?_
    refine y_skip (wanted_is rfl rfl rfl rfl false rfl) rfl rfl ?_
    refine y_skip (wanted_is rfl rfl rfl rfl false rfl) rfl rfl ?_
    refine y_skip (wanted_is rfl rfl rfl rfl false rfl) rfl rfl ?_
    refine y_rd (wanted_none rfl) rfl rfl (rd_pickF (v := .c _) rfl rfl rfl) ?_
    refine y_rd (wanted_none rfl) rfl rfl (rd_move (v := .c _) rfl rfl) ?_
    refine y_skip (wanted_is rfl rfl rfl rfl false rfl) rfl rfl ?_
    refine y_skip (wanted_is rfl rfl rfl rfl false rfl) rfl rfl ?_
    refine y_skip (wanted_is rfl rfl rfl rfl false rfl) rfl rfl ?_
    refine y_rd (wanted_none rfl) rfl rfl (rd_pickF (v := .c _) rfl rfl rfl) ?_
    refine y_rd (wanted_none rfl) rfl rfl (rd_assign (v := .c _) rfl rfl) ?_
    refine x_done ?_
    refine then_norm ?_
    refine code_ret ?_
    refine end_val (.inl rfl) (res_1 rfl (arv_tmp rfl)) ?_
    refine CEnt.bool ?_
    have qd := @days_pos x.y x.m x.d
    first | (simp [RightP, *]; done) | (simp [RightP, *]; omega) | (refine decide_eq_decide.2 ?_; unfold RightP; omega)
theorem rsecs_ac {g : List Nat} (x : D6) (hr : RightP x) : ACp g Tryd.prog 24 [dateC x] (.c (.int .i64 (secM x))) := by
  obtain ⟨q1, q2, q3, q4, q5, q6, q7, q8, q9, q10⟩ := id hr
  have qm := days_pos q3 q4
  have qd := days_le x.y x.m
  have qb := bf_bd x.y q1 (by omega)
  have qs := sec_bd hr
  refine ac_of 37 Tryd.func24 rfl rfl rfl (fun al w0 F0 St0 => ?_)
  refine code_seq ?_
  refine code_region ?_
  refine seq_ex (wanted_none rfl) (e_box (n := 6) rfl rfl rfl rfl rfl rfl (fun p1 => ?_))
  refine q_rd (wanted_none rfl) rfl rfl (rd_assign (v := .c _) rfl rfl) ?_
  refine seq_nil ?_
  refine then_norm ?_
  refine code_seq ?_
  refine code_draw (.rd 0 (.rd 1 (.rd 3 (.rd 4 (.one 2 (.rd 5 (.rd 6 (.rd 7 .done)))))))) (by kernel_rfl) (by kernel_rfl) rfl (by kernel_rfl) (by kernel_rfl) ?_
  simp only [opsOfT, List.getElem?_toArray, List.getElem?_cons_zero, List.getElem?_cons_succ]
  first | refine y_rd (wanted_none rfl) rfl rfl (rd_faddrO rfl rfl Tryd.underlying37 rfl sz3 rfl) ?_ | refine y_rd (wanted_none rfl) rfl rfl (rd_faddrR rfl rfl Tryd.underlying37 rfl sz3 rfl) ?_
  first | refine y_rdO (wanted_none rfl) rfl rfl (rd_loadO (v := .c _) rfl rfl (.inl rfl) Tryd.underlying3 ag3 (by first | decide | (first | omega | (dsimp only at *; omega))) rfl) ?_ | refine y_rd (wanted_none rfl) rfl rfl (rd_loadR (v := .c _) rfl rfl Tryd.underlying3 ag3 (by first | decide | (first | omega | (dsimp only at *; omega))) rfl) ?_ | refine y_rdO (wanted_none rfl) rfl rfl (rd_loadO (v := .c _) rfl rfl (.inr rfl) Tryd.underlying3 ag3 (by first | decide | (first | omega | (dsimp only at *; omega))) rfl) ?_
  first | refine y_rd (wanted_none rfl) rfl rfl (rd_faddrO rfl rfl Tryd.underlying37 rfl sz3 rfl) ?_ | refine y_rd (wanted_none rfl) rfl rfl (rd_faddrR rfl rfl Tryd.underlying37 rfl sz3 rfl) ?_
  first | refine y_rdO (wanted_none rfl) rfl rfl (rd_loadO (v := .c _) rfl rfl (.inl rfl) Tryd.underlying3 ag3 (by first | decide | (first | omega | (dsimp only at *; omega))) rfl) ?_ | refine y_rd (wanted_none rfl) rfl rfl (rd_loadR (v := .c _) rfl rfl Tryd.underlying3 ag3 (by first | decide | (first | omega | (dsimp only at *; omega))) rfl) ?_ | refine y_rdO (wanted_none rfl) rfl rfl (rd_loadO (v := .c _) rfl rfl (.inr rfl) Tryd.underlying3 ag3 (by first | decide | (first | omega | (dsimp only at *; omega))) rfl) ?_
  refine x_one (wanted_none rfl) (e_callP rfl (by kernel_rfl) (before_ac _ q1 q2) (.cons (by first | exact se rfl (CEnt.refl _) | exact se rfl CEnt.nil | exact se rfl CEnt.nilB | exact se rfl (CEnt.osI rfl) | exact se rfl CEnt.opI | exact se_nilO rfl | exact se rfl (CEnt.agg2 (CEnt.refl _) (CEnt.refl _)) | exact se rfl (CEnt.agg3 (CEnt.refl _) (CEnt.refl _) (CEnt.refl _)) | exact se rfl (CEnt.agg4 (CEnt.refl _) (CEnt.refl _) (CEnt.refl _) (CEnt.refl _)) | exact se rfl (CEnt.agg5 (CEnt.refl _) (CEnt.refl _) (CEnt.refl _) (CEnt.refl _) (CEnt.refl _)) | exact se rfl (CEnt.agg6 (CEnt.refl _) (CEnt.refl _) (CEnt.refl _) (CEnt.refl _) (CEnt.refl _) (CEnt.refl _)) | exact se_frzB _ rfl rfl rfl (by simp) (fun _ _ => CEnt.refl _)) .nil) rfl rfl ?_)
  refine y_rd (wanted_none rfl) rfl rfl (rd_add rfl rfl rfl (wrap_id (k := .i64) (by show _ ∧ _; (first | omega | (dsimp only at *; omega))))) ?_
  refine y_rd (wanted_none rfl) rfl rfl (rd_sub rfl rfl rfl (wrap_id (k := .i64) (by show _ ∧ _; (first | omega | (dsimp only at *; omega))))) ?_
  refine y_rd (wanted_none rfl) rfl rfl (rd_assign (v := .c _) rfl rfl) ?_
  refine x_done ?_
  refine then_norm ?_
  refine code_seq ?_
  refine code_seq ?_
  refine code_region ?_
  refine q_rd (wanted_none rfl) rfl rfl (rd_assign (v := .c _) rfl rfl) ?_
  refine seq_nil ?_
  refine then_norm ?_
  refine code_block ?_
  refine l_loop (α := Nat) [3, 4, 12, 13, 14, 15, 16, 17, 18, 19, 20, 21, 22, 23] (fun i => [(3, .c (.int .i64 (bf x.y + x.d - 1 + cum x.y (1 + i)))), (4, .c (.int .i64 (1 + i)))]) (fun _ => [(p1, .blk 6 (dF x))]) (fun i => 1 + (i : Int) ≤ x.m) (fun i => (x.m - 1 - i).toNat) (0) ?_ (fun _ => rfl) ?_ ?_ ?_
  · show 1 + ((0 : Nat) : Int) ≤ x.m; omega
  · exact .cons (CEnt.int (by show _ = bf x.y + x.d - 1 + cum x.y 1; rw [cum_one]; omega)) (.cons (CEnt.refl _) .nil)
  · (repeat (first | exact HEnt.nil | refine HEnt.same ?_ | refine HEnt.blk rfl (fun j hj => by rcases j with _|_|_|_|_|_|_|_|j <;> first | exact CEnt.refl _ | exact CEnt.int (by omega) | omega) ?_))
  · rintro i (hi : 1 + (i : Int) ≤ x.m)
    have hb := cum_bd x.y (1 + i) (by omega) (by omega)
    have hs := cum_succ x.y (1 + i) (by omega) (by omega)
    have hdd := days_le x.y (1 + i)
    refine code_seq ?_
    refine code_seq ?_
    refine code_region ?_
    refine q_rd (wanted_none rfl) rfl rfl (rd_move (v := .c _) rfl rfl) ?_
    first | refine q_rd (wanted_none rfl) rfl rfl (rd_faddrO rfl rfl Tryd.underlying37 rfl sz3 rfl) ?_ | refine q_rd (wanted_none rfl) rfl rfl (rd_faddrR rfl rfl Tryd.underlying37 rfl sz3 rfl) ?_
    first | refine q_rdO (wanted_none rfl) rfl rfl (rd_loadO (v := .c _) rfl rfl (.inl rfl) Tryd.underlying3 ag3 (by first | decide | (first | omega | (dsimp only at *; omega))) rfl) ?_ | refine q_rd (wanted_none rfl) rfl rfl (rd_loadR (v := .c _) rfl rfl Tryd.underlying3 ag3 (by first | decide | (first | omega | (dsimp only at *; omega))) rfl) ?_ | refine q_rdO (wanted_none rfl) rfl rfl (rd_loadO (v := .c _) rfl rfl (.inr rfl) Tryd.underlying3 ag3 (by first | decide | (first | omega | (dsimp only at *; omega))) rfl) ?_
    refine q_rd (wanted_none rfl) rfl rfl (rd_lt rfl rfl rfl) ?_
    refine seq_nil ?_
    refine then_norm ?_
    first | refine code_condSD rfl rfl (fun h50 => ?_) (fun h50 => ?_) | refine code_condS rfl rfl (fun h50 => ?_) (fun h50 => ?_)
    · refine code_skip ?_
      refine then_norm ?_
      refine code_seq ?_
      refine code_block ?_
      refine code_region ?_
      refine q_rd (wanted_none rfl) rfl rfl (rd_move (v := .c _) rfl rfl) ?_
      first | refine q_rd (wanted_none rfl) rfl rfl (rd_faddrO rfl rfl Tryd.underlying37 rfl sz3 rfl) ?_ | refine q_rd (wanted_none rfl) rfl rfl (rd_faddrR rfl rfl Tryd.underlying37 rfl sz3 rfl) ?_
      first | refine q_rdO (wanted_none rfl) rfl rfl (rd_loadO (v := .c _) rfl rfl (.inl rfl) Tryd.underlying3 ag3 (by first | decide | (first | omega | (dsimp only at *; omega))) rfl) ?_ | refine q_rd (wanted_none rfl) rfl rfl (rd_loadR (v := .c _) rfl rfl Tryd.underlying3 ag3 (by first | decide | (first | omega | (dsimp only at *; omega))) rfl) ?_ | refine q_rdO (wanted_none rfl) rfl rfl (rd_loadO (v := .c _) rfl rfl (.inr rfl) Tryd.underlying3 ag3 (by first | decide | (first | omega | (dsimp only at *; omega))) rfl) ?_
      refine q_rd (wanted_none rfl) rfl rfl (rd_move (v := .c _) rfl rfl) ?_
      refine seq_ex (wanted_none rfl) (e_callP rfl (by kernel_rfl) (rdays_ac _ _) (.cons (by first | exact se rfl (CEnt.refl _) | exact se rfl CEnt.nil | exact se rfl CEnt.nilB | exact se rfl (CEnt.osI rfl) | exact se rfl CEnt.opI | exact se_nilO rfl | exact se rfl (CEnt.agg2 (CEnt.refl _) (CEnt.refl _)) | exact se rfl (CEnt.agg3 (CEnt.refl _) (CEnt.refl _) (CEnt.refl _)) | exact se rfl (CEnt.agg4 (CEnt.refl _) (CEnt.refl _) (CEnt.refl _) (CEnt.refl _)) | exact se rfl (CEnt.agg5 (CEnt.refl _) (CEnt.refl _) (CEnt.refl _) (CEnt.refl _) (CEnt.refl _)) | exact se rfl (CEnt.agg6 (CEnt.refl _) (CEnt.refl _) (CEnt.refl _) (CEnt.refl _) (CEnt.refl _) (CEnt.refl _)) | exact se_frzB _ rfl rfl rfl (by simp) (fun _ _ => CEnt.refl _)) (.cons (by first | exact se rfl (CEnt.refl _) | exact se rfl CEnt.nil | exact se rfl CEnt.nilB | exact se rfl (CEnt.osI rfl) | exact se rfl CEnt.opI | exact se_nilO rfl | exact se rfl (CEnt.agg2 (CEnt.refl _) (CEnt.refl _)) | exact se rfl (CEnt.agg3 (CEnt.refl _) (CEnt.refl _) (CEnt.refl _)) | exact se rfl (CEnt.agg4 (CEnt.refl _) (CEnt.refl _) (CEnt.refl _) (CEnt.refl _)) | exact se rfl (CEnt.agg5 (CEnt.refl _) (CEnt.refl _) (CEnt.refl _) (CEnt.refl _) (CEnt.refl _)) | exact se rfl (CEnt.agg6 (CEnt.refl _) (CEnt.refl _) (CEnt.refl _) (CEnt.refl _) (CEnt.refl _) (CEnt.refl _)) | exact se_frzB _ rfl rfl rfl (by simp) (fun _ _ => CEnt.refl _)) .nil)) rfl rfl ?_)
      refine q_rd (wanted_none rfl) rfl rfl (rd_add rfl rfl rfl (wrap_id (k := .i64) (by show _ ∧ _; (first | omega | (dsimp only at *; omega))))) ?_
      refine q_rd (wanted_none rfl) rfl rfl (rd_assign (v := .c _) rfl rfl) ?_
      refine seq_nil ?_
      refine block_norm ?_
      refine then_norm ?_
      refine code_region ?_
      refine q_rd (wanted_none rfl) rfl rfl (rd_move (v := .c _) rfl rfl) ?_
      refine q_rd (wanted_none rfl) rfl rfl (rd_add rfl rfl rfl (wrap_id (k := .i64) (by show _ ∧ _; (first | omega | (dsimp only at *; omega))))) ?_
      refine q_rd (wanted_none rfl) rfl rfl (rd_assign (v := .c _) rfl rfl) ?_
      refine seq_nil ?_
      refine then_norm ?_
      refine ⟨i + 1, ?_, ?_, rfl, rfl, ?_, by exact Nat.le_of_ble_eq_true rfl, ?_⟩
      · omega
      · omega
      · refine .cons (CEnt.int ?_) (.cons (CEnt.int (by omega)) .nil)
        show _ = bf x.y + x.d - 1 + cum x.y (1 + ((i + 1 : Nat) : Int))
        rw [show (1 : Int) + ((i + 1 : Nat) : Int) = 1 + i + 1 by omega, hs]
        omega
      · (repeat (first | exact HEnt.nil | refine HEnt.same ?_ | refine HEnt.blk rfl (fun j hj => by rcases j with _|_|_|_|_|_|_|_|j <;> first | exact CEnt.refl _ | exact CEnt.int (by omega) | omega) ?_))
    · refine code_exit ?_
      refine then_exit ?_
      refine then_exit ?_
      refine block_exit rfl ?_
      refine then_norm ?_
      refine code_seq ?_
      have e : 1 + (i : Int) = x.m := by omega
      clear hs hdd
      refine code_region ?_
      refine q_rd (wanted_none rfl) rfl rfl (rd_move (v := .c _) rfl rfl) ?_
      refine q_rd (wanted_none rfl) rfl rfl (rd_mul rfl rfl rfl (wrap_id (k := .i64) (by show _ ∧ _; (first | omega | (dsimp only at *; omega))))) ?_
      first | refine q_rd (wanted_none rfl) rfl rfl (rd_faddrO rfl rfl Tryd.underlying37 rfl sz3 rfl) ?_ | refine q_rd (wanted_none rfl) rfl rfl (rd_faddrR rfl rfl Tryd.underlying37 rfl sz3 rfl) ?_
      first | refine q_rdO (wanted_none rfl) rfl rfl (rd_loadO (v := .c _) rfl rfl (.inl rfl) Tryd.underlying3 ag3 (by first | decide | (first | omega | (dsimp only at *; omega))) rfl) ?_ | refine q_rd (wanted_none rfl) rfl rfl (rd_loadR (v := .c _) rfl rfl Tryd.underlying3 ag3 (by first | decide | (first | omega | (dsimp only at *; omega))) rfl) ?_ | refine q_rdO (wanted_none rfl) rfl rfl (rd_loadO (v := .c _) rfl rfl (.inr rfl) Tryd.underlying3 ag3 (by first | decide | (first | omega | (dsimp only at *; omega))) rfl) ?_
      refine q_rd (wanted_none rfl) rfl rfl (rd_add rfl rfl rfl (wrap_id (k := .i64) (by show _ ∧ _; (first | omega | (dsimp only at *; omega))))) ?_
      refine q_rd (wanted_none rfl) rfl rfl (rd_mul rfl rfl rfl (wrap_id (k := .i64) (by show _ ∧ _; (first | omega | (dsimp only at *; omega))))) ?_
      first | refine q_rd (wanted_none rfl) rfl rfl (rd_faddrO rfl rfl Tryd.underlying37 rfl sz3 rfl) ?_ | refine q_rd (wanted_none rfl) rfl rfl (rd_faddrR rfl rfl Tryd.underlying37 rfl sz3 rfl) ?_
      first | refine q_rdO (wanted_none rfl) rfl rfl (rd_loadO (v := .c _) rfl rfl (.inl rfl) Tryd.underlying3 ag3 (by first | decide | (first | omega | (dsimp only at *; omega))) rfl) ?_ | refine q_rd (wanted_none rfl) rfl rfl (rd_loadR (v := .c _) rfl rfl Tryd.underlying3 ag3 (by first | decide | (first | omega | (dsimp only at *; omega))) rfl) ?_ | refine q_rdO (wanted_none rfl) rfl rfl (rd_loadO (v := .c _) rfl rfl (.inr rfl) Tryd.underlying3 ag3 (by first | decide | (first | omega | (dsimp only at *; omega))) rfl) ?_
      refine q_rd (wanted_none rfl) rfl rfl (rd_add rfl rfl rfl (wrap_id (k := .i64) (by show _ ∧ _; (first | omega | (dsimp only at *; omega))))) ?_
      refine q_rd (wanted_none rfl) rfl rfl (rd_mul rfl rfl rfl (wrap_id (k := .i64) (by show _ ∧ _; (first | omega | (dsimp only at *; omega))))) ?_
      first | refine q_rd (wanted_none rfl) rfl rfl (rd_faddrO rfl rfl Tryd.underlying37 rfl sz3 rfl) ?_ | refine q_rd (wanted_none rfl) rfl rfl (rd_faddrR rfl rfl Tryd.underlying37 rfl sz3 rfl) ?_
      first | refine q_rdO (wanted_none rfl) rfl rfl (rd_loadO (v := .c _) rfl rfl (.inl rfl) Tryd.underlying3 ag3 (by first | decide | (first | omega | (dsimp only at *; omega))) rfl) ?_ | refine q_rd (wanted_none rfl) rfl rfl (rd_loadR (v := .c _) rfl rfl Tryd.underlying3 ag3 (by first | decide | (first | omega | (dsimp only at *; omega))) rfl) ?_ | refine q_rdO (wanted_none rfl) rfl rfl (rd_loadO (v := .c _) rfl rfl (.inr rfl) Tryd.underlying3 ag3 (by first | decide | (first | omega | (dsimp only at *; omega))) rfl) ?_
      refine q_rd (wanted_none rfl) rfl rfl (rd_add rfl rfl rfl (wrap_id (k := .i64) (by show _ ∧ _; (first | omega | (dsimp only at *; omega))))) ?_
      refine q_rd (wanted_none rfl) rfl rfl (rd_assign (v := .c _) rfl rfl) ?_
      refine seq_nil ?_
      refine then_norm ?_
      refine code_ret ?_
      refine end_val (.inl rfl) (res_1 rfl (arv_tmp rfl)) ?_
      refine CEnt.int ?_
      unfold secM dn
      rw [e]
      first | done | omega
end Am
end Go.Proofs.YtmlnipbeancnpaaDoor
