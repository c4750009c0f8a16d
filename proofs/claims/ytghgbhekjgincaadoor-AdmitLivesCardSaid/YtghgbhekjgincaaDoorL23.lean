
/- Chapter 23: the law's example; AdmitLives. -/
import Derived.Test.YtghgbhekjgincaaDoorW23h
import Derived.Test.YtghgbhekjgincaaDoorNumC
namespace Go.Proofs.YtghgbhekjgincaaDoor
set_option linter.unusedVariables false
namespace Am
variable {gs : List Nat} [OkG gs]
open Go.RowKit
set_option maxRecDepth 100000

section
variable {P : Program} {G : Gh} {s : AS} {o : Oper} {x y z : Operand} {k : IntKind}
theorem rd_min3 {p q r : Int} {ats : Array TypeId} (ho : o.op = .call ⟨.builtin .min, #[x, y, z], ats⟩) (hx : s.eval x = .c (.int k p)) (hy : s.eval y = .c (.int k q)) (hz : s.eval z = .c (.int k r)) : ARd P G o s (.c (.int k (min (min p q) r))) := fun St a w h =>
  ⟨_, fun W _ => by
    have e1 : min p q = if q < p then q else p := by split <;> omega
    have e2 : min (min p q) r = if r < min p q then r else min p q := by split <;> omega
    simp [execOp, ho, resolve, invoke, builtin, evC h hx, evC h hy, evC h hz, Builtin.min_, Builtin.min2]
    rw [show min p (min q r) = min (min p q) r by omega, e2, e1], rfl⟩
end
def naM (now dur most e : Int) : Int × Nat :=
  if ¬ (0 ≤ now ∧ now ≤ 253402300799 ∧ 0 ≤ e ∧ e ≤ 253402300799 ∧ 1 ≤ dur ∧ 1 ≤ most) then (0, 1) else if e ≤ now then (0, 13) else (now + min (min dur most) (e - now), 0)
theorem moment_ac {gs : List Nat} (t : Int) : ACp gs Tryd.prog 107 [.c (.int .i64 t)] (.c (.bool (decide (0 ≤ t) && decide (t ≤ 253402300799)))) := by
  refine ac_of 9 Tryd.func107 rfl rfl rfl (fun al w0 F0 St0 => ?_)
  refine code_seq ?_
  refine code_region ?_
  refine q_rd (wanted_none rfl) rfl rfl (rd_assign (v := .c _) rfl rfl) ?_
  refine seq_nil ?_
  refine then_norm ?_
  refine code_seq ?_
  refine code_region ?_
  refine q_rd (wanted_none rfl) rfl rfl (rd_move (v := .c _) rfl rfl) ?_
  refine q_rd (wanted_none rfl) rfl rfl (rd_ge rfl rfl rfl) ?_
  refine q_rd (wanted_none rfl) rfl rfl (rd_move (v := .c _) rfl rfl) ?_
  first | refine seq_splitD (d := 5) rfl rfl (fun g84 => ?_) (fun g84 => ?_) | refine seq_split (d := 5) rfl rfl (fun g84 => ?_) (fun g84 => ?_)
  · refine q_rd (wanted_is rfl rfl rfl rfl true rfl) rfl rfl (rd_move (v := .c _) rfl rfl) ?_
    refine q_rd (wanted_is rfl rfl rfl rfl true rfl) rfl rfl (rd_le rfl rfl rfl) ?_
    refine q_rd (wanted_none rfl) rfl rfl (rd_pickT (v := .c _) rfl rfl rfl) ?_
    refine q_rd (wanted_none rfl) rfl rfl (rd_assign (v := .c _) rfl rfl) ?_
    refine seq_nil ?_
    refine then_norm ?_
    refine code_ret ?_
    refine end_val (.inl rfl) (res_1 rfl (arv_tmp rfl)) ?_
    refine CEnt.bool ?_
    first | (simp_all; done) | (simp_all; omega)
  · refine q_skip (wanted_is rfl rfl rfl rfl false rfl) rfl rfl ?_
    refine q_skip (wanted_is rfl rfl rfl rfl false rfl) rfl rfl ?_
    refine q_rd (wanted_none rfl) rfl rfl (rd_pickF (v := .c _) rfl rfl rfl) ?_
    refine q_rd (wanted_none rfl) rfl rfl (rd_assign (v := .c _) rfl rfl) ?_
    refine seq_nil ?_
    refine then_norm ?_
    refine code_ret ?_
    refine end_val (.inl rfl) (res_1 rfl (arv_tmp rfl)) ?_
    refine CEnt.bool ?_
    first | (simp_all; done) | (simp_all; omega)
theorem na_ac (now dur most e : Int) (h1 : -9223372036854775808 ≤ now) (h2 : now ≤ 9223372036854775807) : ACp gs Tryd.prog 46 [.c (.int .i64 now), .c (.int .i64 dur), .c (.int .i64 most), .c (.int .i64 e)] (.tup 2 (fl [.c (.int .i64 (naM now dur most e).1), .err (naM now dur most e).2])) := by
  refine ac_of 41 Tryd.func46 rfl rfl rfl (fun al w0 F0 St0 => ?_)
  refine code_seq ?_
  refine code_region ?_
  refine q_rd (wanted_none rfl) rfl rfl (rd_assign (v := .c _) rfl rfl) ?_
  first | refine q_rd (wanted_none rfl) rfl rfl (rd_assign (v := .err _) rfl rfl) ?_ | refine q_rd (wanted_none rfl) rfl rfl (rd_assign (v := .c _) rfl rfl) ?_ | refine q_rd (wanted_none rfl) rfl rfl (rd_assign (v := .pv _) rfl rfl) ?_ | refine q_rd (wanted_none rfl) rfl rfl (rd_assign (v := .top) rfl rfl) ?_
  refine seq_nil ?_
  refine then_norm ?_
  refine code_seq ?_
  refine code_block ?_
  refine code_seq ?_
  refine code_region ?_
  refine q_rd (wanted_none rfl) rfl rfl (rd_move (v := .c _) rfl rfl) ?_
  refine seq_ex (wanted_none rfl) (e_callP rfl (by kernel_rfl) (moment_ac now) (.cons (by first | exact se rfl (CEnt.refl _) | exact se rfl CEnt.nil | exact se rfl CEnt.nilB | exact se rfl (CEnt.osI rfl) | exact se rfl CEnt.opI | exact se_nilO rfl | exact se rfl (CEnt.agg2 (CEnt.refl _) (CEnt.refl _)) | exact se rfl (CEnt.agg3 (CEnt.refl _) (CEnt.refl _) (CEnt.refl _)) | exact se rfl (CEnt.agg4 (CEnt.refl _) (CEnt.refl _) (CEnt.refl _) (CEnt.refl _)) | exact se rfl (CEnt.agg5 (CEnt.refl _) (CEnt.refl _) (CEnt.refl _) (CEnt.refl _) (CEnt.refl _)) | exact se rfl (CEnt.agg6 (CEnt.refl _) (CEnt.refl _) (CEnt.refl _) (CEnt.refl _) (CEnt.refl _) (CEnt.refl _)) | exact se_frzB _ rfl rfl rfl (by simp) (fun _ _ => CEnt.refl _)) .nil) rfl rfl ?_)
  first | refine q_rd (wanted_none rfl) rfl rfl (rd_notD rfl rfl) ?_ | refine q_rd (wanted_none rfl) rfl rfl (rd_not rfl rfl) ?_
  refine q_rd (wanted_none rfl) rfl rfl (rd_move (v := .c _) rfl rfl) ?_
  first | refine seq_splitD (d := 14) rfl rfl (fun g89 => ?_) (fun g89 => ?_) | refine seq_split (d := 14) rfl rfl (fun g89 => ?_) (fun g89 => ?_)
  · refine q_skip (wanted_is rfl rfl rfl rfl false rfl) rfl rfl ?_
    refine q_skip (wanted_is rfl rfl rfl rfl false rfl) rfl rfl ?_
    refine q_skip (wanted_is rfl rfl rfl rfl false rfl) rfl rfl ?_
    refine q_rd (wanted_none rfl) rfl rfl (rd_pickT (v := .c _) rfl rfl rfl) ?_
    refine q_rd (wanted_none rfl) rfl rfl (rd_move (v := .c _) rfl rfl) ?_
    refine q_skip (wanted_is rfl rfl rfl rfl false rfl) rfl rfl ?_
    refine q_skip (wanted_is rfl rfl rfl rfl false rfl) rfl rfl ?_
    refine q_rd (wanted_none rfl) rfl rfl (rd_pickT (v := .c _) rfl rfl rfl) ?_
    refine q_rd (wanted_none rfl) rfl rfl (rd_move (v := .c _) rfl rfl) ?_
    refine q_skip (wanted_is rfl rfl rfl rfl false rfl) rfl rfl ?_
    refine q_skip (wanted_is rfl rfl rfl rfl false rfl) rfl rfl ?_
    refine q_rd (wanted_none rfl) rfl rfl (rd_pickT (v := .c _) rfl rfl rfl) ?_
    refine q_rd (wanted_none rfl) rfl rfl (rd_assign (v := .c _) rfl rfl) ?_
    refine seq_nil ?_
    refine then_norm ?_
    refine code_condT rfl ?_
    refine code_seq ?_
    refine code_draw (.rd 0 (.rd 1 (.rd 2 .done))) (by kernel_rfl) (by kernel_rfl) rfl (by kernel_rfl) (by kernel_rfl) ?_
    simp only [opsOfT, List.getElem?_toArray, List.getElem?_cons_zero, List.getElem?_cons_succ]
    refine y_rd (wanted_none rfl) rfl rfl (rd_loadE 0 rfl rfl Tryd.underlying28 ag28) ?_
    refine y_rd (wanted_none rfl) rfl rfl (rd_assign (v := .c _) rfl rfl) ?_
    first | refine y_rd (wanted_none rfl) rfl rfl (rd_assign (v := .err _) rfl rfl) ?_ | refine y_rd (wanted_none rfl) rfl rfl (rd_assign (v := .c _) rfl rfl) ?_ | refine y_rd (wanted_none rfl) rfl rfl (rd_assign (v := .pv _) rfl rfl) ?_ | refine y_rd (wanted_none rfl) rfl rfl (rd_assign (v := .top) rfl rfl) ?_
    refine x_done ?_
    refine then_norm ?_
    refine code_ret ?_
    refine block_ret ?_
    refine then_ret ?_
    refine end_val (.inl rfl) (res_2 rfl (arv_tmp rfl) (arv_tmp rfl)) ?_
    have hb : naM now dur most e = (0, 1) := by unfold naM; rw [if_pos (by first | (simp_all; done) | (simp_all; omega) | grind)]
    exact CEnt.tup2 (CEnt.int (by rw [hb])) (CEnt.errN (by rw [hb]))
  · refine q_rd (wanted_is rfl rfl rfl rfl true rfl) rfl rfl (rd_move (v := .c _) rfl rfl) ?_
    refine seq_ex (wanted_is rfl rfl rfl rfl true rfl) (e_callP rfl (by kernel_rfl) (moment_ac e) (.cons (by first | exact se rfl (CEnt.refl _) | exact se rfl CEnt.nil | exact se rfl CEnt.nilB | exact se rfl (CEnt.osI rfl) | exact se rfl CEnt.opI | exact se_nilO rfl | exact se rfl (CEnt.agg2 (CEnt.refl _) (CEnt.refl _)) | exact se rfl (CEnt.agg3 (CEnt.refl _) (CEnt.refl _) (CEnt.refl _)) | exact se rfl (CEnt.agg4 (CEnt.refl _) (CEnt.refl _) (CEnt.refl _) (CEnt.refl _)) | exact se rfl (CEnt.agg5 (CEnt.refl _) (CEnt.refl _) (CEnt.refl _) (CEnt.refl _) (CEnt.refl _)) | exact se rfl (CEnt.agg6 (CEnt.refl _) (CEnt.refl _) (CEnt.refl _) (CEnt.refl _) (CEnt.refl _) (CEnt.refl _)) | exact se_frzB _ rfl rfl rfl (by simp) (fun _ _ => CEnt.refl _)) .nil) rfl rfl ?_)
    first | refine q_rd (wanted_is rfl rfl rfl rfl true rfl) rfl rfl (rd_notD rfl rfl) ?_ | refine q_rd (wanted_is rfl rfl rfl rfl true rfl) rfl rfl (rd_not rfl rfl) ?_
    refine q_rd (wanted_none rfl) rfl rfl (rd_pickF (v := .c _) rfl rfl rfl) ?_
    refine q_rd (wanted_none rfl) rfl rfl (rd_move (v := .c _) rfl rfl) ?_
    first | refine seq_splitD (d := 19) rfl rfl (fun g89_2 => ?_) (fun g89_2 => ?_) | refine seq_split (d := 19) rfl rfl (fun g89_2 => ?_) (fun g89_2 => ?_)
    · refine q_skip (wanted_is rfl rfl rfl rfl false rfl) rfl rfl ?_
      refine q_skip (wanted_is rfl rfl rfl rfl false rfl) rfl rfl ?_
      refine q_rd (wanted_none rfl) rfl rfl (rd_pickT (v := .c _) rfl rfl rfl) ?_
      refine q_rd (wanted_none rfl) rfl rfl (rd_move (v := .c _) rfl rfl) ?_
      refine q_skip (wanted_is rfl rfl rfl rfl false rfl) rfl rfl ?_
      refine q_skip (wanted_is rfl rfl rfl rfl false rfl) rfl rfl ?_
      refine q_rd (wanted_none rfl) rfl rfl (rd_pickT (v := .c _) rfl rfl rfl) ?_
      refine q_rd (wanted_none rfl) rfl rfl (rd_assign (v := .c _) rfl rfl) ?_
      refine seq_nil ?_
      refine then_norm ?_
      refine code_condT rfl ?_
      refine code_seq ?_
      refine code_draw (.rd 0 (.rd 1 (.rd 2 .done))) (by kernel_rfl) (by kernel_rfl) rfl (by kernel_rfl) (by kernel_rfl) ?_
      simp only [opsOfT, List.getElem?_toArray, List.getElem?_cons_zero, List.getElem?_cons_succ]
      refine y_rd (wanted_none rfl) rfl rfl (rd_loadE 0 rfl rfl Tryd.underlying28 ag28) ?_
      refine y_rd (wanted_none rfl) rfl rfl (rd_assign (v := .c _) rfl rfl) ?_
      first | refine y_rd (wanted_none rfl) rfl rfl (rd_assign (v := .err _) rfl rfl) ?_ | refine y_rd (wanted_none rfl) rfl rfl (rd_assign (v := .c _) rfl rfl) ?_ | refine y_rd (wanted_none rfl) rfl rfl (rd_assign (v := .pv _) rfl rfl) ?_ | refine y_rd (wanted_none rfl) rfl rfl (rd_assign (v := .top) rfl rfl) ?_
      refine x_done ?_
      refine then_norm ?_
      refine code_ret ?_
      refine block_ret ?_
      refine then_ret ?_
      refine end_val (.inl rfl) (res_2 rfl (arv_tmp rfl) (arv_tmp rfl)) ?_
      have hb : naM now dur most e = (0, 1) := by unfold naM; rw [if_pos (by first | (simp_all; done) | (simp_all; omega) | grind)]
      exact CEnt.tup2 (CEnt.int (by rw [hb])) (CEnt.errN (by rw [hb]))
    · refine q_rd (wanted_is rfl rfl rfl rfl true rfl) rfl rfl (rd_move (v := .c _) rfl rfl) ?_
      refine q_rd (wanted_is rfl rfl rfl rfl true rfl) rfl rfl (rd_lt rfl rfl rfl) ?_
      refine q_rd (wanted_none rfl) rfl rfl (rd_pickF (v := .c _) rfl rfl rfl) ?_
      refine q_rd (wanted_none rfl) rfl rfl (rd_move (v := .c _) rfl rfl) ?_
      first | refine seq_splitD (d := 23) rfl rfl (fun g89_3 => ?_) (fun g89_3 => ?_) | refine seq_split (d := 23) rfl rfl (fun g89_3 => ?_) (fun g89_3 => ?_)
      · refine q_skip (wanted_is rfl rfl rfl rfl false rfl) rfl rfl ?_
        refine q_skip (wanted_is rfl rfl rfl rfl false rfl) rfl rfl ?_
        refine q_rd (wanted_none rfl) rfl rfl (rd_pickT (v := .c _) rfl rfl rfl) ?_
        refine q_rd (wanted_none rfl) rfl rfl (rd_assign (v := .c _) rfl rfl) ?_
        refine seq_nil ?_
        refine then_norm ?_
        refine code_condT rfl ?_
        refine code_seq ?_
        refine code_draw (.rd 0 (.rd 1 (.rd 2 .done))) (by kernel_rfl) (by kernel_rfl) rfl (by kernel_rfl) (by kernel_rfl) ?_
        simp only [opsOfT, List.getElem?_toArray, List.getElem?_cons_zero, List.getElem?_cons_succ]
        refine y_rd (wanted_none rfl) rfl rfl (rd_loadE 0 rfl rfl Tryd.underlying28 ag28) ?_
        refine y_rd (wanted_none rfl) rfl rfl (rd_assign (v := .c _) rfl rfl) ?_
        first | refine y_rd (wanted_none rfl) rfl rfl (rd_assign (v := .err _) rfl rfl) ?_ | refine y_rd (wanted_none rfl) rfl rfl (rd_assign (v := .c _) rfl rfl) ?_ | refine y_rd (wanted_none rfl) rfl rfl (rd_assign (v := .pv _) rfl rfl) ?_ | refine y_rd (wanted_none rfl) rfl rfl (rd_assign (v := .top) rfl rfl) ?_
        refine x_done ?_
        refine then_norm ?_
        refine code_ret ?_
        refine block_ret ?_
        refine then_ret ?_
        refine end_val (.inl rfl) (res_2 rfl (arv_tmp rfl) (arv_tmp rfl)) ?_
        have hb : naM now dur most e = (0, 1) := by unfold naM; rw [if_pos (by first | (simp_all; done) | (simp_all; omega) | grind)]
        exact CEnt.tup2 (CEnt.int (by rw [hb])) (CEnt.errN (by rw [hb]))
      · refine q_rd (wanted_is rfl rfl rfl rfl true rfl) rfl rfl (rd_move (v := .c _) rfl rfl) ?_
        refine q_rd (wanted_is rfl rfl rfl rfl true rfl) rfl rfl (rd_lt rfl rfl rfl) ?_
        refine q_rd (wanted_none rfl) rfl rfl (rd_pickF (v := .c _) rfl rfl rfl) ?_
        refine q_rd (wanted_none rfl) rfl rfl (rd_assign (v := .c _) rfl rfl) ?_
        refine seq_nil ?_
        refine then_norm ?_
        first | refine code_condSD rfl rfl (fun h89 => ?_) (fun h89 => ?_) | refine code_condS rfl rfl (fun h89 => ?_) (fun h89 => ?_)
        · refine code_seq ?_
          refine code_draw (.rd 0 (.rd 1 (.rd 2 .done))) (by kernel_rfl) (by kernel_rfl) rfl (by kernel_rfl) (by kernel_rfl) ?_
          simp only [opsOfT, List.getElem?_toArray, List.getElem?_cons_zero, List.getElem?_cons_succ]
          refine y_rd (wanted_none rfl) rfl rfl (rd_loadE 0 rfl rfl Tryd.underlying28 ag28) ?_
          refine y_rd (wanted_none rfl) rfl rfl (rd_assign (v := .c _) rfl rfl) ?_
          first | refine y_rd (wanted_none rfl) rfl rfl (rd_assign (v := .err _) rfl rfl) ?_ | refine y_rd (wanted_none rfl) rfl rfl (rd_assign (v := .c _) rfl rfl) ?_ | refine y_rd (wanted_none rfl) rfl rfl (rd_assign (v := .pv _) rfl rfl) ?_ | refine y_rd (wanted_none rfl) rfl rfl (rd_assign (v := .top) rfl rfl) ?_
          refine x_done ?_
          refine then_norm ?_
          refine code_ret ?_
          refine block_ret ?_
          refine then_ret ?_
          refine end_val (.inl rfl) (res_2 rfl (arv_tmp rfl) (arv_tmp rfl)) ?_
          have hb : naM now dur most e = (0, 1) := by unfold naM; rw [if_pos (by first | (simp_all; done) | (simp_all; omega) | grind)]
          exact CEnt.tup2 (CEnt.int (by rw [hb])) (CEnt.errN (by rw [hb]))
        · refine code_seq ?_
          refine code_region ?_
          refine q_rd (wanted_none rfl) rfl rfl (rd_move (v := .c _) rfl rfl) ?_
          refine q_rd (wanted_none rfl) rfl rfl (rd_move (v := .c _) rfl rfl) ?_
          refine q_rd (wanted_none rfl) rfl rfl (rd_le rfl rfl rfl) ?_
          refine q_rd (wanted_none rfl) rfl rfl (rd_assign (v := .c _) rfl rfl) ?_
          refine seq_nil ?_
          refine then_norm ?_
          first | refine code_condSD rfl rfl (fun h91 => ?_) (fun h91 => ?_) | refine code_condS rfl rfl (fun h91 => ?_) (fun h91 => ?_)
          · refine code_seq ?_
            refine code_draw (.rd 0 (.rd 1 (.rd 2 .done))) (by kernel_rfl) (by kernel_rfl) rfl (by kernel_rfl) (by kernel_rfl) ?_
            simp only [opsOfT, List.getElem?_toArray, List.getElem?_cons_zero, List.getElem?_cons_succ]
            refine y_rd (wanted_none rfl) rfl rfl (rd_loadE 12 rfl rfl Tryd.underlying28 ag28) ?_
            refine y_rd (wanted_none rfl) rfl rfl (rd_assign (v := .c _) rfl rfl) ?_
            first | refine y_rd (wanted_none rfl) rfl rfl (rd_assign (v := .err _) rfl rfl) ?_ | refine y_rd (wanted_none rfl) rfl rfl (rd_assign (v := .c _) rfl rfl) ?_ | refine y_rd (wanted_none rfl) rfl rfl (rd_assign (v := .pv _) rfl rfl) ?_ | refine y_rd (wanted_none rfl) rfl rfl (rd_assign (v := .top) rfl rfl) ?_
            refine x_done ?_
            refine then_norm ?_
            refine code_ret ?_
            refine block_ret ?_
            refine then_ret ?_
            refine end_val (.inl rfl) (res_2 rfl (arv_tmp rfl) (arv_tmp rfl)) ?_
            have hb : naM now dur most e = (0, 13) := by unfold naM; rw [if_neg (by first | (simp_all; done) | (simp_all; omega) | grind), if_pos (by omega)]
            exact CEnt.tup2 (CEnt.int (by rw [hb])) (CEnt.errN (by rw [hb]))
          · refine code_skip ?_
            refine block_norm ?_
            refine then_norm ?_
            refine code_seq ?_
            have hin : 0 ≤ now ∧ now ≤ 253402300799 ∧ 0 ≤ e ∧ e ≤ 253402300799 ∧ 1 ≤ dur ∧ 1 ≤ most := by first | (simp_all; done) | (simp_all; omega) | grind
            refine code_region ?_
            refine q_rd (wanted_none rfl) rfl rfl (rd_move (v := .c _) rfl rfl) ?_
            refine q_rd (wanted_none rfl) rfl rfl (rd_move (v := .c _) rfl rfl) ?_
            refine q_rd (wanted_none rfl) rfl rfl (rd_move (v := .c _) rfl rfl) ?_
            refine q_rd (wanted_none rfl) rfl rfl (rd_move (v := .c _) rfl rfl) ?_
            refine q_rd (wanted_none rfl) rfl rfl (rd_move (v := .c _) rfl rfl) ?_
            refine q_rd (wanted_none rfl) rfl rfl (rd_sub rfl rfl rfl (wrap_id (k := .i64) (by show _ ∧ _; (first | omega | decide | (dsimp only at *; omega))))) ?_
            refine q_rd (wanted_none rfl) rfl rfl (rd_min3 rfl rfl rfl rfl) ?_
            refine q_rd (wanted_none rfl) rfl rfl (rd_add rfl rfl rfl (wrap_id (k := .i64) (by show _ ∧ _; (first | omega | decide | (dsimp only at *; omega))))) ?_
            refine q_rd (wanted_none rfl) rfl rfl (rd_assign (v := .c _) rfl rfl) ?_
            first | refine q_rd (wanted_none rfl) rfl rfl (rd_assign (v := .err _) rfl rfl) ?_ | refine q_rd (wanted_none rfl) rfl rfl (rd_assign (v := .c _) rfl rfl) ?_ | refine q_rd (wanted_none rfl) rfl rfl (rd_assign (v := .pv _) rfl rfl) ?_ | refine q_rd (wanted_none rfl) rfl rfl (rd_assign (v := .top) rfl rfl) ?_
            refine seq_nil ?_
            refine then_norm ?_
            refine code_ret ?_
            refine end_val (.inl rfl) (res_2 rfl (arv_tmp rfl) (arv_tmp rfl)) ?_
            have hb : naM now dur most e = (now + min (min dur most) (e - now), 0) := by unfold naM; rw [if_neg (by omega), if_neg (by omega)]
            exact CEnt.tup2 (CEnt.int (by rw [hb])) (CEnt.nilE (by rw [hb]))
theorem rna_ac {gs : List Nat} (now dur most e : Int) : ACp gs Tryd.prog 47 [.c (.int .i64 now), .c (.int .i64 dur), .c (.int .i64 most), .c (.int .i64 e)] (.tup 2 (fl [.c (.int .i64 (naM now dur most e).1), .c (.int .i64 ((naM now dur most e).2 : Nat))])) := by
  refine ac_of 50 Tryd.func47 rfl rfl rfl (fun al w0 F0 St0 => ?_)
  refine code_seq ?_
  refine code_region ?_
  refine q_rd (wanted_none rfl) rfl rfl (rd_assign (v := .c _) rfl rfl) ?_
  refine q_rd (wanted_none rfl) rfl rfl (rd_assign (v := .c _) rfl rfl) ?_
  refine seq_nil ?_
  refine then_norm ?_
  refine code_seq ?_
  refine code_seq ?_
  refine code_region ?_
  refine q_rd (wanted_none rfl) rfl rfl (rd_move (v := .c _) rfl rfl) ?_
  refine q_rd (wanted_none rfl) rfl rfl (rd_lt rfl rfl rfl) ?_
  refine q_rd (wanted_none rfl) rfl rfl (rd_move (v := .c _) rfl rfl) ?_
  first | refine seq_splitD (d := 13) rfl rfl (fun g79 => ?_) (fun g79 => ?_) | refine seq_split (d := 13) rfl rfl (fun g79 => ?_) (fun g79 => ?_)
  · refine q_skip (wanted_is rfl rfl rfl rfl false rfl) rfl rfl ?_
    refine q_skip (wanted_is rfl rfl rfl rfl false rfl) rfl rfl ?_
    refine q_rd (wanted_none rfl) rfl rfl (rd_pickT (v := .c _) rfl rfl rfl) ?_
    refine q_rd (wanted_none rfl) rfl rfl (rd_move (v := .c _) rfl rfl) ?_
    refine q_skip (wanted_is rfl rfl rfl rfl false rfl) rfl rfl ?_
    refine q_skip (wanted_is rfl rfl rfl rfl false rfl) rfl rfl ?_
    refine q_rd (wanted_none rfl) rfl rfl (rd_pickT (v := .c _) rfl rfl rfl) ?_
    refine q_rd (wanted_none rfl) rfl rfl (rd_move (v := .c _) rfl rfl) ?_
    refine q_skip (wanted_is rfl rfl rfl rfl false rfl) rfl rfl ?_
    refine q_skip (wanted_is rfl rfl rfl rfl false rfl) rfl rfl ?_
    refine q_rd (wanted_none rfl) rfl rfl (rd_pickT (v := .c _) rfl rfl rfl) ?_
    refine q_rd (wanted_none rfl) rfl rfl (rd_move (v := .c _) rfl rfl) ?_
    refine q_skip (wanted_is rfl rfl rfl rfl false rfl) rfl rfl ?_
    refine q_skip (wanted_is rfl rfl rfl rfl false rfl) rfl rfl ?_
    refine q_rd (wanted_none rfl) rfl rfl (rd_pickT (v := .c _) rfl rfl rfl) ?_
    refine q_rd (wanted_none rfl) rfl rfl (rd_move (v := .c _) rfl rfl) ?_
    refine q_skip (wanted_is rfl rfl rfl rfl false rfl) rfl rfl ?_
    refine q_skip (wanted_is rfl rfl rfl rfl false rfl) rfl rfl ?_
    refine q_rd (wanted_none rfl) rfl rfl (rd_pickT (v := .c _) rfl rfl rfl) ?_
    refine seq_nil ?_
    refine then_norm ?_
    refine code_condT rfl ?_
    refine code_seq ?_
    refine code_region ?_
    refine q_rd (wanted_none rfl) rfl rfl (rd_assign (v := .c _) rfl rfl) ?_
    refine q_rd (wanted_none rfl) rfl rfl (rd_assign (v := .c _) rfl rfl) ?_
    refine seq_nil ?_
    refine then_norm ?_
    refine code_ret ?_
    refine then_ret ?_
    refine end_val (.inl rfl) (res_2 rfl (arv_tmp rfl) (arv_tmp rfl)) ?_
    have hb : naM now dur most e = (0, 1) := by unfold naM; rw [if_pos (by first | omega | (simp_all; done) | (simp_all; omega) | grind)]
    exact CEnt.tup2 (CEnt.int (by rw [hb])) (CEnt.int (by rw [hb]; rfl))
  · refine q_rd (wanted_is rfl rfl rfl rfl true rfl) rfl rfl (rd_move (v := .c _) rfl rfl) ?_
    refine q_rd (wanted_is rfl rfl rfl rfl true rfl) rfl rfl (rd_gt rfl rfl rfl) ?_
    refine q_rd (wanted_none rfl) rfl rfl (rd_pickF (v := .c _) rfl rfl rfl) ?_
    refine q_rd (wanted_none rfl) rfl rfl (rd_move (v := .c _) rfl rfl) ?_
    first | refine seq_splitD (d := 17) rfl rfl (fun g79_2 => ?_) (fun g79_2 => ?_) | refine seq_split (d := 17) rfl rfl (fun g79_2 => ?_) (fun g79_2 => ?_)
    · refine q_skip (wanted_is rfl rfl rfl rfl false rfl) rfl rfl ?_
      refine q_skip (wanted_is rfl rfl rfl rfl false rfl) rfl rfl ?_
      refine q_rd (wanted_none rfl) rfl rfl (rd_pickT (v := .c _) rfl rfl rfl) ?_
      refine q_rd (wanted_none rfl) rfl rfl (rd_move (v := .c _) rfl rfl) ?_
      refine q_skip (wanted_is rfl rfl rfl rfl false rfl) rfl rfl ?_
      refine q_skip (wanted_is rfl rfl rfl rfl false rfl) rfl rfl ?_
      refine q_rd (wanted_none rfl) rfl rfl (rd_pickT (v := .c _) rfl rfl rfl) ?_
      refine q_rd (wanted_none rfl) rfl rfl (rd_move (v := .c _) rfl rfl) ?_
      refine q_skip (wanted_is rfl rfl rfl rfl false rfl) rfl rfl ?_
      refine q_skip (wanted_is rfl rfl rfl rfl false rfl) rfl rfl ?_
      refine q_rd (wanted_none rfl) rfl rfl (rd_pickT (v := .c _) rfl rfl rfl) ?_
      refine q_rd (wanted_none rfl) rfl rfl (rd_move (v := .c _) rfl rfl) ?_
      refine q_skip (wanted_is rfl rfl rfl rfl false rfl) rfl rfl ?_
      refine q_skip (wanted_is rfl rfl rfl rfl false rfl) rfl rfl ?_
      refine q_rd (wanted_none rfl) rfl rfl (rd_pickT (v := .c _) rfl rfl rfl) ?_
      refine seq_nil ?_
      refine then_norm ?_
      refine code_condT rfl ?_
      refine code_seq ?_
      refine code_region ?_
      refine q_rd (wanted_none rfl) rfl rfl (rd_assign (v := .c _) rfl rfl) ?_
      refine q_rd (wanted_none rfl) rfl rfl (rd_assign (v := .c _) rfl rfl) ?_
      refine seq_nil ?_
      refine then_norm ?_
      refine code_ret ?_
      refine then_ret ?_
      refine end_val (.inl rfl) (res_2 rfl (arv_tmp rfl) (arv_tmp rfl)) ?_
      have hb : naM now dur most e = (0, 1) := by unfold naM; rw [if_pos (by first | omega | (simp_all; done) | (simp_all; omega) | grind)]
      exact CEnt.tup2 (CEnt.int (by rw [hb])) (CEnt.int (by rw [hb]; rfl))
    · refine q_rd (wanted_is rfl rfl rfl rfl true rfl) rfl rfl (rd_move (v := .c _) rfl rfl) ?_
      refine q_rd (wanted_is rfl rfl rfl rfl true rfl) rfl rfl (rd_lt rfl rfl rfl) ?_
      refine q_rd (wanted_none rfl) rfl rfl (rd_pickF (v := .c _) rfl rfl rfl) ?_
      refine q_rd (wanted_none rfl) rfl rfl (rd_move (v := .c _) rfl rfl) ?_
      first | refine seq_splitD (d := 21) rfl rfl (fun g79_3 => ?_) (fun g79_3 => ?_) | refine seq_split (d := 21) rfl rfl (fun g79_3 => ?_) (fun g79_3 => ?_)
      · refine q_skip (wanted_is rfl rfl rfl rfl false rfl) rfl rfl ?_
        refine q_skip (wanted_is rfl rfl rfl rfl false rfl) rfl rfl ?_
        refine q_rd (wanted_none rfl) rfl rfl (rd_pickT (v := .c _) rfl rfl rfl) ?_
        refine q_rd (wanted_none rfl) rfl rfl (rd_move (v := .c _) rfl rfl) ?_
        refine q_skip (wanted_is rfl rfl rfl rfl false rfl) rfl rfl ?_
        refine q_skip (wanted_is rfl rfl rfl rfl false rfl) rfl rfl ?_
        refine q_rd (wanted_none rfl) rfl rfl (rd_pickT (v := .c _) rfl rfl rfl) ?_
        refine q_rd (wanted_none rfl) rfl rfl (rd_move (v := .c _) rfl rfl) ?_
        refine q_skip (wanted_is rfl rfl rfl rfl false rfl) rfl rfl ?_
        refine q_skip (wanted_is rfl rfl rfl rfl false rfl) rfl rfl ?_
        refine q_rd (wanted_none rfl) rfl rfl (rd_pickT (v := .c _) rfl rfl rfl) ?_
        refine seq_nil ?_
        refine then_norm ?_
        refine code_condT rfl ?_
        refine code_seq ?_
        refine code_region ?_
        refine q_rd (wanted_none rfl) rfl rfl (rd_assign (v := .c _) rfl rfl) ?_
        refine q_rd (wanted_none rfl) rfl rfl (rd_assign (v := .c _) rfl rfl) ?_
        refine seq_nil ?_
        refine then_norm ?_
        refine code_ret ?_
        refine then_ret ?_
        refine end_val (.inl rfl) (res_2 rfl (arv_tmp rfl) (arv_tmp rfl)) ?_
        have hb : naM now dur most e = (0, 1) := by unfold naM; rw [if_pos (by first | omega | (simp_all; done) | (simp_all; omega) | grind)]
        exact CEnt.tup2 (CEnt.int (by rw [hb])) (CEnt.int (by rw [hb]; rfl))
      · refine q_rd (wanted_is rfl rfl rfl rfl true rfl) rfl rfl (rd_move (v := .c _) rfl rfl) ?_
        refine q_rd (wanted_is rfl rfl rfl rfl true rfl) rfl rfl (rd_gt rfl rfl rfl) ?_
        refine q_rd (wanted_none rfl) rfl rfl (rd_pickF (v := .c _) rfl rfl rfl) ?_
        refine q_rd (wanted_none rfl) rfl rfl (rd_move (v := .c _) rfl rfl) ?_
        first | refine seq_splitD (d := 25) rfl rfl (fun g79_4 => ?_) (fun g79_4 => ?_) | refine seq_split (d := 25) rfl rfl (fun g79_4 => ?_) (fun g79_4 => ?_)
        · refine q_skip (wanted_is rfl rfl rfl rfl false rfl) rfl rfl ?_
          refine q_skip (wanted_is rfl rfl rfl rfl false rfl) rfl rfl ?_
          refine q_rd (wanted_none rfl) rfl rfl (rd_pickT (v := .c _) rfl rfl rfl) ?_
          refine q_rd (wanted_none rfl) rfl rfl (rd_move (v := .c _) rfl rfl) ?_
          refine q_skip (wanted_is rfl rfl rfl rfl false rfl) rfl rfl ?_
          refine q_skip (wanted_is rfl rfl rfl rfl false rfl) rfl rfl ?_
          refine q_rd (wanted_none rfl) rfl rfl (rd_pickT (v := .c _) rfl rfl rfl) ?_
          refine seq_nil ?_
          refine then_norm ?_
          refine code_condT rfl ?_
          refine code_seq ?_
          refine code_region ?_
          refine q_rd (wanted_none rfl) rfl rfl (rd_assign (v := .c _) rfl rfl) ?_
          refine q_rd (wanted_none rfl) rfl rfl (rd_assign (v := .c _) rfl rfl) ?_
          refine seq_nil ?_
          refine then_norm ?_
          refine code_ret ?_
          refine then_ret ?_
          refine end_val (.inl rfl) (res_2 rfl (arv_tmp rfl) (arv_tmp rfl)) ?_
          have hb : naM now dur most e = (0, 1) := by unfold naM; rw [if_pos (by first | omega | (simp_all; done) | (simp_all; omega) | grind)]
          exact CEnt.tup2 (CEnt.int (by rw [hb])) (CEnt.int (by rw [hb]; rfl))
        · refine q_rd (wanted_is rfl rfl rfl rfl true rfl) rfl rfl (rd_move (v := .c _) rfl rfl) ?_
          refine q_rd (wanted_is rfl rfl rfl rfl true rfl) rfl rfl (rd_lt rfl rfl rfl) ?_
          refine q_rd (wanted_none rfl) rfl rfl (rd_pickF (v := .c _) rfl rfl rfl) ?_
          refine q_rd (wanted_none rfl) rfl rfl (rd_move (v := .c _) rfl rfl) ?_
          first | refine seq_splitD (d := 29) rfl rfl (fun g79_5 => ?_) (fun g79_5 => ?_) | refine seq_split (d := 29) rfl rfl (fun g79_5 => ?_) (fun g79_5 => ?_)
          · refine q_skip (wanted_is rfl rfl rfl rfl false rfl) rfl rfl ?_
            refine q_skip (wanted_is rfl rfl rfl rfl false rfl) rfl rfl ?_
            refine q_rd (wanted_none rfl) rfl rfl (rd_pickT (v := .c _) rfl rfl rfl) ?_
            refine seq_nil ?_
            refine then_norm ?_
            refine code_condT rfl ?_
            refine code_seq ?_
            refine code_region ?_
            refine q_rd (wanted_none rfl) rfl rfl (rd_assign (v := .c _) rfl rfl) ?_
            refine q_rd (wanted_none rfl) rfl rfl (rd_assign (v := .c _) rfl rfl) ?_
            refine seq_nil ?_
            refine then_norm ?_
            refine code_ret ?_
            refine then_ret ?_
            refine end_val (.inl rfl) (res_2 rfl (arv_tmp rfl) (arv_tmp rfl)) ?_
            have hb : naM now dur most e = (0, 1) := by unfold naM; rw [if_pos (by first | omega | (simp_all; done) | (simp_all; omega) | grind)]
            exact CEnt.tup2 (CEnt.int (by rw [hb])) (CEnt.int (by rw [hb]; rfl))
          · refine q_rd (wanted_is rfl rfl rfl rfl true rfl) rfl rfl (rd_move (v := .c _) rfl rfl) ?_
            refine q_rd (wanted_is rfl rfl rfl rfl true rfl) rfl rfl (rd_lt rfl rfl rfl) ?_
            refine q_rd (wanted_none rfl) rfl rfl (rd_pickF (v := .c _) rfl rfl rfl) ?_
            refine seq_nil ?_
            refine then_norm ?_
            first | refine code_condSD rfl rfl (fun h79 => ?_) (fun h79 => ?_) | refine code_condS rfl rfl (fun h79 => ?_) (fun h79 => ?_)
            · refine code_seq ?_
              refine code_region ?_
              refine q_rd (wanted_none rfl) rfl rfl (rd_assign (v := .c _) rfl rfl) ?_
              refine q_rd (wanted_none rfl) rfl rfl (rd_assign (v := .c _) rfl rfl) ?_
              refine seq_nil ?_
              refine then_norm ?_
              refine code_ret ?_
              refine then_ret ?_
              refine end_val (.inl rfl) (res_2 rfl (arv_tmp rfl) (arv_tmp rfl)) ?_
              have hb : naM now dur most e = (0, 1) := by unfold naM; rw [if_pos (by first | omega | (simp_all; done) | (simp_all; omega) | grind)]
              exact CEnt.tup2 (CEnt.int (by rw [hb])) (CEnt.int (by rw [hb]; rfl))
            · refine code_skip ?_
              refine then_norm ?_
              refine code_seq ?_
              refine code_seq ?_
              refine code_region ?_
              refine q_rd (wanted_none rfl) rfl rfl (rd_move (v := .c _) rfl rfl) ?_
              refine q_rd (wanted_none rfl) rfl rfl (rd_move (v := .c _) rfl rfl) ?_
              refine q_rd (wanted_none rfl) rfl rfl (rd_le rfl rfl rfl) ?_
              refine seq_nil ?_
              refine then_norm ?_
              first | refine code_condSD rfl rfl (fun h82 => ?_) (fun h82 => ?_) | refine code_condS rfl rfl (fun h82 => ?_) (fun h82 => ?_)
              · refine code_seq ?_
                refine code_region ?_
                refine q_rd (wanted_none rfl) rfl rfl (rd_assign (v := .c _) rfl rfl) ?_
                refine q_rd (wanted_none rfl) rfl rfl (rd_assign (v := .c _) rfl rfl) ?_
                refine seq_nil ?_
                refine then_norm ?_
                refine code_ret ?_
                refine then_ret ?_
                refine end_val (.inl rfl) (res_2 rfl (arv_tmp rfl) (arv_tmp rfl)) ?_
                have hb : naM now dur most e = (0, 13) := by unfold naM; rw [if_neg (by first | omega | (simp_all; done) | (simp_all; omega) | grind), if_pos (by omega)]
                exact CEnt.tup2 (CEnt.int (by rw [hb])) (CEnt.int (by rw [hb]; rfl))
              · refine code_skip ?_
                refine then_norm ?_
                refine code_seq ?_
                have hin : 0 ≤ now ∧ now ≤ 253402300799 ∧ 0 ≤ e ∧ e ≤ 253402300799 ∧ 1 ≤ dur ∧ 1 ≤ most := by first | omega | (simp_all; done) | (simp_all; omega) | grind
                refine code_region ?_
                refine q_rd (wanted_none rfl) rfl rfl (rd_move (v := .c _) rfl rfl) ?_
                refine q_rd (wanted_none rfl) rfl rfl (rd_move (v := .c _) rfl rfl) ?_
                refine q_rd (wanted_none rfl) rfl rfl (rd_sub rfl rfl rfl (wrap_id (k := .i64) (by show _ ∧ _; (first | omega | decide | (dsimp only at *; omega))))) ?_
                refine q_rd (wanted_none rfl) rfl rfl (rd_assign (v := .c _) rfl rfl) ?_
                refine seq_nil ?_
                refine then_norm ?_
                refine code_seq ?_
                refine code_seq ?_
                refine code_region ?_
                refine q_rd (wanted_none rfl) rfl rfl (rd_move (v := .c _) rfl rfl) ?_
                refine q_rd (wanted_none rfl) rfl rfl (rd_move (v := .c _) rfl rfl) ?_
                refine q_rd (wanted_none rfl) rfl rfl (rd_lt rfl rfl rfl) ?_
                refine seq_nil ?_
                refine then_norm ?_
                first | refine code_condSD rfl rfl (fun h86 => ?_) (fun h86 => ?_) | refine code_condS rfl rfl (fun h86 => ?_) (fun h86 => ?_)
                · refine code_region ?_
                  refine q_rd (wanted_none rfl) rfl rfl (rd_move (v := .c _) rfl rfl) ?_
                  refine q_rd (wanted_none rfl) rfl rfl (rd_assign (v := .c _) rfl rfl) ?_
                  refine seq_nil ?_
                  refine then_norm ?_
                  refine code_seq ?_
                  refine code_seq ?_
                  refine code_region ?_
                  refine q_rd (wanted_none rfl) rfl rfl (rd_move (v := .c _) rfl rfl) ?_
                  refine q_rd (wanted_none rfl) rfl rfl (rd_move (v := .c _) rfl rfl) ?_
                  refine q_rd (wanted_none rfl) rfl rfl (rd_lt rfl rfl rfl) ?_
                  refine seq_nil ?_
                  refine then_norm ?_
                  first | refine code_condSD rfl rfl (fun h89 => ?_) (fun h89 => ?_) | refine code_condS rfl rfl (fun h89 => ?_) (fun h89 => ?_)
                  · refine code_region ?_
                    refine q_rd (wanted_none rfl) rfl rfl (rd_move (v := .c _) rfl rfl) ?_
                    refine q_rd (wanted_none rfl) rfl rfl (rd_assign (v := .c _) rfl rfl) ?_
                    refine seq_nil ?_
                    refine then_norm ?_
                    refine code_seq ?_
                    refine code_region ?_
                    refine q_rd (wanted_none rfl) rfl rfl (rd_move (v := .c _) rfl rfl) ?_
                    refine q_rd (wanted_none rfl) rfl rfl (rd_move (v := .c _) rfl rfl) ?_
                    refine q_rd (wanted_none rfl) rfl rfl (rd_add rfl rfl rfl (wrap_id (k := .i64) (by show _ ∧ _; (first | omega | decide | (dsimp only at *; omega))))) ?_
                    refine q_rd (wanted_none rfl) rfl rfl (rd_assign (v := .c _) rfl rfl) ?_
                    refine q_rd (wanted_none rfl) rfl rfl (rd_assign (v := .c _) rfl rfl) ?_
                    refine seq_nil ?_
                    refine then_norm ?_
                    refine code_ret ?_
                    refine end_val (.inl rfl) (res_2 rfl (arv_tmp rfl) (arv_tmp rfl)) ?_
                    have hb : naM now dur most e = (now + min (min dur most) (e - now), 0) := by unfold naM; rw [if_neg (by omega), if_neg (by omega)]
                    exact CEnt.tup2 (CEnt.int (by rw [hb]; simp only []; omega)) (CEnt.int (by rw [hb]; rfl))
                  · refine code_skip ?_
                    refine then_norm ?_
                    refine code_seq ?_
                    refine code_region ?_
                    refine q_rd (wanted_none rfl) rfl rfl (rd_move (v := .c _) rfl rfl) ?_
                    refine q_rd (wanted_none rfl) rfl rfl (rd_move (v := .c _) rfl rfl) ?_
                    refine q_rd (wanted_none rfl) rfl rfl (rd_add rfl rfl rfl (wrap_id (k := .i64) (by show _ ∧ _; (first | omega | decide | (dsimp only at *; omega))))) ?_
                    refine q_rd (wanted_none rfl) rfl rfl (rd_assign (v := .c _) rfl rfl) ?_
                    refine q_rd (wanted_none rfl) rfl rfl (rd_assign (v := .c _) rfl rfl) ?_
                    refine seq_nil ?_
                    refine then_norm ?_
                    refine code_ret ?_
                    refine end_val (.inl rfl) (res_2 rfl (arv_tmp rfl) (arv_tmp rfl)) ?_
                    have hb : naM now dur most e = (now + min (min dur most) (e - now), 0) := by unfold naM; rw [if_neg (by omega), if_neg (by omega)]
                    exact CEnt.tup2 (CEnt.int (by rw [hb]; simp only []; omega)) (CEnt.int (by rw [hb]; rfl))
                · refine code_skip ?_
                  refine then_norm ?_
                  refine code_seq ?_
                  refine code_seq ?_
                  refine code_region ?_
                  refine q_rd (wanted_none rfl) rfl rfl (rd_move (v := .c _) rfl rfl) ?_
                  refine q_rd (wanted_none rfl) rfl rfl (rd_move (v := .c _) rfl rfl) ?_
                  refine q_rd (wanted_none rfl) rfl rfl (rd_lt rfl rfl rfl) ?_
                  refine seq_nil ?_
                  refine then_norm ?_
                  first | refine code_condSD rfl rfl (fun h89 => ?_) (fun h89 => ?_) | refine code_condS rfl rfl (fun h89 => ?_) (fun h89 => ?_)
                  · refine code_region ?_
                    refine q_rd (wanted_none rfl) rfl rfl (rd_move (v := .c _) rfl rfl) ?_
                    refine q_rd (wanted_none rfl) rfl rfl (rd_assign (v := .c _) rfl rfl) ?_
                    refine seq_nil ?_
                    refine then_norm ?_
                    refine code_seq ?_
                    refine code_region ?_
                    refine q_rd (wanted_none rfl) rfl rfl (rd_move (v := .c _) rfl rfl) ?_
                    refine q_rd (wanted_none rfl) rfl rfl (rd_move (v := .c _) rfl rfl) ?_
                    refine q_rd (wanted_none rfl) rfl rfl (rd_add rfl rfl rfl (wrap_id (k := .i64) (by show _ ∧ _; (first | omega | decide | (dsimp only at *; omega))))) ?_
                    refine q_rd (wanted_none rfl) rfl rfl (rd_assign (v := .c _) rfl rfl) ?_
                    refine q_rd (wanted_none rfl) rfl rfl (rd_assign (v := .c _) rfl rfl) ?_
                    refine seq_nil ?_
                    refine then_norm ?_
                    refine code_ret ?_
                    refine end_val (.inl rfl) (res_2 rfl (arv_tmp rfl) (arv_tmp rfl)) ?_
                    have hb : naM now dur most e = (now + min (min dur most) (e - now), 0) := by unfold naM; rw [if_neg (by omega), if_neg (by omega)]
                    exact CEnt.tup2 (CEnt.int (by rw [hb]; simp only []; omega)) (CEnt.int (by rw [hb]; rfl))
                  · refine code_skip ?_
                    refine then_norm ?_
                    refine code_seq ?_
                    refine code_region ?_
                    refine q_rd (wanted_none rfl) rfl rfl (rd_move (v := .c _) rfl rfl) ?_
                    refine q_rd (wanted_none rfl) rfl rfl (rd_move (v := .c _) rfl rfl) ?_
                    refine q_rd (wanted_none rfl) rfl rfl (rd_add rfl rfl rfl (wrap_id (k := .i64) (by show _ ∧ _; (first | omega | decide | (dsimp only at *; omega))))) ?_
                    refine q_rd (wanted_none rfl) rfl rfl (rd_assign (v := .c _) rfl rfl) ?_
                    refine q_rd (wanted_none rfl) rfl rfl (rd_assign (v := .c _) rfl rfl) ?_
                    refine seq_nil ?_
                    refine then_norm ?_
                    refine code_ret ?_
                    refine end_val (.inl rfl) (res_2 rfl (arv_tmp rfl) (arv_tmp rfl)) ?_
                    have hb : naM now dur most e = (now + min (min dur most) (e - now), 0) := by unfold naM; rw [if_neg (by omega), if_neg (by omega)]
                    exact CEnt.tup2 (CEnt.int (by rw [hb]; simp only []; omega)) (CEnt.int (by rw [hb]; rfl))
def exQ : Q5 := ((1, [], [98]), List.replicate 32 48, 2, 5, [])
theorem perm_ex1 : permM defL (1, [], [97]) exQ = (0, 9) := by decide +kernel
theorem perm_ex2 : permM defL (1, [], [98]) exQ = (86400, 0) := by decide +kernel
def spanF (a : Int × Int × Int × Int) : Nat → CV := fl [.c (.int .i64 a.1), .c (.int .i64 a.2.1), .c (.int .i64 a.2.2.1), .c (.int .i64 a.2.2.2)]
set_option maxHeartbeats 1000000 in
theorem alive23_ac : ACp gs Tryd.prog 37 [] (.c (.bool true)) := by
  refine ac_of 33 Tryd.func37 rfl rfl rfl (fun al w0 F0 St0 => ?_)
  refine code_seq ?_
  refine code_region ?_
  refine q_rd (wanted_none rfl) rfl rfl (rd_assign (v := .c _) rfl rfl) ?_
  refine seq_nil ?_
  refine then_norm ?_
  refine code_seq ?_
  refine code_region ?_
  refine q_rd (wanted_none rfl) rfl rfl (rd_build (n := 3) rfl zr54 pl54 rfl rfl) ?_
  refine q_rd (wanted_none rfl) rfl rfl (rd_build (n := 7) rfl zr56 pl56 rfl rfl) ?_
  refine seq_ex (wanted_none rfl) (e_alloc (n := 7) rfl zr56 rfl rfl rfl (fun p1 => ?_))
  refine seq_md (wanted_none rfl) (m_store rfl rfl rfl rfl rfl sz56 rfl rfl (by first | decide | (first | omega | decide | (dsimp only at *; omega))) _ (fun _ _ => CEnt.refl _) rfl ?_)
  refine seq_nil ?_
  refine then_norm ?_
  refine code_seq ?_
  refine code_draw (.rd 1 (.rd 2 (.one 0 (.one 3 (.rd 4 (.rd 5 (.rd 6 (.rd 7 (.rd 8 .done))))))))) (by kernel_rfl) (by kernel_rfl) rfl (by kernel_rfl) (by kernel_rfl) ?_
  simp only [opsOfT, List.getElem?_toArray, List.getElem?_cons_zero, List.getElem?_cons_succ]
  refine y_rd (wanted_none rfl) rfl rfl (rd_build (n := 3) rfl zr54 pl54 rfl rfl) ?_
  first | refine y_rdO (wanted_none rfl) rfl rfl (rd_loadOA rfl rfl (.inl rfl) Tryd.underlying56 ag56 sz56 (by first | decide | (first | omega | decide | (dsimp only at *; omega)))) ?_ | refine y_rd (wanted_none rfl) rfl rfl (rd_loadRA rfl rfl Tryd.underlying56 ag56 sz56 (by first | decide | (first | omega | decide | (dsimp only at *; omega)))) ?_ | refine y_rdO (wanted_none rfl) rfl rfl (rd_loadOA rfl rfl (.inr rfl) Tryd.underlying56 ag56 sz56 (by first | decide | (first | omega | decide | (dsimp only at *; omega)))) ?_
  refine x_one (wanted_none rfl) (e_callP rfl (by kernel_rfl) (adef_ac) .nil rfl rfl ?_)
  refine x_one (wanted_none rfl) (e_callP rfl (by kernel_rfl) (permit_ac defL (1, [], [97]) exQ) (.cons (se rfl (CEnt.refl _)) (.cons (by exact se rfl (CEnt.agg rfl fun m hm => by rcases m with _ | _ | _ | m <;> first | exact CEnt.refl _ | omega)) (.cons (by exact se rfl (CEnt.agg rfl fun m hm => by rcases m with _ | _ | _ | _ | _ | _ | _ | m <;> first | exact CEnt.refl _ | exact CEnt.nilS' rfl | omega)) .nil))) rfl rfl ?_)
  first | refine y_rd (wanted_none rfl) rfl rfl (rd_move (v := .tup _ _) rfl rfl) ?_ | refine y_rd (wanted_none rfl) rfl rfl (rd_move (v := .c _) rfl rfl) ?_ | refine y_rd (wanted_none rfl) rfl rfl (rd_move (v := .pv _) rfl rfl) ?_ | refine y_rd (wanted_none rfl) rfl rfl (rd_move (v := .top) rfl rfl) ?_
  refine y_rd (wanted_none rfl) rfl rfl (rd_extract (v := .c _) rfl rfl rfl rfl) ?_
  first | refine y_rd (wanted_none rfl) rfl rfl (rd_extract (v := .err _) rfl rfl rfl rfl) ?_ | refine y_rd (wanted_none rfl) rfl rfl (rd_extract (v := .c _) rfl rfl rfl rfl) ?_ | refine y_rd (wanted_none rfl) rfl rfl (rd_extract (v := .pv _) rfl rfl rfl rfl) ?_ | refine y_rd (wanted_none rfl) rfl rfl (rd_extract (v := .top) rfl rfl rfl rfl) ?_
  refine y_rd (wanted_none rfl) rfl rfl (rd_assign (v := .c _) rfl rfl) ?_
  first | refine y_rd (wanted_none rfl) rfl rfl (rd_assign (v := .err _) rfl rfl) ?_ | refine y_rd (wanted_none rfl) rfl rfl (rd_assign (v := .c _) rfl rfl) ?_ | refine y_rd (wanted_none rfl) rfl rfl (rd_assign (v := .pv _) rfl rfl) ?_ | refine y_rd (wanted_none rfl) rfl rfl (rd_assign (v := .top) rfl rfl) ?_
  refine x_done ?_
  refine then_norm ?_
  refine code_seq ?_
  refine code_draw (.rd 1 (.rd 2 (.one 0 (.one 3 (.rd 4 (.rd 5 (.rd 6 (.rd 7 (.rd 8 .done))))))))) (by kernel_rfl) (by kernel_rfl) rfl (by kernel_rfl) (by kernel_rfl) ?_
  simp only [opsOfT, List.getElem?_toArray, List.getElem?_cons_zero, List.getElem?_cons_succ]
  refine y_rd (wanted_none rfl) rfl rfl (rd_build (n := 3) rfl zr54 pl54 rfl rfl) ?_
  first | refine y_rdO (wanted_none rfl) rfl rfl (rd_loadOA rfl rfl (.inl rfl) Tryd.underlying56 ag56 sz56 (by first | decide | (first | omega | decide | (dsimp only at *; omega)))) ?_ | refine y_rd (wanted_none rfl) rfl rfl (rd_loadRA rfl rfl Tryd.underlying56 ag56 sz56 (by first | decide | (first | omega | decide | (dsimp only at *; omega)))) ?_ | refine y_rdO (wanted_none rfl) rfl rfl (rd_loadOA rfl rfl (.inr rfl) Tryd.underlying56 ag56 sz56 (by first | decide | (first | omega | decide | (dsimp only at *; omega)))) ?_
  refine x_one (wanted_none rfl) (e_callP rfl (by kernel_rfl) (adef_ac) .nil rfl rfl ?_)
  refine x_one (wanted_none rfl) (e_callP rfl (by kernel_rfl) (permit_ac defL (1, [], [98]) exQ) (.cons (se rfl (CEnt.refl _)) (.cons (by exact se rfl (CEnt.agg rfl fun m hm => by rcases m with _ | _ | _ | m <;> first | exact CEnt.refl _ | omega)) (.cons (by exact se rfl (CEnt.agg rfl fun m hm => by rcases m with _ | _ | _ | _ | _ | _ | _ | m <;> first | exact CEnt.refl _ | exact CEnt.nilS' rfl | omega)) .nil))) rfl rfl ?_)
  first | refine y_rd (wanted_none rfl) rfl rfl (rd_move (v := .tup _ _) rfl rfl) ?_ | refine y_rd (wanted_none rfl) rfl rfl (rd_move (v := .c _) rfl rfl) ?_ | refine y_rd (wanted_none rfl) rfl rfl (rd_move (v := .pv _) rfl rfl) ?_ | refine y_rd (wanted_none rfl) rfl rfl (rd_move (v := .top) rfl rfl) ?_
  refine y_rd (wanted_none rfl) rfl rfl (rd_extract (v := .c _) rfl rfl rfl rfl) ?_
  first | refine y_rd (wanted_none rfl) rfl rfl (rd_extract (v := .err _) rfl rfl rfl rfl) ?_ | refine y_rd (wanted_none rfl) rfl rfl (rd_extract (v := .c _) rfl rfl rfl rfl) ?_ | refine y_rd (wanted_none rfl) rfl rfl (rd_extract (v := .pv _) rfl rfl rfl rfl) ?_ | refine y_rd (wanted_none rfl) rfl rfl (rd_extract (v := .top) rfl rfl rfl rfl) ?_
  refine y_rd (wanted_none rfl) rfl rfl (rd_assign (v := .c _) rfl rfl) ?_
  first | refine y_rd (wanted_none rfl) rfl rfl (rd_assign (v := .err _) rfl rfl) ?_ | refine y_rd (wanted_none rfl) rfl rfl (rd_assign (v := .c _) rfl rfl) ?_ | refine y_rd (wanted_none rfl) rfl rfl (rd_assign (v := .pv _) rfl rfl) ?_ | refine y_rd (wanted_none rfl) rfl rfl (rd_assign (v := .top) rfl rfl) ?_
  refine x_done ?_
  refine then_norm ?_
  refine code_seq ?_
  refine code_region ?_
  first | refine q_rd (wanted_none rfl) rfl rfl (rd_move (v := .err _) rfl rfl) ?_ | refine q_rd (wanted_none rfl) rfl rfl (rd_move (v := .c _) rfl rfl) ?_ | refine q_rd (wanted_none rfl) rfl rfl (rd_move (v := .pv _) rfl rfl) ?_ | refine q_rd (wanted_none rfl) rfl rfl (rd_move (v := .top) rfl rfl) ?_
  refine seq_ex (wanted_none rfl) (e_callP rfl (by kernel_rfl) (num_ac (permM defL (1, [], [97]) exQ).2 (by rw [perm_ex1]; decide)) (.cons (by first | exact se rfl (CEnt.refl _) | exact se rfl CEnt.nil | exact se rfl CEnt.nilB | exact se rfl (CEnt.osI rfl) | exact se rfl CEnt.opI | exact se_nilO rfl | exact se rfl (CEnt.agg2 (CEnt.refl _) (CEnt.refl _)) | exact se rfl (CEnt.agg3 (CEnt.refl _) (CEnt.refl _) (CEnt.refl _)) | exact se rfl (CEnt.agg4 (CEnt.refl _) (CEnt.refl _) (CEnt.refl _) (CEnt.refl _)) | exact se rfl (CEnt.agg5 (CEnt.refl _) (CEnt.refl _) (CEnt.refl _) (CEnt.refl _) (CEnt.refl _)) | exact se rfl (CEnt.agg6 (CEnt.refl _) (CEnt.refl _) (CEnt.refl _) (CEnt.refl _) (CEnt.refl _) (CEnt.refl _)) | exact se_frzB _ rfl rfl rfl (by simp) (fun _ _ => CEnt.refl _)) .nil) rfl rfl ?_)
  refine q_rd (wanted_none rfl) rfl rfl (rd_eqI rfl rfl rfl) ?_
  refine q_rd (wanted_none rfl) rfl rfl (rd_move (v := .c _) rfl rfl) ?_
  first | refine seq_splitD (d := 25) rfl rfl (fun g16 => ?_) (fun g16 => ?_) | refine seq_split (d := 25) rfl rfl (fun g16 => ?_) (fun g16 => ?_)
  · first | refine q_rd (wanted_is rfl rfl rfl rfl true rfl) rfl rfl (rd_move (v := .err _) rfl rfl) ?_ | refine q_rd (wanted_is rfl rfl rfl rfl true rfl) rfl rfl (rd_move (v := .c _) rfl rfl) ?_ | refine q_rd (wanted_is rfl rfl rfl rfl true rfl) rfl rfl (rd_move (v := .pv _) rfl rfl) ?_ | refine q_rd (wanted_is rfl rfl rfl rfl true rfl) rfl rfl (rd_move (v := .top) rfl rfl) ?_
    first | refine q_rd (wanted_is rfl rfl rfl rfl true rfl) rfl rfl (rd_eqE rfl rfl) ?_ | refine q_rd (wanted_is rfl rfl rfl rfl true rfl) rfl rfl (rd_eqE0 rfl rfl) ?_
    refine q_rd (wanted_none rfl) rfl rfl (rd_pickT (v := .c _) rfl rfl rfl) ?_
    refine q_rd (wanted_none rfl) rfl rfl (rd_move (v := .c _) rfl rfl) ?_
    first | refine seq_splitD (d := 29) rfl rfl (fun g16_2 => ?_) (fun g16_2 => ?_) | refine seq_split (d := 29) rfl rfl (fun g16_2 => ?_) (fun g16_2 => ?_)
    · refine q_rd (wanted_is rfl rfl rfl rfl true rfl) rfl rfl (rd_move (v := .c _) rfl rfl) ?_
      refine q_rd (wanted_is rfl rfl rfl rfl true rfl) rfl rfl (rd_eqI rfl rfl rfl) ?_
      refine q_rd (wanted_none rfl) rfl rfl (rd_pickT (v := .c _) rfl rfl rfl) ?_
      refine q_rd (wanted_none rfl) rfl rfl (rd_assign (v := .c _) rfl rfl) ?_
      refine seq_nil ?_
      refine then_norm ?_
      refine code_ret ?_
      refine end_val (.inl rfl) (res_1 rfl (arv_tmp rfl)) ?_
      refine CEnt.bool ?_
      have h1 := perm_ex1
      have h2 := perm_ex2
      first | (simp_all; done) | (rw [h1, h2]; rfl) | (exfalso; simp_all; done)
    · refine q_skip (wanted_is rfl rfl rfl rfl false rfl) rfl rfl ?_
      refine q_skip (wanted_is rfl rfl rfl rfl false rfl) rfl rfl ?_
      refine q_rd (wanted_none rfl) rfl rfl (rd_pickF (v := .c _) rfl rfl rfl) ?_
      refine q_rd (wanted_none rfl) rfl rfl (rd_assign (v := .c _) rfl rfl) ?_
      refine seq_nil ?_
      refine then_norm ?_
      refine code_ret ?_
      refine end_val (.inl rfl) (res_1 rfl (arv_tmp rfl)) ?_
      refine CEnt.bool ?_
      have h1 := perm_ex1
      have h2 := perm_ex2
      first | (simp_all; done) | (rw [h1, h2]; rfl) | (exfalso; simp_all; done)
  · refine q_skip (wanted_is rfl rfl rfl rfl false rfl) rfl rfl ?_
    refine q_skip (wanted_is rfl rfl rfl rfl false rfl) rfl rfl ?_
    refine q_rd (wanted_none rfl) rfl rfl (rd_pickF (v := .c _) rfl rfl rfl) ?_
    refine q_rd (wanted_none rfl) rfl rfl (rd_move (v := .c _) rfl rfl) ?_
    refine q_skip (wanted_is rfl rfl rfl rfl false rfl) rfl rfl ?_
    refine q_skip (wanted_is rfl rfl rfl rfl false rfl) rfl rfl ?_
    refine q_rd (wanted_none rfl) rfl rfl (rd_pickF (v := .c _) rfl rfl rfl) ?_
    refine q_rd (wanted_none rfl) rfl rfl (rd_assign (v := .c _) rfl rfl) ?_
    refine seq_nil ?_
    refine then_norm ?_
    refine code_ret ?_
    refine end_val (.inl rfl) (res_1 rfl (arv_tmp rfl)) ?_
    refine CEnt.bool ?_
    have h1 := perm_ex1
    have h2 := perm_ex2
    first | (simp_all; done) | (rw [h1, h2]; rfl) | (exfalso; simp_all; done)
theorem naM_bd (a : Int × Int × Int × Int) : (naM a.1 a.2.1 a.2.2.1 a.2.2.2).2 ≤ 28 ∧ ((naM a.1 a.2.1 a.2.2.1 a.2.2.2).2 = 0 → a.1 < (naM a.1 a.2.1 a.2.2.1 a.2.2.2).1 ∧ (naM a.1 a.2.1 a.2.2.1 a.2.2.2).1 ≤ a.2.2.2 ∧ (naM a.1 a.2.1 a.2.2.1 a.2.2.2).1 - a.1 ≤ a.2.1 ∧ (naM a.1 a.2.1 a.2.2.1 a.2.2.2).1 - a.1 ≤ a.2.2.1 ∧ 0 ≤ a.1 ∧ a.2.2.2 ≤ 253402300799) := by
  unfold naM
  split
  · exact ⟨by decide, fun h => by cases h⟩
  · rename_i h1
    have h1 := Classical.not_not.1 h1
    split
    · exact ⟨by decide, fun h => by cases h⟩
    · dsimp only
      exact ⟨by decide, fun _ => by omega⟩
set_option maxHeartbeats 1000000 in
theorem admitLives_ac (a : Int × Int × Int × Int) (h1 : -9223372036854775808 ≤ a.1) (h2 : a.1 ≤ 9223372036854775807) : ACp gs Tryd.prog 6 [.agg 4 (spanF a)] (.c (.bool true)) := by
  have hbd := naM_bd a
  refine ac_of 74 Tryd.func6 rfl rfl rfl (fun al w0 F0 St0 => ?_)
  refine code_seq ?_
  refine code_region ?_
  refine seq_ex (wanted_none rfl) (e_box (n := 4) rfl rfl rfl rfl rfl rfl (fun p1 => ?_))
  refine q_rd (wanted_none rfl) rfl rfl (rd_assign (v := .c _) rfl rfl) ?_
  refine seq_nil ?_
  refine then_norm ?_
  refine code_seq ?_
  refine code_seq ?_
  refine code_region ?_
  refine seq_ex (wanted_none rfl) (e_callP rfl (by kernel_rfl) (alive23_ac) .nil rfl rfl ?_)
  first | refine q_rd (wanted_none rfl) rfl rfl (rd_notD rfl rfl) ?_ | refine q_rd (wanted_none rfl) rfl rfl (rd_not rfl rfl) ?_
  refine seq_nil ?_
  refine then_norm ?_
  first | refine code_condSD rfl rfl (fun h89 => ?_) (fun h89 => ?_) | refine code_condS rfl rfl (fun h89 => ?_) (fun h89 => ?_)
  · exfalso; simp at h89
  · refine code_skip ?_
    refine then_norm ?_
    refine code_seq ?_
    refine code_region ?_
    first | refine q_rd (wanted_none rfl) rfl rfl (rd_faddrO rfl rfl Tryd.underlying71 rfl sz3 rfl) ?_ | refine q_rd (wanted_none rfl) rfl rfl (rd_faddrR rfl rfl Tryd.underlying71 rfl sz3 rfl) ?_
    first | refine q_rdO (wanted_none rfl) rfl rfl (rd_loadO (v := .c _) rfl rfl (.inl rfl) Tryd.underlying3 ag3 (by first | decide | (first | omega | decide | (dsimp only at *; omega))) rfl) ?_ | refine q_rd (wanted_none rfl) rfl rfl (rd_loadR (v := .c _) rfl rfl Tryd.underlying3 ag3 (by first | decide | (first | omega | decide | (dsimp only at *; omega))) rfl) ?_ | refine q_rdO (wanted_none rfl) rfl rfl (rd_loadO (v := .c _) rfl rfl (.inr rfl) Tryd.underlying3 ag3 (by first | decide | (first | omega | decide | (dsimp only at *; omega))) rfl) ?_
    first | refine q_rd (wanted_none rfl) rfl rfl (rd_faddrO rfl rfl Tryd.underlying71 rfl sz3 rfl) ?_ | refine q_rd (wanted_none rfl) rfl rfl (rd_faddrR rfl rfl Tryd.underlying71 rfl sz3 rfl) ?_
    first | refine q_rdO (wanted_none rfl) rfl rfl (rd_loadO (v := .c _) rfl rfl (.inl rfl) Tryd.underlying3 ag3 (by first | decide | (first | omega | decide | (dsimp only at *; omega))) rfl) ?_ | refine q_rd (wanted_none rfl) rfl rfl (rd_loadR (v := .c _) rfl rfl Tryd.underlying3 ag3 (by first | decide | (first | omega | decide | (dsimp only at *; omega))) rfl) ?_ | refine q_rdO (wanted_none rfl) rfl rfl (rd_loadO (v := .c _) rfl rfl (.inr rfl) Tryd.underlying3 ag3 (by first | decide | (first | omega | decide | (dsimp only at *; omega))) rfl) ?_
    first | refine q_rd (wanted_none rfl) rfl rfl (rd_faddrO rfl rfl Tryd.underlying71 rfl sz3 rfl) ?_ | refine q_rd (wanted_none rfl) rfl rfl (rd_faddrR rfl rfl Tryd.underlying71 rfl sz3 rfl) ?_
    first | refine q_rdO (wanted_none rfl) rfl rfl (rd_loadO (v := .c _) rfl rfl (.inl rfl) Tryd.underlying3 ag3 (by first | decide | (first | omega | decide | (dsimp only at *; omega))) rfl) ?_ | refine q_rd (wanted_none rfl) rfl rfl (rd_loadR (v := .c _) rfl rfl Tryd.underlying3 ag3 (by first | decide | (first | omega | decide | (dsimp only at *; omega))) rfl) ?_ | refine q_rdO (wanted_none rfl) rfl rfl (rd_loadO (v := .c _) rfl rfl (.inr rfl) Tryd.underlying3 ag3 (by first | decide | (first | omega | decide | (dsimp only at *; omega))) rfl) ?_
    first | refine q_rd (wanted_none rfl) rfl rfl (rd_faddrO rfl rfl Tryd.underlying71 rfl sz3 rfl) ?_ | refine q_rd (wanted_none rfl) rfl rfl (rd_faddrR rfl rfl Tryd.underlying71 rfl sz3 rfl) ?_
    first | refine q_rdO (wanted_none rfl) rfl rfl (rd_loadO (v := .c _) rfl rfl (.inl rfl) Tryd.underlying3 ag3 (by first | decide | (first | omega | decide | (dsimp only at *; omega))) rfl) ?_ | refine q_rd (wanted_none rfl) rfl rfl (rd_loadR (v := .c _) rfl rfl Tryd.underlying3 ag3 (by first | decide | (first | omega | decide | (dsimp only at *; omega))) rfl) ?_ | refine q_rdO (wanted_none rfl) rfl rfl (rd_loadO (v := .c _) rfl rfl (.inr rfl) Tryd.underlying3 ag3 (by first | decide | (first | omega | decide | (dsimp only at *; omega))) rfl) ?_
    refine seq_ex (wanted_none rfl) (e_callP rfl (by kernel_rfl) (na_ac a.1 a.2.1 a.2.2.1 a.2.2.2 h1 h2) (.cons (by first | exact se rfl (CEnt.refl _) | exact se rfl CEnt.nil | exact se rfl CEnt.nilB | exact se rfl (CEnt.osI rfl) | exact se rfl CEnt.opI | exact se_nilO rfl | exact se rfl (CEnt.agg2 (CEnt.refl _) (CEnt.refl _)) | exact se rfl (CEnt.agg3 (CEnt.refl _) (CEnt.refl _) (CEnt.refl _)) | exact se rfl (CEnt.agg4 (CEnt.refl _) (CEnt.refl _) (CEnt.refl _) (CEnt.refl _)) | exact se rfl (CEnt.agg5 (CEnt.refl _) (CEnt.refl _) (CEnt.refl _) (CEnt.refl _) (CEnt.refl _)) | exact se rfl (CEnt.agg6 (CEnt.refl _) (CEnt.refl _) (CEnt.refl _) (CEnt.refl _) (CEnt.refl _) (CEnt.refl _)) | exact se_frzB _ rfl rfl rfl (by simp) (fun _ _ => CEnt.refl _)) (.cons (by first | exact se rfl (CEnt.refl _) | exact se rfl CEnt.nil | exact se rfl CEnt.nilB | exact se rfl (CEnt.osI rfl) | exact se rfl CEnt.opI | exact se_nilO rfl | exact se rfl (CEnt.agg2 (CEnt.refl _) (CEnt.refl _)) | exact se rfl (CEnt.agg3 (CEnt.refl _) (CEnt.refl _) (CEnt.refl _)) | exact se rfl (CEnt.agg4 (CEnt.refl _) (CEnt.refl _) (CEnt.refl _) (CEnt.refl _)) | exact se rfl (CEnt.agg5 (CEnt.refl _) (CEnt.refl _) (CEnt.refl _) (CEnt.refl _) (CEnt.refl _)) | exact se rfl (CEnt.agg6 (CEnt.refl _) (CEnt.refl _) (CEnt.refl _) (CEnt.refl _) (CEnt.refl _) (CEnt.refl _)) | exact se_frzB _ rfl rfl rfl (by simp) (fun _ _ => CEnt.refl _)) (.cons (by first | exact se rfl (CEnt.refl _) | exact se rfl CEnt.nil | exact se rfl CEnt.nilB | exact se rfl (CEnt.osI rfl) | exact se rfl CEnt.opI | exact se_nilO rfl | exact se rfl (CEnt.agg2 (CEnt.refl _) (CEnt.refl _)) | exact se rfl (CEnt.agg3 (CEnt.refl _) (CEnt.refl _) (CEnt.refl _)) | exact se rfl (CEnt.agg4 (CEnt.refl _) (CEnt.refl _) (CEnt.refl _) (CEnt.refl _)) | exact se rfl (CEnt.agg5 (CEnt.refl _) (CEnt.refl _) (CEnt.refl _) (CEnt.refl _) (CEnt.refl _)) | exact se rfl (CEnt.agg6 (CEnt.refl _) (CEnt.refl _) (CEnt.refl _) (CEnt.refl _) (CEnt.refl _) (CEnt.refl _)) | exact se_frzB _ rfl rfl rfl (by simp) (fun _ _ => CEnt.refl _)) (.cons (by first | exact se rfl (CEnt.refl _) | exact se rfl CEnt.nil | exact se rfl CEnt.nilB | exact se rfl (CEnt.osI rfl) | exact se rfl CEnt.opI | exact se_nilO rfl | exact se rfl (CEnt.agg2 (CEnt.refl _) (CEnt.refl _)) | exact se rfl (CEnt.agg3 (CEnt.refl _) (CEnt.refl _) (CEnt.refl _)) | exact se rfl (CEnt.agg4 (CEnt.refl _) (CEnt.refl _) (CEnt.refl _) (CEnt.refl _)) | exact se rfl (CEnt.agg5 (CEnt.refl _) (CEnt.refl _) (CEnt.refl _) (CEnt.refl _) (CEnt.refl _)) | exact se rfl (CEnt.agg6 (CEnt.refl _) (CEnt.refl _) (CEnt.refl _) (CEnt.refl _) (CEnt.refl _) (CEnt.refl _)) | exact se_frzB _ rfl rfl rfl (by simp) (fun _ _ => CEnt.refl _)) .nil)))) rfl rfl ?_)
    first | refine q_rd (wanted_none rfl) rfl rfl (rd_move (v := .tup _ _) rfl rfl) ?_ | refine q_rd (wanted_none rfl) rfl rfl (rd_move (v := .c _) rfl rfl) ?_ | refine q_rd (wanted_none rfl) rfl rfl (rd_move (v := .pv _) rfl rfl) ?_ | refine q_rd (wanted_none rfl) rfl rfl (rd_move (v := .top) rfl rfl) ?_
    refine q_rd (wanted_none rfl) rfl rfl (rd_extract (v := .c _) rfl rfl rfl rfl) ?_
    first | refine q_rd (wanted_none rfl) rfl rfl (rd_extract (v := .err _) rfl rfl rfl rfl) ?_ | refine q_rd (wanted_none rfl) rfl rfl (rd_extract (v := .c _) rfl rfl rfl rfl) ?_ | refine q_rd (wanted_none rfl) rfl rfl (rd_extract (v := .pv _) rfl rfl rfl rfl) ?_ | refine q_rd (wanted_none rfl) rfl rfl (rd_extract (v := .top) rfl rfl rfl rfl) ?_
    refine q_rd (wanted_none rfl) rfl rfl (rd_assign (v := .c _) rfl rfl) ?_
    first | refine q_rd (wanted_none rfl) rfl rfl (rd_assign (v := .err _) rfl rfl) ?_ | refine q_rd (wanted_none rfl) rfl rfl (rd_assign (v := .c _) rfl rfl) ?_ | refine q_rd (wanted_none rfl) rfl rfl (rd_assign (v := .pv _) rfl rfl) ?_ | refine q_rd (wanted_none rfl) rfl rfl (rd_assign (v := .top) rfl rfl) ?_
    refine seq_nil ?_
    refine then_norm ?_
    refine code_seq ?_
    refine code_region ?_
    first | refine q_rd (wanted_none rfl) rfl rfl (rd_faddrO rfl rfl Tryd.underlying71 rfl sz3 rfl) ?_ | refine q_rd (wanted_none rfl) rfl rfl (rd_faddrR rfl rfl Tryd.underlying71 rfl sz3 rfl) ?_
    first | refine q_rdO (wanted_none rfl) rfl rfl (rd_loadO (v := .c _) rfl rfl (.inl rfl) Tryd.underlying3 ag3 (by first | decide | (first | omega | decide | (dsimp only at *; omega))) rfl) ?_ | refine q_rd (wanted_none rfl) rfl rfl (rd_loadR (v := .c _) rfl rfl Tryd.underlying3 ag3 (by first | decide | (first | omega | decide | (dsimp only at *; omega))) rfl) ?_ | refine q_rdO (wanted_none rfl) rfl rfl (rd_loadO (v := .c _) rfl rfl (.inr rfl) Tryd.underlying3 ag3 (by first | decide | (first | omega | decide | (dsimp only at *; omega))) rfl) ?_
    first | refine q_rd (wanted_none rfl) rfl rfl (rd_faddrO rfl rfl Tryd.underlying71 rfl sz3 rfl) ?_ | refine q_rd (wanted_none rfl) rfl rfl (rd_faddrR rfl rfl Tryd.underlying71 rfl sz3 rfl) ?_
    first | refine q_rdO (wanted_none rfl) rfl rfl (rd_loadO (v := .c _) rfl rfl (.inl rfl) Tryd.underlying3 ag3 (by first | decide | (first | omega | decide | (dsimp only at *; omega))) rfl) ?_ | refine q_rd (wanted_none rfl) rfl rfl (rd_loadR (v := .c _) rfl rfl Tryd.underlying3 ag3 (by first | decide | (first | omega | decide | (dsimp only at *; omega))) rfl) ?_ | refine q_rdO (wanted_none rfl) rfl rfl (rd_loadO (v := .c _) rfl rfl (.inr rfl) Tryd.underlying3 ag3 (by first | decide | (first | omega | decide | (dsimp only at *; omega))) rfl) ?_
    first | refine q_rd (wanted_none rfl) rfl rfl (rd_faddrO rfl rfl Tryd.underlying71 rfl sz3 rfl) ?_ | refine q_rd (wanted_none rfl) rfl rfl (rd_faddrR rfl rfl Tryd.underlying71 rfl sz3 rfl) ?_
    first | refine q_rdO (wanted_none rfl) rfl rfl (rd_loadO (v := .c _) rfl rfl (.inl rfl) Tryd.underlying3 ag3 (by first | decide | (first | omega | decide | (dsimp only at *; omega))) rfl) ?_ | refine q_rd (wanted_none rfl) rfl rfl (rd_loadR (v := .c _) rfl rfl Tryd.underlying3 ag3 (by first | decide | (first | omega | decide | (dsimp only at *; omega))) rfl) ?_ | refine q_rdO (wanted_none rfl) rfl rfl (rd_loadO (v := .c _) rfl rfl (.inr rfl) Tryd.underlying3 ag3 (by first | decide | (first | omega | decide | (dsimp only at *; omega))) rfl) ?_
    first | refine q_rd (wanted_none rfl) rfl rfl (rd_faddrO rfl rfl Tryd.underlying71 rfl sz3 rfl) ?_ | refine q_rd (wanted_none rfl) rfl rfl (rd_faddrR rfl rfl Tryd.underlying71 rfl sz3 rfl) ?_
    first | refine q_rdO (wanted_none rfl) rfl rfl (rd_loadO (v := .c _) rfl rfl (.inl rfl) Tryd.underlying3 ag3 (by first | decide | (first | omega | decide | (dsimp only at *; omega))) rfl) ?_ | refine q_rd (wanted_none rfl) rfl rfl (rd_loadR (v := .c _) rfl rfl Tryd.underlying3 ag3 (by first | decide | (first | omega | decide | (dsimp only at *; omega))) rfl) ?_ | refine q_rdO (wanted_none rfl) rfl rfl (rd_loadO (v := .c _) rfl rfl (.inr rfl) Tryd.underlying3 ag3 (by first | decide | (first | omega | decide | (dsimp only at *; omega))) rfl) ?_
    refine seq_ex (wanted_none rfl) (e_callP rfl (by kernel_rfl) (rna_ac a.1 a.2.1 a.2.2.1 a.2.2.2) (.cons (by first | exact se rfl (CEnt.refl _) | exact se rfl CEnt.nil | exact se rfl CEnt.nilB | exact se rfl (CEnt.osI rfl) | exact se rfl CEnt.opI | exact se_nilO rfl | exact se rfl (CEnt.agg2 (CEnt.refl _) (CEnt.refl _)) | exact se rfl (CEnt.agg3 (CEnt.refl _) (CEnt.refl _) (CEnt.refl _)) | exact se rfl (CEnt.agg4 (CEnt.refl _) (CEnt.refl _) (CEnt.refl _) (CEnt.refl _)) | exact se rfl (CEnt.agg5 (CEnt.refl _) (CEnt.refl _) (CEnt.refl _) (CEnt.refl _) (CEnt.refl _)) | exact se rfl (CEnt.agg6 (CEnt.refl _) (CEnt.refl _) (CEnt.refl _) (CEnt.refl _) (CEnt.refl _) (CEnt.refl _)) | exact se_frzB _ rfl rfl rfl (by simp) (fun _ _ => CEnt.refl _)) (.cons (by first | exact se rfl (CEnt.refl _) | exact se rfl CEnt.nil | exact se rfl CEnt.nilB | exact se rfl (CEnt.osI rfl) | exact se rfl CEnt.opI | exact se_nilO rfl | exact se rfl (CEnt.agg2 (CEnt.refl _) (CEnt.refl _)) | exact se rfl (CEnt.agg3 (CEnt.refl _) (CEnt.refl _) (CEnt.refl _)) | exact se rfl (CEnt.agg4 (CEnt.refl _) (CEnt.refl _) (CEnt.refl _) (CEnt.refl _)) | exact se rfl (CEnt.agg5 (CEnt.refl _) (CEnt.refl _) (CEnt.refl _) (CEnt.refl _) (CEnt.refl _)) | exact se rfl (CEnt.agg6 (CEnt.refl _) (CEnt.refl _) (CEnt.refl _) (CEnt.refl _) (CEnt.refl _) (CEnt.refl _)) | exact se_frzB _ rfl rfl rfl (by simp) (fun _ _ => CEnt.refl _)) (.cons (by first | exact se rfl (CEnt.refl _) | exact se rfl CEnt.nil | exact se rfl CEnt.nilB | exact se rfl (CEnt.osI rfl) | exact se rfl CEnt.opI | exact se_nilO rfl | exact se rfl (CEnt.agg2 (CEnt.refl _) (CEnt.refl _)) | exact se rfl (CEnt.agg3 (CEnt.refl _) (CEnt.refl _) (CEnt.refl _)) | exact se rfl (CEnt.agg4 (CEnt.refl _) (CEnt.refl _) (CEnt.refl _) (CEnt.refl _)) | exact se rfl (CEnt.agg5 (CEnt.refl _) (CEnt.refl _) (CEnt.refl _) (CEnt.refl _) (CEnt.refl _)) | exact se rfl (CEnt.agg6 (CEnt.refl _) (CEnt.refl _) (CEnt.refl _) (CEnt.refl _) (CEnt.refl _) (CEnt.refl _)) | exact se_frzB _ rfl rfl rfl (by simp) (fun _ _ => CEnt.refl _)) (.cons (by first | exact se rfl (CEnt.refl _) | exact se rfl CEnt.nil | exact se rfl CEnt.nilB | exact se rfl (CEnt.osI rfl) | exact se rfl CEnt.opI | exact se_nilO rfl | exact se rfl (CEnt.agg2 (CEnt.refl _) (CEnt.refl _)) | exact se rfl (CEnt.agg3 (CEnt.refl _) (CEnt.refl _) (CEnt.refl _)) | exact se rfl (CEnt.agg4 (CEnt.refl _) (CEnt.refl _) (CEnt.refl _) (CEnt.refl _)) | exact se rfl (CEnt.agg5 (CEnt.refl _) (CEnt.refl _) (CEnt.refl _) (CEnt.refl _) (CEnt.refl _)) | exact se rfl (CEnt.agg6 (CEnt.refl _) (CEnt.refl _) (CEnt.refl _) (CEnt.refl _) (CEnt.refl _) (CEnt.refl _)) | exact se_frzB _ rfl rfl rfl (by simp) (fun _ _ => CEnt.refl _)) .nil)))) rfl rfl ?_)
    first | refine q_rd (wanted_none rfl) rfl rfl (rd_move (v := .tup _ _) rfl rfl) ?_ | refine q_rd (wanted_none rfl) rfl rfl (rd_move (v := .c _) rfl rfl) ?_ | refine q_rd (wanted_none rfl) rfl rfl (rd_move (v := .pv _) rfl rfl) ?_ | refine q_rd (wanted_none rfl) rfl rfl (rd_move (v := .top) rfl rfl) ?_
    refine q_rd (wanted_none rfl) rfl rfl (rd_extract (v := .c _) rfl rfl rfl rfl) ?_
    refine q_rd (wanted_none rfl) rfl rfl (rd_extract (v := .c _) rfl rfl rfl rfl) ?_
    refine q_rd (wanted_none rfl) rfl rfl (rd_assign (v := .c _) rfl rfl) ?_
    refine q_rd (wanted_none rfl) rfl rfl (rd_assign (v := .c _) rfl rfl) ?_
    refine seq_nil ?_
    refine then_norm ?_
    refine code_seq ?_
    refine code_seq ?_
    refine code_region ?_
    refine q_rd (wanted_none rfl) rfl rfl (rd_move (v := .c _) rfl rfl) ?_
    refine q_rd (wanted_none rfl) rfl rfl (rd_move (v := .c _) rfl rfl) ?_
    refine q_rd (wanted_none rfl) rfl rfl (rd_neI rfl rfl rfl) ?_
    refine q_rd (wanted_none rfl) rfl rfl (rd_move (v := .c _) rfl rfl) ?_
    first | refine seq_splitD (d := 36) rfl rfl (fun g94 => ?_) (fun g94 => ?_) | refine seq_split (d := 36) rfl rfl (fun g94 => ?_) (fun g94 => ?_)
    · refine q_skip (wanted_is rfl rfl rfl rfl false rfl) rfl rfl ?_
      refine q_skip (wanted_is rfl rfl rfl rfl false rfl) rfl rfl ?_
      refine q_skip (wanted_is rfl rfl rfl rfl false rfl) rfl rfl ?_
      refine q_skip (wanted_is rfl rfl rfl rfl false rfl) rfl rfl ?_
      refine q_rd (wanted_none rfl) rfl rfl (rd_pickT (v := .c _) rfl rfl rfl) ?_
      refine seq_nil ?_
      refine then_norm ?_
      refine code_condT rfl ?_
      refine code_seq ?_
      refine code_region ?_
      refine q_rd (wanted_none rfl) rfl rfl (rd_assign (v := .c _) rfl rfl) ?_
      refine seq_nil ?_
      refine then_norm ?_
      refine code_ret ?_
      refine then_ret ?_
      refine end_val (.inl rfl) (res_1 rfl (arv_tmp rfl)) ?_
      exfalso
      first | (simp_all; done) | (simp_all; omega)
    · first | refine q_rd (wanted_is rfl rfl rfl rfl true rfl) rfl rfl (rd_move (v := .err _) rfl rfl) ?_ | refine q_rd (wanted_is rfl rfl rfl rfl true rfl) rfl rfl (rd_move (v := .c _) rfl rfl) ?_ | refine q_rd (wanted_is rfl rfl rfl rfl true rfl) rfl rfl (rd_move (v := .pv _) rfl rfl) ?_ | refine q_rd (wanted_is rfl rfl rfl rfl true rfl) rfl rfl (rd_move (v := .top) rfl rfl) ?_
      refine seq_ex (wanted_is rfl rfl rfl rfl true rfl) (e_callP rfl (by kernel_rfl) (num_ac (naM a.1 a.2.1 a.2.2.1 a.2.2.2).2 hbd.1) (.cons (by first | exact se rfl (CEnt.refl _) | exact se rfl CEnt.nil | exact se rfl CEnt.nilB | exact se rfl (CEnt.osI rfl) | exact se rfl CEnt.opI | exact se_nilO rfl | exact se rfl (CEnt.agg2 (CEnt.refl _) (CEnt.refl _)) | exact se rfl (CEnt.agg3 (CEnt.refl _) (CEnt.refl _) (CEnt.refl _)) | exact se rfl (CEnt.agg4 (CEnt.refl _) (CEnt.refl _) (CEnt.refl _) (CEnt.refl _)) | exact se rfl (CEnt.agg5 (CEnt.refl _) (CEnt.refl _) (CEnt.refl _) (CEnt.refl _) (CEnt.refl _)) | exact se rfl (CEnt.agg6 (CEnt.refl _) (CEnt.refl _) (CEnt.refl _) (CEnt.refl _) (CEnt.refl _) (CEnt.refl _)) | exact se_frzB _ rfl rfl rfl (by simp) (fun _ _ => CEnt.refl _)) .nil) rfl rfl ?_)
      refine q_rd (wanted_is rfl rfl rfl rfl true rfl) rfl rfl (rd_move (v := .c _) rfl rfl) ?_
      refine q_rd (wanted_is rfl rfl rfl rfl true rfl) rfl rfl (rd_neI rfl rfl rfl) ?_
      refine q_rd (wanted_none rfl) rfl rfl (rd_pickF (v := .c _) rfl rfl rfl) ?_
      refine seq_nil ?_
      refine then_norm ?_
      first | refine code_condSD rfl rfl (fun h94 => ?_) (fun h94 => ?_) | refine code_condS rfl rfl (fun h94 => ?_) (fun h94 => ?_)
      · refine code_seq ?_
        refine code_region ?_
        refine q_rd (wanted_none rfl) rfl rfl (rd_assign (v := .c _) rfl rfl) ?_
        refine seq_nil ?_
        refine then_norm ?_
        refine code_ret ?_
        refine then_ret ?_
        refine end_val (.inl rfl) (res_1 rfl (arv_tmp rfl)) ?_
        exfalso
        first | (simp_all; done) | (simp_all; omega)
      · refine code_skip ?_
        refine then_norm ?_
        refine code_seq ?_
        refine code_region ?_
        refine q_rd (wanted_none rfl) rfl rfl (rd_move (v := .c _) rfl rfl) ?_
        refine q_rd (wanted_none rfl) rfl rfl (rd_neI rfl rfl rfl) ?_
        refine q_rd (wanted_none rfl) rfl rfl (rd_move (v := .c _) rfl rfl) ?_
        first | refine seq_splitD (d := 44) rfl rfl (fun g97 => ?_) (fun g97 => ?_) | refine seq_split (d := 44) rfl rfl (fun g97 => ?_) (fun g97 => ?_)
        · refine q_skip (wanted_is rfl rfl rfl rfl false rfl) rfl rfl ?_
          refine q_skip (wanted_is rfl rfl rfl rfl false rfl) rfl rfl ?_
          refine q_skip (wanted_is rfl rfl rfl rfl false rfl) rfl rfl ?_
          refine q_skip (wanted_is rfl rfl rfl rfl false rfl) rfl rfl ?_
          refine q_skip (wanted_is rfl rfl rfl rfl false rfl) rfl rfl ?_
          refine q_skip (wanted_undef rfl rfl rfl rfl) rfl rfl ?_
          refine q_skip (wanted_undef rfl rfl rfl rfl) rfl rfl ?_
          refine q_skip (wanted_undef rfl rfl rfl rfl) rfl rfl ?_
          refine q_skip (wanted_undef rfl rfl rfl rfl) rfl rfl ?_
          refine q_skip (wanted_is rfl rfl rfl rfl false rfl) rfl rfl ?_
          refine q_skip (wanted_is rfl rfl rfl rfl false rfl) rfl rfl ?_
          refine q_skip (wanted_undef rfl rfl rfl rfl) rfl rfl ?_
          refine q_skip (wanted_undef rfl rfl rfl rfl) rfl rfl ?_
          refine q_skip (wanted_undef rfl rfl rfl rfl) rfl rfl ?_
          refine q_skip (wanted_undef rfl rfl rfl rfl) rfl rfl ?_
          refine q_skip (wanted_undef rfl rfl rfl rfl) rfl rfl ?_
          refine q_skip (wanted_undef rfl rfl rfl rfl) rfl rfl ?_
          refine q_skip (wanted_undef rfl rfl rfl rfl) rfl rfl ?_
          refine q_skip (wanted_is rfl rfl rfl rfl false rfl) rfl rfl ?_
          refine q_skip (wanted_is rfl rfl rfl rfl false rfl) rfl rfl ?_
          refine q_skip (wanted_undef rfl rfl rfl rfl) rfl rfl ?_
          refine q_skip (wanted_undef rfl rfl rfl rfl) rfl rfl ?_
          refine q_skip (wanted_undef rfl rfl rfl rfl) rfl rfl ?_
          refine q_skip (wanted_undef rfl rfl rfl rfl) rfl rfl ?_
          refine q_skip (wanted_undef rfl rfl rfl rfl) rfl rfl ?_
          refine q_skip (wanted_undef rfl rfl rfl rfl) rfl rfl ?_
          refine q_skip (wanted_undef rfl rfl rfl rfl) rfl rfl ?_
          refine q_skip (wanted_is rfl rfl rfl rfl false rfl) rfl rfl ?_
          refine q_rd (wanted_none rfl) rfl rfl (rd_pickT (v := .c _) rfl rfl rfl) ?_
          refine q_rd (wanted_none rfl) rfl rfl (rd_assign (v := .c _) rfl rfl) ?_
          refine seq_nil ?_
          refine then_norm ?_
          refine code_ret ?_
          refine end_val (.inl rfl) (res_1 rfl (arv_tmp rfl)) ?_
          refine CEnt.bool ?_
          first | (simp_all; done) | (simp_all; omega) | grind
        · refine q_rd (wanted_is rfl rfl rfl rfl true rfl) rfl rfl (rd_move (v := .c _) rfl rfl) ?_
          first | refine q_rd (wanted_is rfl rfl rfl rfl true rfl) rfl rfl (rd_faddrO rfl rfl Tryd.underlying71 rfl sz3 rfl) ?_ | refine q_rd (wanted_is rfl rfl rfl rfl true rfl) rfl rfl (rd_faddrR rfl rfl Tryd.underlying71 rfl sz3 rfl) ?_
          first | refine q_rdO (wanted_is rfl rfl rfl rfl true rfl) rfl rfl (rd_loadO (v := .c _) rfl rfl (.inl rfl) Tryd.underlying3 ag3 (by first | decide | (first | omega | decide | (dsimp only at *; omega))) rfl) ?_ | refine q_rd (wanted_is rfl rfl rfl rfl true rfl) rfl rfl (rd_loadR (v := .c _) rfl rfl Tryd.underlying3 ag3 (by first | decide | (first | omega | decide | (dsimp only at *; omega))) rfl) ?_ | refine q_rdO (wanted_is rfl rfl rfl rfl true rfl) rfl rfl (rd_loadO (v := .c _) rfl rfl (.inr rfl) Tryd.underlying3 ag3 (by first | decide | (first | omega | decide | (dsimp only at *; omega))) rfl) ?_
          refine q_rd (wanted_is rfl rfl rfl rfl true rfl) rfl rfl (rd_gt rfl rfl rfl) ?_
          refine q_rd (wanted_is rfl rfl rfl rfl true rfl) rfl rfl (rd_move (v := .c _) rfl rfl) ?_
          first | refine seq_splitD (d := 49) rfl rfl (fun g97_2 => ?_) (fun g97_2 => ?_) | refine seq_split (d := 49) rfl rfl (fun g97_2 => ?_) (fun g97_2 => ?_)
          · refine q_rd (wanted_is rfl rfl rfl rfl true rfl) rfl rfl (rd_move (v := .c _) rfl rfl) ?_
            first | refine q_rd (wanted_is rfl rfl rfl rfl true rfl) rfl rfl (rd_faddrO rfl rfl Tryd.underlying71 rfl sz3 rfl) ?_ | refine q_rd (wanted_is rfl rfl rfl rfl true rfl) rfl rfl (rd_faddrR rfl rfl Tryd.underlying71 rfl sz3 rfl) ?_
            first | refine q_rdO (wanted_is rfl rfl rfl rfl true rfl) rfl rfl (rd_loadO (v := .c _) rfl rfl (.inl rfl) Tryd.underlying3 ag3 (by first | decide | (first | omega | decide | (dsimp only at *; omega))) rfl) ?_ | refine q_rd (wanted_is rfl rfl rfl rfl true rfl) rfl rfl (rd_loadR (v := .c _) rfl rfl Tryd.underlying3 ag3 (by first | decide | (first | omega | decide | (dsimp only at *; omega))) rfl) ?_ | refine q_rdO (wanted_is rfl rfl rfl rfl true rfl) rfl rfl (rd_loadO (v := .c _) rfl rfl (.inr rfl) Tryd.underlying3 ag3 (by first | decide | (first | omega | decide | (dsimp only at *; omega))) rfl) ?_
            refine q_rd (wanted_is rfl rfl rfl rfl true rfl) rfl rfl (rd_le rfl rfl rfl) ?_
            refine q_rd (wanted_is rfl rfl rfl rfl true rfl) rfl rfl (rd_pickT (v := .c _) rfl rfl rfl) ?_
            refine q_rd (wanted_is rfl rfl rfl rfl true rfl) rfl rfl (rd_move (v := .c _) rfl rfl) ?_
            first | refine seq_splitD (d := 55) rfl rfl (fun g97_3 => ?_) (fun g97_3 => ?_) | refine seq_split (d := 55) rfl rfl (fun g97_3 => ?_) (fun g97_3 => ?_)
            · refine q_rd (wanted_is rfl rfl rfl rfl true rfl) rfl rfl (rd_move (v := .c _) rfl rfl) ?_
              first | refine q_rd (wanted_is rfl rfl rfl rfl true rfl) rfl rfl (rd_faddrO rfl rfl Tryd.underlying71 rfl sz3 rfl) ?_ | refine q_rd (wanted_is rfl rfl rfl rfl true rfl) rfl rfl (rd_faddrR rfl rfl Tryd.underlying71 rfl sz3 rfl) ?_
              first | refine q_rdO (wanted_is rfl rfl rfl rfl true rfl) rfl rfl (rd_loadO (v := .c _) rfl rfl (.inl rfl) Tryd.underlying3 ag3 (by first | decide | (first | omega | decide | (dsimp only at *; omega))) rfl) ?_ | refine q_rd (wanted_is rfl rfl rfl rfl true rfl) rfl rfl (rd_loadR (v := .c _) rfl rfl Tryd.underlying3 ag3 (by first | decide | (first | omega | decide | (dsimp only at *; omega))) rfl) ?_ | refine q_rdO (wanted_is rfl rfl rfl rfl true rfl) rfl rfl (rd_loadO (v := .c _) rfl rfl (.inr rfl) Tryd.underlying3 ag3 (by first | decide | (first | omega | decide | (dsimp only at *; omega))) rfl) ?_
              refine q_rd (wanted_is rfl rfl rfl rfl true rfl) rfl rfl (rd_sub rfl rfl rfl (wrap_id (k := .i64) (by show _ ∧ _; (first | omega | decide | (dsimp only at *; omega))))) ?_
              first | refine q_rd (wanted_is rfl rfl rfl rfl true rfl) rfl rfl (rd_faddrO rfl rfl Tryd.underlying71 rfl sz3 rfl) ?_ | refine q_rd (wanted_is rfl rfl rfl rfl true rfl) rfl rfl (rd_faddrR rfl rfl Tryd.underlying71 rfl sz3 rfl) ?_
              first | refine q_rdO (wanted_is rfl rfl rfl rfl true rfl) rfl rfl (rd_loadO (v := .c _) rfl rfl (.inl rfl) Tryd.underlying3 ag3 (by first | decide | (first | omega | decide | (dsimp only at *; omega))) rfl) ?_ | refine q_rd (wanted_is rfl rfl rfl rfl true rfl) rfl rfl (rd_loadR (v := .c _) rfl rfl Tryd.underlying3 ag3 (by first | decide | (first | omega | decide | (dsimp only at *; omega))) rfl) ?_ | refine q_rdO (wanted_is rfl rfl rfl rfl true rfl) rfl rfl (rd_loadO (v := .c _) rfl rfl (.inr rfl) Tryd.underlying3 ag3 (by first | decide | (first | omega | decide | (dsimp only at *; omega))) rfl) ?_
              refine q_rd (wanted_is rfl rfl rfl rfl true rfl) rfl rfl (rd_le rfl rfl rfl) ?_
              refine q_rd (wanted_is rfl rfl rfl rfl true rfl) rfl rfl (rd_pickT (v := .c _) rfl rfl rfl) ?_
              refine q_rd (wanted_is rfl rfl rfl rfl true rfl) rfl rfl (rd_move (v := .c _) rfl rfl) ?_
              first | refine seq_splitD (d := 64) rfl rfl (fun g97_4 => ?_) (fun g97_4 => ?_) | refine seq_split (d := 64) rfl rfl (fun g97_4 => ?_) (fun g97_4 => ?_)
              · refine q_rd (wanted_is rfl rfl rfl rfl true rfl) rfl rfl (rd_move (v := .c _) rfl rfl) ?_
                first | refine q_rd (wanted_is rfl rfl rfl rfl true rfl) rfl rfl (rd_faddrO rfl rfl Tryd.underlying71 rfl sz3 rfl) ?_ | refine q_rd (wanted_is rfl rfl rfl rfl true rfl) rfl rfl (rd_faddrR rfl rfl Tryd.underlying71 rfl sz3 rfl) ?_
                first | refine q_rdO (wanted_is rfl rfl rfl rfl true rfl) rfl rfl (rd_loadO (v := .c _) rfl rfl (.inl rfl) Tryd.underlying3 ag3 (by first | decide | (first | omega | decide | (dsimp only at *; omega))) rfl) ?_ | refine q_rd (wanted_is rfl rfl rfl rfl true rfl) rfl rfl (rd_loadR (v := .c _) rfl rfl Tryd.underlying3 ag3 (by first | decide | (first | omega | decide | (dsimp only at *; omega))) rfl) ?_ | refine q_rdO (wanted_is rfl rfl rfl rfl true rfl) rfl rfl (rd_loadO (v := .c _) rfl rfl (.inr rfl) Tryd.underlying3 ag3 (by first | decide | (first | omega | decide | (dsimp only at *; omega))) rfl) ?_
                refine q_rd (wanted_is rfl rfl rfl rfl true rfl) rfl rfl (rd_sub rfl rfl rfl (wrap_id (k := .i64) (by show _ ∧ _; (first | omega | decide | (dsimp only at *; omega))))) ?_
                first | refine q_rd (wanted_is rfl rfl rfl rfl true rfl) rfl rfl (rd_faddrO rfl rfl Tryd.underlying71 rfl sz3 rfl) ?_ | refine q_rd (wanted_is rfl rfl rfl rfl true rfl) rfl rfl (rd_faddrR rfl rfl Tryd.underlying71 rfl sz3 rfl) ?_
                first | refine q_rdO (wanted_is rfl rfl rfl rfl true rfl) rfl rfl (rd_loadO (v := .c _) rfl rfl (.inl rfl) Tryd.underlying3 ag3 (by first | decide | (first | omega | decide | (dsimp only at *; omega))) rfl) ?_ | refine q_rd (wanted_is rfl rfl rfl rfl true rfl) rfl rfl (rd_loadR (v := .c _) rfl rfl Tryd.underlying3 ag3 (by first | decide | (first | omega | decide | (dsimp only at *; omega))) rfl) ?_ | refine q_rdO (wanted_is rfl rfl rfl rfl true rfl) rfl rfl (rd_loadO (v := .c _) rfl rfl (.inr rfl) Tryd.underlying3 ag3 (by first | decide | (first | omega | decide | (dsimp only at *; omega))) rfl) ?_
                refine q_rd (wanted_is rfl rfl rfl rfl true rfl) rfl rfl (rd_le rfl rfl rfl) ?_
                refine q_rd (wanted_is rfl rfl rfl rfl true rfl) rfl rfl (rd_pickT (v := .c _) rfl rfl rfl) ?_
                refine q_rd (wanted_none rfl) rfl rfl (rd_pickF (v := .c _) rfl rfl rfl) ?_
                refine q_rd (wanted_none rfl) rfl rfl (rd_assign (v := .c _) rfl rfl) ?_
                refine seq_nil ?_
                refine then_norm ?_
                refine code_ret ?_
                refine end_val (.inl rfl) (res_1 rfl (arv_tmp rfl)) ?_
                refine CEnt.bool ?_
                first | (simp_all; done) | (simp_all; omega) | grind
              · refine q_skip (wanted_is rfl rfl rfl rfl false rfl) rfl rfl ?_
                refine q_skip (wanted_is rfl rfl rfl rfl false rfl) rfl rfl ?_
                refine q_skip (wanted_is rfl rfl rfl rfl false rfl) rfl rfl ?_
                refine q_skip (wanted_is rfl rfl rfl rfl false rfl) rfl rfl ?_
                refine q_skip (wanted_is rfl rfl rfl rfl false rfl) rfl rfl ?_
                refine q_skip (wanted_is rfl rfl rfl rfl false rfl) rfl rfl ?_
                refine q_skip (wanted_is rfl rfl rfl rfl false rfl) rfl rfl ?_
                refine q_rd (wanted_is rfl rfl rfl rfl true rfl) rfl rfl (rd_pickF (v := .c _) rfl rfl rfl) ?_
                refine q_rd (wanted_none rfl) rfl rfl (rd_pickF (v := .c _) rfl rfl rfl) ?_
                refine q_rd (wanted_none rfl) rfl rfl (rd_assign (v := .c _) rfl rfl) ?_
                refine seq_nil ?_
                refine then_norm ?_
                refine code_ret ?_
                refine end_val (.inl rfl) (res_1 rfl (arv_tmp rfl)) ?_
                refine CEnt.bool ?_
                first | (simp_all; done) | (simp_all; omega) | grind
            · refine q_skip (wanted_is rfl rfl rfl rfl false rfl) rfl rfl ?_
              refine q_skip (wanted_is rfl rfl rfl rfl false rfl) rfl rfl ?_
              refine q_skip (wanted_is rfl rfl rfl rfl false rfl) rfl rfl ?_
              refine q_skip (wanted_is rfl rfl rfl rfl false rfl) rfl rfl ?_
              refine q_skip (wanted_is rfl rfl rfl rfl false rfl) rfl rfl ?_
              refine q_skip (wanted_is rfl rfl rfl rfl false rfl) rfl rfl ?_
              refine q_skip (wanted_is rfl rfl rfl rfl false rfl) rfl rfl ?_
              refine q_rd (wanted_is rfl rfl rfl rfl true rfl) rfl rfl (rd_pickF (v := .c _) rfl rfl rfl) ?_
              refine q_rd (wanted_is rfl rfl rfl rfl true rfl) rfl rfl (rd_move (v := .c _) rfl rfl) ?_
              refine q_skip (wanted_is rfl rfl rfl rfl false rfl) rfl rfl ?_
              refine q_skip (wanted_is rfl rfl rfl rfl false rfl) rfl rfl ?_
              refine q_skip (wanted_is rfl rfl rfl rfl false rfl) rfl rfl ?_
              refine q_skip (wanted_is rfl rfl rfl rfl false rfl) rfl rfl ?_
              refine q_skip (wanted_is rfl rfl rfl rfl false rfl) rfl rfl ?_
              refine q_skip (wanted_is rfl rfl rfl rfl false rfl) rfl rfl ?_
              refine q_skip (wanted_is rfl rfl rfl rfl false rfl) rfl rfl ?_
              refine q_rd (wanted_is rfl rfl rfl rfl true rfl) rfl rfl (rd_pickF (v := .c _) rfl rfl rfl) ?_
              refine q_rd (wanted_none rfl) rfl rfl (rd_pickF (v := .c _) rfl rfl rfl) ?_
              refine q_rd (wanted_none rfl) rfl rfl (rd_assign (v := .c _) rfl rfl) ?_
              refine seq_nil ?_
              refine then_norm ?_
              refine code_ret ?_
              refine end_val (.inl rfl) (res_1 rfl (arv_tmp rfl)) ?_
              refine CEnt.bool ?_
              first | (simp_all; done) | (simp_all; omega) | grind
          · refine q_skip (wanted_is rfl rfl rfl rfl false rfl) rfl rfl ?_
            refine q_skip (wanted_is rfl rfl rfl rfl false rfl) rfl rfl ?_
            refine q_skip (wanted_is rfl rfl rfl rfl false rfl) rfl rfl ?_
            refine q_skip (wanted_is rfl rfl rfl rfl false rfl) rfl rfl ?_
            refine q_rd (wanted_is rfl rfl rfl rfl true rfl) rfl rfl (rd_pickF (v := .c _) rfl rfl rfl) ?_
            refine q_rd (wanted_is rfl rfl rfl rfl true rfl) rfl rfl (rd_move (v := .c _) rfl rfl) ?_
            refine q_skip (wanted_is rfl rfl rfl rfl false rfl) rfl rfl ?_
            refine q_skip (wanted_is rfl rfl rfl rfl false rfl) rfl rfl ?_
            refine q_skip (wanted_is rfl rfl rfl rfl false rfl) rfl rfl ?_
            refine q_skip (wanted_is rfl rfl rfl rfl false rfl) rfl rfl ?_
            refine q_skip (wanted_is rfl rfl rfl rfl false rfl) rfl rfl ?_
            refine q_skip (wanted_is rfl rfl rfl rfl false rfl) rfl rfl ?_
            refine q_skip (wanted_is rfl rfl rfl rfl false rfl) rfl rfl ?_
            refine q_rd (wanted_is rfl rfl rfl rfl true rfl) rfl rfl (rd_pickF (v := .c _) rfl rfl rfl) ?_
            refine q_rd (wanted_is rfl rfl rfl rfl true rfl) rfl rfl (rd_move (v := .c _) rfl rfl) ?_
            refine q_skip (wanted_is rfl rfl rfl rfl false rfl) rfl rfl ?_
            refine q_skip (wanted_is rfl rfl rfl rfl false rfl) rfl rfl ?_
            refine q_skip (wanted_is rfl rfl rfl rfl false rfl) rfl rfl ?_
            refine q_skip (wanted_is rfl rfl rfl rfl false rfl) rfl rfl ?_
            refine q_skip (wanted_is rfl rfl rfl rfl false rfl) rfl rfl ?_
            refine q_skip (wanted_is rfl rfl rfl rfl false rfl) rfl rfl ?_
            refine q_skip (wanted_is rfl rfl rfl rfl false rfl) rfl rfl ?_
            refine q_rd (wanted_is rfl rfl rfl rfl true rfl) rfl rfl (rd_pickF (v := .c _) rfl rfl rfl) ?_
            refine q_rd (wanted_none rfl) rfl rfl (rd_pickF (v := .c _) rfl rfl rfl) ?_
            refine q_rd (wanted_none rfl) rfl rfl (rd_assign (v := .c _) rfl rfl) ?_
            refine seq_nil ?_
            refine then_norm ?_
            refine code_ret ?_
            refine end_val (.inl rfl) (res_1 rfl (arv_tmp rfl)) ?_
            refine CEnt.bool ?_
            first | (simp_all; done) | (simp_all; omega) | grind
end Am
end Go.Proofs.YtghgbhekjgincaaDoor
