
/- Chapter 23: the law's example; AdmitLives. -/
import Derived.Test.YtoliiompofonlaaDoorW23h
import Derived.Test.YtoliiompofonlaaDoorNumC
namespace Go.Proofs.YtoliiompofonlaaDoor
set_option linter.unusedVariables false
namespace Am
variable {gs : List Nat} [OkG gs]
open Go.RowKit
set_option maxRecDepth 100000

section
variable {P : Program} {G : Gh} {s : AS} {o : Oper} {x y z : Operand} {k : IntKind}
theorem rd_min3 {p q r : Int} {ats : Array TypeId} (ho : o.op = .call ⟨.builtin .min, #[x, y, z], ats⟩) (hx : s.eval x = .c (.int k p)) (hy : s.eval y = .c (.int k q)) (hz : s.eval z = .c (.int k r)) : ARd P G o s (.c (.int k (min (min p q) r))) := fun St a w h =>
  ⟨_, fun W _ => by
    have e1 : min p q = if q < p then q else p := by split <;> omega
    have e2 : min (min p q) r = if r < min p q then r else min p q := by split <;> omega
    simp [execOp, ho, resolve, invoke, builtin, evC h hx, evC h hy, evC h hz, Builtin.min_, Builtin.min2]
    rw [show min p (min q r) = min (min p q) r by omega, e2, e1], rfl⟩
end
def naM (now dur most e : Int) : Int × Nat :=
  if ¬ (0 ≤ now ∧ now ≤ 253402300799 ∧ 0 ≤ e ∧ e ≤ 253402300799 ∧ 1 ≤ dur ∧ 1 ≤ most) then (0, 1) else if e ≤ now then (0, 13) else (now + min (min dur most) (e - now), 0)
def exQ : Q5 := ((1, [], [98]), List.replicate 32 48, 2, 5, [])
theorem perm_ex1 : permM defL (1, [], [97]) exQ = (0, 9) := by decide +kernel
theorem perm_ex2 : permM defL (1, [], [98]) exQ = (86400, 0) := by decide +kernel
def spanF (a : Int × Int × Int × Int) : Nat → CV := fl [.c (.int .i64 a.1), .c (.int .i64 a.2.1), .c (.int .i64 a.2.2.1), .c (.int .i64 a.2.2.2)]
set_option maxHeartbeats 1000000 in
theorem alive23_ac : ACp gs Tryd.prog 9 [] (.c (.bool true)) := by
  refine ac_of 33 Tryd.func9 rfl rfl rfl (fun al w0 F0 St0 => ?_)
  refine code_seq ?_
  refine code_region ?_
  refine q_rd (wanted_none rfl) rfl rfl (rd_assign (v := .c _) rfl rfl) ?_
  refine seq_nil ?_
  refine then_norm ?_
  refine code_seq ?_
  refine code_region ?_
  refine q_rd (wanted_none rfl) rfl rfl (rd_build (n := 3) rfl zr23 pl23 rfl rfl) ?_
  refine q_rd (wanted_none rfl) rfl rfl (rd_build (n := 7) rfl zr26 pl26 rfl rfl) ?_
  refine seq_ex (wanted_none rfl) (e_alloc (n := 7) rfl zr26 rfl rfl rfl (fun p1 => ?_))
  refine seq_md (wanted_none rfl) (m_store rfl rfl rfl rfl rfl sz26 rfl rfl (by first | decide | (first | omega | decide | (dsimp only at *; omega))) _ (fun _ _ => CEnt.refl _) rfl ?_)
  refine seq_nil ?_
  refine then_norm ?_
  refine code_seq ?_
  refine code_draw (.rd 1 (.rd 2 (.one 0 (.one 3 (.rd 4 (.rd 5 (.rd 6 (.rd 7 (.rd 8 .done))))))))) (by kernel_rfl) (by kernel_rfl) rfl (by kernel_rfl) (by kernel_rfl) ?_
  simp only [opsOfT, List.getElem?_toArray, List.getElem?_cons_zero, List.getElem?_cons_succ]
  refine y_rd (wanted_none rfl) rfl rfl (rd_build (n := 3) rfl zr23 pl23 rfl rfl) ?_
  first | refine y_rdO (wanted_none rfl) rfl rfl (rd_loadOA rfl rfl (.inl rfl) Tryd.underlying26 ag26 sz26 (by first | decide | (first | omega | decide | (dsimp only at *; omega)))) ?_ | refine y_rd (wanted_none rfl) rfl rfl (rd_loadRA rfl rfl Tryd.underlying26 ag26 sz26 (by first | decide | (first | omega | decide | (dsimp only at *; omega)))) ?_ | refine y_rdO (wanted_none rfl) rfl rfl (rd_loadOA rfl rfl (.inr rfl) Tryd.underlying26 ag26 sz26 (by first | decide | (first | omega | decide | (dsimp only at *; omega)))) ?_
  refine x_one (wanted_none rfl) (e_callP rfl (by kernel_rfl) (adef_ac) .nil rfl rfl ?_)
  refine x_one (wanted_none rfl) (e_callP rfl (by kernel_rfl) (permit_ac defL (1, [], [97]) exQ) (.cons (se rfl (CEnt.refl _)) (.cons (by exact se rfl (CEnt.agg rfl fun m hm => by rcases m with _ | _ | _ | m <;> first | exact CEnt.refl _ | omega)) (.cons (by exact se rfl (CEnt.agg rfl fun m hm => by rcases m with _ | _ | _ | _ | _ | _ | _ | m <;> first | exact CEnt.refl _ | exact CEnt.nilS' rfl | omega)) .nil))) rfl rfl ?_)
  first | refine y_rd (wanted_none rfl) rfl rfl (rd_move (v := .tup _ _) rfl rfl) ?_ | refine y_rd (wanted_none rfl) rfl rfl (rd_move (v := .c _) rfl rfl) ?_ | refine y_rd (wanted_none rfl) rfl rfl (rd_move (v := .pv _) rfl rfl) ?_ | refine y_rd (wanted_none rfl) rfl rfl (rd_move (v := .top) rfl rfl) ?_
  refine y_rd (wanted_none rfl) rfl rfl (rd_extract (v := .c _) rfl rfl rfl rfl) ?_
  first | refine y_rd (wanted_none rfl) rfl rfl (rd_extract (v := .err _) rfl rfl rfl rfl) ?_ | refine y_rd (wanted_none rfl) rfl rfl (rd_extract (v := .c _) rfl rfl rfl rfl) ?_ | refine y_rd (wanted_none rfl) rfl rfl (rd_extract (v := .pv _) rfl rfl rfl rfl) ?_ | refine y_rd (wanted_none rfl) rfl rfl (rd_extract (v := .top) rfl rfl rfl rfl) ?_
  refine y_rd (wanted_none rfl) rfl rfl (rd_assign (v := .c _) rfl rfl) ?_
  first | refine y_rd (wanted_none rfl) rfl rfl (rd_assign (v := .err _) rfl rfl) ?_ | refine y_rd (wanted_none rfl) rfl rfl (rd_assign (v := .c _) rfl rfl) ?_ | refine y_rd (wanted_none rfl) rfl rfl (rd_assign (v := .pv _) rfl rfl) ?_ | refine y_rd (wanted_none rfl) rfl rfl (rd_assign (v := .top) rfl rfl) ?_
  refine x_done ?_
  refine then_norm ?_
  refine code_seq ?_
  refine code_draw (.rd 1 (.rd 2 (.one 0 (.one 3 (.rd 4 (.rd 5 (.rd 6 (.rd 7 (.rd 8 .done))))))))) (by kernel_rfl) (by kernel_rfl) rfl (by kernel_rfl) (by kernel_rfl) ?_
  simp only [opsOfT, List.getElem?_toArray, List.getElem?_cons_zero, List.getElem?_cons_succ]
  refine y_rd (wanted_none rfl) rfl rfl (rd_build (n := 3) rfl zr23 pl23 rfl rfl) ?_
  first | refine y_rdO (wanted_none rfl) rfl rfl (rd_loadOA rfl rfl (.inl rfl) Tryd.underlying26 ag26 sz26 (by first | decide | (first | omega | decide | (dsimp only at *; omega)))) ?_ | refine y_rd (wanted_none rfl) rfl rfl (rd_loadRA rfl rfl Tryd.underlying26 ag26 sz26 (by first | decide | (first | omega | decide | (dsimp only at *; omega)))) ?_ | refine y_rdO (wanted_none rfl) rfl rfl (rd_loadOA rfl rfl (.inr rfl) Tryd.underlying26 ag26 sz26 (by first | decide | (first | omega | decide | (dsimp only at *; omega)))) ?_
  refine x_one (wanted_none rfl) (e_callP rfl (by kernel_rfl) (adef_ac) .nil rfl rfl ?_)
  refine x_one (wanted_none rfl) (e_callP rfl (by kernel_rfl) (permit_ac defL (1, [], [98]) exQ) (.cons (se rfl (CEnt.refl _)) (.cons (by exact se rfl (CEnt.agg rfl fun m hm => by rcases m with _ | _ | _ | m <;> first | exact CEnt.refl _ | omega)) (.cons (by exact se rfl (CEnt.agg rfl fun m hm => by rcases m with _ | _ | _ | _ | _ | _ | _ | m <;> first | exact CEnt.refl _ | exact CEnt.nilS' rfl | omega)) .nil))) rfl rfl ?_)
  first | refine y_rd (wanted_none rfl) rfl rfl (rd_move (v := .tup _ _) rfl rfl) ?_ | refine y_rd (wanted_none rfl) rfl rfl (rd_move (v := .c _) rfl rfl) ?_ | refine y_rd (wanted_none rfl) rfl rfl (rd_move (v := .pv _) rfl rfl) ?_ | refine y_rd (wanted_none rfl) rfl rfl (rd_move (v := .top) rfl rfl) ?_
  refine y_rd (wanted_none rfl) rfl rfl (rd_extract (v := .c _) rfl rfl rfl rfl) ?_
  first | refine y_rd (wanted_none rfl) rfl rfl (rd_extract (v := .err _) rfl rfl rfl rfl) ?_ | refine y_rd (wanted_none rfl) rfl rfl (rd_extract (v := .c _) rfl rfl rfl rfl) ?_ | refine y_rd (wanted_none rfl) rfl rfl (rd_extract (v := .pv _) rfl rfl rfl rfl) ?_ | refine y_rd (wanted_none rfl) rfl rfl (rd_extract (v := .top) rfl rfl rfl rfl) ?_
  refine y_rd (wanted_none rfl) rfl rfl (rd_assign (v := .c _) rfl rfl) ?_
  first | refine y_rd (wanted_none rfl) rfl rfl (rd_assign (v := .err _) rfl rfl) ?_ | refine y_rd (wanted_none rfl) rfl rfl (rd_assign (v := .c _) rfl rfl) ?_ | refine y_rd (wanted_none rfl) rfl rfl (rd_assign (v := .pv _) rfl rfl) ?_ | refine y_rd (wanted_none rfl) rfl rfl (rd_assign (v := .top) rfl rfl) ?_
  refine x_done ?_
  refine then_norm ?_
  refine code_seq ?_
  refine code_region ?_
  first | refine q_rd (wanted_none rfl) rfl rfl (rd_move (v := .err _) rfl rfl) ?_ | refine q_rd (wanted_none rfl) rfl rfl (rd_move (v := .c _) rfl rfl) ?_ | refine q_rd (wanted_none rfl) rfl rfl (rd_move (v := .pv _) rfl rfl) ?_ | refine q_rd (wanted_none rfl) rfl rfl (rd_move (v := .top) rfl rfl) ?_
  refine seq_ex (wanted_none rfl) (e_callP rfl (by kernel_rfl) (num_ac (permM defL (1, [], [97]) exQ).2 (by rw [perm_ex1]; decide)) (.cons (by first | exact se rfl (CEnt.refl _) | exact se rfl CEnt.nil | exact se rfl CEnt.nilB | exact se rfl (CEnt.osI rfl) | exact se rfl CEnt.opI | exact se_nilO rfl | exact se rfl (CEnt.agg2 (CEnt.refl _) (CEnt.refl _)) | exact se rfl (CEnt.agg3 (CEnt.refl _) (CEnt.refl _) (CEnt.refl _)) | exact se rfl (CEnt.agg4 (CEnt.refl _) (CEnt.refl _) (CEnt.refl _) (CEnt.refl _)) | exact se rfl (CEnt.agg5 (CEnt.refl _) (CEnt.refl _) (CEnt.refl _) (CEnt.refl _) (CEnt.refl _)) | exact se rfl (CEnt.agg6 (CEnt.refl _) (CEnt.refl _) (CEnt.refl _) (CEnt.refl _) (CEnt.refl _) (CEnt.refl _)) | exact se_frzB _ rfl rfl rfl (by simp) (fun _ _ => CEnt.refl _)) .nil) rfl rfl ?_)
  refine q_rd (wanted_none rfl) rfl rfl (rd_eqI rfl rfl rfl) ?_
  refine q_rd (wanted_none rfl) rfl rfl (rd_move (v := .c _) rfl rfl) ?_
  first | refine seq_splitD (d := 25) rfl rfl (fun g16 => ?_) (fun g16 => ?_) | refine seq_split (d := 25) rfl rfl (fun g16 => ?_) (fun g16 => ?_)
  · first | refine q_rd (wanted_is rfl rfl rfl rfl true rfl) rfl rfl (rd_move (v := .err _) rfl rfl) ?_ | refine q_rd (wanted_is rfl rfl rfl rfl true rfl) rfl rfl (rd_move (v := .c _) rfl rfl) ?_ | refine q_rd (wanted_is rfl rfl rfl rfl true rfl) rfl rfl (rd_move (v := .pv _) rfl rfl) ?_ | refine q_rd (wanted_is rfl rfl rfl rfl true rfl) rfl rfl (rd_move (v := .top) rfl rfl) ?_
    first | refine q_rd (wanted_is rfl rfl rfl rfl true rfl) rfl rfl (rd_eqE rfl rfl) ?_ | refine q_rd (wanted_is rfl rfl rfl rfl true rfl) rfl rfl (rd_eqE0 rfl rfl) ?_
    refine q_rd (wanted_none rfl) rfl rfl (rd_pickT (v := .c _) rfl rfl rfl) ?_
    refine q_rd (wanted_none rfl) rfl rfl (rd_move (v := .c _) rfl rfl) ?_
    first | refine seq_splitD (d := 29) rfl rfl (fun g16_2 => ?_) (fun g16_2 => ?_) | refine seq_split (d := 29) rfl rfl (fun g16_2 => ?_) (fun g16_2 => ?_)
    · refine q_rd (wanted_is rfl rfl rfl rfl true rfl) rfl rfl (rd_move (v := .c _) rfl rfl) ?_
      refine q_rd (wanted_is rfl rfl rfl rfl true rfl) rfl rfl (rd_eqI rfl rfl rfl) ?_
      refine q_rd (wanted_none rfl) rfl rfl (rd_pickT (v := .c _) rfl rfl rfl) ?_
      refine q_rd (wanted_none rfl) rfl rfl (rd_assign (v := .c _) rfl rfl) ?_
      refine seq_nil ?_
      refine then_norm ?_
      refine code_ret ?_
      refine end_val (.inl rfl) (res_1 rfl (arv_tmp rfl)) ?_
      refine CEnt.bool ?_
      have h1 := perm_ex1
      have h2 := perm_ex2
      first | (simp_all; done) | (rw [h1, h2]; rfl) | (exfalso; simp_all; done)
    · refine q_skip (wanted_is rfl rfl rfl rfl false rfl) rfl rfl ?_
      refine q_skip (wanted_is rfl rfl rfl rfl false rfl) rfl rfl ?_
      refine q_rd (wanted_none rfl) rfl rfl (rd_pickF (v := .c _) rfl rfl rfl) ?_
      refine q_rd (wanted_none rfl) rfl rfl (rd_assign (v := .c _) rfl rfl) ?_
      refine seq_nil ?_
      refine then_norm ?_
      refine code_ret ?_
      refine end_val (.inl rfl) (res_1 rfl (arv_tmp rfl)) ?_
      refine CEnt.bool ?_
      have h1 := perm_ex1
      have h2 := perm_ex2
      first | (simp_all; done) | (rw [h1, h2]; rfl) | (exfalso; simp_all; done)
  · refine q_skip (wanted_is rfl rfl rfl rfl false rfl) rfl rfl ?_
    refine q_skip (wanted_is rfl rfl rfl rfl false rfl) rfl rfl ?_
    refine q_rd (wanted_none rfl) rfl rfl (rd_pickF (v := .c _) rfl rfl rfl) ?_
    refine q_rd (wanted_none rfl) rfl rfl (rd_move (v := .c _) rfl rfl) ?_
    refine q_skip (wanted_is rfl rfl rfl rfl false rfl) rfl rfl ?_
    refine q_skip (wanted_is rfl rfl rfl rfl false rfl) rfl rfl ?_
    refine q_rd (wanted_none rfl) rfl rfl (rd_pickF (v := .c _) rfl rfl rfl) ?_
    refine q_rd (wanted_none rfl) rfl rfl (rd_assign (v := .c _) rfl rfl) ?_
    refine seq_nil ?_
    refine then_norm ?_
    refine code_ret ?_
    refine end_val (.inl rfl) (res_1 rfl (arv_tmp rfl)) ?_
    refine CEnt.bool ?_
    have h1 := perm_ex1
    have h2 := perm_ex2
    first | (simp_all; done) | (rw [h1, h2]; rfl) | (exfalso; simp_all; done)
theorem naM_bd (a : Int × Int × Int × Int) : (naM a.1 a.2.1 a.2.2.1 a.2.2.2).2 ≤ 28 ∧ ((naM a.1 a.2.1 a.2.2.1 a.2.2.2).2 = 0 → a.1 < (naM a.1 a.2.1 a.2.2.1 a.2.2.2).1 ∧ (naM a.1 a.2.1 a.2.2.1 a.2.2.2).1 ≤ a.2.2.2 ∧ (naM a.1 a.2.1 a.2.2.1 a.2.2.2).1 - a.1 ≤ a.2.1 ∧ (naM a.1 a.2.1 a.2.2.1 a.2.2.2).1 - a.1 ≤ a.2.2.1 ∧ 0 ≤ a.1 ∧ a.2.2.2 ≤ 253402300799) := by
  unfold naM
  split
  · exact ⟨by decide, fun h => by cases h⟩
  · rename_i h1
    have h1 := Classical.not_not.1 h1
    split
    · exact ⟨by decide, fun h => by cases h⟩
    · dsimp only
      exact ⟨by decide, fun _ => by omega⟩
end Am
end Go.Proofs.YtoliiompofonlaaDoor
