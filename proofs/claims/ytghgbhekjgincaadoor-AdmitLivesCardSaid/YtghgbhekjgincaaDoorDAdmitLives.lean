/- The statement AdmitLives: for every input the law returns true, and each argument reads as it read before; the package-level errors are tied to the program's text. -/
import Derived.Test.YtghgbhekjgincaaDoorRows
import Derived.Test.YtghgbhekjgincaaDoorL23
import Derived.Test.YtghgbhekjgincaaDoorLaid
import Derived.ProofKit
import Derived.OpenShut
import Derived.ShutString
import Derived.ChangeOld
import Derived.LaidMore
import Derived.Lay
import Derived.MakeChecks
import Derived.Stop.Joined
import Derived.Lib.SmallJoins
namespace Go.Proofs.YtghgbhekjgincaaDoor.lawAdmitLives
open Go.ChangeShapes Go.WideShapes Go.ChangeAt Go.RowKit
open Go.ChangeMaps (open_string shut_string)
open Go.Joins
set_option linter.unusedVariables false

theorem own : ownKnob Tryd.prog.godebug = none := by kernel_rfl
theorem laidOut : laidOutB Tryd.prog = true := by kernel_rfl
/-- the start in which the listed variables are laid meets the condition -/
theorem door_met (os : Os) (args : Array Value) : laidMetH Tryd.prog Rows.admitLivesRow.laid ((World.laidAll Tryd.prog os Rows.admitLivesRow.laid).forCall (fun _ _ => 0) ⟨#[], args, []⟩).memory := by
  rw [MakeChecks.laidMetH_plain _ _ _ (by kernel_rfl)]
  exact laidMet_laidAll _ (by kernel_rfl) (by kernel_rfl)

theorem sent {W : World} (h : laidMetH Tryd.prog Rows.admitLivesRow.laid W) : ∃ al, SentL W gs al :=
  sent_of_laid h (by kernel_rfl) (by kernel_rfl) (by kernel_rfl) (fun h1 => absurd h1 (by decide)) (by decide)

set_option maxRecDepth 100000 in
theorem lifted (os : Os) (started : os.Started) (H : Type) (enc : TypeId × Value → H) :
    ReturnsInHanded {} Tryd.checked os 6 .any (fun w args => (Rows.admitLivesSpec.pre enc Tryd.prog Tryd.f6 [] false w args ∧ laidMetH Tryd.prog Rows.admitLivesRow.laid w) ∧ sizedMet enc Tryd.prog Tryd.f6 (OpenSpec.ofChange Rows.admitLivesSpec) false w args)
      (Rows.admitLivesSpec.post enc Tryd.prog Tryd.f6 false true false false) := by
  refine returnsInHanded_of_change_and (C := Tryd.checked) (X := fun w _ => laidMetH Tryd.prog Rows.admitLivesRow.laid w) (fun _ _ _ hh h => h.of_heap hh) own started (by kernel_rfl) Tryd.func6
    (ChangeSpec.witness_shaped (enc := enc) (C := Tryd.checked) (os := os) (X := fun w _ => laidMetH Tryd.prog Rows.admitLivesRow.laid w) false (World.laidAll Tryd.prog os Rows.admitLivesRow.laid) #[.agg #[.int .i64 0, .int .i64 0, .int .i64 0, .int .i64 0]] 8 (World.laidAll_os _ _ _) (World.shaped_of_ZipB (by kernel_rfl) (by kernel_rfl)) (by kernel_rfl) (by kernel_rfl) (by kernel_rfl) (door_met os _)) ?_
  intro W base args ds gs0 before hval0 hW _ hWt hL _
  have hval : ∀ (j : Nat) t v, Tryd.f6.params[j]? = some t → args[j]? = some v → Value.okWide Tryd.prog W .any base t v := hval0
  have hW' := hW
  obtain ⟨p, q, hA0, hV, rfl, hfz, hnd⟩ := hW
  have hA : DataW.TrodAll enc Tryd.prog W 0 (fun _ => true) true Tryd.f6.params.toList args.toList ds p := hA0
  rw [Tryd.params6] at hA hval hWt

  obtain ⟨v0, vs0, d0, ds0, p0, q0, hargs, rfl, rfl, h0, r0⟩ := trodAll_cons hA
  obtain ⟨rfl, rfl, rfl⟩ := trodAll_nil r0
  obtain rfl : args = #[v0] := by cases args; simp_all
  obtain ⟨rfl, rfl⟩ := trodVars_none hV
  have k0 := h0
  have lt0 : ∀ x ∈ p0, x.block < W.heap.size := by obtain ⟨m, hm⟩ := k0; exact DataW.trod_lt m _ _ _ hm
  obtain ⟨c0_0, c0_1, c0_2, c0_3, y0_0, y0_1, y0_2, y0_3, m0, rfl, rfl, rfl, hy0_0, hy0_1, hy0_2, hy0_3⟩ := open_agg4 Tryd.underlying71 (by kernel_rfl) (by kernel_rfl) (hval 0 71 v0 rfl rfl) h0
  obtain ⟨a0_0, e0_0, rfl, wf0_0⟩ := DataW.trod_int Tryd.underlying3 hy0_0
  obtain ⟨lo0_0, hi0_0⟩ := bounds_i64 wf0_0
  obtain ⟨a0_1, e0_1, rfl, wf0_1⟩ := DataW.trod_int Tryd.underlying3 hy0_1
  obtain ⟨lo0_1, hi0_1⟩ := bounds_i64 wf0_1
  obtain ⟨a0_2, e0_2, rfl, wf0_2⟩ := DataW.trod_int Tryd.underlying3 hy0_2
  obtain ⟨lo0_2, hi0_2⟩ := bounds_i64 wf0_2
  obtain ⟨a0_3, e0_3, rfl, wf0_3⟩ := DataW.trod_int Tryd.underlying3 hy0_3
  obtain ⟨lo0_3, hi0_3⟩ := bounds_i64 wf0_3
  simp at e0_0 e0_1 e0_2 e0_3
  subst e0_0 e0_1 e0_2 e0_3
  clear hWt
  obtain ⟨al, hS⟩ := sent hL
  clear hA0 hval0
  refine (Am.law_calls (Am.admitLives_ac (a0_0, a0_1, a0_2, a0_3) lo0_0 hi0_0) hS rfl (Am.rep_cons ⟨#[.int .i64 a0_0, .int .i64 a0_1, .int .i64 a0_2, .int .i64 a0_3], rfl, rfl, fun i hi => match i, hi with | 0, _ => rfl | 1, _ => rfl | 2, _ => rfl | 3, _ => rfl⟩ Am.rep_nil)).mono fun e W' ⟨he, bel⟩ => ?_
  subst he
  exact ⟨_, rfl, _, _, _, [], _, [], hW', trodAll_mk1 (shut_bool Tryd.underlying4 _), (trodAll_cons_mk (Below.trod laidOut (by kernel_rfl) (of_decide_eq_true (by kernel_rfl)) k0 bel lt0) trodAll_mk0), rfl, bel.frame _, fun h => by cases h⟩

end Go.Proofs.YtghgbhekjgincaaDoor.lawAdmitLives
