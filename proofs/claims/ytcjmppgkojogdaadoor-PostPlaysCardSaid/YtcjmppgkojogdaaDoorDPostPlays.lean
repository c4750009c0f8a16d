/- The statement PostPlays: for every input the law returns true, and each argument reads as it read before; the package-level errors are tied to the program's text. -/
import Derived.Test.YtcjmppgkojogdaaDoorRows
import Derived.Test.YtcjmppgkojogdaaDoorM3PostPlays
import Derived.ProofKit
import Derived.OpenShut
import Derived.ShutString
import Derived.ChangeOld
import Derived.LaidMore
import Derived.Lay
import Derived.MakeChecks
import Derived.Stop.Joined

namespace Go.Proofs.YtcjmppgkojogdaaDoor.lawPostPlays
open Go.ChangeShapes Go.WideShapes Go.ChangeAt Go.RowKit
open Go.ChangeMaps (open_string shut_string)

set_option linter.unusedVariables false

theorem own : ownKnob Tryd.prog.godebug = none := by kernel_rfl
theorem laidOut : laidOutB Tryd.prog = true := by kernel_rfl
/-- the start in which the listed variables are laid meets the condition -/
theorem door_met (os : Os) (args : Array Value) : laidMetH Tryd.prog Rows.postPlaysRow.laid ((World.laidAll Tryd.prog os Rows.postPlaysRow.laid).forCall (fun _ _ => 0) ⟨#[], args, []⟩).memory := by
  rw [MakeChecks.laidMetH_plain _ _ _ (by kernel_rfl)]
  exact laidMet_laidAll _ (by kernel_rfl) (by kernel_rfl)

theorem sent {W : World} (h : laidMetH Tryd.prog Rows.postPlaysRow.laid W) : ∃ al, SentL W gs al :=
  sent_of_laid h (by kernel_rfl) (by kernel_rfl) (by kernel_rfl) (fun h1 => absurd h1 (by decide)) (by decide)

set_option maxRecDepth 100000 in
theorem lifted (os : Os) (started : os.Started) (H : Type) (enc : TypeId × Value → H) :
    ReturnsInHanded {} Tryd.checked os 3 .any (fun w args => (Rows.postPlaysSpec.pre enc Tryd.prog Tryd.f3 [] false w args ∧ laidMetH Tryd.prog Rows.postPlaysRow.laid w) ∧ sizedMet enc Tryd.prog Tryd.f3 (OpenSpec.ofChange Rows.postPlaysSpec) false w args)
      (Rows.postPlaysSpec.post enc Tryd.prog Tryd.f3 false true false false) := by
  refine returnsInHanded_of_change_and (C := Tryd.checked) (X := fun w _ => laidMetH Tryd.prog Rows.postPlaysRow.laid w) (fun _ _ _ hh h => h.of_heap hh) own started (by kernel_rfl) Tryd.func3
    (ChangeSpec.witness_shaped (enc := enc) (C := Tryd.checked) (os := os) (X := fun w _ => laidMetH Tryd.prog Rows.postPlaysRow.laid w) false (World.laidAll Tryd.prog os Rows.postPlaysRow.laid) #[.int .i64 0, .slice none 0 0] 8 (World.laidAll_os _ _ _) (World.shaped_of_ZipB (by kernel_rfl) (by kernel_rfl)) (by kernel_rfl) (by kernel_rfl) (by kernel_rfl) (door_met os _)) ?_
  intro W base args ds gs0 before hval0 hW _ hWt hL _
  have hval : ∀ (j : Nat) t v, Tryd.f3.params[j]? = some t → args[j]? = some v → Value.okWide Tryd.prog W .any base t v := hval0
  have hW' := hW
  obtain ⟨p, q, hA0, hV, rfl, hfz, hnd⟩ := hW
  have hA : DataW.TrodAll enc Tryd.prog W 0 (fun _ => true) true Tryd.f3.params.toList args.toList ds p := hA0
  rw [Tryd.params3] at hA hval hWt

  obtain ⟨v0, vs0, d0, ds0, p0, q0, hargs, rfl, rfl, h0, r0⟩ := trodAll_cons hA
  obtain ⟨v1, vs1, d1, ds1, p1, q1, rfl, rfl, rfl, h1, r1⟩ := trodAll_cons r0
  obtain ⟨rfl, rfl, rfl⟩ := trodAll_nil r1
  obtain rfl : args = #[v0, v1] := by cases args; simp_all
  obtain ⟨rfl, rfl⟩ := trodVars_none hV
  have k0 := h0
  have lt0 : ∀ x ∈ p0, x.block < W.heap.size := by obtain ⟨m, hm⟩ := k0; exact DataW.trod_lt m _ _ _ hm
  obtain ⟨ao1, len1, cap1, rfl⟩ := okWide_slice Tryd.underlying22 (hval 1 22 v1 rfl rfl)
  have k1 := h1
  have lt1 : ∀ x ∈ p1, x.block < W.heap.size := by obtain ⟨m, hm⟩ := k1; exact DataW.trod_lt m _ _ _ hm
  obtain ⟨a0, rfl, rfl, rfl, wf0⟩ := open_int Tryd.underlying3 (hval 0 3 v0 rfl rfl) h0
  obtain ⟨lo0, hi0⟩ := bounds_i64 wf0
  obtain ⟨x1, ph1, rep1⟩ := Am.arg_one (Am.opens_slice ((0 : Int), false, ([] : List UInt8), ()) (Am.opens_struct (n := 3) Tryd.underlying36 (by kernel_rfl) (Am.opensF_cons (Am.opens_i64 Tryd.underlying3) (Am.opensF_cons (Am.opens_bool Tryd.underlying4) (Am.opensF_cons (Am.opens_strL Tryd.underlying9) Am.opensF_nil))) (by decide)) Tryd.underlying22 (by kernel_rfl) (by decide)) rfl h1
  clear hWt
  obtain ⟨al, hS⟩ := sent hL
  clear hA0 hval0
  refine (Am.law_calls (Am.postPlays_ac a0 (x1.map fun p => ((p.1, p.2.1, p.2.2.1) : Am.Ac35))) hS rfl (Am.rep_cons rfl (Am.rep_cons (by have := rep1 al; refine Am.CEnt.rs (by simp) (fun i j hi hj => ?_) _ _ _ _ this; rw [Am.map_getD _ _ (0, false, [], ()) _ hi]; rcases j with _ | _ | _ | j <;> first | exact Am.CEnt.refl _ | omega) Am.rep_nil))).mono fun e W' ⟨he, bel⟩ => ?_
  subst he
  exact ⟨_, rfl, _, _, _, [], _, [], hW', trodAll_mk1 (shut_bool Tryd.underlying4 _), (trodAll_cons_mk (Below.trod laidOut (by kernel_rfl) (of_decide_eq_true (by kernel_rfl)) k0 bel lt0) (trodAll_cons_mk (Below.trod laidOut (by kernel_rfl) (of_decide_eq_true (by kernel_rfl)) k1 bel lt1) trodAll_mk0)), rfl, bel.frame _, fun h => by cases h⟩

end Go.Proofs.YtcjmppgkojogdaaDoor.lawPostPlays
