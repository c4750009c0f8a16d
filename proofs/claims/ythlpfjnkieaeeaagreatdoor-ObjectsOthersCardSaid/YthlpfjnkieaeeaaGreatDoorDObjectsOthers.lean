/- The statement ObjectsOthers: for every input the law returns true, and each argument reads as it read before; the package-level errors are tied to the program's text. -/
import Derived.Test.YthlpfjnkieaeeaaGreatDoorRows
import Derived.Test.YthlpfjnkieaeeaaGreatDoorM13ObjectsOthers
import Derived.ProofKit
import Derived.OpenShut
import Derived.ShutString
import Derived.ChangeOld
import Derived.LaidMore
import Derived.Lay
import Derived.MakeChecks
import Derived.Stop.Joined

namespace Go.Proofs.YthlpfjnkieaeeaaGreatDoor.lawObjectsOthers
open Go.ChangeShapes Go.WideShapes Go.ChangeAt Go.RowKit
open Go.ChangeMaps (open_string shut_string)

set_option linter.unusedVariables false

theorem own : ownKnob Tryz.prog.godebug = none := by kernel_rfl
theorem laidOut : laidOutB Tryz.prog = true := by kernel_rfl
/-- the start in which the listed variables are laid meets the condition -/
theorem door_met (os : Os) (args : Array Value) : laidMetH Tryz.prog Rows.objectsOthersRow.laid ((World.laidAll Tryz.prog os Rows.objectsOthersRow.laid).forCall (fun _ _ => 0) ⟨#[], args, []⟩).memory := by
  rw [MakeChecks.laidMetH_plain _ _ _ (by kernel_rfl)]
  exact laidMet_laidAll _ (by kernel_rfl) (by kernel_rfl)

theorem sent {W : World} (h : laidMetH Tryz.prog Rows.objectsOthersRow.laid W) : ∃ al, SentL W gsT al :=
  sent_of_laid h (by kernel_rfl) (by kernel_rfl) (by kernel_rfl) (fun _ _ => tabs_of_laid h (by kernel_rfl) (i := 29) (j := 0) (by kernel_rfl) (by kernel_rfl)) (by decide)

set_option maxRecDepth 100000 in
theorem lifted (os : Os) (started : os.Started) (H : Type) (enc : TypeId × Value → H) :
    ReturnsInHanded {} Tryz.checked os 7 .any (fun w args => (Rows.objectsOthersSpec.pre enc Tryz.prog Tryz.f7 [] false w args ∧ laidMetH Tryz.prog Rows.objectsOthersRow.laid w) ∧ sizedMet enc Tryz.prog Tryz.f7 (OpenSpec.ofChange Rows.objectsOthersSpec) false w args)
      (Rows.objectsOthersSpec.post enc Tryz.prog Tryz.f7 false true false false) := by
  refine returnsInHanded_of_change_and (C := Tryz.checked) (X := fun w _ => laidMetH Tryz.prog Rows.objectsOthersRow.laid w) (fun _ _ _ hh h => h.of_heap hh) own started (by kernel_rfl) Tryz.func7
    (ChangeSpec.witness_shaped (enc := enc) (C := Tryz.checked) (os := os) (X := fun w _ => laidMetH Tryz.prog Rows.objectsOthersRow.laid w) false (World.laidAll Tryz.prog os Rows.objectsOthersRow.laid) #[.agg #[.int .i64 0, .int .i64 0, .int .i64 0, .int .i64 0], .agg #[.string ByteArray.empty, .slice none 0 0, .int .i64 0], .agg #[.slice none 0 0, .slice none 0 0]] 8 (World.laidAll_os _ _ _) (World.shaped_of_ZipB (by kernel_rfl) (by kernel_rfl)) (by kernel_rfl) (by kernel_rfl) (by kernel_rfl) (door_met os _)) ?_
  intro W base args ds gs0 before hval0 hW _ hWt hL _
  have hval : ∀ (j : Nat) t v, Tryz.f7.params[j]? = some t → args[j]? = some v → Value.okWide Tryz.prog W .any base t v := hval0
  have hW' := hW
  obtain ⟨p, q, hA0, hV, rfl, hfz, hnd⟩ := hW
  have hA : DataW.TrodAll enc Tryz.prog W 0 (fun _ => true) true Tryz.f7.params.toList args.toList ds p := hA0
  rw [Tryz.params7] at hA hval hWt

  obtain ⟨v0, vs0, d0, ds0, p0, q0, hargs, rfl, rfl, h0, r0⟩ := trodAll_cons hA
  obtain ⟨v1, vs1, d1, ds1, p1, q1, rfl, rfl, rfl, h1, r1⟩ := trodAll_cons r0
  obtain ⟨v2, vs2, d2, ds2, p2, q2, rfl, rfl, rfl, h2, r2⟩ := trodAll_cons r1
  obtain ⟨rfl, rfl, rfl⟩ := trodAll_nil r2
  obtain rfl : args = #[v0, v1, v2] := by cases args; simp_all
  obtain ⟨rfl, rfl⟩ := trodVars_none hV
  obtain ⟨cs0, rfl, sz0⟩ := okWide_struct Tryz.underlying67 (hval 0 67 v0 rfl rfl)
  have k0 := h0
  have lt0 : ∀ x ∈ p0, x.block < W.heap.size := by obtain ⟨m, hm⟩ := k0; exact DataW.trod_lt m _ _ _ hm
  obtain ⟨cs1, rfl, sz1⟩ := okWide_struct Tryz.underlying69 (hval 1 69 v1 rfl rfl)
  have k1 := h1
  have lt1 : ∀ x ∈ p1, x.block < W.heap.size := by obtain ⟨m, hm⟩ := k1; exact DataW.trod_lt m _ _ _ hm
  obtain ⟨cs2, rfl, sz2⟩ := okWide_struct Tryz.underlying71 (hval 2 71 v2 rfl rfl)
  have k2 := h2
  have lt2 : ∀ x ∈ p2, x.block < W.heap.size := by obtain ⟨m, hm⟩ := k2; exact DataW.trod_lt m _ _ _ hm
  obtain ⟨x0, ph0, rep0⟩ := Am.arg_agg (Am.opens_struct (n := 4) Tryz.underlying67 (by kernel_rfl) (Am.opensF_cons (Am.opens_i64 Tryz.underlying3) (Am.opensF_cons (Am.opens_i64 Tryz.underlying3) (Am.opensF_cons (Am.opens_i64 Tryz.underlying3) (Am.opensF_cons (Am.opens_i64 Tryz.underlying3) Am.opensF_nil)))) (by decide)) h0
  obtain ⟨x1, ph1, rep1⟩ := Am.arg_agg (Am.opens_struct (n := 3) Tryz.underlying69 (by kernel_rfl) (Am.opensF_cons (Am.opens_strL Tryz.underlying9) (Am.opensF_cons (Am.opens_slice (0 : UInt8) (Am.opens_u8 Tryz.underlying5) Tryz.underlying22 (by kernel_rfl) (by decide)) (Am.opensF_cons (Am.opens_i64 Tryz.underlying3) Am.opensF_nil))) (by decide)) h1
  obtain ⟨x2, ph2, rep2⟩ := Am.arg_agg (Am.opens_struct (n := 2) Tryz.underlying71 (by kernel_rfl) (Am.opensF_cons (Am.opens_slice (0 : UInt8) (Am.opens_u8 Tryz.underlying5) Tryz.underlying22 (by kernel_rfl) (by decide)) (Am.opensF_cons (Am.opens_slice (0 : UInt8) (Am.opens_u8 Tryz.underlying5) Tryz.underlying22 (by kernel_rfl) (by decide)) Am.opensF_nil)) (by decide)) h2
  clear hWt
  obtain ⟨al, hS⟩ := sent hL
  clear hA0 hval0
  refine (Am.law_calls (Am.objectsOthers_ac x0.1 x0.2.1 x0.2.2.1 x0.2.2.2.1 x1.1 x1.2.1 x1.2.2.1 x2.1 x2.2.1) hS rfl (Am.rep_cons (by have := rep0 al; refine Am.CEnt.agg rfl (fun j hj => ?_) _ _ _ _ this; rcases j with _ | _ | _ | _ | j <;> exact Am.CEnt.refl _) (Am.rep_cons (by have := rep1 al; refine Am.CEnt.agg rfl (fun j hj => ?_) _ _ _ _ this; rcases j with _ | _ | _ | j <;> exact Am.CEnt.refl _) (Am.rep_cons (by have := rep2 al; refine Am.CEnt.agg rfl (fun j hj => ?_) _ _ _ _ this; rcases j with _ | _ | j <;> exact Am.CEnt.refl _) Am.rep_nil)))).mono fun e W' ⟨he, bel⟩ => ?_
  subst he
  exact ⟨_, rfl, _, _, _, [], _, [], hW', trodAll_mk1 (shut_bool Tryz.underlying4 _), (trodAll_cons_mk (Below.trod laidOut (by kernel_rfl) (of_decide_eq_true (by kernel_rfl)) k0 bel lt0) (trodAll_cons_mk (Below.trod laidOut (by kernel_rfl) (of_decide_eq_true (by kernel_rfl)) k1 bel lt1) (trodAll_cons_mk (Below.trod laidOut (by kernel_rfl) (of_decide_eq_true (by kernel_rfl)) k2 bel lt2) trodAll_mk0))), rfl, bel.frame _, fun h => by cases h⟩

end Go.Proofs.YthlpfjnkieaeeaaGreatDoor.lawObjectsOthers
