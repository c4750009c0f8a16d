/- The statement BundleSteps: for every input the law returns true, and each argument reads as it read before; the package-level errors are tied to the program's text. -/
import Derived.Test.YtnijncmifjnifaaGreatDoorRows
import Derived.Test.YtnijncmifjnifaaGreatDoorM8BundleSteps
import Derived.ProofKit
import Derived.OpenShut
import Derived.ShutString
import Derived.ChangeOld
import Derived.LaidMore
import Derived.Lay
import Derived.MakeChecks
import Derived.Stop.Joined

namespace Go.Proofs.YtnijncmifjnifaaGreatDoor.lawBundleSteps
open Go.ChangeShapes Go.WideShapes Go.ChangeAt Go.RowKit
open Go.ChangeMaps (open_string shut_string)

set_option linter.unusedVariables false

theorem own : ownKnob Tryz.prog.godebug = none := by kernel_rfl
theorem laidOut : laidOutB Tryz.prog = true := by kernel_rfl
/-- the start in which the listed variables are laid meets the condition -/
theorem door_met (os : Os) (args : Array Value) : laidMetH Tryz.prog Rows.bundleStepsRow.laid ((World.laidAll Tryz.prog os Rows.bundleStepsRow.laid).forCall (fun _ _ => 0) ⟨#[], args, []⟩).memory := by
  rw [MakeChecks.laidMetH_plain _ _ _ (by kernel_rfl)]
  exact laidMet_laidAll _ (by kernel_rfl) (by kernel_rfl)

theorem sent {W : World} (h : laidMetH Tryz.prog Rows.bundleStepsRow.laid W) : ∃ al, cd W Eg al :=
  ov h (by kernel_rfl) (by kernel_rfl) (by kernel_rfl) (fun _ _ => og h (by kernel_rfl) (i := 29) (j := 0) (by kernel_rfl) (by kernel_rfl)) T (fun t ht hl => absurd hl ((by decide : ∀ t ∈ oh, ¬ t.1 ∈ iB _) t ht))

set_option maxRecDepth 100000 in
theorem lifted (os : Os) (started : os.Started) (H : Type) (enc : TypeId × Value → H) :
    ReturnsInHanded {} Tryz.checked os 3 .any (fun w args => (Rows.bundleStepsSpec.pre enc Tryz.prog Tryz.f3 [] false w args ∧ laidMetH Tryz.prog Rows.bundleStepsRow.laid w) ∧ sizedMet enc Tryz.prog Tryz.f3 (OpenSpec.ofChange Rows.bundleStepsSpec) false w args)
      (Rows.bundleStepsSpec.post enc Tryz.prog Tryz.f3 false true false false) := by
  refine returnsInHanded_of_change_and (C := Tryz.checked) (X := fun w _ => laidMetH Tryz.prog Rows.bundleStepsRow.laid w) (fun _ _ _ hh h => h.of_heap hh) own started (by kernel_rfl) Tryz.func3
    (ChangeSpec.witness_shaped (enc := enc) (C := Tryz.checked) (os := os) (X := fun w _ => laidMetH Tryz.prog Rows.bundleStepsRow.laid w) false (World.laidAll Tryz.prog os Rows.bundleStepsRow.laid) #[.agg #[.int .i64 0, .string ByteArray.empty, .slice none 0 0], .slice none 0 0] 8 (World.laidAll_os _ _ _) (World.shaped_of_ZipB (by kernel_rfl) (by kernel_rfl)) (by kernel_rfl) (by kernel_rfl) (by kernel_rfl) (door_met os _)) ?_
  intro W base args ds gs0 before hval0 hW _ hWt hL _
  have hval : ∀ (j : Nat) t v, Tryz.f3.params[j]? = some t → args[j]? = some v → Value.okWide Tryz.prog W .any base t v := hval0
  have hW' := hW
  obtain ⟨p, q, hA0, hV, rfl, hfz, hnd⟩ := hW
  have hA : DataW.TrodAll enc Tryz.prog W 0 (fun _ => true) true Tryz.f3.params.toList args.toList ds p := hA0
  rw [Tryz.params3] at hA hval hWt

  obtain ⟨v0, vs0, d0, ds0, p0, q0, hargs, rfl, rfl, h0, r0⟩ := trodAll_cons hA
  obtain ⟨v1, vs1, d1, ds1, p1, q1, rfl, rfl, rfl, h1, r1⟩ := trodAll_cons r0
  obtain ⟨rfl, rfl, rfl⟩ := trodAll_nil r1
  obtain rfl : args = #[v0, v1] := by cases args; simp_all
  obtain ⟨rfl, rfl⟩ := trodVars_none hV
  obtain ⟨cs0, rfl, sz0⟩ := okWide_struct Tryz.underlying24 (hval 0 24 v0 rfl rfl)
  have k0 := h0
  have lt0 : ∀ x ∈ p0, x.block < W.heap.size := by obtain ⟨m, hm⟩ := k0; exact DataW.trod_lt m _ _ _ hm
  obtain ⟨ao1, len1, cap1, rfl⟩ := okWide_slice Tryz.underlying25 (hval 1 25 v1 rfl rfl)
  have k1 := h1
  have lt1 : ∀ x ∈ p1, x.block < W.heap.size := by obtain ⟨m, hm⟩ := k1; exact DataW.trod_lt m _ _ _ hm
  obtain ⟨x0, ph0, rep0⟩ := Am.An (Am.eb (n := 3) Tryz.underlying24 (by kernel_rfl) (Am.aM (Am.dB Tryz.underlying3) (Am.aM (Am.iL Tryz.underlying9) (Am.aM (Am.kM ((0 : Int), ([] : List UInt8), (0 : Int), (0 : Int), ()) (Am.eb (n := 4) Tryz.underlying33 (by kernel_rfl) (Am.aM (Am.dB Tryz.underlying3) (Am.aM (Am.iL Tryz.underlying9) (Am.aM (Am.dB Tryz.underlying3) (Am.aM (Am.dB Tryz.underlying3) Am.fP)))) T) Tryz.underlying22 (by kernel_rfl) T) Am.fP))) T) h0
  obtain ⟨x1, ph1, rep1⟩ := Am.Al (Am.kM (false, ((0 : Int), ([] : List UInt8), (0 : Int), (0 : Int), ()), ()) (Am.eb (n := 5) Tryz.underlying35 (by kernel_rfl) (Am.aM (Am.rh Tryz.underlying4) (Am.aM (Am.eb (n := 4) Tryz.underlying33 (by kernel_rfl) (Am.aM (Am.dB Tryz.underlying3) (Am.aM (Am.iL Tryz.underlying9) (Am.aM (Am.dB Tryz.underlying3) (Am.aM (Am.dB Tryz.underlying3) Am.fP)))) T) Am.fP)) T) Tryz.underlying25 (by kernel_rfl) T) rfl h1
  clear hWt
  obtain ⟨al, hS⟩ := sent hL
  clear hA0 hval0
  refine (Am.law_calls (Am.ml (x0.1, x0.2.1, x0.2.2.1.map fun p => ((p.1, p.2.1, p.2.2.1, p.2.2.2.1) : Am.N4)) (x1.map fun p => ((p.1, (p.2.1.1, p.2.1.2.1, p.2.1.2.2.1, p.2.1.2.2.2.1)) : Am.As)) ph0.1.1) hS rfl (Am.pC (by have := rep0 al; refine Am.J.agg (f := _) (g := Am.bN _) rfl (fun m hm => ?_) _ _ _ _ this; rcases m with _ | _ | _ | m; exact Am.J.refl _; exact Am.J.refl _; (refine Am.J.rs (by simp) (fun i j hi hj => ?_); rw [Am.pU _ _ ((0 : Int), ([] : List UInt8), (0 : Int), (0 : Int), ()) _ hi]; rcases j with _ | _ | _ | _ | j <;> first | exact Am.J.refl _ | omega); omega) (Am.pC (by have := rep1 al; refine Am.J.rs (by simp) (fun i j hi hj => ?_) _ _ _ _ this; rw [Am.pU _ _ (false, ((0 : Int), ([] : List UInt8), (0 : Int), (0 : Int), ()), ()) _ hi]; rcases j with _ | _ | _ | _ | _ | j <;> first | exact Am.J.refl _ | omega) Am.yJ))).mono fun e W' ⟨he, bel⟩ => ?_
  subst he
  exact ⟨_, rfl, _, _, _, [], _, [], hW', trodAll_mk1 (shut_bool Tryz.underlying4 _), (trodAll_cons_mk (Below.trod laidOut (by kernel_rfl) (of_decide_eq_true (by kernel_rfl)) k0 bel lt0) (trodAll_cons_mk (Below.trod laidOut (by kernel_rfl) (of_decide_eq_true (by kernel_rfl)) k1 bel lt1) trodAll_mk0)), rfl, bel.frame _, fun h => by cases h⟩

end Go.Proofs.YtnijncmifjnifaaGreatDoor.lawBundleSteps
