/- The statement RequestBody: for every input the law returns true, and each argument reads as it read before; the package-level errors are tied to the program's text. -/
import Derived.Test.YtghminnpfnkbjaaGreatDoorRows
import Derived.Test.YtghminnpfnkbjaaGreatDoorM15RequestBody
import Derived.ProofKit
import Derived.OpenShut
import Derived.ShutString
import Derived.ChangeOld
import Derived.LaidMore
import Derived.Lay
import Derived.MakeChecks
import Derived.Stop.Joined

namespace Go.Proofs.YtghminnpfnkbjaaGreatDoor.lawRequestBody
open Go.ChangeShapes Go.WideShapes Go.ChangeAt Go.RowKit
open Go.ChangeMaps (open_string shut_string)

set_option linter.unusedVariables false

theorem own : ownKnob Tryz.prog.godebug = none := by kernel_rfl
theorem laidOut : laidOutB Tryz.prog = true := by kernel_rfl
/-- the start in which the listed variables are laid meets the condition -/
theorem door_met (os : Os) (args : Array Value) : laidMetH Tryz.prog Rows.requestBodyRow.laid ((World.laidAll Tryz.prog os Rows.requestBodyRow.laid).forCall (fun _ _ => 0) ⟨#[], args, []⟩).memory := by
  rw [MakeChecks.laidMetH_plain _ _ _ (by kernel_rfl)]
  exact laidMet_laidAll _ (by kernel_rfl) (by kernel_rfl)

instance okTS : Am.rz Xy := ⟨by decide, by decide⟩
theorem sent {W : World} (h : laidMetH Tryz.prog Rows.requestBodyRow.laid W) : ∃ al, gc W Xy al :=
  Bx h (by kernel_rfl) (by kernel_rfl) (by kernel_rfl) (fun _ _ => Bp h (by kernel_rfl) (i := 31) (j := 0) (by kernel_rfl) (by kernel_rfl)) jD (Bq h (by kernel_rfl) (i := 30) (j := 29) (by kernel_rfl) (by kernel_rfl))

set_option maxRecDepth 100000 in
theorem lifted (os : Os) (started : os.Started) (H : Type) (enc : TypeId × Value → H) :
    ReturnsInHanded {} Tryz.checked os 4 .any (fun w args => (Rows.requestBodySpec.pre enc Tryz.prog Tryz.f4 [] false w args ∧ laidMetH Tryz.prog Rows.requestBodyRow.laid w) ∧ sizedMet enc Tryz.prog Tryz.f4 (OpenSpec.ofChange Rows.requestBodySpec) false w args)
      (Rows.requestBodySpec.post enc Tryz.prog Tryz.f4 false true false false) := by
  refine returnsInHanded_of_change_and (C := Tryz.checked) (X := fun w _ => laidMetH Tryz.prog Rows.requestBodyRow.laid w) (fun _ _ _ hh h => h.of_heap hh) own started (by kernel_rfl) Tryz.func4
    (ChangeSpec.witness_shaped (enc := enc) (C := Tryz.checked) (os := os) (X := fun w _ => laidMetH Tryz.prog Rows.requestBodyRow.laid w) false (World.laidAll Tryz.prog os Rows.requestBodyRow.laid) #[.agg #[.int .i64 0, .string ByteArray.empty, .string ByteArray.empty, .string ByteArray.empty, .int .i64 0, .int .i64 0, .slice none 0 0]] 8 (World.laidAll_os _ _ _) (World.shaped_of_ZipB (by kernel_rfl) (by kernel_rfl)) (by kernel_rfl) (by kernel_rfl) (by kernel_rfl) (door_met os _)) ?_
  intro W base args ds gs0 before hval0 hW _ hWt hL _
  have hval : ∀ (j : Nat) t v, Tryz.f4.params[j]? = some t → args[j]? = some v → Value.okWide Tryz.prog W .any base t v := hval0
  have hW' := hW
  obtain ⟨p, q, hA0, hV, rfl, hfz, hnd⟩ := hW
  have hA : DataW.TrodAll enc Tryz.prog W 0 (fun _ => true) true Tryz.f4.params.toList args.toList ds p := hA0
  rw [Tryz.params4] at hA hval hWt

  obtain ⟨v0, vs0, d0, ds0, p0, q0, hargs, rfl, rfl, h0, r0⟩ := trodAll_cons hA
  obtain ⟨rfl, rfl, rfl⟩ := trodAll_nil r0
  obtain rfl : args = #[v0] := by cases args; simp_all
  obtain ⟨rfl, rfl⟩ := trodVars_none hV
  obtain ⟨cs0, rfl, sz0⟩ := okWide_struct Tryz.underlying33 (hval 0 33 v0 rfl rfl)
  have k0 := h0
  have lt0 : ∀ x ∈ p0, x.block < W.heap.size := by obtain ⟨m, hm⟩ := k0; exact DataW.trod_lt m _ _ _ hm
  obtain ⟨x0, ph0, rep0⟩ := Am.Tf (Am.sZ (n := 7) Tryz.underlying33 (by kernel_rfl) (Am.fM (Am.sZ (n := 3) Tryz.underlying31 (by kernel_rfl) (Am.fM (Am.uD Tryz.underlying3) (Am.fM (Am.nY Tryz.underlying9) (Am.fM (Am.nY Tryz.underlying9) Am.xI))) jD) (Am.fM (Am.nY Tryz.underlying9) (Am.fM (Am.uD Tryz.underlying3) (Am.fM (Am.uD Tryz.underlying3) (Am.fM (Am.DE ([] : List UInt8) (Am.nY Tryz.underlying9) Tryz.underlying27 (by kernel_rfl) jD) Am.xI))))) jD) h0
  clear hWt
  obtain ⟨al, hS⟩ := sent hL
  clear hA0 hval0
  refine (Am.law_calls (Am.xp ((x0.1.1, x0.1.2.1, x0.1.2.2.1), x0.2.1, x0.2.2.1, x0.2.2.2.1, x0.2.2.2.2.1)) hS rfl (Am.MK (by have := rep0 al; refine Am.aa.agg rfl (fun j hj => ?_) _ _ _ _ this; rcases j with _ | _ | _ | _ | _ | _ | _ | j <;> first | exact Am.aa.refl _ | omega) Am.Q8)).mono fun e W' ⟨he, bel⟩ => ?_
  subst he
  exact ⟨_, rfl, _, _, _, [], _, [], hW', trodAll_mk1 (shut_bool Tryz.underlying4 _), (trodAll_cons_mk (Below.trod laidOut (by kernel_rfl) (of_decide_eq_true (by kernel_rfl)) k0 bel lt0) trodAll_mk0), rfl, bel.frame _, fun h => by cases h⟩

end Go.Proofs.YtghminnpfnkbjaaGreatDoor.lawRequestBody
