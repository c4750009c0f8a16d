/- The statement DerBack: for every input the law returns true, and each argument reads as it read before; the package-level errors are tied to the program's text. -/
import Derived.Test.YtgnjjenalebiaaaGreatDoorRows
import Derived.Test.YtgnjjenalebiaaaGreatDoorM6DerBack
import Derived.ProofKit
import Derived.OpenShut
import Derived.ShutString
import Derived.ChangeOld
import Derived.LaidMore
import Derived.Lay
import Derived.MakeChecks
import Derived.Stop.Joined

namespace Go.Proofs.YtgnjjenalebiaaaGreatDoor.lawDerBack
open Go.ChangeShapes Go.WideShapes Go.ChangeAt Go.RowKit
open Go.ChangeMaps (open_string shut_string)

set_option linter.unusedVariables false

theorem own : ownKnob Tryz.prog.godebug = none := by kernel_rfl
theorem laidOut : laidOutB Tryz.prog = true := by kernel_rfl
/-- the start in which the listed variables are laid meets the condition -/
theorem door_met (os : Os) (args : Array Value) : laidMetH Tryz.prog Rows.derBackRow.laid ((World.laidAll Tryz.prog os Rows.derBackRow.laid).forCall (fun _ _ => 0) ⟨#[], args, []⟩).memory := by
  rw [MakeChecks.laidMetH_plain _ _ _ (by kernel_rfl)]
  exact laidMet_laidAll _ (by kernel_rfl) (by kernel_rfl)

/-- the row lists these alone -/
def g1 : List Nat := [3, 4, 2, 5, 6, 7, 8, 9, 1] ++ [tabA, tabB]
/-- the table, the others unlisted -/
def gP : List Nat := [3, 4, 2, 5, 6, 7, 8, 9, 2000000010, 2000000011, 2000000012, 2000000013, 2000000014, 2000000015, 2000000016, 2000000017, 2000000018, 2000000019, 2000000020, 2000000021, 2000000022, 2000000023, 2000000024, 1, 2000000025, 2000000026, 2000000027, 2000000000] ++ [tabA, tabB]
instance hasErrRange : HasE gP 0 := ⟨by decide, fun g hg => by obtain rfl := Option.some.inj hg; decide⟩
instance hasErrShort : HasE gP 1 := ⟨by decide, fun g hg => by obtain rfl := Option.some.inj hg; decide⟩
instance hasErrLong : HasE gP 2 := ⟨by decide, fun g hg => by obtain rfl := Option.some.inj hg; decide⟩
instance hasErrForm : HasE gP 3 := ⟨by decide, fun g hg => by obtain rfl := Option.some.inj hg; decide⟩
instance hasErrTag : HasE gP 4 := ⟨by decide, fun g hg => by obtain rfl := Option.some.inj hg; decide⟩
instance hasErrDepth : HasE gP 5 := ⟨by decide, fun g hg => by obtain rfl := Option.some.inj hg; decide⟩
instance hasErrOrder : HasE gP 6 := ⟨by decide, fun g hg => by obtain rfl := Option.some.inj hg; decide⟩
instance hasErrText : HasE gP 7 := ⟨by decide, fun g hg => by obtain rfl := Option.some.inj hg; decide⟩
instance hasErrState : HasE gP 23 := ⟨by decide, fun g hg => by obtain rfl := Option.some.inj hg; decide⟩
instance okP : Ok2 gP := ⟨inferInstance, inferInstance⟩
instance ok9P : Ok9 gP := ⟨inferInstance, inferInstance, inferInstance, inferInstance, inferInstance, inferInstance, inferInstance, inferInstance, inferInstance⟩
instance okTP : Am.OkT gP := ⟨by decide, by decide⟩
theorem sent {W : World} (h : laidMetH Tryz.prog Rows.derBackRow.laid W) : ∃ al, SentL W gP al := by
  obtain ⟨al1, h1⟩ := sent_of_laid (g0 := g1) h (by kernel_rfl) (by kernel_rfl) (by kernel_rfl) (fun _ _ => tabs_of_laid h (by kernel_rfl) (i := 10) (j := 0) (by kernel_rfl) (by kernel_rfl)) (by decide)
  exact ⟨_, sent_part [0, 1, 2, 3, 4, 5, 6, 7, 0, 0, 0, 0, 0, 0, 0, 0, 0, 0, 0, 0, 0, 0, 0, 8, 0, 0, 0, 0] h1 (by decide) (by decide) (by decide) (by decide) (by decide)⟩

set_option maxRecDepth 100000 in
theorem lifted (os : Os) (started : os.Started) (H : Type) (enc : TypeId × Value → H) :
    ReturnsInHanded {} Tryz.checked os 7 .any (fun w args => (Rows.derBackSpec.pre enc Tryz.prog Tryz.f7 [] false w args ∧ laidMetH Tryz.prog Rows.derBackRow.laid w) ∧ sizedMet enc Tryz.prog Tryz.f7 (OpenSpec.ofChange Rows.derBackSpec) false w args)
      (Rows.derBackSpec.post enc Tryz.prog Tryz.f7 false true false false) := by
  refine returnsInHanded_of_change_and (C := Tryz.checked) (X := fun w _ => laidMetH Tryz.prog Rows.derBackRow.laid w) (fun _ _ _ hh h => h.of_heap hh) own started (by kernel_rfl) Tryz.func7
    (ChangeSpec.witness_shaped (enc := enc) (C := Tryz.checked) (os := os) (X := fun w _ => laidMetH Tryz.prog Rows.derBackRow.laid w) false (World.laidAll Tryz.prog os Rows.derBackRow.laid) #[.slice none 0 0] 8 (World.laidAll_os _ _ _) (World.shaped_of_ZipB (by kernel_rfl) (by kernel_rfl)) (by kernel_rfl) (by kernel_rfl) (by kernel_rfl) (door_met os _)) ?_
  intro W base args ds gs0 before hval0 hW _ hWt hL _
  have hval : ∀ (j : Nat) t v, Tryz.f7.params[j]? = some t → args[j]? = some v → Value.okWide Tryz.prog W .any base t v := hval0
  have hW' := hW
  obtain ⟨p, q, hA0, hV, rfl, hfz, hnd⟩ := hW
  have hA : DataW.TrodAll enc Tryz.prog W 0 (fun _ => true) true Tryz.f7.params.toList args.toList ds p := hA0
  rw [Tryz.params7] at hA hval hWt

  obtain ⟨v0, vs0, d0, ds0, p0, q0, hargs, rfl, rfl, h0, r0⟩ := trodAll_cons hA
  obtain ⟨rfl, rfl, rfl⟩ := trodAll_nil r0
  obtain rfl : args = #[v0] := by cases args; simp_all
  obtain ⟨rfl, rfl⟩ := trodVars_none hV
  obtain ⟨ao0, len0, cap0, rfl⟩ := okWide_slice Tryz.underlying61 (hval 0 61 v0 rfl rfl)
  have k0 := h0
  have lt0 : ∀ x ∈ p0, x.block < W.heap.size := by obtain ⟨m, hm⟩ := k0; exact DataW.trod_lt m _ _ _ hm
  obtain ⟨x0, ph0, rep0⟩ := Am.arg_one (Am.opens_slice ((0 : Int), (0 : Int), false, [], ([] : List UInt8), ()) (Am.opens_struct (n := 5) Tryz.underlying43 (by kernel_rfl) (Am.opensF_cons (Am.opens_i64 Tryz.underlying3) (Am.opensF_cons (Am.opens_i64 Tryz.underlying3) (Am.opensF_cons (Am.opens_bool Tryz.underlying4) (Am.opensF_cons (Am.opens_slice (0 : UInt8) (Am.opens_u8 Tryz.underlying5) Tryz.underlying26 (by kernel_rfl) (by decide)) (Am.opensF_cons (Am.opens_strL Tryz.underlying9) Am.opensF_nil))))) (by decide)) Tryz.underlying61 (by kernel_rfl) (by decide)) rfl h0
  clear hWt
  obtain ⟨al, hS⟩ := sent hL
  clear hA0 hval0
  refine (Am.law_calls (Am.derBack_ac (x0.map fun p => (⟨p.1, p.2.1, p.2.2.1, p.2.2.2.1, p.2.2.2.2.1⟩ : Am.VV)) (fun v hv => by obtain ⟨p, hp, rfl⟩ := List.mem_map.1 hv; exact (ph0.2 p hp).2.1)) hS rfl (Am.rep_cons (by have := rep0 al; refine Am.CEnt.rs (by simp) (fun i j hi hj => ?_) _ _ _ _ this; rw [Am.map_getD _ _ (0, 0, false, [], [], ()) _ hi]; rcases j with _ | _ | _ | _ | _ | j <;> first | exact Am.CEnt.refl _ | omega) Am.rep_nil)).mono fun e W' ⟨he, bel⟩ => ?_
  subst he
  exact ⟨_, rfl, _, _, _, [], _, [], hW', trodAll_mk1 (shut_bool Tryz.underlying4 _), (trodAll_cons_mk (Below.trod laidOut (by kernel_rfl) (of_decide_eq_true (by kernel_rfl)) k0 bel lt0) trodAll_mk0), rfl, bel.frame _, fun h => by cases h⟩

end Go.Proofs.YtgnjjenalebiaaaGreatDoor.lawDerBack
