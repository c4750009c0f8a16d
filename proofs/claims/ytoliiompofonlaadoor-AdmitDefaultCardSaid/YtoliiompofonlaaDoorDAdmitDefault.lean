/- The statement AdmitDefault: for every input the law returns true, and each argument reads as it read before; the package-level errors are tied to the program's text. -/
import Derived.Test.YtoliiompofonlaaDoorRows
import Derived.Test.YtoliiompofonlaaDoorL23b
import Derived.Test.YtoliiompofonlaaDoorLaid
import Derived.ProofKit
import Derived.OpenShut
import Derived.ShutString
import Derived.ChangeOld
import Derived.LaidMore
import Derived.Lay
import Derived.MakeChecks
import Derived.Stop.Joined

import Derived.Test.YtoliiompofonlaaDoorOpen2
namespace Go.Proofs.YtoliiompofonlaaDoor.lawAdmitDefault
open Go.ChangeShapes Go.WideShapes Go.ChangeAt Go.RowKit
open Go.ChangeMaps (open_string shut_string)

set_option linter.unusedVariables false

theorem own : ownKnob Tryd.prog.godebug = none := by kernel_rfl
theorem laidOut : laidOutB Tryd.prog = true := by kernel_rfl
/-- the start in which the listed variables are laid meets the condition -/
theorem door_met (os : Os) (args : Array Value) : laidMetH Tryd.prog Rows.admitDefaultRow.laid ((World.laidAll Tryd.prog os Rows.admitDefaultRow.laid).forCall (fun _ _ => 0) ⟨#[], args, []⟩).memory := by
  rw [MakeChecks.laidMetH_plain _ _ _ (by kernel_rfl)]
  exact laidMet_laidAll _ (by kernel_rfl) (by kernel_rfl)

theorem sent {W : World} (h : laidMetH Tryd.prog Rows.admitDefaultRow.laid W) : ∃ al, SentL W gs al :=
  sent_of_laid h (by kernel_rfl) (by kernel_rfl) (by kernel_rfl) (fun h1 => absurd h1 (by decide)) (by decide)

set_option maxRecDepth 100000 in
theorem lifted (os : Os) (started : os.Started) (H : Type) (enc : TypeId × Value → H) :
    ReturnsInHanded {} Tryd.checked os 3 .any (fun w args => (Rows.admitDefaultSpec.pre enc Tryd.prog Tryd.f3 [] false w args ∧ laidMetH Tryd.prog Rows.admitDefaultRow.laid w) ∧ sizedMet enc Tryd.prog Tryd.f3 (OpenSpec.ofChange Rows.admitDefaultSpec) false w args)
      (Rows.admitDefaultSpec.post enc Tryd.prog Tryd.f3 false true false false) := by
  refine returnsInHanded_of_change_and (C := Tryd.checked) (X := fun w _ => laidMetH Tryd.prog Rows.admitDefaultRow.laid w) (fun _ _ _ hh h => h.of_heap hh) own started (by kernel_rfl) Tryd.func3
    (ChangeSpec.witness_shaped (enc := enc) (C := Tryd.checked) (os := os) (X := fun w _ => laidMetH Tryd.prog Rows.admitDefaultRow.laid w) false (World.laidAll Tryd.prog os Rows.admitDefaultRow.laid) #[.agg #[.int .i64 0, .string ByteArray.empty, .string ByteArray.empty], .agg #[.int .i64 0, .string ByteArray.empty, .string ByteArray.empty, .string ByteArray.empty, .int .i64 0, .int .i64 0, .slice none 0 0]] 8 (World.laidAll_os _ _ _) (World.shaped_of_ZipB (by kernel_rfl) (by kernel_rfl)) (by kernel_rfl) (by kernel_rfl) (by kernel_rfl) (door_met os _)) ?_
  intro W base args ds gs0 before hval0 hW _ hWt hL _
  have hval : ∀ (j : Nat) t v, Tryd.f3.params[j]? = some t → args[j]? = some v → Value.okWide Tryd.prog W .any base t v := hval0
  have hW' := hW
  obtain ⟨p, q, hA0, hV, rfl, hfz, hnd⟩ := hW
  have hA : DataW.TrodAll enc Tryd.prog W 0 (fun _ => true) true Tryd.f3.params.toList args.toList ds p := hA0
  rw [Tryd.params3] at hA hval hWt

  obtain ⟨v0, vs0, d0, ds0, p0, q0, hargs, rfl, rfl, h0, r0⟩ := trodAll_cons hA
  obtain ⟨v1, vs1, d1, ds1, p1, q1, rfl, rfl, rfl, h1, r1⟩ := trodAll_cons r0
  obtain ⟨rfl, rfl, rfl⟩ := trodAll_nil r1
  obtain rfl : args = #[v0, v1] := by cases args; simp_all
  obtain ⟨rfl, rfl⟩ := trodVars_none hV
  obtain ⟨cs0, rfl, sz0⟩ := okWide_struct Tryd.underlying23 (hval 0 23 v0 rfl rfl)
  have k0 := h0
  have lt0 : ∀ x ∈ p0, x.block < W.heap.size := by obtain ⟨m, hm⟩ := k0; exact DataW.trod_lt m _ _ _ hm
  obtain ⟨cs1, rfl, sz1⟩ := okWide_struct Tryd.underlying26 (hval 1 26 v1 rfl rfl)
  have k1 := h1
  have lt1 : ∀ x ∈ p1, x.block < W.heap.size := by obtain ⟨m, hm⟩ := k1; exact DataW.trod_lt m _ _ _ hm
  obtain ⟨x0, ph0, rep0⟩ := Am.arg_agg (Am.opens_struct (n := 3) Tryd.underlying23 (by kernel_rfl) (Am.opensF_cons (Am.opens_i64 Tryd.underlying3) (Am.opensF_cons (Am.opens_strL Tryd.underlying9) (Am.opensF_cons (Am.opens_strL Tryd.underlying9) Am.opensF_nil))) (by decide)) h0
  obtain ⟨x1, ph1, rep1⟩ := Am.arg_agg (Am.opens_struct (n := 7) Tryd.underlying26 (by kernel_rfl) (Am.opensF_cons (Am.opens_struct (n := 3) Tryd.underlying23 (by kernel_rfl) (Am.opensF_cons (Am.opens_i64 Tryd.underlying3) (Am.opensF_cons (Am.opens_strL Tryd.underlying9) (Am.opensF_cons (Am.opens_strL Tryd.underlying9) Am.opensF_nil))) (by decide)) (Am.opensF_cons (Am.opens_strL Tryd.underlying9) (Am.opensF_cons (Am.opens_i64 Tryd.underlying3) (Am.opensF_cons (Am.opens_i64 Tryd.underlying3) (Am.opensF_cons (Am.opens_slice ([] : List UInt8) (Am.opens_strL Tryd.underlying9) Tryd.underlying24 (by kernel_rfl) (by decide)) Am.opensF_nil))))) (by decide)) h1
  clear hWt
  obtain ⟨al, hS⟩ := sent hL
  clear hA0 hval0
  refine (Am.law_calls (Am.admitDefault_ac (x0.1, x0.2.1, x0.2.2.1) ((x1.1.1, x1.1.2.1, x1.1.2.2.1), x1.2.1, x1.2.2.1, x1.2.2.2.1, x1.2.2.2.2.1)) hS rfl (Am.rep_cons (Am.CEnt.agg rfl (fun m hm => by rcases m with _ | _ | _ | m <;> first | exact Am.CEnt.refl _ | omega) _ _ _ _ (rep0 al)) (Am.rep_cons (Am.CEnt.agg rfl (fun m hm => by rcases m with _ | _ | _ | _ | _ | _ | _ | m <;> first | exact Am.CEnt.refl _ | (exact Am.CEnt.rs rfl fun i j hi hj => by obtain rfl : j = 0 := (by omega); exact Am.CEnt.refl _) | omega) _ _ _ _ (rep1 al)) Am.rep_nil))).mono fun e W' ⟨he, bel⟩ => ?_
  subst he
  exact ⟨_, rfl, _, _, _, [], _, [], hW', trodAll_mk1 (shut_bool Tryd.underlying4 _), (trodAll_cons_mk (Below.trod laidOut (by kernel_rfl) (of_decide_eq_true (by kernel_rfl)) k0 bel lt0) (trodAll_cons_mk (Below.trod laidOut (by kernel_rfl) (of_decide_eq_true (by kernel_rfl)) k1 bel lt1) trodAll_mk0)), rfl, bel.frame _, fun h => by cases h⟩

end Go.Proofs.YtoliiompofonlaaDoor.lawAdmitDefault
