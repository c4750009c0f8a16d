/- The statement RolesMore: for every input the law returns true, and each argument reads as it read before; the package-level errors are tied to the program's text. -/
import Derived.Test.YtghgbhekjgincaaRows
import Derived.Test.YtghgbhekjgincaaL22b
import Derived.Test.YtghgbhekjgincaaLaid
import Derived.ProofKit
import Derived.OpenShut
import Derived.ShutString
import Derived.ChangeOld
import Derived.LaidMore
import Derived.Lay
import Derived.MakeChecks
import Derived.Stop.Joined

import Derived.Test.YtghgbhekjgincaaOpen2
namespace Go.Proofs.Ytghgbhekjgincaa.lawRolesMore
open Go.ChangeShapes Go.WideShapes Go.ChangeAt Go.RowKit
open Go.ChangeMaps (open_string shut_string)

set_option linter.unusedVariables false

theorem own : ownKnob Try.prog.godebug = none := by kernel_rfl
theorem laidOut : laidOutB Try.prog = true := by kernel_rfl
/-- the start in which the listed variables are laid meets the condition -/
theorem door_met (os : Os) (args : Array Value) : laidMetH Try.prog Rows.rolesMoreRow.laid ((World.laidAll Try.prog os Rows.rolesMoreRow.laid).forCall (fun _ _ => 0) ⟨#[], args, []⟩).memory := by
  rw [MakeChecks.laidMetH_plain _ _ _ (by kernel_rfl)]
  exact laidMet_laidAll _ (by kernel_rfl) (by kernel_rfl)

set_option maxRecDepth 100000 in
theorem lifted (os : Os) (started : os.Started) (H : Type) (enc : TypeId × Value → H) :
    ReturnsInHanded {} Try.checked os 3 .any (fun w args => (Rows.rolesMoreSpec.pre enc Try.prog Try.f3 [] false w args ∧ laidMetH Try.prog Rows.rolesMoreRow.laid w) ∧ sizedMet enc Try.prog Try.f3 (OpenSpec.ofChange Rows.rolesMoreSpec) false w args)
      (Rows.rolesMoreSpec.post enc Try.prog Try.f3 false true false false) := by
  refine returnsInHanded_of_change_and (C := Try.checked) (X := fun w _ => laidMetH Try.prog Rows.rolesMoreRow.laid w) (fun _ _ _ hh h => h.of_heap hh) own started (by kernel_rfl) Try.func3
    (ChangeSpec.witness_shaped (enc := enc) (C := Try.checked) (os := os) (X := fun w _ => laidMetH Try.prog Rows.rolesMoreRow.laid w) false (World.laidAll Try.prog os Rows.rolesMoreRow.laid) #[.slice none 0 0, .agg #[.int .i64 0, .int .i64 0, .int .i64 0, .string ByteArray.empty, .string ByteArray.empty], .agg #[.int .i64 0, .string ByteArray.empty, .string ByteArray.empty, .int .i64 0, .int .i64 0, .string ByteArray.empty]] 8 (World.laidAll_os _ _ _) (World.shaped_of_ZipB (by kernel_rfl) (by kernel_rfl)) (by kernel_rfl) (by kernel_rfl) (by kernel_rfl) (door_met os _)) ?_
  intro W base args ds gs0 before hval0 hW _ hWt hL _
  have hval : ∀ (j : Nat) t v, Try.f3.params[j]? = some t → args[j]? = some v → Value.okWide Try.prog W .any base t v := hval0
  have hW' := hW
  obtain ⟨p, q, hA0, hV, rfl, hfz, hnd⟩ := hW
  have hA : DataW.TrodAll enc Try.prog W 0 (fun _ => true) true Try.f3.params.toList args.toList ds p := hA0
  rw [Try.params3] at hA hval hWt

  obtain ⟨v0, vs0, d0, ds0, p0, q0, hargs, rfl, rfl, h0, r0⟩ := trodAll_cons hA
  obtain ⟨v1, vs1, d1, ds1, p1, q1, rfl, rfl, rfl, h1, r1⟩ := trodAll_cons r0
  obtain ⟨v2, vs2, d2, ds2, p2, q2, rfl, rfl, rfl, h2, r2⟩ := trodAll_cons r1
  obtain ⟨rfl, rfl, rfl⟩ := trodAll_nil r2
  obtain rfl : args = #[v0, v1, v2] := by cases args; simp_all
  obtain ⟨rfl, rfl⟩ := trodVars_none hV
  obtain ⟨ao0, len0, cap0, rfl⟩ := okWide_slice Try.underlying22 (hval 0 22 v0 rfl rfl)
  have k0 := h0
  have lt0 : ∀ x ∈ p0, x.block < W.heap.size := by obtain ⟨m, hm⟩ := k0; exact DataW.trod_lt m _ _ _ hm
  obtain ⟨cs1, rfl, sz1⟩ := okWide_struct Try.underlying24 (hval 1 24 v1 rfl rfl)
  have k1 := h1
  have lt1 : ∀ x ∈ p1, x.block < W.heap.size := by obtain ⟨m, hm⟩ := k1; exact DataW.trod_lt m _ _ _ hm
  obtain ⟨cs2, rfl, sz2⟩ := okWide_struct Try.underlying28 (hval 2 28 v2 rfl rfl)
  have k2 := h2
  have lt2 : ∀ x ∈ p2, x.block < W.heap.size := by obtain ⟨m, hm⟩ := k2; exact DataW.trod_lt m _ _ _ hm
  obtain ⟨x0, ph0, rep0⟩ := Am.arg_one (Am.opens_slice ((0 : Int), (0 : Int), (0 : Int), ([] : List UInt8), ([] : List UInt8), ()) (Am.opens_struct (n := 5) Try.underlying24 (by kernel_rfl) (Am.opensF_cons (Am.opens_i64 Try.underlying3) (Am.opensF_cons (Am.opens_i64 Try.underlying3) (Am.opensF_cons (Am.opens_i64 Try.underlying3) (Am.opensF_cons (Am.opens_strL Try.underlying9) (Am.opensF_cons (Am.opens_strL Try.underlying9) Am.opensF_nil))))) (by decide)) Try.underlying22 (by kernel_rfl) (by decide)) rfl h0
  obtain ⟨x1, ph1, rep1⟩ := Am.arg_agg (Am.opens_struct (n := 5) Try.underlying24 (by kernel_rfl) (Am.opensF_cons (Am.opens_i64 Try.underlying3) (Am.opensF_cons (Am.opens_i64 Try.underlying3) (Am.opensF_cons (Am.opens_i64 Try.underlying3) (Am.opensF_cons (Am.opens_strL Try.underlying9) (Am.opensF_cons (Am.opens_strL Try.underlying9) Am.opensF_nil))))) (by decide)) h1
  obtain ⟨x2, ph2, rep2⟩ := Am.arg_agg (Am.opens_struct (n := 6) Try.underlying28 (by kernel_rfl) (Am.opensF_cons (Am.opens_struct (n := 3) Try.underlying26 (by kernel_rfl) (Am.opensF_cons (Am.opens_i64 Try.underlying3) (Am.opensF_cons (Am.opens_strL Try.underlying9) (Am.opensF_cons (Am.opens_strL Try.underlying9) Am.opensF_nil))) (by decide)) (Am.opensF_cons (Am.opens_i64 Try.underlying3) (Am.opensF_cons (Am.opens_i64 Try.underlying3) (Am.opensF_cons (Am.opens_strL Try.underlying9) Am.opensF_nil)))) (by decide)) h2
  simp only [List.cons_append, DataW.weightsEach, List.all_append, Bool.and_eq_true] at hWt
  obtain ⟨hw0, hw1, hw2, _⟩ := hWt
  have wt0 := Am.len_weight Try.underlying22 h0 hw0
  rw [← Am.rs_len (rep0 []), show Try.prog.bytesOf 24 = 56 from (by kernel_rfl)] at wt0
  have wt0 : _ ≤ 140737488351232 := wt0
  obtain ⟨al, hS⟩ : ∃ al, SentL W [] al := ⟨[], sent_nil W⟩
  clear hA0 hval0
  refine (Am.law_calls (Am.rolesMore_ac (x0.map fun r => (r.1, r.2.1, r.2.2.1, r.2.2.2.1, r.2.2.2.2.1)) ((x1.1, x1.2.1, x1.2.2.1, x1.2.2.2.1, x1.2.2.2.2.1)) ((x2.1.1, x2.1.2.1, x2.1.2.2.1), x2.2.1, x2.2.2.1, x2.2.2.2.1) (by rw [List.length_map]; exact wt0)) hS rfl (Am.rep_cons (by have := rep0 al; refine Am.CEnt.rs (by simp) (fun i j hi hj => ?_) _ _ _ _ this; rw [Am.map_getD _ _ (0, 0, 0, [], [], ()) _ hi]; rcases j with _ | _ | _ | _ | _ | j <;> first | exact Am.CEnt.refl _ | omega) (Am.rep_cons (by have := rep1 al; refine (Am.CEnt.agg5 ?_ ?_ ?_ ?_ ?_) _ _ _ _ this <;> exact Am.CEnt.refl _) (Am.rep_cons (by have := rep2 al; refine (Am.CEnt.agg6 ?_ ?_ ?_ ?_ ?_ ?_) _ _ _ _ this <;> exact Am.CEnt.refl _) Am.rep_nil)))).mono fun e W' ⟨he, bel⟩ => ?_
  subst he
  exact ⟨_, rfl, _, _, _, [], _, [], hW', trodAll_mk1 (shut_bool Try.underlying4 _), (trodAll_cons_mk (Below.trod laidOut (by kernel_rfl) (of_decide_eq_true (by kernel_rfl)) k0 bel lt0) (trodAll_cons_mk (Below.trod laidOut (by kernel_rfl) (of_decide_eq_true (by kernel_rfl)) k1 bel lt1) (trodAll_cons_mk (Below.trod laidOut (by kernel_rfl) (of_decide_eq_true (by kernel_rfl)) k2 bel lt2) trodAll_mk0))), rfl, bel.frame _, fun h => by cases h⟩

theorem laid_none (w : World) : laidMetH Try.prog Rows.rolesMoreRow.laid w := by
  rw [MakeChecks.laidMetH_plain _ _ _ (by kernel_rfl)]
  exact ⟨[], rfl, List.nodup_nil, fun b off h => by cases h⟩
theorem lifted2 (os : Os) (started : os.Started) (H : Type) (enc : TypeId × Value → H) :
    ReturnsInHanded {} Try.checked os 3 .any (fun w args => Rows.rolesMoreSpec.pre enc Try.prog Try.f3 [] false w args ∧ sizedMet enc Try.prog Try.f3 (OpenSpec.ofChange Rows.rolesMoreSpec) false w args)
      (Rows.rolesMoreSpec.post enc Try.prog Try.f3 false true false false) := by
  have e : (fun w args => (Rows.rolesMoreSpec.pre enc Try.prog Try.f3 [] false w args ∧ laidMetH Try.prog Rows.rolesMoreRow.laid w) ∧ sizedMet enc Try.prog Try.f3 (OpenSpec.ofChange Rows.rolesMoreSpec) false w args) =
      (fun w args => Rows.rolesMoreSpec.pre enc Try.prog Try.f3 [] false w args ∧ sizedMet enc Try.prog Try.f3 (OpenSpec.ofChange Rows.rolesMoreSpec) false w args) :=
    funext fun w => funext fun args => propext ⟨fun h => ⟨h.1.1, h.2⟩, fun h => ⟨⟨h.1, laid_none w⟩, h.2⟩⟩
  rw [← e]
  exact lifted os started H enc

theorem said : Rows.RolesMoreSaid :=
  OpenClaim.holds_of_wide 3 Try.f3 rfl rfl rfl rfl rfl rfl rfl ⟨rfl, rfl, rfl, rfl, rfl⟩ rfl rfl rfl rfl rfl (by kernel_rfl) Try.func3 (by kernel_rfl)
    (of_decide_eq_true (by kernel_rfl)) (by unfold Func.isWrapper; first | (rw [if_pos (by decide +kernel)]; kernel_rfl) | (rw [if_neg (by decide +kernel)]; exact ⟨rfl, rfl⟩))
    (fun os started H enc _ => lifted2 os started H enc)
#print axioms said
end Go.Proofs.Ytghgbhekjgincaa.lawRolesMore
