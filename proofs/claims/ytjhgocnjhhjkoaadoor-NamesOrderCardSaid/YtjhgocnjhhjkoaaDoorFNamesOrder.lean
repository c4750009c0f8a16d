/- The statement NamesOrder: for every input the law returns true, and each argument reads as it read before; the package-level errors are tied to the program's text. -/
import Derived.Test.YtjhgocnjhhjkoaaDoorCards
import Derived.Test.YtjhgocnjhhjkoaaDoorTie
import Derived.Test.YtjhgocnjhhjkoaaDoorL09
import Derived.Test.YtjhgocnjhhjkoaaDoorLaid
import Derived.ProofKit
import Derived.OpenShut
import Derived.ShutString
import Derived.ChangeOld
import Derived.LaidMore
import Derived.Stop.Joined
import Derived.Lib.SmallJoins
namespace Go.Proofs.YtjhgocnjhhjkoaaDoor.lawNamesOrder
open Go.ChangeShapes Go.WideShapes Go.ChangeAt Go.RowKit
open Go.ChangeMaps (open_string shut_string)
open Go.Joins
set_option linter.unusedVariables false

theorem own : ownKnob Tryd.prog.godebug = none := by kernel_rfl
theorem laidOut : laidOutB Tryd.prog = true := by kernel_rfl
/-- the start that the program's own text lays meets the condition -/
theorem door_met (os : Os) (args : Array Value) : laidMetH Tryd.prog Rows.namesOrderRow.laid ((World.doorLaid Tryd.prog 541 os).forCall (fun _ _ => 0) ⟨#[], args, []⟩).memory :=
  laidMetH_of_parts3 (fuel := 8) (laidMet_of_run' 8 (by kernel_rfl) (by kernel_rfl)) (by kernel_rfl) (by kernel_rfl)

set_option maxRecDepth 100000 in
theorem lifted (os : Os) (started : os.Started) (H : Type) (enc : TypeId × Value → H) :
    ReturnsInHanded {} Tryd.checked os 8 .any (fun w args => (Rows.namesOrderSpec.pre enc Tryd.prog Tryd.f8 [] false w args ∧ laidMetH Tryd.prog Rows.namesOrderRow.laid w) ∧ sizedMet enc Tryd.prog Tryd.f8 (OpenSpec.ofChange Rows.namesOrderSpec) false w args)
      (Rows.namesOrderSpec.post enc Tryd.prog Tryd.f8 false true false false) := by
  refine returnsInHanded_of_change_and (C := Tryd.checked) (X := fun w _ => laidMetH Tryd.prog Rows.namesOrderRow.laid w) (fun _ _ _ hh h => h.of_heap hh) own started (by kernel_rfl) Tryd.func8
    (ChangeSpec.witness_shaped (enc := enc) (C := Tryd.checked) (os := os) (X := fun w _ => laidMetH Tryd.prog Rows.namesOrderRow.laid w) false (World.doorLaid Tryd.prog 541 os) #[.agg #[.int .i64 0, .string ByteArray.empty, .string ByteArray.empty], .agg #[.int .i64 0, .string ByteArray.empty, .string ByteArray.empty], .agg #[.int .i64 0, .string ByteArray.empty, .string ByteArray.empty]] 8 rfl (World.shaped_of_RefB (by kernel_rfl) (by kernel_rfl)) (by kernel_rfl) (by kernel_rfl) (by kernel_rfl) (door_met os _)) ?_
  intro W base args ds gs0 before hval0 hW _ _ hL _
  have hval : ∀ (j : Nat) t v, Tryd.f8.params[j]? = some t → args[j]? = some v → Value.okWide Tryd.prog W .any base t v := hval0
  have hW' := hW
  obtain ⟨p, q, hA0, hV, rfl, hfz, hnd⟩ := hW
  have hA : DataW.TrodAll enc Tryd.prog W 0 (fun _ => true) true Tryd.f8.params.toList args.toList ds p := hA0
  rw [Tryd.params8] at hA hval

  obtain ⟨v0, vs0, d0, ds0, p0, q0, hargs, rfl, rfl, h0, r0⟩ := trodAll_cons hA
  obtain ⟨v1, vs1, d1, ds1, p1, q1, rfl, rfl, rfl, h1, r1⟩ := trodAll_cons r0
  obtain ⟨v2, vs2, d2, ds2, p2, q2, rfl, rfl, rfl, h2, r2⟩ := trodAll_cons r1
  obtain ⟨rfl, rfl, rfl⟩ := trodAll_nil r2
  obtain rfl : args = #[v0, v1, v2] := by cases args; simp_all
  obtain ⟨rfl, rfl⟩ := trodVars_none hV
  have k0 := h0
  have lt0 : ∀ x ∈ p0, x.block < W.heap.size := by obtain ⟨m, hm⟩ := k0; exact DataW.trod_lt m _ _ _ hm
  have k1 := h1
  have lt1 : ∀ x ∈ p1, x.block < W.heap.size := by obtain ⟨m, hm⟩ := k1; exact DataW.trod_lt m _ _ _ hm
  have k2 := h2
  have lt2 : ∀ x ∈ p2, x.block < W.heap.size := by obtain ⟨m, hm⟩ := k2; exact DataW.trod_lt m _ _ _ hm
  obtain ⟨c0_0, c0_1, c0_2, y0_0, y0_1, y0_2, m0, rfl, rfl, rfl, hy0_0, hy0_1, hy0_2⟩ := open_agg3 Tryd.underlying59 (by kernel_rfl) (by kernel_rfl) (hval 0 59 v0 rfl rfl) h0
  obtain ⟨a0_0, e0_0, rfl, wf0_0⟩ := DataW.trod_int Tryd.underlying3 hy0_0
  obtain ⟨lo0_0, hi0_0⟩ := bounds_i64 wf0_0
  obtain ⟨s0_1, e0_1, rfl, hs0_1⟩ := DataW.trod_string Tryd.underlying9 hy0_1
  obtain ⟨s0_2, e0_2, rfl, hs0_2⟩ := DataW.trod_string Tryd.underlying9 hy0_2
  simp at e0_0 e0_1 e0_2
  subst e0_0 e0_1 e0_2
  obtain ⟨c1_0, c1_1, c1_2, y1_0, y1_1, y1_2, m1, rfl, rfl, rfl, hy1_0, hy1_1, hy1_2⟩ := open_agg3 Tryd.underlying59 (by kernel_rfl) (by kernel_rfl) (hval 1 59 v1 rfl rfl) h1
  obtain ⟨a1_0, e1_0, rfl, wf1_0⟩ := DataW.trod_int Tryd.underlying3 hy1_0
  obtain ⟨lo1_0, hi1_0⟩ := bounds_i64 wf1_0
  obtain ⟨s1_1, e1_1, rfl, hs1_1⟩ := DataW.trod_string Tryd.underlying9 hy1_1
  obtain ⟨s1_2, e1_2, rfl, hs1_2⟩ := DataW.trod_string Tryd.underlying9 hy1_2
  simp at e1_0 e1_1 e1_2
  subst e1_0 e1_1 e1_2
  obtain ⟨c2_0, c2_1, c2_2, y2_0, y2_1, y2_2, m2, rfl, rfl, rfl, hy2_0, hy2_1, hy2_2⟩ := open_agg3 Tryd.underlying59 (by kernel_rfl) (by kernel_rfl) (hval 2 59 v2 rfl rfl) h2
  obtain ⟨a2_0, e2_0, rfl, wf2_0⟩ := DataW.trod_int Tryd.underlying3 hy2_0
  obtain ⟨lo2_0, hi2_0⟩ := bounds_i64 wf2_0
  obtain ⟨s2_1, e2_1, rfl, hs2_1⟩ := DataW.trod_string Tryd.underlying9 hy2_1
  obtain ⟨s2_2, e2_2, rfl, hs2_2⟩ := DataW.trod_string Tryd.underlying9 hy2_2
  simp at e2_0 e2_1 e2_2
  subst e2_0 e2_1 e2_2
  clear hA0 hval0
  refine (namesOrder_bytes a0_0 a1_0 a2_0 s0_1 s0_2 s1_1 s1_2 s2_1 s2_2).mono fun e W' ⟨he, bel⟩ => ?_
  subst he
  exact ⟨_, rfl, _, _, _, [], _, [], hW', trodAll_mk1 (shut_bool Tryd.underlying4 _), (trodAll_cons_mk (Below.trod laidOut (by kernel_rfl) (of_decide_eq_true (by kernel_rfl)) k0 bel lt0) (trodAll_cons_mk (Below.trod laidOut (by kernel_rfl) (of_decide_eq_true (by kernel_rfl)) k1 bel lt1) (trodAll_cons_mk (Below.trod laidOut (by kernel_rfl) (of_decide_eq_true (by kernel_rfl)) k2 bel lt2) trodAll_mk0))), rfl, bel.frame _, fun h => by cases h⟩

theorem said : Rows.NamesOrderSaid :=
  OpenClaim.holds_of_wide 8 Tryd.f8 rfl rfl rfl rfl rfl rfl rfl ⟨rfl, rfl, rfl, rfl, rfl⟩ rfl rfl rfl rfl rfl (by kernel_rfl) Tryd.func8 (by kernel_rfl)
    (of_decide_eq_true (by kernel_rfl)) (by unfold Func.isWrapper; first | (rw [if_pos (by decide +kernel)]; kernel_rfl) | (rw [if_neg (by decide +kernel)]; exact ⟨rfl, rfl⟩))
    (fun os started H enc _ => lifted os started H enc)

theorem plain (f : FuncId) (fn : Func) (hf : Tryd.pinned.checked.prog.funcNamed "bulla/bullalaw09.NamesOrder" = some f) (hfn : Tryd.pinned.checked.prog.funcs[f]? = some fn) :
    true = Tryd.pinned.checked.prog.looks [] ∧ ∀ (j : Nat) t, fn.params[j]? = some t → Tryd.pinned.checked.prog.wantsStandIn t = false := by
  obtain rfl : f = 8 := Option.some.inj ((show Tryd.prog.funcNamed "bulla/bullalaw09.NamesOrder" = some 8 by kernel_rfl).symm.trans hf) |>.symm
  obtain rfl : fn = Tryd.f8 := (Option.some.inj (Tryd.func8.symm.trans hfn)).symm
  refine ⟨by kernel_rfl, fun j t ht => ?_⟩
  rw [Tryd.params8] at ht
  have hm := Array.mem_of_getElem? ht
  simp only [List.mem_toArray, List.mem_cons, List.not_mem_nil, or_false] at hm
  rcases hm with rfl | rfl | rfl
  · exact (show Tryd.prog.wantsStandIn 59 = false by kernel_rfl)
  · exact (show Tryd.prog.wantsStandIn 59 = false by kernel_rfl)
  · exact (show Tryd.prog.wantsStandIn 59 = false by kernel_rfl)

/-- the card: the row, and its listed errors tied to the program's text -/
theorem card : Rows.NamesOrderCardSaid :=
  Claim7.holds_tied_plain_at .later [] _ _ _ _ said (fun _ h => by cases h) (by kernel_rfl) (fun _ h => by cases h) namesOrder_row_tie rfl ⟨rfl, rfl⟩ (by kernel_rfl) rfl plain (by kernel_rfl)
#print axioms card
end Go.Proofs.YtjhgocnjhhjkoaaDoor.lawNamesOrder
