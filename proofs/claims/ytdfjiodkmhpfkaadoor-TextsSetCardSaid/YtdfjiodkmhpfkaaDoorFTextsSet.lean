/- The statement TextsSet: for every input the law returns true, and each argument reads as it read before; the package-level errors are tied to the program's text. -/
import Derived.Test.YtdfjiodkmhpfkaaDoorCards
import Derived.Test.YtdfjiodkmhpfkaaDoorTie
import Derived.Test.YtdfjiodkmhpfkaaDoorDTextsSet
import Derived.Test.YtdfjiodkmhpfkaaDoorM4TextsSet
import Derived.ProofKit
import Derived.OpenShut
import Derived.ShutString
import Derived.ChangeOld
import Derived.LaidMore
import Derived.Lay
import Derived.MakeChecks
import Derived.Stop.Joined

namespace Go.Proofs.YtdfjiodkmhpfkaaDoor.lawTextsSet
open Go.ChangeShapes Go.WideShapes Go.ChangeAt Go.RowKit
open Go.ChangeMaps (open_string shut_string)

set_option linter.unusedVariables false

theorem j0 : (Rows.textsSetRow.wf (OpenSpec.ofChange Rows.textsSetSpec)) = true := by kernel_rfl
theorem j1 : (laidOutB Tryd.prog) = true := by kernel_rfl
theorem j2 : (mapsRowed Tryd.prog) = true := by kernel_rfl
theorem j3 : (Tryd.f4.params.all (Tryd.prog.readableRec ·)) = true := by kernel_rfl
theorem j4 : (namedTie Tryd.prog Rows.textsSetRow.named Rows.textsSetSpec.vars) = true := by kernel_rfl
theorem j5 : ((Rows.textsSetRow.stops == [])) = true := by kernel_rfl
theorem j6 : ((Tryd.prog.stops == [])) = true := by kernel_rfl
theorem j7 : ((Rows.textsSetRow.knobs == [])) = true := by kernel_rfl
theorem j8 : ((Tryd.prog.stopKnobs == [])) = true := by kernel_rfl
theorem j9 : ((Rows.textsSetRow.inPlace == Tryd.prog.inPlace 4)) = true := by kernel_rfl
theorem j10 : ((Rows.textsSetRow.unfollowed == Tryd.prog.unfollowed 4)) = true := by kernel_rfl
theorem j11 : ((Rows.textsSetRow.recurses == Tryd.prog.recurses 4)) = true := by kernel_rfl
theorem j12 : ((Rows.textsSetRow.named == Tryd.prog.varsNamed 4)) = true := by kernel_rfl
theorem j13 : ((Rows.textsSetRow.maps == (Tryd.f4.params.toList ++ Rows.textsSetSpec.plain.varTypes Tryd.prog).any (Tryd.prog.mapsRec ·))) = true := by kernel_rfl
theorem j14 : ((Rows.textsSetRow.ifaces == (Tryd.f4.params.toList ++ Rows.textsSetSpec.plain.varTypes Tryd.prog).any (Tryd.prog.ifacesRec ·))) = true := by kernel_rfl
theorem j15 : ((Rows.textsSetRow.mapsOut == Tryd.prog.mapsAmong Tryd.f4.resultTypes.toList)) = true := by kernel_rfl
theorem j16 : ((Rows.textsSetRow.loops == (Tryd.f4.params.toList ++ Rows.textsSetSpec.plain.varTypes Tryd.prog).any (Tryd.prog.loopsFrom ·))) = true := by kernel_rfl
theorem j17 : ((Rows.textsSetRow.wideKeys == (Tryd.f4.params.toList ++ Rows.textsSetSpec.plain.varTypes Tryd.prog ++ Tryd.f4.resultTypes.toList).any (Tryd.prog.wideKeysFrom ·))) = true := by kernel_rfl
theorem j18 : (Rows.textsSetSpec.vars.all (Tryd.prog.varReadable ·)) = true := by kernel_rfl
theorem j19 : (Tryd.f4.resultTypes.all (fun t => Tryd.prog.readableRec t && decide (t < Tryd.prog.types.size))) = true := by kernel_rfl
theorem j20 : ((Rows.textsSetRow.ifacesOut == Tryd.f4.resultTypes.toList.any (Tryd.prog.ifacesRec ·))) = true := by kernel_rfl
theorem j21 : ((Rows.textsSetRow.loopsOut == Tryd.f4.resultTypes.toList.any (Tryd.prog.loopsFrom ·))) = true := by kernel_rfl
theorem j22 : ((Rows.textsSetRow.plainKeys == Tryd.prog.plainKeys)) = true := by kernel_rfl
theorem j23 : (Rows.textsSetRow.shortTexts.isNone) = true := by kernel_rfl
theorem j24 : (Tryd.prog.stopsHeard) = true := by kernel_rfl
theorem j25 : (Tryd.prog.mayEnter) = true := by kernel_rfl
theorem j26 : ((Rows.textsSetRow.lifted == Tryd.prog.liftsFinal)) = true := by kernel_rfl
theorem j27 : ((Tryd.prog.make == some Rows.textsSetRow.make)) = true := by kernel_rfl
theorem j28 : ((Rows.textsSetRow.kinds == (if Rows.textsSetRow.domain.isEmpty then [] else Tryd.f4.params.toList.map fun t => match Tryd.prog.underlying t with | some (.int k) => some k | _ => none))) = true := by kernel_rfl
theorem j29 : ((Rows.textsSetRow.pinned == Rows.textsSetRow.pinnedBy)) = true := by kernel_rfl
theorem j30 : ((Rows.textsSetRow.veiled == (Tryd.f4.params.toList ++ Rows.textsSetSpec.plain.varTypes Tryd.prog ++ Tryd.f4.resultTypes.toList).any (Tryd.prog.veiledRec ·))) = true := by kernel_rfl
theorem j31 : (Rows.textsSetRow.veiledFits Tryd.prog Tryd.f4.params.toList (Tryd.f4.params.toList ++ Rows.textsSetSpec.plain.varTypes Tryd.prog ++ Tryd.f4.resultTypes.toList)) = true := by kernel_rfl
theorem and_t {a b : Bool} (h : a = true) (k : b = true) : (a && b) = true := by rw [h, k]; rfl
set_option maxRecDepth 100000 in
theorem joined : joinedFacts Tryd.prog 4 Tryd.f4 Rows.textsSetSpec Rows.textsSetRow = true := (and_t (and_t (and_t (and_t (and_t (and_t (and_t (and_t (and_t (and_t (and_t (and_t (and_t (and_t (and_t (and_t (and_t (and_t (and_t (and_t (and_t (and_t (and_t (and_t (and_t (and_t (and_t (and_t (and_t (and_t (and_t j0 j1) j2) j3) j4) j5) j6) j7) j8) j9) j10) j11) j12) j13) j14) j15) j16) j17) j18) j19) j20) j21) j22) j23) j24) j25) j26) j27) j28) j29) j30) j31)


theorem said : Rows.TextsSetSaid :=
  OpenClaim.holds_of_wide 4 Tryd.f4 rfl rfl rfl rfl rfl rfl rfl ⟨rfl, rfl, rfl, rfl, rfl⟩ rfl rfl rfl rfl rfl (by kernel_rfl) Tryd.func4 joined
    (of_decide_eq_true (by kernel_rfl)) (by unfold Func.isWrapper; first | (rw [if_pos (by decide +kernel)]; kernel_rfl) | (rw [if_neg (by decide +kernel)]; exact ⟨rfl, rfl⟩))
    (fun os started H enc _ => lifted os started H enc)

theorem plain (f : FuncId) (fn : Func) (hf : Tryd.pinned.checked.prog.funcNamed "bulla/bullalaw07.TextsSet" = some f) (hfn : Tryd.pinned.checked.prog.funcs[f]? = some fn) :
    true = Tryd.pinned.checked.prog.looks [] ∧ ∀ (j : Nat) t, fn.params[j]? = some t → Tryd.pinned.checked.prog.wantsStandIn t = false := by
  obtain rfl : f = 4 := Option.some.inj ((show Tryd.prog.funcNamed "bulla/bullalaw07.TextsSet" = some 4 by kernel_rfl).symm.trans hf) |>.symm
  obtain rfl : fn = Tryd.f4 := (Option.some.inj (Tryd.func4.symm.trans hfn)).symm
  refine ⟨by kernel_rfl, fun j t ht => ?_⟩
  rw [Tryd.params4] at ht
  have hm := Array.mem_of_getElem? ht
  simp only [List.mem_toArray, List.mem_cons, List.not_mem_nil, or_false] at hm
  rcases hm with rfl | rfl
  · exact (show Tryd.prog.wantsStandIn 45 = false by kernel_rfl)
  · exact (show Tryd.prog.wantsStandIn 3 = false by kernel_rfl)

/-- the card: the row, and its listed errors tied to the program's text -/
theorem card : Rows.TextsSetCardSaid :=
  Claim7.holds_tied_plain_at .later [] _ _ _ _ said (fun _ h => by cases h) (by kernel_rfl) (fun _ h => by cases h) textsSet_row_tie rfl ⟨rfl, rfl⟩ (by kernel_rfl) rfl plain (by kernel_rfl)
#print axioms card
end Go.Proofs.YtdfjiodkmhpfkaaDoor.lawTextsSet
