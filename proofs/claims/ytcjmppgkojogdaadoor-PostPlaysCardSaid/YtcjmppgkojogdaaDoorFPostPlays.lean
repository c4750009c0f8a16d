/- The statement PostPlays: for every input the law returns true, and each argument reads as it read before; the package-level errors are tied to the program's text. -/
import Derived.Test.YtcjmppgkojogdaaDoorCards
import Derived.Test.YtcjmppgkojogdaaDoorTie
import Derived.Test.YtcjmppgkojogdaaDoorDPostPlays
import Derived.Test.YtcjmppgkojogdaaDoorM3PostPlays
import Derived.ProofKit
import Derived.OpenShut
import Derived.ShutString
import Derived.ChangeOld
import Derived.LaidMore
import Derived.Lay
import Derived.MakeChecks
import Derived.Stop.Joined

namespace Go.Proofs.YtcjmppgkojogdaaDoor.lawPostPlays
open Go.ChangeShapes Go.WideShapes Go.ChangeAt Go.RowKit
open Go.ChangeMaps (open_string shut_string)

set_option linter.unusedVariables false

theorem j0 : (Rows.postPlaysRow.wf (OpenSpec.ofChange Rows.postPlaysSpec)) = true := by kernel_rfl
theorem j1 : (laidOutB Tryd.prog) = true := by kernel_rfl
theorem j2 : (mapsRowed Tryd.prog) = true := by kernel_rfl
theorem j3 : (Tryd.f3.params.all (Tryd.prog.readableRec ·)) = true := by kernel_rfl
theorem j4 : (namedTie Tryd.prog Rows.postPlaysRow.named Rows.postPlaysSpec.vars) = true := by kernel_rfl
theorem j5 : ((Rows.postPlaysRow.stops == [])) = true := by kernel_rfl
theorem j6 : ((Tryd.prog.stops == [])) = true := by kernel_rfl
theorem j7 : ((Rows.postPlaysRow.knobs == [])) = true := by kernel_rfl
theorem j8 : ((Tryd.prog.stopKnobs == [])) = true := by kernel_rfl
theorem j9 : ((Rows.postPlaysRow.inPlace == Tryd.prog.inPlace 3)) = true := by kernel_rfl
theorem j10 : ((Rows.postPlaysRow.unfollowed == Tryd.prog.unfollowed 3)) = true := by kernel_rfl
theorem j11 : ((Rows.postPlaysRow.recurses == Tryd.prog.recurses 3)) = true := by kernel_rfl
theorem j12 : ((Rows.postPlaysRow.named == Tryd.prog.varsNamed 3)) = true := by kernel_rfl
theorem j13 : ((Rows.postPlaysRow.maps == (Tryd.f3.params.toList ++ Rows.postPlaysSpec.plain.varTypes Tryd.prog).any (Tryd.prog.mapsRec ·))) = true := by kernel_rfl
theorem j14 : ((Rows.postPlaysRow.ifaces == (Tryd.f3.params.toList ++ Rows.postPlaysSpec.plain.varTypes Tryd.prog).any (Tryd.prog.ifacesRec ·))) = true := by kernel_rfl
theorem j15 : ((Rows.postPlaysRow.mapsOut == Tryd.prog.mapsAmong Tryd.f3.resultTypes.toList)) = true := by kernel_rfl
theorem j16 : ((Rows.postPlaysRow.loops == (Tryd.f3.params.toList ++ Rows.postPlaysSpec.plain.varTypes Tryd.prog).any (Tryd.prog.loopsFrom ·))) = true := by kernel_rfl
theorem j17 : ((Rows.postPlaysRow.wideKeys == (Tryd.f3.params.toList ++ Rows.postPlaysSpec.plain.varTypes Tryd.prog ++ Tryd.f3.resultTypes.toList).any (Tryd.prog.wideKeysFrom ·))) = true := by kernel_rfl
theorem j18 : (Rows.postPlaysSpec.vars.all (Tryd.prog.varReadable ·)) = true := by kernel_rfl
theorem j19 : (Tryd.f3.resultTypes.all (fun t => Tryd.prog.readableRec t && decide (t < Tryd.prog.types.size))) = true := by kernel_rfl
theorem j20 : ((Rows.postPlaysRow.ifacesOut == Tryd.f3.resultTypes.toList.any (Tryd.prog.ifacesRec ·))) = true := by kernel_rfl
theorem j21 : ((Rows.postPlaysRow.loopsOut == Tryd.f3.resultTypes.toList.any (Tryd.prog.loopsFrom ·))) = true := by kernel_rfl
theorem j22 : ((Rows.postPlaysRow.plainKeys == Tryd.prog.plainKeys)) = true := by kernel_rfl
theorem j23 : (Rows.postPlaysRow.shortTexts.isNone) = true := by kernel_rfl
theorem j24 : (Tryd.prog.stopsHeard) = true := by kernel_rfl
theorem j25 : (Tryd.prog.mayEnter) = true := by kernel_rfl
theorem j26 : ((Rows.postPlaysRow.lifted == Tryd.prog.liftsFinal)) = true := by kernel_rfl
theorem j27 : ((Tryd.prog.make == some Rows.postPlaysRow.make)) = true := by kernel_rfl
theorem j28 : ((Rows.postPlaysRow.kinds == (if Rows.postPlaysRow.domain.isEmpty then [] else Tryd.f3.params.toList.map fun t => match Tryd.prog.underlying t with | some (.int k) => some k | _ => none))) = true := by kernel_rfl
theorem j29 : ((Rows.postPlaysRow.pinned == Rows.postPlaysRow.pinnedBy)) = true := by kernel_rfl
theorem j30 : ((Rows.postPlaysRow.veiled == (Tryd.f3.params.toList ++ Rows.postPlaysSpec.plain.varTypes Tryd.prog ++ Tryd.f3.resultTypes.toList).any (Tryd.prog.veiledRec ·))) = true := by kernel_rfl
theorem j31 : (Rows.postPlaysRow.veiledFits Tryd.prog Tryd.f3.params.toList (Tryd.f3.params.toList ++ Rows.postPlaysSpec.plain.varTypes Tryd.prog ++ Tryd.f3.resultTypes.toList)) = true := by kernel_rfl
theorem and_t {a b : Bool} (h : a = true) (k : b = true) : (a && b) = true := by rw [h, k]; rfl
set_option maxRecDepth 100000 in
theorem joined : joinedFacts Tryd.prog 3 Tryd.f3 Rows.postPlaysSpec Rows.postPlaysRow = true := (and_t (and_t (and_t (and_t (and_t (and_t (and_t (and_t (and_t (and_t (and_t (and_t (and_t (and_t (and_t (and_t (and_t (and_t (and_t (and_t (and_t (and_t (and_t (and_t (and_t (and_t (and_t (and_t (and_t (and_t (and_t j0 j1) j2) j3) j4) j5) j6) j7) j8) j9) j10) j11) j12) j13) j14) j15) j16) j17) j18) j19) j20) j21) j22) j23) j24) j25) j26) j27) j28) j29) j30) j31)


theorem said : Rows.PostPlaysSaid :=
  OpenClaim.holds_of_wide 3 Tryd.f3 rfl rfl rfl rfl rfl rfl rfl ⟨rfl, rfl, rfl, rfl, rfl⟩ rfl rfl rfl rfl rfl (by kernel_rfl) Tryd.func3 joined
    (of_decide_eq_true (by kernel_rfl)) (by unfold Func.isWrapper; first | (rw [if_pos (by decide +kernel)]; kernel_rfl) | (rw [if_neg (by decide +kernel)]; exact ⟨rfl, rfl⟩))
    (fun os started H enc _ => lifted os started H enc)

theorem plain (f : FuncId) (fn : Func) (hf : Tryd.pinned.checked.prog.funcNamed "bulla/bullalaw35.PostPlays" = some f) (hfn : Tryd.pinned.checked.prog.funcs[f]? = some fn) :
    true = Tryd.pinned.checked.prog.looks [] ∧ ∀ (j : Nat) t, fn.params[j]? = some t → Tryd.pinned.checked.prog.wantsStandIn t = false := by
  obtain rfl : f = 3 := Option.some.inj ((show Tryd.prog.funcNamed "bulla/bullalaw35.PostPlays" = some 3 by kernel_rfl).symm.trans hf) |>.symm
  obtain rfl : fn = Tryd.f3 := (Option.some.inj (Tryd.func3.symm.trans hfn)).symm
  refine ⟨by kernel_rfl, fun j t ht => ?_⟩
  rw [Tryd.params3] at ht
  have hm := Array.mem_of_getElem? ht
  simp only [List.mem_toArray, List.mem_cons, List.not_mem_nil, or_false] at hm
  rcases hm with rfl | rfl
  · exact (show Tryd.prog.wantsStandIn 3 = false by kernel_rfl)
  · exact (show Tryd.prog.wantsStandIn 22 = false by kernel_rfl)

/-- the card: the row, and its listed errors tied to the program's text -/
theorem card : Rows.PostPlaysCardSaid :=
  Claim7.holds_tied_plain_at .later [] _ _ _ _ said (fun _ h => by cases h) (by kernel_rfl) (fun _ h => by cases h) postPlays_row_tie rfl ⟨rfl, rfl⟩ (by kernel_rfl) rfl plain (by kernel_rfl)
#print axioms card
end Go.Proofs.YtcjmppgkojogdaaDoor.lawPostPlays
