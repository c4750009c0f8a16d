
/- The tables of unicode/utf8 out of a row's list, at a seat that has the tables' types and variables. -/
import Derived.Test.YtghgbhekjgincaaDoorLaid
import Derived.Lib.LaidU8T
namespace Go.Proofs.YtghgbhekjgincaaDoor
set_option linter.unusedVariables false
open Go.RowKit Go.ChangeShapes
def tabRen : Go.Shelf.Ren := ⟨fun n => n, fun | 5 => 5 | 119 => 260 | 138 => 262 | 139 => 263 | n => n, fun | 3 => 29 | 4 => 30 | n => n⟩
theorem tabTypes : U8Types Tryd.prog tabRen where
  t5 := Tryd.underlying5
  t119 := Tryd.underlying260
  t138 := Tryd.underlying262
  t139 := Tryd.underlying263
theorem tabExtra : U8Extra Tryd.prog tabRen where
  n3 := by kernel_rfl
  n4 := by kernel_rfl
  y3 := by kernel_rfl
  y4 := by kernel_rfl
  c5 := by kernel_rfl
  c119 := by kernel_rfl
  c138 := by kernel_rfl
theorem tabs_of_laid {W : World} {L : List (String × DataW Unit)} (h : laidMetH Tryd.prog L W) (h1 : (L.all fun x => x.2.handleName?.isNone) = true) {i j : Nat} (hi : L[i]? = some ("unicode/utf8.first", Lib.firstData)) (hj : L[j]? = some ("unicode/utf8.acceptRanges", Lib.acceptData)) : Lib.Utf8Tabs tabA tabB W := by
  rw [MakeChecks.laidMetH_plain _ _ _ h1] at h
  obtain ⟨ps, hv, hnd, hrows⟩ := h
  exact utf8Tabs_of_readsT (ρ := tabRen) tabTypes tabExtra (Lib.LaidVars_reads hv _ _ (List.mem_of_getElem? hi)) (Lib.LaidVars_reads hv _ _ (List.mem_of_getElem? hj))
end Go.Proofs.YtghgbhekjgincaaDoor
