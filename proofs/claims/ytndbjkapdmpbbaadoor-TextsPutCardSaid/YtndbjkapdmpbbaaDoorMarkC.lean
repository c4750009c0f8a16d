/- bullanum.Bytes and bullanum.Kept as contracts of the abstract walk. -/
import Derived.Test.YtndbjkapdmpbbaaDoorTy
import Derived.Test.YtndbjkapdmpbbaaDoorNumB
namespace Go.Proofs.YtndbjkapdmpbbaaDoor
set_option linter.unusedVariables false
namespace Am
variable {gs : List Nat} [OkG gs]
open Go.RowKit
/-- a copy with six marks behind it -/
def markSV (l : List UInt8) : SV where
  p St w v := ∃ g, St g ∧ MarkedAt w g v l
  st := fun {St St' w w' v} hs hb ⟨g, h1, h2, h3, h4⟩ => ⟨g, hs g h1, h2, h3, fun i hi => (cell_of_block (hb g h1) i).trans (h4 i hi)⟩
  one := fun {St w v} ⟨g, h1, h2, h3, h4⟩ => by rw [h2]; exact ⟨rfl, rfl⟩
def markC (l : List UInt8) : CV := .pv (markSV l)
theorem CEnt.mark {l : List UInt8} : CEnt (markC l) (bsC l) := fun al St w v ⟨g, h1, h2, h3, h4⟩ => by
  refine ⟨_, _, h2, by omega, h3, (fun h => by cases h), fun a ha hn => ?_⟩
  cases ha
  refine ⟨rfl, h1, fun i j hi hj => ⟨_, by rw [show 0 + (i * 1 + j) = i by omega]; exact h4 i (by omega), ?_⟩⟩
  show _ = _
  simp [List.getD, List.getElem?_append_left hi]
theorem nb_ac {gs : List Nat} (l : List UInt8) (hl : l.length ≤ 1000000) : ACp gs Tryd.prog 18 [bsC l] (markC l) := fun al w St F0 vals he hs hv => by
  have h0 : Bs w (vals.getD 0 undef) l := bs_of_rep (hv 0)
  rw [vals1 hs]
  refine (nbytes_new h0 hl).mono ?_
  rintro e w' ⟨v', h1, h2, h3⟩
  have hlt : w.heap.size < w'.heap.size := World.block_lt_of_cell? w' ⟨w.heap.size, 0, none⟩ (h2.2.2 0 (by omega))
  refine ⟨v', _, [], fun b => St b ∨ b = w.heap.size, h1, ⟨rfl, rfl⟩, ⟨w.heap.size, .inr rfl, h2⟩, ⟨h3.os, h3.tape, h3.output, h3.size, fun k hk _ => h3.block k hk, fun b cur t z hb => ⟨cur, z, (h3.block b (Array.getElem?_eq_some_iff.1 hb).1).trans hb, rfl⟩⟩, fun _ h => .inl h, fun b hb => ?_, fun b hb => ?_, HRel.none _ _ _ _ _⟩
  · rcases hb with hb | rfl
    · exact .inl hb
    · exact .inr (.inl (Nat.le_refl _))
  · rcases hb with hb | rfl
    · exact Nat.lt_of_lt_of_le (he.s3 b hb) h3.size
    · exact hlt
theorem kept_ac {gs : List Nat} (l : List UInt8) : ACp gs Tryd.prog 20 [markC l, bsC l] (.c (.bool true)) :=
  ac_old fun al w St vals hs hv hr => by
    obtain ⟨g, _, h1⟩ := hr 0
    have h2 : Bs w (vals.getD 1 undef) l := bs_of_rep (hr 1)
    rw [vals2 hv]
    exact kept_any ⟨g, h1⟩ h2
end Am
end Go.Proofs.YtndbjkapdmpbbaaDoor
