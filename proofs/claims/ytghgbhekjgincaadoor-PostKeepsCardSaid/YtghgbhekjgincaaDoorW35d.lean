
/- The walks of chapter 35's law: a row of acts, long. -/
import Derived.Test.YtghgbhekjgincaaDoorW35c
namespace Go.Proofs.YtghgbhekjgincaaDoor
open Go.Conc Go.RowKit

structure Act35 where
  k : Int
  b : Bool
  t : ByteArray
/-- a slice of acts reads as l -/
def Acts (w : World) (v : Value) (l : List Act35) : Prop :=
  (l = [] ∧ ∃ ao cap, v = .slice ao 0 cap) ∨ ∃ g o cap, v = .slice (some ⟨g, o, none⟩) l.length cap ∧ l.length ≤ cap ∧ ∀ i a, l[i]? = some a → w.cell? ⟨g, o + i * 3, none⟩ = some (.int .i64 a.k) ∧ w.cell? ⟨g, o + i * 3 + 1, none⟩ = some (.bool a.b) ∧ w.cell? ⟨g, o + i * 3 + 2, none⟩ = some (.string a.t)
theorem Acts.below {a b : World} {v : Value} {l : List Act35} (h : Acts a v l) (k : Below a.heap.size a b) : Acts b v l := by
  rcases h with h | ⟨g, o, cap, e, h1, h2⟩
  · exact .inl h
  · exact .inr ⟨g, o, cap, e, h1, fun i x hx => ⟨below_cell k (h2 i x hx).1, below_cell k (h2 i x hx).2.1, below_cell k (h2 i x hx).2.2⟩⟩
def longM (l : List Act35) : Bool := decide (60 < l.length) || l.any fun a => decide (50 < a.t.size)

set_option maxRecDepth 100000 in
set_option maxHeartbeats 1000000 in
theorem long35_any {w : World} {v : Value} {l : List Act35} (h : Acts w v l) :
    Calls Tryd.prog 15 #[v] w fun e w' => e = .returned (.bool (longM l)) ∧ Below w.heap.size w w' := by
  rcases h with ⟨rfl, ao, cap, rfl⟩ | ⟨g, o, cap, rfl, h1, h2⟩
  · go_enter Tryd.func15, Tryd.ntmps15
    go_wp2
    go_rounds 1
    go_ret
    exact ⟨rfl, Below.refl _ _⟩
  · by_cases h60 : 60 < l.length
    · have HF : Hid (longM l = true) := by show longM l = _; simp [longM, h60]
      have t1 : decide ((60 : Int) < (l.length : Nat)) = true := by simp; omega
      go_enter Tryd.func15, Tryd.ntmps15
      go_wp2
      go_ret
      exact ⟨by rw [HF.out]; rfl, Below.refl _ _⟩
    · have HF : Hid (longM l = l.any fun a => decide (50 < a.t.size)) := by show longM l = _; simp [longM, show ¬ 60 < l.length from h60]
      have t1 : decide ((60 : Int) < (l.length : Nat)) = false := by simp; omega
      have b60 : (l.length : Int) ≤ 60 := by omega
      have H2 := Lib.hid h2
      clear h2 h60
      go_enter Tryd.func15, Tryd.ntmps15
      go_wp2
      go_loopw [10] (fun j wr => ∃ i : Nat, i ≤ l.length ∧ j = .int .i64 i ∧ ((l.take i).any fun a => decide (50 < a.t.size)) = false ∧ Below w.heap.size w wr)
        (fun j _ => l.length - (intOf j).toNat)
      case atStart => exact ⟨0, by omega, rfl, by simp, Below.refl _ _⟩
      case round =>
        obtain ⟨i, hi, rfl, hf, hB⟩ := hrel
        have HB := Lib.hid hB
        have HA := Lib.hid hf
        clear hf
        by_cases hlt : i = l.length
        · subst hlt
          have HV : Hid (longM l = false) := by
            have := HA.out
            rw [List.take_length] at this
            show longM l = _
            rw [HF.out, this]
          go_wp2
          go_ret
          exact ⟨by rw [HV.out]; rfl, HB.out⟩
        · have hi' : (i : Int) < l.length := by omega
          have hl : i < l.length := by omega
          obtain ⟨a, ha⟩ : ∃ a, l[i]? = some a := ⟨_, List.getElem?_eq_getElem hl⟩
          obtain ⟨c0, c1, c2⟩ := H2.out i a ha
          have d0 := below_cell hB c0
          have d1 := below_cell hB c1
          have d2 := below_cell hB c2
          clear c0 c1 c2
          by_cases h50 : 50 < a.t.size
          · have HV : Hid (longM l = true) := by
              show longM l = _
              rw [HF.out, List.any_eq_true]
              exact ⟨a, List.mem_of_getElem? ha, by simp [h50]⟩
            have t5 : decide ((50 : Int) < (a.t.size : Nat)) = true := by simp; omega
            clear h50
            go_wp2_with fail
            go_ret
            exact ⟨by rw [HV.out]; rfl, HB.out.alloc HB.out.size _⟩
          · have HA2 : Hid (((l.take (i + 1)).any fun a => decide (50 < a.t.size)) = false) := by
              show (l.take (i + 1)).any _ = false
              rw [List.take_succ_eq_append_getElem hl, List.any_append, HA.out]
              rw [List.getElem?_eq_getElem hl] at ha
              injection ha with ha
              rw [ha]
              simp [h50]
            have t5 : decide ((50 : Int) < (a.t.size : Nat)) = false := by simp; omega
            clear h50
            go_wp2_with fail
            go_roundw
            case rel => exact ⟨i + 1, by omega, by go_num, HA2.out, HB.out.alloc HB.out.size _⟩
            case measure => simp [intOf]; omega
end Go.Proofs.YtghgbhekjgincaaDoor
