/- The walks of chapter 9 (names): Compare, the reference's, subjects that are too long. -/
import Derived.Test.YtjhgocnjhhjkoaaDoorP09
import Derived.Test.YtjhgocnjhhjkoaaDoorReg2
import Derived.Test.YtjhgocnjhhjkoaaDoorShelf
namespace Go.Proofs.YtjhgocnjhhjkoaaDoor
open Go.RowKit

/-- a subject's value -/
def sv (k : Int) (sp nm : List UInt8) : Value := .agg #[.int .i64 k, .string ⟨sp.toArray⟩, .string ⟨nm.toArray⟩]
theorem balloc (w : World) (o : Obj) : Below w.heap.size w (w.alloc o) := (Below.refl _ _).alloc (Nat.le_refl _) _
theorem balloc2 (w : World) (o o2 : Obj) : Below w.heap.size w ((w.alloc o).alloc o2) := (balloc w o).alloc (by simp) _
theorem brefl (w : World) : Below w.heap.size w w := Below.refl _ _

set_option maxHeartbeats 400000 in
theorem long09_any (k : Int) (sp nm : List UInt8) (w : World) :
    Calls Tryd.prog 34 #[sv k sp nm] w fun e w' => e = .returned (.bool (decide ((200 : Int) < sp.length) || decide ((200 : Int) < nm.length))) ∧ Below w.heap.size w w' := by
  unfold sv
  go_enter Tryd.func34, Tryd.ntmps34
  go_wp2
  all_goals
    go_ret
    exact ⟨rfl, balloc _ _⟩
def sg09 (b : Bool) : Int := if b then -1 else 1
theorem sign09_any (b : Bool) (w : World) : Calls Tryd.prog 45 #[.bool b] w fun e w' => e = .returned (.int .i64 (sg09 b)) ∧ Below w.heap.size w w' := by
  cases b
  all_goals
    go_enter Tryd.func45, Tryd.ntmps45
    go_wp2
    go_ret
    exact ⟨rfl, Below.refl _ _⟩
theorem sgn_int (k k2 : Int) (h : k ≠ k2) : (if decide (k < k2) then (-1 : Int) else 1) = Lib.compareInt k k2 := by
  unfold Lib.compareInt
  by_cases h1 : k < k2
  · simp [h1]
  · simp [h1, show k > k2 by omega]
set_option maxHeartbeats 400000 in
theorem rcompare09_any (k k2 : Int) (sp nm sp2 nm2 : List UInt8) (w : World) :
    Calls Tryd.prog 36 #[sv k sp nm, sv k2 sp2 nm2] w fun e w' => e = .returned (.int .i64 (cmpM k sp nm k2 sp2 nm2)) ∧ Below w.heap.size w w' := by
  unfold sv
  by_cases h1 : k = k2
  · subst h1
    by_cases h2 : sp = sp2
    · subst h2
      by_cases h3 : nm = nm2
      · subst h3
        have HF := Lib.hid ((cmpM_zero k sp nm k sp nm).2 ⟨rfl, rfl, rfl⟩)
        go_enter Tryd.func36, Tryd.ntmps36
        go_wp2
        go_ret
        exact ⟨by rw [HF.out]; rfl, balloc2 _ _ _⟩
      · have HF : Hid (cmpM k sp nm k sp nm2 = sg09 (Op.bytesLess nm nm2)) := by
          unfold sg09
          rw [← cb_less _ _ h3]
          show cmpM _ _ _ _ _ _ = _
          unfold cmpM or3
          rw [cb_refl, if_neg (by simp [Lib.compareInt]), if_neg (by simp)]
        have t3 : (nm == nm2) = false := beq_eq_false_iff_ne.2 h3
        clear h3
        go_enter Tryd.func36, Tryd.ntmps36
        go_wp2_with (go_at_call 45; refine (sign09_any _ _).mono ?_; rintro e w1 ⟨rfl, hB⟩)
        go_ret
        exact ⟨by rw [HF.out]; rfl, below_then (balloc2 _ _ _) hB⟩
    · have HF : Hid (cmpM k sp nm k sp2 nm2 = sg09 (Op.bytesLess sp sp2)) := by
        unfold sg09
        rw [← cb_less _ _ h2]
        show cmpM _ _ _ _ _ _ = _
        unfold cmpM or3
        rw [if_neg (by simp [Lib.compareInt]), if_pos (fun e => h2 (cb_eq _ _ e))]
      have t2 : (sp == sp2) = false := beq_eq_false_iff_ne.2 h2
      clear h2
      go_enter Tryd.func36, Tryd.ntmps36
      go_wp2_with (go_at_call 45; refine (sign09_any _ _).mono ?_; rintro e w1 ⟨rfl, hB⟩)
      go_ret
      exact ⟨by rw [HF.out]; rfl, below_then (balloc2 _ _ _) hB⟩
  · have HF : Hid (cmpM k sp nm k2 sp2 nm2 = sg09 (decide (k < k2))) := by
      unfold sg09
      show cmpM _ _ _ _ _ _ = _
      rw [sgn_int _ _ h1]
      unfold cmpM or3
      rw [if_pos]
      unfold Lib.compareInt
      split
      · decide
      · split
        · decide
        · omega
    have t1 : (k != k2) = true := by simp [h1]
    clear h1
    go_enter Tryd.func36, Tryd.ntmps36
    go_wp2_with (go_at_call 45; refine (sign09_any _ _).mono ?_; rintro e w1 ⟨rfl, hB⟩)
    go_ret
    exact ⟨by rw [HF.out]; rfl, below_then (balloc2 _ _ _) hB⟩

set_option maxHeartbeats 400000 in
theorem or3_any (g : Nat) (a b c : Int) (w : World) (h0 : w.cell? ⟨g, 0, none⟩ = some (.int .i64 a)) (h1 : w.cell? ⟨g, 1, none⟩ = some (.int .i64 b)) (h2 : w.cell? ⟨g, 2, none⟩ = some (.int .i64 c)) :
    Calls Tryd.prog 42 #[.slice (some ⟨g, 0, none⟩) 3 3] w fun e w' => e = .returned (.int .i64 (or3 a b c)) ∧ Below w.heap.size w w' := by
  by_cases ha : a = 0
  · subst ha
    by_cases hb : b = 0
    · subst hb
      by_cases hc : c = 0
      · subst hc
        go_enter Tryd.func42, Tryd.ntmps42
        go_wp2
        go_rounds 4
        go_ret
        exact ⟨rfl, Below.refl _ _⟩
      · have t : (c != 0) = true := by simp [hc]
        go_enter Tryd.func42, Tryd.ntmps42
        go_wp2
        go_rounds 3
        go_ret
        exact ⟨by simp [or3], Below.refl _ _⟩
    · have t : (b != 0) = true := by simp [hb]
      have HF : Hid (or3 0 b c = b) := by show or3 _ _ _ = _; simp [or3, hb]
      clear hb
      go_enter Tryd.func42, Tryd.ntmps42
      go_wp2
      go_rounds 2
      go_ret
      exact ⟨by rw [HF.out]; rfl, Below.refl _ _⟩
  · have t : (a != 0) = true := by simp [ha]
    have HF : Hid (or3 a b c = a) := by show or3 _ _ _ = _; simp [or3, ha]
    clear ha
    go_enter Tryd.func42, Tryd.ntmps42
    go_wp2
    go_rounds 1
    go_ret
    exact ⟨by rw [HF.out]; rfl, Below.refl _ _⟩
end Go.Proofs.YtjhgocnjhhjkoaaDoor
