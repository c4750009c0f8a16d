/- Chapter 6, plain: later moments have later bodies. -/
import Derived.Test.YtmlnipbeancnpaaDoorW06b
namespace Go.Proofs.YtmlnipbeancnpaaDoor
namespace Am
open Go.RowKit Cal
set_option linter.unusedVariables false

/-- dates in order -/
def LexP (a b : D6) : Prop := a.y < b.y ∨ (a.y = b.y ∧ (a.m < b.m ∨ (a.m = b.m ∧ (a.d < b.d ∨ (a.d = b.d ∧ (a.h < b.h ∨ (a.h = b.h ∧ (a.mi < b.mi ∨ (a.mi = b.mi ∧ a.s < b.s)))))))))
theorem lex_sec {a b : D6} (ha : RightP a) (hb : RightP b) (h : LexP a b) : secM a < secM b := by
  obtain ⟨a1, a2, a3, a4, a5, a6, a7, a8, a9, a10⟩ := ha
  obtain ⟨b1, b2, b3, b4, b5, b6, b7, b8, b9, b10⟩ := hb
  obtain ⟨p1, p2, p3, p4, p5, p6⟩ := dn_bd a1 a2 a3 a4
  obtain ⟨q1, q2, q3, q4, q5, q6⟩ := dn_bd b1 b2 b3 b4
  have hd : dn a.y a.m a.d < dn b.y b.m b.d ∨ (dn a.y a.m a.d = dn b.y b.m b.d ∧ (a.h < b.h ∨ (a.h = b.h ∧ (a.mi < b.mi ∨ (a.mi = b.mi ∧ a.s < b.s))))) := by
    rcases h with h | ⟨hy, h⟩
    · left
      have := bf_mono (a := a.y + 1) (b := b.y) (by omega)
      omega
    · rcases h with h | ⟨hm, h⟩
      · left
        have := cum_mono (y := a.y) (a := a.m + 1) (b := b.m) (by omega) (by omega) (by omega)
        unfold dn at *
        rw [← hy] at *
        omega
      · rcases h with h | ⟨hd, h⟩
        · left
          unfold dn
          rw [hy, hm]
          omega
        · right
          exact ⟨by rw [hy, hm, hd], h⟩
  unfold secM
  generalize dn a.y a.m a.d = A at *
  generalize dn b.y b.m b.d = B at *
  omega

/-! ### bytes in order -/
theorem bl_append : ∀ (a b l r : List UInt8), a.length = b.length → Op.bytesLess (a ++ l) (b ++ r) = (Op.bytesLess a b || (a == b && Op.bytesLess l r))
  | [], [], l, r, _ => by simp [Op.bytesLess]
  | x :: a, y :: b, l, r, h => by
    have := bl_append a b l r (by simpa using h)
    simp only [List.cons_append, Op.bytesLess, this]
    by_cases h1 : x < y
    · simp [h1]
    · by_cases h2 : x = y
      · subst h2; simp [h1]
      · have h3 : (x == y) = false := by simp [h2]
        simp [h1, h3]
theorem figc_lt {n m p q : Int} (hn : 0 ≤ n / p) (hm : 0 ≤ m / q) : (figc n p < figc m q) ↔ n / p % 10 < m / q % 10 := by
  have h1 := figc_nat hn
  have h2 := figc_nat hm
  rw [UInt8.lt_iff_toNat_lt]
  omega
theorem figc_eq {n m p q : Int} (hn : 0 ≤ n / p) (hm : 0 ≤ m / q) : (figc n p = figc m q) ↔ n / p % 10 = m / q % 10 := by
  have h1 := figc_nat hn
  have h2 := figc_nat hm
  rw [← UInt8.toNat_inj]
  omega
theorem fig2_lt {x y : Int} (hx : 0 ≤ x ∧ x ≤ 99) (hy : 0 ≤ y ∧ y ≤ 99) : Op.bytesLess (figL x [10, 1]) (figL y [10, 1]) = decide (x < y) := by
  simp only [figL, List.map, Op.bytesLess]
  rw [Bool.eq_iff_iff]
  simp only [Bool.or_eq_true, Bool.and_eq_true, decide_eq_true_eq, beq_iff_eq, Bool.and_false, Bool.or_false, Bool.false_eq_true, and_false, or_false]
  rw [figc_lt (by omega) (by omega), figc_lt (by omega) (by omega), figc_eq (by omega) (by omega)]
  omega
theorem fig2_eq {x y : Int} (hx : 0 ≤ x ∧ x ≤ 99) (hy : 0 ≤ y ∧ y ≤ 99) : (figL x [10, 1] == figL y [10, 1]) = decide (x = y) := by
  rw [Bool.eq_iff_iff]
  simp only [figL, List.map, beq_iff_eq, List.cons.injEq, and_true, decide_eq_true_eq]
  rw [figc_eq (by omega) (by omega), figc_eq (by omega) (by omega)]
  omega
theorem dig4 {z : Int} (h : 0 ≤ z ∧ z ≤ 9999) : z = 1000 * (z / 1000 % 10) + 100 * (z / 100 % 10) + 10 * (z / 10 % 10) + z / 1 % 10 := by omega
theorem dig_bd (z p : Int) : 0 ≤ z / p % 10 ∧ z / p % 10 ≤ 9 := by omega
theorem fig4_lt {x y : Int} (hx : 0 ≤ x ∧ x ≤ 9999) (hy : 0 ≤ y ∧ y ≤ 9999) : Op.bytesLess (figL x [1000, 100, 10, 1]) (figL y [1000, 100, 10, 1]) = decide (x < y) := by
  simp only [figL, List.map, Op.bytesLess]
  rw [Bool.eq_iff_iff]
  simp only [Bool.or_eq_true, Bool.and_eq_true, decide_eq_true_eq, beq_iff_eq, Bool.and_false, Bool.or_false, Bool.false_eq_true, and_false, or_false]
  rw [figc_lt (by omega) (by omega), figc_lt (by omega) (by omega), figc_lt (by omega) (by omega), figc_lt (by omega) (by omega), figc_eq (by omega) (by omega), figc_eq (by omega) (by omega), figc_eq (by omega) (by omega)]
  have dx := dig4 hx
  have dy := dig4 hy
  have x3 := dig_bd x 1000
  have x2 := dig_bd x 100
  have x1 := dig_bd x 10
  have x0 := dig_bd x 1
  have y3 := dig_bd y 1000
  have y2 := dig_bd y 100
  have y1 := dig_bd y 10
  have y0 := dig_bd y 1
  generalize x / 1000 % 10 = xa at *
  generalize x / 100 % 10 = xb at *
  generalize x / 10 % 10 = xc at *
  generalize x / 1 % 10 = xd at *
  generalize y / 1000 % 10 = ya at *
  generalize y / 100 % 10 = yb at *
  generalize y / 10 % 10 = yc at *
  generalize y / 1 % 10 = yd at *
  omega
theorem fig4_eq {x y : Int} (hx : 0 ≤ x ∧ x ≤ 9999) (hy : 0 ≤ y ∧ y ≤ 9999) : (figL x [1000, 100, 10, 1] == figL y [1000, 100, 10, 1]) = decide (x = y) := by
  rw [Bool.eq_iff_iff]
  simp only [figL, List.map, beq_iff_eq, List.cons.injEq, and_true, decide_eq_true_eq]
  rw [figc_eq (by omega) (by omega), figc_eq (by omega) (by omega), figc_eq (by omega) (by omega), figc_eq (by omega) (by omega)]
  have dx := dig4 hx
  have dy := dig4 hy
  have x3 := dig_bd x 1000
  have x2 := dig_bd x 100
  have x1 := dig_bd x 10
  have x0 := dig_bd x 1
  have y3 := dig_bd y 1000
  have y2 := dig_bd y 100
  have y1 := dig_bd y 10
  have y0 := dig_bd y 1
  generalize x / 1000 % 10 = xa at *
  generalize x / 100 % 10 = xb at *
  generalize x / 10 % 10 = xc at *
  generalize x / 1 % 10 = xd at *
  generalize y / 1000 % 10 = ya at *
  generalize y / 100 % 10 = yb at *
  generalize y / 10 % 10 = yc at *
  generalize y / 1 % 10 = yd at *
  omega
instance (a b : D6) : Decidable (LexP a b) := by unfold LexP; infer_instance
theorem body_lt {a b : D6} (ha : RightP a) (hb : RightP b) : Op.bytesLess (bodyL a) (bodyL b) = decide (LexP a b) := by
  obtain ⟨a1, a2, a3, a4, a5, a6, a7, a8, a9, a10⟩ := ha
  obtain ⟨b1, b2, b3, b4, b5, b6, b7, b8, b9, b10⟩ := hb
  have am := days_pos a3 a4
  have bm := days_pos b3 b4
  have ad := days_le a.y a.m
  have bd := days_le b.y b.m
  simp only [bodyL, List.append_assoc]
  rw [bl_append (figL a.y _) (figL b.y _) _ _ rfl, bl_append (figL a.m _) (figL b.m _) _ _ rfl, bl_append (figL a.d _) (figL b.d _) _ _ rfl, bl_append (figL a.h _) (figL b.h _) _ _ rfl, bl_append (figL a.mi _) (figL b.mi _) _ _ rfl, bl_append (figL a.s _) (figL b.s _) _ _ rfl]
  rw [fig4_lt (by omega) (by omega), fig4_eq (by omega) (by omega), fig2_lt (by omega) (by omega), fig2_eq (by omega) (by omega), fig2_lt (by omega) (by omega), fig2_eq (by omega) (by omega), fig2_lt (by omega) (by omega), fig2_eq (by omega) (by omega), fig2_lt (by omega) (by omega), fig2_eq (by omega) (by omega), fig2_lt (by omega) (by omega), fig2_eq (by omega) (by omega)]
  rw [Bool.eq_iff_iff, decide_eq_true_iff]
  simp [LexP, Op.bytesLess]
theorem body_order {t x : Int} (ht : inT t) (hx : inT x) : Op.bytesLess (bodyL (ofM t)) (bodyL (ofM x)) = decide (t < x) := by
  have rt := ofR_right ht
  have rx := ofR_right hx
  rw [ofM, if_pos ht, ofM, if_pos hx, body_lt rt.1 rx.1]
  refine decide_eq_decide.2 ⟨fun h => by have := lex_sec rt.1 rx.1 h; omega, fun h => ?_⟩
  refine Decidable.byContradiction fun hn => ?_
  by_cases h2 : LexP (ofR x) (ofR t)
  · have := lex_sec rx.1 rt.1 h2
    omega
  · have e : ofR t = ofR x := by
      have hh : ∀ a b : D6, ¬ LexP a b → ¬ LexP b a → a = b := fun a b h1 h2 => by
        unfold LexP at h1 h2
        obtain ⟨a1, a2, a3, a4, a5, a6⟩ := a
        obtain ⟨b1, b2, b3, b4, b5, b6⟩ := b
        simp only [D6.mk.injEq] at *
        omega
      exact hh _ _ hn h2
    have : secM (ofR t) = secM (ofR x) := by rw [e]
    omega
end Am
end Go.Proofs.YtmlnipbeancnpaaDoor
