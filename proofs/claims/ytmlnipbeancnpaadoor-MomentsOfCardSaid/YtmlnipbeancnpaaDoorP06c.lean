/- Chapter 6, plain: what bodies are read as. -/
import Derived.Test.YtmlnipbeancnpaaDoorW06b
namespace Go.Proofs.YtmlnipbeancnpaaDoor
namespace Am
open Go.RowKit Cal
set_option linter.unusedVariables false

def dg (b : List UInt8) (i : Nat) : Int := ((b.getD i 0).toNat : Int) - 48
def isDg (b : List UInt8) (i : Nat) : Prop := 48 ≤ ((b.getD i 0).toNat : Int) ∧ ((b.getD i 0).toNat : Int) ≤ 57
instance (b : List UInt8) (i : Nat) : Decidable (isDg b i) := by unfold isDg; infer_instance
def two (b : List UInt8) (j : Nat) : Int := 10 * dg b (2 * j) + dg b (2 * j + 1)
def getD6 (b : List UInt8) : D6 := ⟨100 * two b 0 + two b 1, two b 2, two b 3, two b 4, two b 5, two b 6⟩
def formP (b : List UInt8) : Prop := b.length = 15 ∧ ((b.getD 14 0).toNat : Int) = 90 ∧ ∀ i, i < 14 → isDg b i
instance (b : List UInt8) : Decidable (formP b) := by unfold formP; infer_instance
def getE (b : List UInt8) : Nat := if formP b then (if RightP (getD6 b) then 0 else 1) else 4
def getV (b : List UInt8) : Int := if formP b ∧ RightP (getD6 b) then secM (getD6 b) else 0

theorem body_len (x : D6) : (bodyL x).length = 15 := rfl
theorem body_dg {x : D6} (h : RightP x) : (∀ i, i < 14 → isDg (bodyL x) i) ∧ getD6 (bodyL x) = x := by
  obtain ⟨q1, q2, q3, q4, q5, q6, q7, q8, q9, q10⟩ := id h
  have qm := days_pos q3 q4
  have qd := days_le x.y x.m
  have q : ∀ n p : Int, 0 ≤ n → 1 ≤ p → ((figc n p).toNat : Int) = 48 + n / p % 10 := fun n p hn hp => figc_nat (Int.ediv_nonneg hn (by omega))
  have e : ∀ i, i < 14 → ∃ n p : Int, (bodyL x).getD i 0 = figc n p ∧ 0 ≤ n ∧ 1 ≤ p := by
    intro i hi
    rcases i with _|_|_|_|_|_|_|_|_|_|_|_|_|_|i
    · exact ⟨x.y, 1000, rfl, by omega, by omega⟩
    · exact ⟨x.y, 100, rfl, by omega, by omega⟩
    · exact ⟨x.y, 10, rfl, by omega, by omega⟩
    · exact ⟨x.y, 1, rfl, by omega, by omega⟩
    · exact ⟨x.m, 10, rfl, by omega, by omega⟩
    · exact ⟨x.m, 1, rfl, by omega, by omega⟩
    · exact ⟨x.d, 10, rfl, by omega, by omega⟩
    · exact ⟨x.d, 1, rfl, by omega, by omega⟩
    · exact ⟨x.h, 10, rfl, by omega, by omega⟩
    · exact ⟨x.h, 1, rfl, by omega, by omega⟩
    · exact ⟨x.mi, 10, rfl, by omega, by omega⟩
    · exact ⟨x.mi, 1, rfl, by omega, by omega⟩
    · exact ⟨x.s, 10, rfl, by omega, by omega⟩
    · exact ⟨x.s, 1, rfl, by omega, by omega⟩
    · omega
  refine ⟨fun i hi => ?_, ?_⟩
  · obtain ⟨n, p, h1, h2, h3⟩ := e i hi
    unfold isDg
    rw [h1, q n p h2 h3]
    omega
  · have dd : ∀ (i : Nat) (n p : Int), (bodyL x).getD i 0 = figc n p → 0 ≤ n → 1 ≤ p → dg (bodyL x) i = n / p % 10 := fun i n p h1 h2 h3 => by
      unfold dg
      rw [h1, q n p h2 h3]
      omega
    have t0 : two (bodyL x) 0 = 10 * (x.y / 1000 % 10) + x.y / 100 % 10 := by unfold two; rw [dd (2 * 0) x.y 1000 rfl (by omega) (by omega), dd (2 * 0 + 1) x.y 100 rfl (by omega) (by omega)]
    have t1 : two (bodyL x) 1 = 10 * (x.y / 10 % 10) + x.y / 1 % 10 := by unfold two; rw [dd (2 * 1) x.y 10 rfl (by omega) (by omega), dd (2 * 1 + 1) x.y 1 rfl (by omega) (by omega)]
    have t2 : two (bodyL x) 2 = x.m := by unfold two; rw [dd (2 * 2) x.m 10 rfl (by omega) (by omega), dd (2 * 2 + 1) x.m 1 rfl (by omega) (by omega)]; omega
    have t3 : two (bodyL x) 3 = x.d := by unfold two; rw [dd (2 * 3) x.d 10 rfl (by omega) (by omega), dd (2 * 3 + 1) x.d 1 rfl (by omega) (by omega)]; omega
    have t4 : two (bodyL x) 4 = x.h := by unfold two; rw [dd (2 * 4) x.h 10 rfl (by omega) (by omega), dd (2 * 4 + 1) x.h 1 rfl (by omega) (by omega)]; omega
    have t5 : two (bodyL x) 5 = x.mi := by unfold two; rw [dd (2 * 5) x.mi 10 rfl (by omega) (by omega), dd (2 * 5 + 1) x.mi 1 rfl (by omega) (by omega)]; omega
    have t6 : two (bodyL x) 6 = x.s := by unfold two; rw [dd (2 * 6) x.s 10 rfl (by omega) (by omega), dd (2 * 6 + 1) x.s 1 rfl (by omega) (by omega)]; omega
    unfold getD6
    rw [t0, t1, t2, t3, t4, t5, t6]
    have : 100 * (10 * (x.y / 1000 % 10) + x.y / 100 % 10) + (10 * (x.y / 10 % 10) + x.y / 1 % 10) = x.y := by omega
    rw [this]
theorem get_body {x : D6} (h : RightP x) : getE (bodyL x) = 0 ∧ getV (bodyL x) = secM x := by
  have hf : formP (bodyL x) := ⟨rfl, by show (((90 : UInt8).toNat : Nat) : Int) = 90; rfl, (body_dg h).1⟩
  have hg := (body_dg h).2
  unfold getE getV
  rw [hg, if_pos hf, if_pos h, if_pos ⟨hf, h⟩]
  exact ⟨rfl, rfl⟩

/-- the reference's text of a date -/
def texF (x : D6) : List Int := [x.y / 100, x.y % 100, x.m, x.d, x.h, x.mi, x.s]
def texL (x : D6) (i : Nat) : List UInt8 := ((texF x).take i).flatMap fun n => [figc n 10, figc n 1]
theorem texL_all {x : D6} (h1 : 0 ≤ x.y) (h2 : x.y ≤ 9999) : texL x 7 ++ [90] = bodyL x := by
  have e1 : figc (x.y / 100) 10 = figc x.y 1000 := by unfold figc; congr 2; omega
  have e2 : figc (x.y / 100) 1 = figc x.y 100 := by unfold figc; congr 2; omega
  have e3 : figc (x.y % 100) 10 = figc x.y 10 := by unfold figc; congr 2; omega
  have e4 : figc (x.y % 100) 1 = figc x.y 1 := by unfold figc; congr 2; omega
  simp [texL, texF, bodyL, figL, e1, e2, e3, e4]
theorem texL_succ {x : D6} {i : Nat} (h : i < (texF x).length) : texL x (i + 1) = texL x i ++ [figc ((texF x).getD i 0) 10, figc ((texF x).getD i 0) 1] := by
  have e : (texF x).take (i + 1) = (texF x).take i ++ [(texF x).getD i 0] := by
    rw [List.take_succ_eq_append_getElem h]
    simp [List.getD, h]
  unfold texL
  rw [e, List.flatMap_append]
  simp
theorem texL_len (x : D6) {i : Nat} (h : i ≤ 7) : (texL x i).length = 2 * i := by
  rcases i with _|_|_|_|_|_|_|_|i <;> simp [texL, texF] <;> omega
end Am
end Go.Proofs.YtmlnipbeancnpaaDoor
