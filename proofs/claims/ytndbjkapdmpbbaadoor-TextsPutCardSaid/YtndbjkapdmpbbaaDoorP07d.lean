/- Chapter 7, plain: runes and their bytes: which texts are plain. -/
import Derived.Test.YtndbjkapdmpbbaaDoorBase
import Derived.Lib.DecodeN
import Derived.Lib.ValidU
namespace Go.Proofs.YtndbjkapdmpbbaaDoor
namespace Am
open Go.RowKit Go.Lib
set_option linter.unusedVariables false

/-! ### runes and their bytes -/
def bt (l : List UInt8) (i : Nat) : Nat := (l.getD i 0).toNat
theorem bt_lt (l : List UInt8) (i : Nat) : bt l i < 256 := UInt8.toNat_lt _
def dec1 (l : List UInt8) : Nat × Nat := Lib.decodeN l.length (bt l 0) (bt l 1) (bt l 2) (bt l 3)
theorem ba_bang (l : List UInt8) (i : Nat) : ((⟨l.toArray⟩ : ByteArray).get! i).toNat = bt l i := by
  show (l.toArray[i]!).toNat = _
  simp [bt, List.getD]
  rfl
theorem decodeL_dec1 (l : List UInt8) : decodeL l = dec1 l := by
  unfold decodeL dec1
  rw [Lib.decode_at, ba_bang, ba_bang, ba_bang, ba_bang]
  rfl
theorem dec1_width (l : List UInt8) : 1 ≤ (dec1 l).2 ∧ (dec1 l).2 ≤ 4 := by
  unfold dec1 Lib.decodeN
  repeat' split
  all_goals simp
def badR (c : Nat) : Bool := decide (c < 32) || decide (c = 127)
/-- is a text plain -/
def plainGo : Nat → List UInt8 → Bool
  | 0, _ => true
  | n + 1, l => if l = [] then true else if ((dec1 l).1 = 65533 ∧ (dec1 l).2 = 1) ∨ badR (dec1 l).1 = true then false else plainGo n (l.drop (dec1 l).2)
def plainM (l : List UInt8) : Bool := plainGo l.length l
/-- are there no runes that may not be -/
def noBad : Nat → List UInt8 → Bool
  | 0, _ => true
  | n + 1, l => if l = [] then true else if badR (dec1 l).1 = true then false else noBad n (l.drop (dec1 l).2)
theorem plain_two : ∀ (n : Nat) (l : List UInt8), plainGo n l = (noBad n l && validGoD n l)
  | 0, l => rfl
  | n + 1, l => by
    rw [plainGo, noBad, validGoD, plain_two n, decodeL_dec1]
    by_cases h : l = []
    · simp [h]
    · rw [if_neg h, if_neg h, if_neg h]
      by_cases h1 : badR (dec1 l).1 = true
      · simp [h1]
      · by_cases h2 : (dec1 l).1 = 65533 ∧ (dec1 l).2 = 1
        · simp [h1, h2]
        · rw [if_neg (by simp [h1]; intro h3 h4; exact h2 ⟨h3, h4⟩), if_neg h1, if_neg h2]
theorem fuel_plain : ∀ (n m : Nat) (l : List UInt8), l.length ≤ n → l.length ≤ m → plainGo n l = plainGo m l
  | 0, m, l, h, _ => by
    have : l = [] := List.length_eq_zero_iff.1 (by omega)
    subst this
    cases m <;> simp [plainGo]
  | n + 1, 0, l, _, h => by
    have : l = [] := List.length_eq_zero_iff.1 (by omega)
    subst this
    simp [plainGo]
  | n + 1, m + 1, l, h1, h2 => by
    rw [plainGo, plainGo]
    by_cases h : l = []
    · simp [h]
    · have hw := (dec1_width l).1
      have hp := List.length_pos_iff.2 h
      rw [fuel_plain n m _ (by simp; omega) (by simp; omega)]
theorem plainM_step {l : List UInt8} (h : l ≠ []) : plainM l = if ((dec1 l).1 = 65533 ∧ (dec1 l).2 = 1) ∨ badR (dec1 l).1 = true then false else plainM (l.drop (dec1 l).2) := by
  have hp := List.length_pos_iff.2 h
  have hw := (dec1_width l).1
  unfold plainM
  obtain ⟨n, hn⟩ : ∃ n, l.length = n + 1 := ⟨l.length - 1, by omega⟩
  rw [hn, plainGo, if_neg h, fuel_plain n (l.drop (dec1 l).2).length _ (by simp; omega) (Nat.le_refl _)]
theorem noBad_step {n : Nat} {l : List UInt8} (h : l ≠ []) : noBad (n + 1) l = if badR (dec1 l).1 = true then false else noBad n (l.drop (dec1 l).2) := by rw [noBad, if_neg h]
theorem noBad_fuel : ∀ (n m : Nat) (l : List UInt8), l.length ≤ n → l.length ≤ m → noBad n l = noBad m l
  | 0, m, l, h, _ => by
    have : l = [] := List.length_eq_zero_iff.1 (by omega)
    subst this
    cases m <;> simp [noBad]
  | n + 1, 0, l, _, h => by
    have : l = [] := List.length_eq_zero_iff.1 (by omega)
    subst this
    simp [noBad]
  | n + 1, m + 1, l, h1, h2 => by
    rw [noBad, noBad]
    by_cases h : l = []
    · simp [h]
    · have hw := (dec1_width l).1
      have hp := List.length_pos_iff.2 h
      rw [noBad_fuel n m _ (by simp; omega) (by simp; omega)]
def noBadM (l : List UInt8) : Bool := noBad l.length l
theorem noBadM_step {l : List UInt8} (h : l ≠ []) : noBadM l = if badR (dec1 l).1 = true then false else noBadM (l.drop (dec1 l).2) := by
  have hp := List.length_pos_iff.2 h
  have hw := (dec1_width l).1
  unfold noBadM
  obtain ⟨n, hn⟩ : ∃ n, l.length = n + 1 := ⟨l.length - 1, by omega⟩
  rw [hn, noBad_step h, noBad_fuel n (l.drop (dec1 l).2).length _ (by simp; omega) (Nat.le_refl _)]
theorem plainM_two (l : List UInt8) : plainM l = (noBadM l && validD l) := plain_two _ _
/-! what the reference asks, rune by rune -/
theorem ref_ascii {l : List UInt8} (h : l ≠ []) (h0 : bt l 0 < 128) : plainM l = if bt l 0 < 32 ∨ bt l 0 = 127 then false else plainM (l.drop 1) := by
  have e : dec1 l = (bt l 0, 1) := by unfold dec1 Lib.decodeN; rw [if_pos h0]
  rw [plainM_step h, e]
  simp only [badR, Bool.or_eq_true, decide_eq_true_eq]
  by_cases h1 : bt l 0 < 32 ∨ bt l 0 = 127
  · rw [if_pos (.inr h1), if_pos h1]
  · rw [if_neg h1, if_neg (by omega)]
theorem ref_bad {l : List UInt8} (h : l ≠ []) (hd : dec1 l = (65533, 1)) : plainM l = false := by
  rw [plainM_step h, hd, if_pos (.inl ⟨rfl, rfl⟩)]
theorem ref_good {l : List UInt8} (h : l ≠ []) {c w : Nat} (hd : dec1 l = (c, w)) (hc : 128 ≤ c) (hw : 2 ≤ w) : plainM l = plainM (l.drop w) := by
  rw [plainM_step h, hd, if_neg (by simp [badR]; omega)]
theorem dec_head_bad {l : List UInt8} (h : 128 ≤ bt l 0) (h2 : bt l 0 < 192 ∨ 248 ≤ bt l 0) : dec1 l = (65533, 1) := by
  unfold dec1 Lib.decodeN
  rw [if_neg (by omega), if_neg (by omega), if_neg (by omega), if_neg (by omega)]
theorem dec_two {l : List UInt8} (h : 192 ≤ bt l 0) (h2 : bt l 0 < 224) : dec1 l = if l.length ≤ 1 ∨ bt l 1 < 128 ∨ 191 < bt l 1 ∨ (bt l 0 - 192) * 64 + bt l 1 - 128 < 128 then (65533, 1) else ((bt l 0 - 192) * 64 + bt l 1 - 128, 2) := by
  have := bt_lt l 1
  unfold dec1 Lib.decodeN
  rw [if_neg (by omega)]
  by_cases h3 : l.length ≤ 1 ∨ bt l 1 < 128 ∨ 191 < bt l 1
  · rw [if_neg (by omega), if_neg (by omega), if_neg (by omega), if_pos (by omega)]
  · rw [if_pos (by omega)]
    have e : bt l 0 % 32 * 64 + bt l 1 % 64 = (bt l 0 - 192) * 64 + bt l 1 - 128 := by omega
    rw [e]
    by_cases h4 : (bt l 0 - 192) * 64 + bt l 1 - 128 < 128
    · rw [if_neg (by omega), if_pos (by omega)]
    · rw [if_pos (by omega), if_neg (by omega)]
theorem dec_three {l : List UInt8} (h : 224 ≤ bt l 0) (h2 : bt l 0 < 240) : dec1 l = if l.length ≤ 2 ∨ (bt l 1 < 128 ∨ 191 < bt l 1) ∨ (bt l 2 < 128 ∨ 191 < bt l 2) ∨ ((bt l 0 - 224) * 64 + bt l 1 - 128) * 64 + bt l 2 - 128 < 2048 ∨ (55296 ≤ ((bt l 0 - 224) * 64 + bt l 1 - 128) * 64 + bt l 2 - 128 ∧ ((bt l 0 - 224) * 64 + bt l 1 - 128) * 64 + bt l 2 - 128 < 57344) then (65533, 1) else (((bt l 0 - 224) * 64 + bt l 1 - 128) * 64 + bt l 2 - 128, 3) := by
  have := bt_lt l 1
  have := bt_lt l 2
  unfold dec1 Lib.decodeN
  rw [if_neg (by omega), if_neg (by omega)]
  by_cases h3 : l.length ≤ 2 ∨ (bt l 1 < 128 ∨ 191 < bt l 1) ∨ (bt l 2 < 128 ∨ 191 < bt l 2)
  · rw [if_neg (by omega), if_neg (by omega), if_pos (by omega)]
  · rw [if_pos (by omega)]
    have e : bt l 0 % 16 * 4096 + bt l 1 % 64 * 64 + bt l 2 % 64 = ((bt l 0 - 224) * 64 + bt l 1 - 128) * 64 + bt l 2 - 128 := by omega
    rw [e]
    obtain ⟨c, hc⟩ : ∃ c, c = ((bt l 0 - 224) * 64 + bt l 1 - 128) * 64 + bt l 2 - 128 := ⟨_, rfl⟩
    have hlt : c ≤ 65535 := by omega
    rw [← hc]
    by_cases h4 : c < 2048 ∨ (55296 ≤ c ∧ c < 57344)
    · rw [if_neg (by omega), if_pos (by omega)]
    · rw [if_pos (by omega), if_neg (by omega)]
theorem dec_four {l : List UInt8} (h : 240 ≤ bt l 0) (h2 : bt l 0 < 248) : dec1 l = if l.length ≤ 3 ∨ (bt l 1 < 128 ∨ 191 < bt l 1) ∨ (bt l 2 < 128 ∨ 191 < bt l 2) ∨ (bt l 3 < 128 ∨ 191 < bt l 3) ∨ (((bt l 0 - 240) * 64 + bt l 1 - 128) * 64 + bt l 2 - 128) * 64 + bt l 3 - 128 < 65536 ∨ 1114111 < (((bt l 0 - 240) * 64 + bt l 1 - 128) * 64 + bt l 2 - 128) * 64 + bt l 3 - 128 then (65533, 1) else ((((bt l 0 - 240) * 64 + bt l 1 - 128) * 64 + bt l 2 - 128) * 64 + bt l 3 - 128, 4) := by
  have := bt_lt l 1
  have := bt_lt l 2
  have := bt_lt l 3
  unfold dec1 Lib.decodeN
  rw [if_neg (by omega), if_neg (by omega), if_neg (by omega)]
  by_cases h3 : l.length ≤ 3 ∨ (bt l 1 < 128 ∨ 191 < bt l 1) ∨ (bt l 2 < 128 ∨ 191 < bt l 2) ∨ (bt l 3 < 128 ∨ 191 < bt l 3)
  · rw [if_neg (by omega), if_pos (by omega)]
  · rw [if_pos (by omega)]
    have e : bt l 0 % 8 * 262144 + bt l 1 % 64 * 4096 + bt l 2 % 64 * 64 + bt l 3 % 64 = (((bt l 0 - 240) * 64 + bt l 1 - 128) * 64 + bt l 2 - 128) * 64 + bt l 3 - 128 := by omega
    rw [e]
    obtain ⟨c, hc⟩ : ∃ c, c = (((bt l 0 - 240) * 64 + bt l 1 - 128) * 64 + bt l 2 - 128) * 64 + bt l 3 - 128 := ⟨_, rfl⟩
    rw [← hc]
    by_cases h4 : c < 65536 ∨ 1114111 < c
    · rw [if_neg (by omega), if_pos (by omega)]
    · rw [if_pos (by omega), if_neg (by omega)]
/-- what may be a text's body; the error's number -/
def askedM (l : List UInt8) (most : Int) : Nat := if l.length = 0 then 2 else if most < l.length then 3 else if plainM l = false then 8 else 0
end Am
end Go.Proofs.YtndbjkapdmpbbaaDoor
