/- Chapter 7, plain: what the reference asks of a rune's bytes. -/
import Derived.Test.YtndbjkapdmpbbaaDoorP07d
namespace Go.Proofs.YtndbjkapdmpbbaaDoor
namespace Am
open Go.RowKit Go.Lib
set_option linter.unusedVariables false

/-- what the first byte b says: n more bytes, the bits c, the least -/
def RefSt (b n c least : Nat) : Prop :=
  (n = 0 ∧ c = b ∧ least = 0 ∧ b < 128 ∧ 32 ≤ b ∧ b ≠ 127) ∨ (n = 1 ∧ c + 192 = b ∧ least = 128 ∧ b < 224) ∨ (n = 2 ∧ c + 224 = b ∧ least = 2048 ∧ b < 240) ∨ (n = 3 ∧ c + 240 = b ∧ least = 65536 ∧ b < 248)
def cR (d : List UInt8) (c0 : Nat) : Nat → Nat
  | 0 => c0
  | j + 1 => cR d c0 j * 64 + bt d (j + 1) - 128
theorem cR_bd {d : List UInt8} {c0 j : Nat} (hj : j ≤ 3) (h0 : c0 < 128) (h : ∀ q, 1 ≤ q → q ≤ j → 128 ≤ bt d q ∧ bt d q ≤ 191) : cR d c0 j < 33554432 ∧ (j ≤ 2 → cR d c0 j < 524288) := by
  have h1 := h 1 (by omega)
  have h2 := h 2 (by omega)
  have h3 := h 3 (by omega)
  have e0 : cR d c0 0 = c0 := rfl
  have e1 : cR d c0 1 = c0 * 64 + bt d 1 - 128 := rfl
  have e2 : cR d c0 2 = (c0 * 64 + bt d 1 - 128) * 64 + bt d 2 - 128 := rfl
  have e3 : cR d c0 3 = ((c0 * 64 + bt d 1 - 128) * 64 + bt d 2 - 128) * 64 + bt d 3 - 128 := rfl
  have hj4 : j = 0 ∨ j = 1 ∨ j = 2 ∨ j = 3 := by omega
  rcases hj4 with e | e | e | e <;> rw [e] <;> omega
theorem ref_cont {d : List UInt8} {n c least j : Nat} (hd : d ≠ []) (hR : RefSt (bt d 0) n c least) (hj : j < n) (hl : d.length = 1 + j ∨ bt d (j + 1) < 128 ∨ 191 < bt d (j + 1)) : plainM d = false := by
  refine ref_bad hd ?_
  unfold RefSt at hR
  rcases hR with hR | hR | hR | hR
  · omega
  · rw [dec_two (by omega) (by omega), if_pos ?_]
    obtain rfl : j = 0 := by omega
    simp only [Nat.zero_add] at hl
    omega
  · rw [dec_three (by omega) (by omega), if_pos ?_]
    have : j = 0 ∨ j = 1 := by omega
    rcases this with rfl | rfl <;> simp only [Nat.zero_add, Nat.reduceAdd] at hl <;> omega
  · rw [dec_four (by omega) (by omega), if_pos ?_]
    have : j = 0 ∨ j = 1 ∨ j = 2 := by omega
    rcases this with rfl | rfl | rfl <;> simp only [Nat.zero_add, Nat.reduceAdd] at hl <;> omega
theorem ref_end {d : List UInt8} {n c least : Nat} (hd : d ≠ []) (hR : RefSt (bt d 0) n c least) (hl : 1 + n ≤ d.length) (h : ∀ q, 1 ≤ q → q ≤ n → 128 ≤ bt d q ∧ bt d q ≤ 191) :
    plainM d = if cR d c n < least ∨ 1114111 < cR d c n ∨ (55296 ≤ cR d c n ∧ cR d c n < 57344) then false else plainM (d.drop (1 + n)) := by
  have h1 := h 1 (by omega)
  have h2 := h 2 (by omega)
  have h3 := h 3 (by omega)
  unfold RefSt at hR
  rcases hR with ⟨rfl, rfl, rfl, hR⟩ | ⟨rfl, hc, rfl, hR⟩ | ⟨rfl, hc, rfl, hR⟩ | ⟨rfl, hc, rfl, hR⟩
  · rw [ref_ascii hd (by omega), if_neg (by omega), if_neg (by show ¬ (bt d 0 < 0 ∨ 1114111 < bt d 0 ∨ (55296 ≤ bt d 0 ∧ bt d 0 < 57344)); omega)]
  · have e : cR d c 1 = (bt d 0 - 192) * 64 + bt d 1 - 128 := by show c * 64 + bt d 1 - 128 = _; omega
    have hd2 := dec_two (l := d) (by omega) (by omega)
    rw [e]
    by_cases hb : (bt d 0 - 192) * 64 + bt d 1 - 128 < 128
    · rw [if_pos (.inl hb)]
      exact ref_bad hd (by rw [hd2, if_pos (by omega)])
    · rw [if_neg (by omega)]
      exact ref_good hd (by rw [hd2, if_neg (by omega)]) (by omega) (by omega)
  · have e : cR d c 2 = ((bt d 0 - 224) * 64 + bt d 1 - 128) * 64 + bt d 2 - 128 := by show (c * 64 + bt d 1 - 128) * 64 + bt d 2 - 128 = _; omega
    have hd2 := dec_three (l := d) (by omega) (by omega)
    obtain ⟨C, hC⟩ : ∃ C, C = ((bt d 0 - 224) * 64 + bt d 1 - 128) * 64 + bt d 2 - 128 := ⟨_, rfl⟩
    have hlt : C ≤ 65535 := by omega
    rw [e, ← hC]
    rw [← hC] at hd2
    by_cases hb : C < 2048 ∨ (55296 ≤ C ∧ C < 57344)
    · rw [if_pos (by omega)]
      exact ref_bad hd (by rw [hd2, if_pos (by omega)])
    · rw [if_neg (by omega)]
      exact ref_good hd (by rw [hd2, if_neg (by omega)]) (by omega) (by omega)
  · have e : cR d c 3 = (((bt d 0 - 240) * 64 + bt d 1 - 128) * 64 + bt d 2 - 128) * 64 + bt d 3 - 128 := by show ((c * 64 + bt d 1 - 128) * 64 + bt d 2 - 128) * 64 + bt d 3 - 128 = _; omega
    have hd2 := dec_four (l := d) (by omega) (by omega)
    obtain ⟨C, hC⟩ : ∃ C, C = (((bt d 0 - 240) * 64 + bt d 1 - 128) * 64 + bt d 2 - 128) * 64 + bt d 3 - 128 := ⟨_, rfl⟩
    rw [e, ← hC]
    rw [← hC] at hd2
    by_cases hb : C < 65536 ∨ 1114111 < C
    · rw [if_pos (by omega)]
      exact ref_bad hd (by rw [hd2, if_pos (by omega)])
    · rw [if_neg (by omega)]
      exact ref_good hd (by rw [hd2, if_neg (by omega)]) (by omega) (by omega)
theorem bt_drop (l : List UInt8) (i j : Nat) : bt (l.drop i) j = bt l (i + j) := by simp [bt, List.getD]
theorem dec_at (l : List UInt8) (i : Nat) : Utf8.decode ⟨l.toArray⟩ i = dec1 (l.drop i) := by
  unfold dec1
  rw [Lib.decode_at, ba_bang, ba_bang, ba_bang, ba_bang, bt_drop, bt_drop, bt_drop, bt_drop, List.length_drop]
  rfl
theorem dec1_le {d : List UInt8} (hd : d ≠ []) : (dec1 d).2 ≤ d.length := by
  have hp := List.length_pos_iff.2 hd
  unfold dec1 Lib.decodeN
  repeat' split
  all_goals first | (simp only; omega) | omega
theorem ref_cl {b : Nat} (h : b < 128 ∨ (192 ≤ b ∧ b < 248)) : ∃ n c least : Nat, (n = 0 ∧ c = b ∧ least = 0 ∧ b < 128) ∨ (n = 1 ∧ c + 192 = b ∧ least = 128 ∧ b < 224) ∨ (n = 2 ∧ c + 224 = b ∧ least = 2048 ∧ b < 240) ∨ (n = 3 ∧ c + 240 = b ∧ least = 65536 ∧ b < 248) := by
  by_cases h1 : b < 128
  · exact ⟨0, b, 0, by omega⟩
  by_cases h2 : b < 224
  · exact ⟨1, b - 192, 128, by omega⟩
  by_cases h3 : b < 240
  · exact ⟨2, b - 224, 2048, by omega⟩
  · exact ⟨3, b - 240, 65536, by omega⟩
theorem plainM_nil : plainM [] = true := rfl
theorem noBadM_nil : noBadM [] = true := rfl
end Am
end Go.Proofs.YtndbjkapdmpbbaaDoor
