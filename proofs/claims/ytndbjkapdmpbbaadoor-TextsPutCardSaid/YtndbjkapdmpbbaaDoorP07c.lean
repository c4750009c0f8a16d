/- Chapter 7, plain: shifts and bits of numbers as the program computes them. -/
import Derived.Test.YtndbjkapdmpbbaaDoorP07b
import Derived.Test.YtndbjkapdmpbbaaDoorAmA
namespace Go.Proofs.YtndbjkapdmpbbaaDoor
namespace Am
open Go.RowKit
set_option linter.unusedVariables false
set_option maxRecDepth 100000

theorem shr_nat {M i b : Nat} (h : i ≤ b) : Int.fdiv ((M : Nat) : Int) (2 ^ (min ((i : Nat) : Int).toNat b)) = ((M / 2 ^ i : Nat) : Int) := by
  rw [Int.toNat_natCast, Nat.min_eq_left h, show ((2 : Int) ^ i) = ((2 ^ i : Nat) : Int) by push_cast; rfl, Int.fdiv_eq_ediv_of_nonneg _ (Int.natCast_nonneg _)]
  exact (Int.natCast_ediv M (2 ^ i)).symm
theorem shl_nat {M i b : Nat} (h : i ≤ b) : ((M : Nat) : Int) * 2 ^ (min ((i : Nat) : Int).toNat b) = ((M * 2 ^ i : Nat) : Int) := by
  rw [Int.toNat_natCast, Nat.min_eq_left h]
  push_cast; rfl
theorem wrap16 (n : Int) : IntKind.u16.wrap n = n % 65536 := by simp [IntKind.wrap, IntKind.bits, IntKind.signed]
theorem shl8_16 {M : Nat} (z : Int) (hz : z = 8) : IntKind.u16.wrap (((M : Nat) : Int) * 2 ^ (min z.toNat 16)) = ((M % 256 * 256 : Nat) : Int) := by
  subst hz
  rw [wrap16, show min (8 : Int).toNat 16 = 8 from rfl, show ((2 : Int) ^ 8) = 256 from rfl]
  omega
theorem shr8_16 {M : Nat} (z : Int) (hz : z = 8) : Int.fdiv ((M : Nat) : Int) (2 ^ (min z.toNat 16)) = ((M / 256 : Nat) : Int) := by
  subst hz
  rw [show min (8 : Int).toNat 16 = 8 from rfl, show ((2 : Int) ^ 8) = ((256 : Nat) : Int) from rfl, Int.fdiv_eq_ediv_of_nonneg _ (by omega)]
  exact (Int.natCast_ediv M 256).symm
theorem shr8_64 {M : Nat} (z : Int) (hz : z = 8) : Int.fdiv ((M : Nat) : Int) (2 ^ (min z.toNat 64)) = ((M / 256 : Nat) : Int) := by
  subst hz
  rw [show min (8 : Int).toNat 64 = 8 from rfl, show ((2 : Int) ^ 8) = ((256 : Nat) : Int) from rfl, Int.fdiv_eq_ediv_of_nonneg _ (by omega)]
  exact (Int.natCast_ediv M 256).symm
theorem bv16 {a : Nat} (h : a < 65536) : BitVec.ofInt 16 ((a : Nat) : Int) = BitVec.ofNat 16 a := by
  apply BitVec.eq_of_toNat_eq; simp
theorem and255 {M : Nat} (h : M < 65536) : IntKind.u16.wrap ((BitVec.ofInt 16 ((M : Nat) : Int) &&& BitVec.ofInt 16 255).toNat : Int) = ((M % 256 : Nat) : Int) := by
  have e : (BitVec.ofInt 16 ((M : Nat) : Int) &&& BitVec.ofInt 16 255).toNat = M % 256 := by
    rw [bv16 h, show BitVec.ofInt 16 (255 : Int) = BitVec.ofNat 16 255 from rfl, BitVec.toNat_and, BitVec.toNat_ofNat, BitVec.toNat_ofNat, Nat.mod_eq_of_lt (show M < 2 ^ 16 from h)]
    exact Nat.and_two_pow_sub_one_eq_mod M 8
  rw [e, wrap16]; omega
theorem or_hl {a b : Nat} (ha : a < 256) (hb : b < 256) : IntKind.u16.wrap ((BitVec.ofInt 16 ((a : Nat) : Int) ||| BitVec.ofInt 16 ((b * 256 : Nat) : Int)).toNat : Int) = ((a + 256 * b : Nat) : Int) := by
  have e : (BitVec.ofInt 16 ((a : Nat) : Int) ||| BitVec.ofInt 16 ((b * 256 : Nat) : Int)).toNat = a + 256 * b := by
    rw [bv16 (by omega), bv16 (by omega), BitVec.toNat_or, BitVec.toNat_ofNat, BitVec.toNat_ofNat, Nat.mod_eq_of_lt (show a < 2 ^ 16 by omega), Nat.mod_eq_of_lt (show b * 256 < 2 ^ 16 by omega), Nat.or_comm]
    have := Nat.two_pow_add_eq_or_of_lt (i := 8) (b := a) (by omega) b
    rw [show b * 256 = 2 ^ 8 * b by omega, ← this]; omega
  rw [e, wrap16]; omega
theorem or_lh {a b : Nat} (ha : a < 256) (hb : b < 256) : IntKind.u16.wrap ((BitVec.ofInt 16 ((b * 256 : Nat) : Int) ||| BitVec.ofInt 16 ((a : Nat) : Int)).toNat : Int) = ((a + 256 * b : Nat) : Int) := by
  rw [BitVec.or_comm]; exact or_hl ha hb
theorem shr128 {q : Nat} (h : q < 8) : Int.fdiv 128 (2 ^ (min ((q : Nat) : Int).toNat 64)) = ((2 ^ (7 - q) : Nat) : Int) := by
  have := all_lt (n := 8) (p := fun q => Int.fdiv 128 (2 ^ (min ((q : Nat) : Int).toNat 64)) == ((2 ^ (7 - q) : Nat) : Int)) (by decide) h
  exact eq_of_beq this
theorem shl1 {i : Nat} (h : i ≤ 62) : IntKind.i64.wrap (1 * 2 ^ (min ((i : Nat) : Int).toNat 64)) = ((2 ^ i : Nat) : Int) := by
  have := Nat.pow_le_pow_right (n := 2) (by decide) h
  obtain ⟨q, hq⟩ : ∃ q, q = 2 ^ i := ⟨_, rfl⟩
  have h0 : q ≤ 4611686018427387904 := by rw [hq]; exact this
  clear this
  rw [Int.toNat_natCast, Nat.min_eq_left (by omega), Int.one_mul, show ((2 : Int) ^ i) = ((2 ^ i : Nat) : Int) by push_cast; rfl, ← hq]
  exact wrap_id (k := .i64) (by show _ ∧ _; omega)

/-! ### the reference's reading of a body -/
/-- the bits of a body, the first one lowest -/
def bitsR (b : List UInt8) : Nat := rev8 (b.getD 1 0).toNat + 256 * (if b.length = 3 then rev8 (b.getD 2 0).toNat else 0)
theorem bitsR_bit {b : List UInt8} {i : Nat} (hl : b.length ≤ 3) (hi : i < (b.length - 1) * 8) : (b.getD (1 + i / 8) 0).toNat / 2 ^ (7 - i % 8) % 2 = bitsR b / 2 ^ i % 2 := by
  have hy : (b.getD 1 0).toNat < 256 := UInt8.toNat_lt _
  have hz : (b.getD 2 0).toNat < 256 := UInt8.toNat_lt _
  have h1 := rev8_lt hy
  have h2 := rev8_lt hz
  unfold bitsR
  by_cases h : i < 8
  · rw [show i / 8 = 0 by omega, show i % 8 = i by omega, rev8_bit hy h]
    generalize rev8 (b.getD 1 0).toNat = p
    generalize (if b.length = 3 then rev8 (b.getD 2 0).toNat else 0) = q
    have e : 256 = 2 ^ i * (2 * 2 ^ (7 - i)) := by
      rw [← Nat.pow_succ', ← Nat.pow_add, show i + (7 - i + 1) = 8 by omega]
    rw [e, Nat.mul_assoc, Nat.add_mul_div_left _ _ (Nat.two_pow_pos i), Nat.mul_assoc, Nat.add_mul_mod_self_left]
  · have h3 : b.length = 3 := by omega
    rw [if_pos h3, show i / 8 = 1 by omega, show i % 8 = i - 8 by omega, rev8_bit hz (by omega)]
    rw [show (2 : Nat) ^ i = 256 * 2 ^ (i - 8) by rw [show i = 8 + (i - 8) by omega, Nat.pow_add]; simp, ← Nat.div_div_eq_div_mul, show (rev8 (b.getD 1 0).toNat + 256 * rev8 (b.getD 2 0).toNat) / 256 = rev8 (b.getD 2 0).toNat by omega]
theorem bitsR_lt {b : List UInt8} (hl : b.length ≤ 3) : bitsR b < 2 ^ ((b.length - 1) * 8) ∨ b.length ≤ 1 := by
  have h1 := rev8_lt (UInt8.toNat_lt (b.getD 1 0))
  have h2 := rev8_lt (UInt8.toNat_lt (b.getD 2 0))
  unfold bitsR
  by_cases h3 : b.length = 3
  · left; rw [if_pos h3, h3]; simp only [Nat.reduceSub, Nat.reduceMul, Nat.reducePow]; omega
  · by_cases h4 : b.length = 2
    · left; rw [if_neg h3, h4]; simp only [Nat.reduceSub, Nat.reduceMul, Nat.reducePow]; omega
    · right; omega
/-- what the reference says of a body that is not empty, of no more than two bytes of bits -/
theorem maskM_ref {b : List UInt8} (h0 : b.length ≠ 0) (hl : b.length ≤ 3) (hx : (b.getD 0 0).toNat < 8) (hn : (b.getD 0 0).toNat ≤ (b.length - 1) * 8) :
    maskM b = if b.length = 1 then (0, 0) else if 2 ^ ((b.length - 1) * 8 - (b.getD 0 0).toNat) ≤ bitsR b ∨ bitsR b < 2 ^ ((b.length - 1) * 8 - (b.getD 0 0).toNat - 1) then (0, 4) else if 32768 ≤ bitsR b then (0, 1) else (bitsR b, 0) := by
  have hy : (b.getD 1 0).toNat < 256 := UInt8.toNat_lt _
  have hz : (b.getD 2 0).toNat < 256 := UInt8.toNat_lt _
  have h1 := rev8_lt hy
  have h2 := rev8_lt hz
  unfold maskM
  rw [if_neg h0, if_neg (by omega)]
  by_cases h1l : b.length = 1
  · rw [if_pos h1l, if_pos h1l]
  rw [if_neg h1l, if_neg h1l]
  have key : (ntz8 (b.getD (b.length - 1) 0).toNat ≠ (b.getD 0 0).toNat) ↔ (2 ^ ((b.length - 1) * 8 - (b.getD 0 0).toNat) ≤ bitsR b ∨ bitsR b < 2 ^ ((b.length - 1) * 8 - (b.getD 0 0).toNat - 1)) := by
    by_cases h3 : b.length = 3
    · rw [h3]
      rw [show 3 - 1 = 2 from rfl, ntz8_iff hz hx]
      unfold bitsR
      rw [if_pos h3]
      generalize hx' : (b.getD 0 0).toNat = x at *
      rw [show 2 * 8 - x = 8 + (8 - x) by omega, show 8 + (8 - x) - 1 = 8 + (7 - x) by omega, Nat.pow_add, Nat.pow_add]
      simp only [Nat.reducePow]
      omega
    · have h2l : b.length = 2 := by omega
      rw [h2l]
      rw [show 2 - 1 = 1 from rfl, ntz8_iff hy hx]
      unfold bitsR
      rw [if_neg h3]
      generalize hx' : (b.getD 0 0).toNat = x at *
      rw [show 1 * 8 - x = 8 - x by omega, show 8 - x - 1 = 7 - x by omega, Nat.mul_zero, Nat.add_zero]
  by_cases hk : ntz8 (b.getD (b.length - 1) 0).toNat ≠ (b.getD 0 0).toNat
  · rw [if_pos hk, if_pos (key.1 hk)]
  · rw [if_neg hk, if_neg (fun h => hk (key.2 h))]
    rfl
theorem shr128' {z : Int} (q : Nat) (hz : z = (q : Int)) (h : q < 8) : Int.fdiv 128 (2 ^ (min z.toNat 8)) = ((2 ^ (7 - q) : Nat) : Int) := by
  subst hz
  have := all_lt (n := 8) (p := fun q => Int.fdiv 128 (2 ^ (min ((q : Nat) : Int).toNat 8)) == ((2 ^ (7 - q) : Nat) : Int)) (by decide) h
  exact eq_of_beq this
theorem shr_natI {M b : Nat} {z : Int} (q : Nat) (hz : z = (q : Int)) (h : q ≤ b) : Int.fdiv ((M : Nat) : Int) (2 ^ (min z.toNat b)) = ((M / 2 ^ q : Nat) : Int) := by
  subst hz; exact shr_nat h
theorem shl1I {z : Int} (i : Nat) (hz : z = (i : Int)) (h : i ≤ 62) : IntKind.i64.wrap (1 * 2 ^ (min z.toNat 64)) = ((2 ^ i : Nat) : Int) := by
  subst hz; exact shl1 h
theorem tab_wrap {k : IntKind} {L T : List UInt8} {i v : Nat} (h : L = T) (hv : (T.getD i 0).toNat = v) (hk : wide8 k = true) : k.wrap ((L.getD i 0).toNat : Int) = ((v : Nat) : Int) := by
  rw [h, hv]; have := UInt8.toNat_lt (T.getD i 0); exact wide8_wrap hk (by omega) (by omega)
/-- the bits of a mask, turned, while its bytes are laid -/
def turnM (m : Nat) : Nat → Nat
  | 0 => rev16 m
  | j + 1 => turnM m j % 256 * 256
def outL (m : Nat) : Nat → List UInt8
  | 0 => [UInt8.ofNat ((8 - bl m % 8) % 8)]
  | j + 1 => outL m j ++ [UInt8.ofNat (turnM m j / 256)]
theorem turnM_lt {m : Nat} (h : m < 65536) (j : Nat) : turnM m j < 65536 := by
  cases j with
  | zero => exact rev16_lt h
  | succ j => show turnM m j % 256 * 256 < 65536; omega
theorem outL_len (m j : Nat) : (outL m j).length = 1 + j := by
  induction j with
  | zero => rfl
  | succ j ih => show (outL m j ++ _).length = _; rw [List.length_append, ih, List.length_singleton]; omega
theorem outL_end {m : Nat} (h : m < 65536) : outL m ((bl m + 7) / 8) = flagsL m := by
  have h3 := (bl_is h).2
  have r1 := rev8_lt (i := m / 256) (by omega)
  have r2 := rev8_lt (i := m % 256) (by omega)
  have t0 : turnM m 0 / 256 = rev8 (m % 256) := by show rev16 m / 256 = _; unfold rev16; omega
  have t1 : turnM m 1 / 256 = rev8 (m / 256) := by show rev16 m % 256 * 256 / 256 = _; unfold rev16; omega
  unfold flagsL
  by_cases h0 : bl m = 0
  · rw [if_pos h0, h0]; simp only [Nat.reduceAdd, Nat.reduceDiv, outL, h0]
  · rw [if_neg h0]
    by_cases h8 : bl m ≤ 8
    · rw [if_pos h8, show (bl m + 7) / 8 = 1 by omega]; simp only [outL, t0]; rfl
    · rw [if_neg h8, show (bl m + 7) / 8 = 2 by omega]; simp only [outL, t0, t1]; rfl
/-- how many bits there are among the first ones -/
def bp (M : Nat) : Nat → Nat
  | 0 => 0
  | i + 1 => if M / 2 ^ i % 2 = 1 then i + 1 else bp M i
theorem bp_is (M i : Nat) : IsBl (M % 2 ^ i) (bp M i) ∧ bp M i ≤ i := by
  induction i with
  | zero => exact ⟨⟨by simp [Nat.mod_one, bp], .inl rfl⟩, Nat.le_refl _⟩
  | succ i ih => exact ⟨isBl_step ih.1 ih.2, by have h2 := ih.2; show (if M / 2 ^ i % 2 = 1 then i + 1 else bp M i) ≤ i + 1; split <;> omega⟩
theorem bp_end {M : Nat} (h : M < 32768) : bp M 15 = bl M := by
  have h1 := (bp_is M 15).1
  rw [show M % 2 ^ 15 = M by simp only [Nat.reducePow]; omega] at h1
  exact isBl_unique h1 (bl_is (by omega)).1
theorem gF_on' {M n i : Nat} (hb : M / 2 ^ i % 2 = 1) (hi : i < 15) (h : M < 32768) : gF M n i (1 + i / 8) + 2 ^ (7 - i % 8) < 256 := by
  have h1 := gF_on (n := n) (j := 1 + i / 8) hb (by omega) (by omega)
  rw [if_pos rfl] at h1
  rw [← h1]; exact gF_lt (by omega)
/-- a body's bits as a number of 16 bits, the first one highest -/
def turnedM (b : List UInt8) : Nat := (b.getD 1 0).toNat % 256 * 256 + (if b.length = 3 then (b.getD 2 0).toNat else 0)
theorem turned_rev {b : List UInt8} (h : b.length = 2 ∨ b.length = 3) : turnedM b < 65536 ∧ rev16 (turnedM b) = bitsR b := by
  have h1 : (b.getD 1 0).toNat < 256 := UInt8.toNat_lt _
  have h2 : (b.getD 2 0).toNat < 256 := UInt8.toNat_lt _
  unfold turnedM rev16 bitsR
  generalize (b.getD 1 0).toNat = p at *
  generalize (b.getD 2 0).toNat = q at *
  rcases h with h | h
  · rw [if_neg (by omega), if_neg (by omega), show (p % 256 * 256 + 0) / 256 = p by omega, show (p % 256 * 256 + 0) % 256 = 0 by omega]
    exact ⟨by omega, rfl⟩
  · rw [if_pos h, if_pos h, show (p % 256 * 256 + q) / 256 = p by omega, show (p % 256 * 256 + q) % 256 = q by omega]
    exact ⟨by omega, rfl⟩
end Am
end Go.Proofs.YtndbjkapdmpbbaaDoor
