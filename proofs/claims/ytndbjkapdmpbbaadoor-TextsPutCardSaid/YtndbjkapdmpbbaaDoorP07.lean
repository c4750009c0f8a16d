/- Chapter 7, plain: bits in turn: the body of a mask, the mask of a body. -/
import Derived.Test.YtndbjkapdmpbbaaDoorBase
namespace Go.Proofs.YtndbjkapdmpbbaaDoor
namespace Am
open Go.RowKit
set_option linter.unusedVariables false
set_option maxRecDepth 100000

def rev8T : List UInt8 := [0, 128, 64, 192, 32, 160, 96, 224, 16, 144, 80, 208, 48, 176, 112, 240, 8, 136, 72, 200, 40, 168, 104, 232, 24, 152, 88, 216, 56, 184, 120, 248, 4, 132, 68, 196, 36, 164, 100, 228, 20, 148, 84, 212, 52, 180, 116, 244, 12, 140, 76, 204, 44, 172, 108, 236, 28, 156, 92, 220, 60, 188, 124, 252, 2, 130, 66, 194, 34, 162, 98, 226, 18, 146, 82, 210, 50, 178, 114, 242, 10, 138, 74, 202, 42, 170, 106, 234, 26, 154, 90, 218, 58, 186, 122, 250, 6, 134, 70, 198, 38, 166, 102, 230, 22, 150, 86, 214, 54, 182, 118, 246, 14, 142, 78, 206, 46, 174, 110, 238, 30, 158, 94, 222, 62, 190, 126, 254, 1, 129, 65, 193, 33, 161, 97, 225, 17, 145, 81, 209, 49, 177, 113, 241, 9, 137, 73, 201, 41, 169, 105, 233, 25, 153, 89, 217, 57, 185, 121, 249, 5, 133, 69, 197, 37, 165, 101, 229, 21, 149, 85, 213, 53, 181, 117, 245, 13, 141, 77, 205, 45, 173, 109, 237, 29, 157, 93, 221, 61, 189, 125, 253, 3, 131, 67, 195, 35, 163, 99, 227, 19, 147, 83, 211, 51, 179, 115, 243, 11, 139, 75, 203, 43, 171, 107, 235, 27, 155, 91, 219, 59, 187, 123, 251, 7, 135, 71, 199, 39, 167, 103, 231, 23, 151, 87, 215, 55, 183, 119, 247, 15, 143, 79, 207, 47, 175, 111, 239, 31, 159, 95, 223, 63, 191, 127, 255]
def len8T : List UInt8 := [0, 1, 2, 2, 3, 3, 3, 3, 4, 4, 4, 4, 4, 4, 4, 4, 5, 5, 5, 5, 5, 5, 5, 5, 5, 5, 5, 5, 5, 5, 5, 5, 6, 6, 6, 6, 6, 6, 6, 6, 6, 6, 6, 6, 6, 6, 6, 6, 6, 6, 6, 6, 6, 6, 6, 6, 6, 6, 6, 6, 6, 6, 6, 6, 7, 7, 7, 7, 7, 7, 7, 7, 7, 7, 7, 7, 7, 7, 7, 7, 7, 7, 7, 7, 7, 7, 7, 7, 7, 7, 7, 7, 7, 7, 7, 7, 7, 7, 7, 7, 7, 7, 7, 7, 7, 7, 7, 7, 7, 7, 7, 7, 7, 7, 7, 7, 7, 7, 7, 7, 7, 7, 7, 7, 7, 7, 7, 7, 8, 8, 8, 8, 8, 8, 8, 8, 8, 8, 8, 8, 8, 8, 8, 8, 8, 8, 8, 8, 8, 8, 8, 8, 8, 8, 8, 8, 8, 8, 8, 8, 8, 8, 8, 8, 8, 8, 8, 8, 8, 8, 8, 8, 8, 8, 8, 8, 8, 8, 8, 8, 8, 8, 8, 8, 8, 8, 8, 8, 8, 8, 8, 8, 8, 8, 8, 8, 8, 8, 8, 8, 8, 8, 8, 8, 8, 8, 8, 8, 8, 8, 8, 8, 8, 8, 8, 8, 8, 8, 8, 8, 8, 8, 8, 8, 8, 8, 8, 8, 8, 8, 8, 8, 8, 8, 8, 8, 8, 8, 8, 8, 8, 8, 8, 8, 8, 8, 8, 8, 8, 8, 8, 8, 8, 8, 8, 8]
def ntz8T : List UInt8 := [8, 0, 1, 0, 2, 0, 1, 0, 3, 0, 1, 0, 2, 0, 1, 0, 4, 0, 1, 0, 2, 0, 1, 0, 3, 0, 1, 0, 2, 0, 1, 0, 5, 0, 1, 0, 2, 0, 1, 0, 3, 0, 1, 0, 2, 0, 1, 0, 4, 0, 1, 0, 2, 0, 1, 0, 3, 0, 1, 0, 2, 0, 1, 0, 6, 0, 1, 0, 2, 0, 1, 0, 3, 0, 1, 0, 2, 0, 1, 0, 4, 0, 1, 0, 2, 0, 1, 0, 3, 0, 1, 0, 2, 0, 1, 0, 5, 0, 1, 0, 2, 0, 1, 0, 3, 0, 1, 0, 2, 0, 1, 0, 4, 0, 1, 0, 2, 0, 1, 0, 3, 0, 1, 0, 2, 0, 1, 0, 7, 0, 1, 0, 2, 0, 1, 0, 3, 0, 1, 0, 2, 0, 1, 0, 4, 0, 1, 0, 2, 0, 1, 0, 3, 0, 1, 0, 2, 0, 1, 0, 5, 0, 1, 0, 2, 0, 1, 0, 3, 0, 1, 0, 2, 0, 1, 0, 4, 0, 1, 0, 2, 0, 1, 0, 3, 0, 1, 0, 2, 0, 1, 0, 6, 0, 1, 0, 2, 0, 1, 0, 3, 0, 1, 0, 2, 0, 1, 0, 4, 0, 1, 0, 2, 0, 1, 0, 3, 0, 1, 0, 2, 0, 1, 0, 5, 0, 1, 0, 2, 0, 1, 0, 3, 0, 1, 0, 2, 0, 1, 0, 4, 0, 1, 0, 2, 0, 1, 0, 3, 0, 1, 0, 2, 0, 1, 0]
/-- a byte's bits in turn -/
def rev8 (n : Nat) : Nat := (List.range 8).foldl (fun a i => a + n / 2 ^ i % 2 * 2 ^ (7 - i)) 0
def len8 (n : Nat) : Nat := (List.range 8).foldl (fun a i => if n / 2 ^ i % 2 = 1 then i + 1 else a) 0
def ntz8 (n : Nat) : Nat := (List.range 8).foldr (fun i a => if n / 2 ^ i % 2 = 1 then i else a) 8
theorem all_lt {n : Nat} {p : Nat → Bool} (h : (List.range n).all p = true) {i : Nat} (hi : i < n) : p i = true := List.all_eq_true.1 h i (List.mem_range.2 hi)
theorem all_lt2 {n m : Nat} {p : Nat → Nat → Bool} (h : ((List.range n).all fun i => (List.range m).all fun j => p i j) = true) {i j : Nat} (hi : i < n) (hj : j < m) : p i j = true := all_lt (all_lt h hi) hj
theorem rev8T_get {i : Nat} (h : i < 256) : (rev8T.getD i 0).toNat = rev8 i := by
  have := all_lt (n := 256) (p := fun i => (rev8T.getD i 0).toNat == rev8 i) (by decide +kernel) h
  simpa using this
theorem len8T_get {i : Nat} (h : i < 256) : (len8T.getD i 0).toNat = len8 i := by
  have := all_lt (n := 256) (p := fun i => (len8T.getD i 0).toNat == len8 i) (by decide +kernel) h
  simpa using this
theorem ntz8T_get {i : Nat} (h : i < 256) : (ntz8T.getD i 0).toNat = ntz8 i := by
  have := all_lt (n := 256) (p := fun i => (ntz8T.getD i 0).toNat == ntz8 i) (by decide +kernel) h
  simpa using this
theorem rev8_lt {i : Nat} (h : i < 256) : rev8 i < 256 := by
  have := all_lt (n := 256) (p := fun i => decide (rev8 i < 256)) (by decide +kernel) h
  simpa using this
theorem rev8_rev {i : Nat} (h : i < 256) : rev8 (rev8 i) = i := by
  have := all_lt (n := 256) (p := fun i => rev8 (rev8 i) == i) (by decide +kernel) h
  simpa using this
theorem len8_bd {i : Nat} (h : i < 256) : i < 2 ^ len8 i ∧ len8 i ≤ 8 ∧ (len8 i = 0 ∨ 2 ^ (len8 i - 1) ≤ i) := by
  have := all_lt (n := 256) (p := fun i => decide (i < 2 ^ len8 i ∧ len8 i ≤ 8 ∧ (len8 i = 0 ∨ 2 ^ (len8 i - 1) ≤ i))) (by decide +kernel) h
  simpa using this
theorem rev8_bit {v q : Nat} (h : v < 256) (hq : q < 8) : v / 2 ^ (7 - q) % 2 = rev8 v / 2 ^ q % 2 := by
  have := all_lt2 (n := 256) (m := 8) (p := fun v q => v / 2 ^ (7 - q) % 2 == rev8 v / 2 ^ q % 2) (by decide +kernel) h hq
  simpa using this
theorem rev8_add {c v : Nat} (hc : c < 8) (hv : v < 2 ^ c) : rev8 (v + 2 ^ c) = rev8 v + 2 ^ (7 - c) := by
  have hb : v < 256 := Nat.lt_of_lt_of_le hv (Nat.pow_le_pow_right (n := 2) (by decide) (show c ≤ 8 by omega))
  have := all_lt2 (n := 8) (m := 256) (p := fun c v => decide (v < 2 ^ c → rev8 (v + 2 ^ c) = rev8 v + 2 ^ (7 - c))) (by decide +kernel) hc hb
  exact (of_decide_eq_true this) hv
theorem ntz8_iff {y x : Nat} (hy : y < 256) (hx : x < 8) : ntz8 y ≠ x ↔ (2 ^ (8 - x) ≤ rev8 y ∨ rev8 y < 2 ^ (7 - x)) := by
  have := all_lt2 (n := 256) (m := 8) (p := fun y x => decide (ntz8 y ≠ x ↔ (2 ^ (8 - x) ≤ rev8 y ∨ rev8 y < 2 ^ (7 - x)))) (by decide +kernel) hy hx
  exact of_decide_eq_true this

/-- how many bits a number has -/
def IsBl (m n : Nat) : Prop := m < 2 ^ n ∧ (n = 0 ∨ 2 ^ (n - 1) ≤ m)
theorem isBl_unique {m n k : Nat} (h : IsBl m n) (h' : IsBl m k) : n = k := by
  obtain ⟨h1, h2⟩ := h
  obtain ⟨h3, h4⟩ := h'
  rcases Nat.lt_trichotomy n k with hlt | he | hlt
  · have := Nat.pow_le_pow_right (n := 2) (by decide) (show n ≤ k - 1 by omega)
    rcases h4 with h4 | h4 <;> omega
  · exact he
  · have := Nat.pow_le_pow_right (n := 2) (by decide) (show k ≤ n - 1 by omega)
    rcases h2 with h2 | h2 <;> omega
def bl (m : Nat) : Nat := if 256 ≤ m then 8 + len8 (m / 256) else len8 m
theorem bl_is {m : Nat} (h : m < 65536) : IsBl m (bl m) ∧ bl m ≤ 16 := by
  unfold bl
  split
  · obtain ⟨h1, h2, h3⟩ := len8_bd (i := m / 256) (by omega)
    refine ⟨⟨?_, ?_⟩, by omega⟩
    · rw [Nat.pow_add]; omega
    · right
      rcases h3 with h3 | h3
      · rw [h3] at h1; simp at h1; omega
      · rw [show 8 + len8 (m / 256) - 1 = 8 + (len8 (m / 256) - 1) by
          have : len8 (m / 256) ≠ 0 := fun h => by rw [h] at h1; simp at h1; omega
          omega, Nat.pow_add]
        omega
  · obtain ⟨h1, h2, h3⟩ := len8_bd (i := m) (by omega)
    exact ⟨⟨h1, h3⟩, by omega⟩
theorem mod_step (M i : Nat) : M % 2 ^ (i + 1) = M % 2 ^ i + M / 2 ^ i % 2 * 2 ^ i := by
  rw [Nat.pow_succ, Nat.mod_mul, Nat.mul_comm (2 ^ i)]
theorem isBl_step {M i n : Nat} (h : IsBl (M % 2 ^ i) n) (hn : n ≤ i) : IsBl (M % 2 ^ (i + 1)) (if M / 2 ^ i % 2 = 1 then i + 1 else n) := by
  have hlt := Nat.mod_lt M (Nat.two_pow_pos i)
  rw [mod_step]
  split
  · rename_i hb
    rw [hb, Nat.one_mul]
    exact ⟨by rw [Nat.pow_succ]; omega, .inr (by simp)⟩
  · rename_i hb
    rw [show M / 2 ^ i % 2 = 0 by omega, Nat.zero_mul, Nat.add_zero]
    exact h

def rev16 (x : Nat) : Nat := rev8 (x / 256) + 256 * rev8 (x % 256)
theorem rev16_lt {x : Nat} (h : x < 65536) : rev16 x < 65536 := by
  have h1 := rev8_lt (i := x / 256) (by omega)
  have h2 := rev8_lt (i := x % 256) (by omega)
  unfold rev16; omega
/-- a mask's body -/
def flagsL (m : Nat) : List UInt8 := UInt8.ofNat ((8 - bl m % 8) % 8) :: (if bl m = 0 then [] else if bl m ≤ 8 then [UInt8.ofNat (rev8 (m % 256))] else [UInt8.ofNat (rev8 (m % 256)), UInt8.ofNat (rev8 (m / 256))])
/-- a body's mask, the error's number -/
def maskM (b : List UInt8) : Nat × Nat :=
  if b.length = 0 then (0, 2) else
  if 8 ≤ (b.getD 0 0).toNat ∨ 3 < b.length ∨ (b.length = 1 ∧ 0 < (b.getD 0 0).toNat) then (0, 4) else
  if b.length = 1 then (0, 0) else
  if ntz8 (b.getD (b.length - 1) 0).toNat ≠ (b.getD 0 0).toNat then (0, 4) else
  let m := rev8 (b.getD 1 0).toNat + 256 * (if b.length = 3 then rev8 (b.getD 2 0).toNat else 0)
  if 32768 ≤ m then (0, 1) else (m, 0)
theorem maskM_bd (b : List UInt8) : (maskM b).2 ≤ 4 ∧ (maskM b).1 < 32768 := by
  unfold maskM
  split
  · exact ⟨by decide, by decide⟩
  · split
    · exact ⟨by decide, by decide⟩
    · split
      · exact ⟨by decide, by decide⟩
      · split
        · exact ⟨by decide, by decide⟩
        · dsimp only
          generalize rev8 (b.getD 1 0).toNat + 256 * (if b.length = 3 then rev8 (b.getD 2 0).toNat else 0) = m
          split
          · exact ⟨by decide, by decide⟩
          · exact ⟨by show 0 ≤ 4; decide, by show m < 32768; omega⟩
end Am
end Go.Proofs.YtndbjkapdmpbbaaDoor
