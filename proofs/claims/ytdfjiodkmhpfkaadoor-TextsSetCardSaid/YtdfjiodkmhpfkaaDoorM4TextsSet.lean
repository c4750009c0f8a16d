/- What the law leans on, part 4: P07, P07b, P07c, Err, Num, NumC, NumB, MarkC, W07, L07, L07s, Laid, Open, Open2 -/
import Derived.Test.YtdfjiodkmhpfkaaDoorM3TextsSet
import Derived.Stop.Asserts
import Derived.RowKitTokens
import Derived.Test.YtdfjiodkmhpfkaaDoorRows
import Derived.LaidLaws
import Derived.MakeChecks
import Derived.ChangeArms
import Derived.ChangeOld
import Derived.OpenShut

/- Chapter 7, plain: bits in turn: the body of a mask, the mask of a body. -/
namespace Go.Proofs.YtdfjiodkmhpfkaaDoor
namespace Am
open Go.RowKit
set_option linter.unusedVariables false
set_option maxRecDepth 100000

def rev8T : List UInt8 := [0, 128, 64, 192, 32, 160, 96, 224, 16, 144, 80, 208, 48, 176, 112, 240, 8, 136, 72, 200, 40, 168, 104, 232, 24, 152, 88, 216, 56, 184, 120, 248, 4, 132, 68, 196, 36, 164, 100, 228, 20, 148, 84, 212, 52, 180, 116, 244, 12, 140, 76, 204, 44, 172, 108, 236, 28, 156, 92, 220, 60, 188, 124, 252, 2, 130, 66, 194, 34, 162, 98, 226, 18, 146, 82, 210, 50, 178, 114, 242, 10, 138, 74, 202, 42, 170, 106, 234, 26, 154, 90, 218, 58, 186, 122, 250, 6, 134, 70, 198, 38, 166, 102, 230, 22, 150, 86, 214, 54, 182, 118, 246, 14, 142, 78, 206, 46, 174, 110, 238, 30, 158, 94, 222, 62, 190, 126, 254, 1, 129, 65, 193, 33, 161, 97, 225, 17, 145, 81, 209, 49, 177, 113, 241, 9, 137, 73, 201, 41, 169, 105, 233, 25, 153, 89, 217, 57, 185, 121, 249, 5, 133, 69, 197, 37, 165, 101, 229, 21, 149, 85, 213, 53, 181, 117, 245, 13, 141, 77, 205, 45, 173, 109, 237, 29, 157, 93, 221, 61, 189, 125, 253, 3, 131, 67, 195, 35, 163, 99, 227, 19, 147, 83, 211, 51, 179, 115, 243, 11, 139, 75, 203, 43, 171, 107, 235, 27, 155, 91, 219, 59, 187, 123, 251, 7, 135, 71, 199, 39, 167, 103, 231, 23, 151, 87, 215, 55, 183, 119, 247, 15, 143, 79, 207, 47, 175, 111, 239, 31, 159, 95, 223, 63, 191, 127, 255]
def len8T : List UInt8 := [0, 1, 2, 2, 3, 3, 3, 3, 4, 4, 4, 4, 4, 4, 4, 4, 5, 5, 5, 5, 5, 5, 5, 5, 5, 5, 5, 5, 5, 5, 5, 5, 6, 6, 6, 6, 6, 6, 6, 6, 6, 6, 6, 6, 6, 6, 6, 6, 6, 6, 6, 6, 6, 6, 6, 6, 6, 6, 6, 6, 6, 6, 6, 6, 7, 7, 7, 7, 7, 7, 7, 7, 7, 7, 7, 7, 7, 7, 7, 7, 7, 7, 7, 7, 7, 7, 7, 7, 7, 7, 7, 7, 7, 7, 7, 7, 7, 7, 7, 7, 7, 7, 7, 7, 7, 7, 7, 7, 7, 7, 7, 7, 7, 7, 7, 7, 7, 7, 7, 7, 7, 7, 7, 7, 7, 7, 7, 7, 8, 8, 8, 8, 8, 8, 8, 8, 8, 8, 8, 8, 8, 8, 8, 8, 8, 8, 8, 8, 8, 8, 8, 8, 8, 8, 8, 8, 8, 8, 8, 8, 8, 8, 8, 8, 8, 8, 8, 8, 8, 8, 8, 8, 8, 8, 8, 8, 8, 8, 8, 8, 8, 8, 8, 8, 8, 8, 8, 8, 8, 8, 8, 8, 8, 8, 8, 8, 8, 8, 8, 8, 8, 8, 8, 8, 8, 8, 8, 8, 8, 8, 8, 8, 8, 8, 8, 8, 8, 8, 8, 8, 8, 8, 8, 8, 8, 8, 8, 8, 8, 8, 8, 8, 8, 8, 8, 8, 8, 8, 8, 8, 8, 8, 8, 8, 8, 8, 8, 8, 8, 8, 8, 8, 8, 8, 8, 8]
def ntz8T : List UInt8 := [8, 0, 1, 0, 2, 0, 1, 0, 3, 0, 1, 0, 2, 0, 1, 0, 4, 0, 1, 0, 2, 0, 1, 0, 3, 0, 1, 0, 2, 0, 1, 0, 5, 0, 1, 0, 2, 0, 1, 0, 3, 0, 1, 0, 2, 0, 1, 0, 4, 0, 1, 0, 2, 0, 1, 0, 3, 0, 1, 0, 2, 0, 1, 0, 6, 0, 1, 0, 2, 0, 1, 0, 3, 0, 1, 0, 2, 0, 1, 0, 4, 0, 1, 0, 2, 0, 1, 0, 3, 0, 1, 0, 2, 0, 1, 0, 5, 0, 1, 0, 2, 0, 1, 0, 3, 0, 1, 0, 2, 0, 1, 0, 4, 0, 1, 0, 2, 0, 1, 0, 3, 0, 1, 0, 2, 0, 1, 0, 7, 0, 1, 0, 2, 0, 1, 0, 3, 0, 1, 0, 2, 0, 1, 0, 4, 0, 1, 0, 2, 0, 1, 0, 3, 0, 1, 0, 2, 0, 1, 0, 5, 0, 1, 0, 2, 0, 1, 0, 3, 0, 1, 0, 2, 0, 1, 0, 4, 0, 1, 0, 2, 0, 1, 0, 3, 0, 1, 0, 2, 0, 1, 0, 6, 0, 1, 0, 2, 0, 1, 0, 3, 0, 1, 0, 2, 0, 1, 0, 4, 0, 1, 0, 2, 0, 1, 0, 3, 0, 1, 0, 2, 0, 1, 0, 5, 0, 1, 0, 2, 0, 1, 0, 3, 0, 1, 0, 2, 0, 1, 0, 4, 0, 1, 0, 2, 0, 1, 0, 3, 0, 1, 0, 2, 0, 1, 0]
/-- a byte's bits in turn -/
def rev8 (n : Nat) : Nat := (List.range 8).foldl (fun a i => a + n / 2 ^ i % 2 * 2 ^ (7 - i)) 0
def len8 (n : Nat) : Nat := (List.range 8).foldl (fun a i => if n / 2 ^ i % 2 = 1 then i + 1 else a) 0
def ntz8 (n : Nat) : Nat := (List.range 8).foldr (fun i a => if n / 2 ^ i % 2 = 1 then i else a) 8
theorem all_lt {n : Nat} {p : Nat → Bool} (h : (List.range n).all p = true) {i : Nat} (hi : i < n) : p i = true := List.all_eq_true.1 h i (List.mem_range.2 hi)
theorem all_lt2 {n m : Nat} {p : Nat → Nat → Bool} (h : ((List.range n).all fun i => (List.range m).all fun j => p i j) = true) {i j : Nat} (hi : i < n) (hj : j < m) : p i j = true := all_lt (all_lt h hi) hj
theorem rev8T_get {i : Nat} (h : i < 256) : (rev8T.getD i 0).toNat = rev8 i := by
  have := all_lt (n := 256) (p := fun i => (rev8T.getD i 0).toNat == rev8 i) (by decide +kernel) h
  simpa using this
theorem len8T_get {i : Nat} (h : i < 256) : (len8T.getD i 0).toNat = len8 i := by
  have := all_lt (n := 256) (p := fun i => (len8T.getD i 0).toNat == len8 i) (by decide +kernel) h
  simpa using this
theorem ntz8T_get {i : Nat} (h : i < 256) : (ntz8T.getD i 0).toNat = ntz8 i := by
  have := all_lt (n := 256) (p := fun i => (ntz8T.getD i 0).toNat == ntz8 i) (by decide +kernel) h
  simpa using this
theorem rev8_lt {i : Nat} (h : i < 256) : rev8 i < 256 := by
  have := all_lt (n := 256) (p := fun i => decide (rev8 i < 256)) (by decide +kernel) h
  simpa using this
theorem rev8_rev {i : Nat} (h : i < 256) : rev8 (rev8 i) = i := by
  have := all_lt (n := 256) (p := fun i => rev8 (rev8 i) == i) (by decide +kernel) h
  simpa using this
theorem len8_bd {i : Nat} (h : i < 256) : i < 2 ^ len8 i ∧ len8 i ≤ 8 ∧ (len8 i = 0 ∨ 2 ^ (len8 i - 1) ≤ i) := by
  have := all_lt (n := 256) (p := fun i => decide (i < 2 ^ len8 i ∧ len8 i ≤ 8 ∧ (len8 i = 0 ∨ 2 ^ (len8 i - 1) ≤ i))) (by decide +kernel) h
  simpa using this
theorem rev8_bit {v q : Nat} (h : v < 256) (hq : q < 8) : v / 2 ^ (7 - q) % 2 = rev8 v / 2 ^ q % 2 := by
  have := all_lt2 (n := 256) (m := 8) (p := fun v q => v / 2 ^ (7 - q) % 2 == rev8 v / 2 ^ q % 2) (by decide +kernel) h hq
  simpa using this
theorem rev8_add {c v : Nat} (hc : c < 8) (hv : v < 2 ^ c) : rev8 (v + 2 ^ c) = rev8 v + 2 ^ (7 - c) := by
  have hb : v < 256 := Nat.lt_of_lt_of_le hv (Nat.pow_le_pow_right (n := 2) (by decide) (show c ≤ 8 by omega))
  have := all_lt2 (n := 8) (m := 256) (p := fun c v => decide (v < 2 ^ c → rev8 (v + 2 ^ c) = rev8 v + 2 ^ (7 - c))) (by decide +kernel) hc hb
  exact (of_decide_eq_true this) hv
theorem ntz8_iff {y x : Nat} (hy : y < 256) (hx : x < 8) : ntz8 y ≠ x ↔ (2 ^ (8 - x) ≤ rev8 y ∨ rev8 y < 2 ^ (7 - x)) := by
  have := all_lt2 (n := 256) (m := 8) (p := fun y x => decide (ntz8 y ≠ x ↔ (2 ^ (8 - x) ≤ rev8 y ∨ rev8 y < 2 ^ (7 - x)))) (by decide +kernel) hy hx
  exact of_decide_eq_true this

/-- how many bits a number has -/
def IsBl (m n : Nat) : Prop := m < 2 ^ n ∧ (n = 0 ∨ 2 ^ (n - 1) ≤ m)
theorem isBl_unique {m n k : Nat} (h : IsBl m n) (h' : IsBl m k) : n = k := by
  obtain ⟨h1, h2⟩ := h
  obtain ⟨h3, h4⟩ := h'
  rcases Nat.lt_trichotomy n k with hlt | he | hlt
  · have := Nat.pow_le_pow_right (n := 2) (by decide) (show n ≤ k - 1 by omega)
    rcases h4 with h4 | h4 <;> omega
  · exact he
  · have := Nat.pow_le_pow_right (n := 2) (by decide) (show k ≤ n - 1 by omega)
    rcases h2 with h2 | h2 <;> omega
def bl (m : Nat) : Nat := if 256 ≤ m then 8 + len8 (m / 256) else len8 m
theorem bl_is {m : Nat} (h : m < 65536) : IsBl m (bl m) ∧ bl m ≤ 16 := by
  unfold bl
  split
  · obtain ⟨h1, h2, h3⟩ := len8_bd (i := m / 256) (by omega)
    refine ⟨⟨?_, ?_⟩, by omega⟩
    · rw [Nat.pow_add]; omega
    · right
      rcases h3 with h3 | h3
      · rw [h3] at h1; simp at h1; omega
      · rw [show 8 + len8 (m / 256) - 1 = 8 + (len8 (m / 256) - 1) by
          have : len8 (m / 256) ≠ 0 := fun h => by rw [h] at h1; simp at h1; omega
          omega, Nat.pow_add]
        omega
  · obtain ⟨h1, h2, h3⟩ := len8_bd (i := m) (by omega)
    exact ⟨⟨h1, h3⟩, by omega⟩
theorem mod_step (M i : Nat) : M % 2 ^ (i + 1) = M % 2 ^ i + M / 2 ^ i % 2 * 2 ^ i := by
  rw [Nat.pow_succ, Nat.mod_mul, Nat.mul_comm (2 ^ i)]
theorem isBl_step {M i n : Nat} (h : IsBl (M % 2 ^ i) n) (hn : n ≤ i) : IsBl (M % 2 ^ (i + 1)) (if M / 2 ^ i % 2 = 1 then i + 1 else n) := by
  have hlt := Nat.mod_lt M (Nat.two_pow_pos i)
  rw [mod_step]
  split
  · rename_i hb
    rw [hb, Nat.one_mul]
    exact ⟨by rw [Nat.pow_succ]; omega, .inr (by simp)⟩
  · rename_i hb
    rw [show M / 2 ^ i % 2 = 0 by omega, Nat.zero_mul, Nat.add_zero]
    exact h

def rev16 (x : Nat) : Nat := rev8 (x / 256) + 256 * rev8 (x % 256)
theorem rev16_lt {x : Nat} (h : x < 65536) : rev16 x < 65536 := by
  have h1 := rev8_lt (i := x / 256) (by omega)
  have h2 := rev8_lt (i := x % 256) (by omega)
  unfold rev16; omega
/-- a mask's body -/
def flagsL (m : Nat) : List UInt8 := UInt8.ofNat ((8 - bl m % 8) % 8) :: (if bl m = 0 then [] else if bl m ≤ 8 then [UInt8.ofNat (rev8 (m % 256))] else [UInt8.ofNat (rev8 (m % 256)), UInt8.ofNat (rev8 (m / 256))])
/-- a body's mask, the error's number -/
def maskM (b : List UInt8) : Nat × Nat :=
  if b.length = 0 then (0, 2) else
  if 8 ≤ (b.getD 0 0).toNat ∨ 3 < b.length ∨ (b.length = 1 ∧ 0 < (b.getD 0 0).toNat) then (0, 4) else
  if b.length = 1 then (0, 0) else
  if ntz8 (b.getD (b.length - 1) 0).toNat ≠ (b.getD 0 0).toNat then (0, 4) else
  let m := rev8 (b.getD 1 0).toNat + 256 * (if b.length = 3 then rev8 (b.getD 2 0).toNat else 0)
  if 32768 ≤ m then (0, 1) else (m, 0)
theorem maskM_bd (b : List UInt8) : (maskM b).2 ≤ 4 ∧ (maskM b).1 < 32768 := by
  unfold maskM
  split
  · exact ⟨by decide, by decide⟩
  · split
    · exact ⟨by decide, by decide⟩
    · split
      · exact ⟨by decide, by decide⟩
      · split
        · exact ⟨by decide, by decide⟩
        · dsimp only
          generalize rev8 (b.getD 1 0).toNat + 256 * (if b.length = 3 then rev8 (b.getD 2 0).toNat else 0) = m
          split
          · exact ⟨by decide, by decide⟩
          · exact ⟨by show 0 ≤ 4; decide, by show m < 32768; omega⟩
end Am
end Go.Proofs.YtdfjiodkmhpfkaaDoor

/- Chapter 7, plain: masks and bodies tell one another; bit by bit. -/
namespace Go.Proofs.YtdfjiodkmhpfkaaDoor
namespace Am
open Go.RowKit
set_option linter.unusedVariables false
set_option maxRecDepth 100000

theorem u8_ofNat {n : Nat} (h : n < 256) : (UInt8.ofNat n).toNat = n := by
  simp [UInt8.toNat_ofNat']; omega
theorem u8_eq {a b : UInt8} (h : a.toNat = b.toNat) : a = b := UInt8.toNat_inj.1 h
theorem len8_ntz {m : Nat} (h : m < 256) (h0 : 0 < m) : ntz8 (rev8 m) = (8 - len8 m % 8) % 8 ∧ 0 < len8 m ∧ (8 - (8 + len8 m) % 8) % 8 = (8 - len8 m % 8) % 8 := by
  have := all_lt (n := 256) (p := fun m => decide (0 < m → ntz8 (rev8 m) = (8 - len8 m % 8) % 8 ∧ 0 < len8 m)) (by decide +kernel) h
  have := (of_decide_eq_true this) h0
  exact ⟨this.1, this.2, by omega⟩
theorem len8_zero : len8 0 = 0 := by decide
theorem bl_small {m : Nat} (h : m < 256) : bl m = len8 m := by unfold bl; rw [if_neg (by omega)]
theorem bl_big {m : Nat} (h : 256 ≤ m) : bl m = 8 + len8 (m / 256) := by unfold bl; rw [if_pos h]
theorem flags_zero : flagsL 0 = [0] := by decide
theorem flags_one {m : Nat} (h : m < 256) (h0 : 0 < m) : flagsL m = [UInt8.ofNat ((8 - len8 m % 8) % 8), UInt8.ofNat (rev8 m)] := by
  have h1 := len8_ntz h h0
  have h2 := len8_bd h
  unfold flagsL
  rw [bl_small h, if_neg (by omega), if_pos h2.2.1, Nat.mod_eq_of_lt h]
theorem flags_two {m : Nat} (h : m < 65536) (h0 : 256 ≤ m) : flagsL m = [UInt8.ofNat ((8 - len8 (m / 256) % 8) % 8), UInt8.ofNat (rev8 (m % 256)), UInt8.ofNat (rev8 (m / 256))] := by
  have h1 := len8_ntz (m := m / 256) (by omega) (by omega)
  unfold flagsL
  rw [bl_big h0, if_neg (by omega), if_neg (by omega), h1.2.2]
theorem flags_len {m : Nat} (h : m < 65536) : (flagsL m).length = 1 + (bl m + 7) / 8 := by
  have := (bl_is h).2
  unfold flagsL
  split
  · rename_i e; rw [e]; rfl
  · split
    · simp; omega
    · simp; omega
theorem maskM_ite (n x y z : Nat) (b : List UInt8) (hn : b.length = n) (hx : (b.getD 0 0).toNat = x) (hl : (b.getD (n - 1) 0).toNat = z) (hy : (b.getD 1 0).toNat = y) : maskM b = if n = 0 then (0, 2) else
    if 8 ≤ x ∨ 3 < n ∨ (n = 1 ∧ 0 < x) then (0, 4) else if n = 1 then (0, 0) else if ntz8 z ≠ x then (0, 4) else
    if 32768 ≤ rev8 y + 256 * (if n = 3 then rev8 (b.getD 2 0).toNat else 0) then (0, 1) else (rev8 y + 256 * (if n = 3 then rev8 (b.getD 2 0).toNat else 0), 0) := by
  subst hn hx hl hy
  rfl
theorem maskM_one (x y : UInt8) : maskM [x, y] = if 8 ≤ x.toNat then (0, 4) else if ntz8 y.toNat ≠ x.toNat then (0, 4) else (rev8 y.toNat, 0) := by
  have hy := rev8_lt (i := y.toNat) y.toNat_lt
  rw [maskM_ite 2 x.toNat y.toNat y.toNat [x, y] rfl rfl rfl rfl, if_neg (by decide : ¬ (2 : Nat) = 0)]
  by_cases h : 8 ≤ x.toNat
  · rw [if_pos (Or.inl h), if_pos h]
  · rw [if_neg (by omega), if_neg (by decide : ¬ (2 : Nat) = 1), if_neg h, if_neg (by decide : ¬ (2 : Nat) = 3), Nat.mul_zero, Nat.add_zero, if_neg (show ¬ 32768 ≤ rev8 y.toNat by omega)]
theorem maskM_two (x y z : UInt8) : maskM [x, y, z] = if 8 ≤ x.toNat then (0, 4) else if ntz8 z.toNat ≠ x.toNat then (0, 4) else if 32768 ≤ rev8 y.toNat + 256 * rev8 z.toNat then (0, 1) else (rev8 y.toNat + 256 * rev8 z.toNat, 0) := by
  rw [maskM_ite 3 x.toNat y.toNat z.toNat [x, y, z] rfl rfl rfl rfl, if_neg (by decide : ¬ (3 : Nat) = 0)]
  by_cases h : 8 ≤ x.toNat
  · rw [if_pos (Or.inl h), if_pos h]
  · rw [if_neg (by omega), if_neg (by decide : ¬ (3 : Nat) = 1), if_neg h, if_pos (rfl : (3 : Nat) = 3)]
    rfl
theorem mask_flags {m : Nat} (h : m < 32768) : maskM (flagsL m) = (m, 0) := by
  by_cases h0 : m = 0
  · subst h0; rw [flags_zero]; decide
  · by_cases h1 : m < 256
    · have h2 := len8_ntz h1 (by omega)
      have h3 := rev8_lt h1
      rw [flags_one h1 (by omega), maskM_one, u8_ofNat (n := (8 - len8 m % 8) % 8) (by omega), u8_ofNat h3, h2.1, rev8_rev h1, if_neg (by omega), if_neg (by omega)]
    · have h2 := len8_ntz (m := m / 256) (by omega) (by omega)
      have h3 := rev8_lt (i := m % 256) (by omega)
      have h4 := rev8_lt (i := m / 256) (by omega)
      rw [flags_two (by omega) (by omega), maskM_two, u8_ofNat (n := (8 - len8 (m / 256) % 8) % 8) (by omega), u8_ofNat h3, u8_ofNat h4, h2.1, rev8_rev (i := m % 256) (by omega), rev8_rev (i := m / 256) (by omega), if_neg (by omega), if_neg (by omega), if_neg (by omega), show m % 256 + 256 * (m / 256) = m by omega]
theorem ntz_back {y : Nat} (hy : y < 256) (h : ntz8 y < 8) : 0 < rev8 y ∧ (8 - len8 (rev8 y) % 8) % 8 = ntz8 y := by
  have := all_lt (n := 256) (p := fun y => decide (ntz8 y < 8 → 0 < rev8 y ∧ (8 - len8 (rev8 y) % 8) % 8 = ntz8 y)) (by decide +kernel) hy
  exact (of_decide_eq_true this) h
theorem flags_mask {b : List UInt8} (h : (maskM b).2 = 0) : flagsL (maskM b).1 = b := by
  match b with
  | [] => exact absurd h (by decide)
  | [x] =>
    have h8 := x.toNat_lt
    have : x = 0 := by
      refine u8_eq ?_
      refine Decidable.byContradiction fun hn => ?_
      have hn : x.toNat ≠ 0 := hn
      have e : maskM [x] = (0, 4) := by
        rw [maskM_ite 1 x.toNat 0 x.toNat [x] rfl rfl rfl rfl, if_neg (by decide : ¬ (1 : Nat) = 0), if_pos (by omega)]
      rw [e] at h; exact absurd h (by decide)
    subst this; decide
  | [x, y] =>
    have hx := x.toNat_lt
    have hy : y.toNat < 256 := y.toNat_lt
    rw [maskM_one] at h ⊢
    split at h
    · exact absurd h (by show ¬ (4 : Nat) = 0; decide)
    · rename_i h1
      rw [if_neg h1]
      split at h
      · exact absurd h (by show ¬ (4 : Nat) = 0; decide)
      · rename_i h2
        rw [if_neg h2]
        have h4 : ntz8 y.toNat = x.toNat := Classical.byContradiction h2
        have h6 := ntz_back hy (by omega)
        have h7 := rev8_lt hy
        show flagsL (rev8 y.toNat) = _
        rw [flags_one h7 h6.1, rev8_rev hy, h6.2, h4]
        rw [u8_eq (a := UInt8.ofNat x.toNat) (b := x) (u8_ofNat (by omega)), u8_eq (a := UInt8.ofNat y.toNat) (b := y) (u8_ofNat hy)]
  | [x, y, z] =>
    have hx := x.toNat_lt
    have hy : y.toNat < 256 := y.toNat_lt
    have hz : z.toNat < 256 := z.toNat_lt
    rw [maskM_two] at h ⊢
    split at h
    · exact absurd h (by show ¬ (4 : Nat) = 0; decide)
    · rename_i h1
      rw [if_neg h1]
      split at h
      · exact absurd h (by show ¬ (4 : Nat) = 0; decide)
      · rename_i h2
        rw [if_neg h2]
        split at h
        · exact absurd h (by show ¬ (1 : Nat) = 0; decide)
        · rename_i h3
          rw [if_neg h3]
          have h4 : ntz8 z.toNat = x.toNat := Classical.byContradiction h2
          have h6 := ntz_back hz (by omega)
          have h7 := rev8_lt hy
          have h8 := rev8_lt hz
          show flagsL (rev8 y.toNat + 256 * rev8 z.toNat) = _
          rw [flags_two (by omega) (by omega), show (rev8 y.toNat + 256 * rev8 z.toNat) / 256 = rev8 z.toNat by omega, show (rev8 y.toNat + 256 * rev8 z.toNat) % 256 = rev8 y.toNat by omega, rev8_rev hy, rev8_rev hz, h6.2, h4]
          rw [u8_eq (a := UInt8.ofNat x.toNat) (b := x) (u8_ofNat (by omega)), u8_eq (a := UInt8.ofNat y.toNat) (b := y) (u8_ofNat hy), u8_eq (a := UInt8.ofNat z.toNat) (b := z) (u8_ofNat hz)]
  | x :: y :: z :: q :: l =>
    have e : maskM (x :: y :: z :: q :: l) = (0, 4) := by
      unfold maskM
      rw [if_neg (by simp), if_pos (.inr (.inl (by simp)))]
    rw [e] at h; exact absurd h (by decide)

/-! ### bit by bit -/
def lo8 (M i : Nat) : Nat := M % 2 ^ (min i 8)
def hi8 (M i : Nat) : Nat := M / 256 % 2 ^ (i - 8)
/-- the body while its bits are laid, up to bit i -/
def gF (M n i j : Nat) : Nat := if j = 0 then (8 - n % 8) % 8 else if j = 1 then rev8 (lo8 M i) else rev8 (hi8 M i)
theorem lo8_lt (M i : Nat) : lo8 M i < 256 := Nat.lt_of_lt_of_le (Nat.mod_lt _ (Nat.two_pow_pos _)) (Nat.pow_le_pow_right (n := 2) (by decide) (Nat.min_le_right i 8))
theorem hi8_lt {M i : Nat} (h : M < 65536) : hi8 M i < 256 := Nat.lt_of_le_of_lt (Nat.mod_le _ _) (by omega)
theorem gF_lt {M n i j : Nat} (h : M < 65536) : gF M n i j < 256 := by
  unfold gF
  split
  · omega
  · split
    · exact rev8_lt (lo8_lt _ _)
    · exact rev8_lt (hi8_lt h)
theorem gF_zero {M n j : Nat} (hj : j ≠ 0) : gF M n 0 j = 0 := by
  unfold gF lo8 hi8
  rw [if_neg hj]
  simp only [Nat.zero_min, Nat.zero_sub, Nat.pow_zero, Nat.mod_one]
  split <;> rfl
theorem gF_off {M n i j : Nat} (hb : M / 2 ^ i % 2 = 0) : gF M n (i + 1) j = gF M n i j := by
  have hl : lo8 M (i + 1) = lo8 M i := by
    unfold lo8
    by_cases h : i < 8
    · rw [Nat.min_eq_left (by omega), Nat.min_eq_left (by omega), mod_step, hb, Nat.zero_mul, Nat.add_zero]
    · rw [Nat.min_eq_right (by omega), Nat.min_eq_right (by omega)]
  have hh : hi8 M (i + 1) = hi8 M i := by
    unfold hi8
    by_cases h : i < 8
    · rw [show i + 1 - 8 = i - 8 by omega]
    · rw [show i + 1 - 8 = (i - 8) + 1 by omega, mod_step, Nat.div_div_eq_div_mul, show 256 * 2 ^ (i - 8) = 2 ^ i by rw [show i = 8 + (i - 8) by omega, Nat.pow_add]; simp, hb, Nat.zero_mul, Nat.add_zero]
  unfold gF; rw [hl, hh]
theorem gF_on {M n i j : Nat} (hb : M / 2 ^ i % 2 = 1) (hi : i < 16) (hj : j ≤ 2) : gF M n (i + 1) j = if j = 1 + i / 8 then gF M n i j + 2 ^ (7 - i % 8) else gF M n i j := by
  by_cases h : i < 8
  · have hl : lo8 M (i + 1) = lo8 M i + 2 ^ i := by
      unfold lo8
      rw [Nat.min_eq_left (by omega), Nat.min_eq_left (by omega), mod_step, hb, Nat.one_mul]
    have hh : hi8 M (i + 1) = hi8 M i := by
      unfold hi8; rw [show i + 1 - 8 = i - 8 by omega]
    have hlt : lo8 M i < 2 ^ i := by unfold lo8; rw [Nat.min_eq_left (by omega)]; exact Nat.mod_lt _ (Nat.two_pow_pos _)
    have hr := rev8_add h hlt
    unfold gF
    rw [hl, hh, hr, show i / 8 = 0 by omega, show i % 8 = i by omega]
    by_cases h0 : j = 0
    · rw [if_pos h0, if_neg (by omega), if_pos h0]
    · rw [if_neg h0, if_neg h0]
      by_cases h1 : j = 1
      · rw [if_pos h1, if_pos (by omega), if_pos h1]
      · rw [if_neg h1, if_neg (by omega), if_neg h1]
  · have hl : lo8 M (i + 1) = lo8 M i := by
      unfold lo8
      rw [Nat.min_eq_right (by omega), Nat.min_eq_right (by omega)]
    have hh : hi8 M (i + 1) = hi8 M i + 2 ^ (i - 8) := by
      unfold hi8
      rw [show i + 1 - 8 = (i - 8) + 1 by omega, mod_step, Nat.div_div_eq_div_mul, show 256 * 2 ^ (i - 8) = 2 ^ i by rw [show i = 8 + (i - 8) by omega, Nat.pow_add]; simp, hb, Nat.one_mul]
    have hlt : hi8 M i < 2 ^ (i - 8) := Nat.mod_lt _ (Nat.two_pow_pos _)
    have hr := rev8_add (show i - 8 < 8 by omega) hlt
    unfold gF
    rw [hl, hh, hr, show i / 8 = 1 by omega, show i % 8 = i - 8 by omega]
    by_cases h0 : j = 0
    · rw [if_pos h0, if_neg (by omega), if_pos h0]
    · rw [if_neg h0, if_neg h0]
      by_cases h1 : j = 1
      · rw [if_pos h1, if_neg (by omega), if_pos h1]
      · rw [if_neg h1, if_pos (by omega), if_neg h1]
theorem gF_end {M j : Nat} (h : M < 65536) (hj : j < 1 + (bl M + 7) / 8) : gF M (bl M) (bl M) j = ((flagsL M).getD j 0).toNat := by
  obtain ⟨⟨h1, h2⟩, h3⟩ := bl_is h
  by_cases h0 : j = 0
  · subst h0
    unfold gF flagsL
    rw [if_pos rfl, List.getD_cons_zero, u8_ofNat (by omega)]
  · have hn : bl M ≠ 0 := fun e => by rw [e] at hj; omega
    unfold gF flagsL
    rw [if_neg h0, if_neg hn]
    by_cases h8 : bl M ≤ 8
    · have hM : M < 256 := Nat.lt_of_lt_of_le h1 (Nat.pow_le_pow_right (n := 2) (by decide) h8)
      have : j = 1 := by omega
      subst this
      rw [if_pos rfl, if_pos h8]
      simp only [List.getD_cons_succ, List.getD_cons_zero]
      unfold lo8
      rw [Nat.min_eq_left h8, Nat.mod_eq_of_lt h1, Nat.mod_eq_of_lt hM, u8_ofNat (rev8_lt hM)]
    · rw [if_neg h8]
      by_cases hj1 : j = 1
      · subst hj1
        rw [if_pos rfl]
        simp only [List.getD_cons_succ, List.getD_cons_zero]
        unfold lo8
        rw [Nat.min_eq_right (by omega), u8_ofNat (rev8_lt (by omega))]
      · have : j = 2 := by omega
        subst this
        rw [if_neg (by decide)]
        simp only [List.getD_cons_succ, List.getD_cons_zero]
        unfold hi8
        have : M / 256 < 2 ^ (bl M - 8) := by
          have e : 2 ^ bl M = 256 * 2 ^ (bl M - 8) := by rw [show bl M = 8 + (bl M - 8) by omega, Nat.pow_add]; simp
          rw [e] at h1
          exact Nat.div_lt_of_lt_mul h1
        rw [Nat.mod_eq_of_lt this, u8_ofNat (rev8_lt (by omega))]
end Am
end Go.Proofs.YtdfjiodkmhpfkaaDoor

/- Chapter 7, plain: shifts and bits of numbers as the program computes them. -/
namespace Go.Proofs.YtdfjiodkmhpfkaaDoor
namespace Am
open Go.RowKit
set_option linter.unusedVariables false
set_option maxRecDepth 100000

theorem shr_nat {M i b : Nat} (h : i ≤ b) : Int.fdiv ((M : Nat) : Int) (2 ^ (min ((i : Nat) : Int).toNat b)) = ((M / 2 ^ i : Nat) : Int) := by
  rw [Int.toNat_natCast, Nat.min_eq_left h, show ((2 : Int) ^ i) = ((2 ^ i : Nat) : Int) by push_cast; rfl, Int.fdiv_eq_ediv_of_nonneg _ (Int.natCast_nonneg _)]
  exact (Int.natCast_ediv M (2 ^ i)).symm
theorem shl_nat {M i b : Nat} (h : i ≤ b) : ((M : Nat) : Int) * 2 ^ (min ((i : Nat) : Int).toNat b) = ((M * 2 ^ i : Nat) : Int) := by
  rw [Int.toNat_natCast, Nat.min_eq_left h]
  push_cast; rfl
theorem wrap16 (n : Int) : IntKind.u16.wrap n = n % 65536 := by simp [IntKind.wrap, IntKind.bits, IntKind.signed]
theorem shl8_16 {M : Nat} (z : Int) (hz : z = 8) : IntKind.u16.wrap (((M : Nat) : Int) * 2 ^ (min z.toNat 16)) = ((M % 256 * 256 : Nat) : Int) := by
  subst hz
  rw [wrap16, show min (8 : Int).toNat 16 = 8 from rfl, show ((2 : Int) ^ 8) = 256 from rfl]
  omega
theorem shr8_16 {M : Nat} (z : Int) (hz : z = 8) : Int.fdiv ((M : Nat) : Int) (2 ^ (min z.toNat 16)) = ((M / 256 : Nat) : Int) := by
  subst hz
  rw [show min (8 : Int).toNat 16 = 8 from rfl, show ((2 : Int) ^ 8) = ((256 : Nat) : Int) from rfl, Int.fdiv_eq_ediv_of_nonneg _ (by omega)]
  exact (Int.natCast_ediv M 256).symm
theorem shr8_64 {M : Nat} (z : Int) (hz : z = 8) : Int.fdiv ((M : Nat) : Int) (2 ^ (min z.toNat 64)) = ((M / 256 : Nat) : Int) := by
  subst hz
  rw [show min (8 : Int).toNat 64 = 8 from rfl, show ((2 : Int) ^ 8) = ((256 : Nat) : Int) from rfl, Int.fdiv_eq_ediv_of_nonneg _ (by omega)]
  exact (Int.natCast_ediv M 256).symm
theorem bv16 {a : Nat} (h : a < 65536) : BitVec.ofInt 16 ((a : Nat) : Int) = BitVec.ofNat 16 a := by
  apply BitVec.eq_of_toNat_eq; simp
theorem and255 {M : Nat} (h : M < 65536) : IntKind.u16.wrap ((BitVec.ofInt 16 ((M : Nat) : Int) &&& BitVec.ofInt 16 255).toNat : Int) = ((M % 256 : Nat) : Int) := by
  have e : (BitVec.ofInt 16 ((M : Nat) : Int) &&& BitVec.ofInt 16 255).toNat = M % 256 := by
    rw [bv16 h, show BitVec.ofInt 16 (255 : Int) = BitVec.ofNat 16 255 from rfl, BitVec.toNat_and, BitVec.toNat_ofNat, BitVec.toNat_ofNat, Nat.mod_eq_of_lt (show M < 2 ^ 16 from h)]
    exact Nat.and_two_pow_sub_one_eq_mod M 8
  rw [e, wrap16]; omega
theorem or_hl {a b : Nat} (ha : a < 256) (hb : b < 256) : IntKind.u16.wrap ((BitVec.ofInt 16 ((a : Nat) : Int) ||| BitVec.ofInt 16 ((b * 256 : Nat) : Int)).toNat : Int) = ((a + 256 * b : Nat) : Int) := by
  have e : (BitVec.ofInt 16 ((a : Nat) : Int) ||| BitVec.ofInt 16 ((b * 256 : Nat) : Int)).toNat = a + 256 * b := by
    rw [bv16 (by omega), bv16 (by omega), BitVec.toNat_or, BitVec.toNat_ofNat, BitVec.toNat_ofNat, Nat.mod_eq_of_lt (show a < 2 ^ 16 by omega), Nat.mod_eq_of_lt (show b * 256 < 2 ^ 16 by omega), Nat.or_comm]
    have := Nat.two_pow_add_eq_or_of_lt (i := 8) (b := a) (by omega) b
    rw [show b * 256 = 2 ^ 8 * b by omega, ← this]; omega
  rw [e, wrap16]; omega
theorem or_lh {a b : Nat} (ha : a < 256) (hb : b < 256) : IntKind.u16.wrap ((BitVec.ofInt 16 ((b * 256 : Nat) : Int) ||| BitVec.ofInt 16 ((a : Nat) : Int)).toNat : Int) = ((a + 256 * b : Nat) : Int) := by
  rw [BitVec.or_comm]; exact or_hl ha hb
theorem shr128 {q : Nat} (h : q < 8) : Int.fdiv 128 (2 ^ (min ((q : Nat) : Int).toNat 64)) = ((2 ^ (7 - q) : Nat) : Int) := by
  have := all_lt (n := 8) (p := fun q => Int.fdiv 128 (2 ^ (min ((q : Nat) : Int).toNat 64)) == ((2 ^ (7 - q) : Nat) : Int)) (by decide) h
  exact eq_of_beq this
theorem shl1 {i : Nat} (h : i ≤ 62) : IntKind.i64.wrap (1 * 2 ^ (min ((i : Nat) : Int).toNat 64)) = ((2 ^ i : Nat) : Int) := by
  have := Nat.pow_le_pow_right (n := 2) (by decide) h
  obtain ⟨q, hq⟩ : ∃ q, q = 2 ^ i := ⟨_, rfl⟩
  have h0 : q ≤ 4611686018427387904 := by rw [hq]; exact this
  clear this
  rw [Int.toNat_natCast, Nat.min_eq_left (by omega), Int.one_mul, show ((2 : Int) ^ i) = ((2 ^ i : Nat) : Int) by push_cast; rfl, ← hq]
  exact wrap_id (k := .i64) (by show _ ∧ _; omega)

/-! ### the reference's reading of a body -/
/-- the bits of a body, the first one lowest -/
def bitsR (b : List UInt8) : Nat := rev8 (b.getD 1 0).toNat + 256 * (if b.length = 3 then rev8 (b.getD 2 0).toNat else 0)
theorem bitsR_bit {b : List UInt8} {i : Nat} (hl : b.length ≤ 3) (hi : i < (b.length - 1) * 8) : (b.getD (1 + i / 8) 0).toNat / 2 ^ (7 - i % 8) % 2 = bitsR b / 2 ^ i % 2 := by
  have hy : (b.getD 1 0).toNat < 256 := UInt8.toNat_lt _
  have hz : (b.getD 2 0).toNat < 256 := UInt8.toNat_lt _
  have h1 := rev8_lt hy
  have h2 := rev8_lt hz
  unfold bitsR
  by_cases h : i < 8
  · rw [show i / 8 = 0 by omega, show i % 8 = i by omega, rev8_bit hy h]
    generalize rev8 (b.getD 1 0).toNat = p
    generalize (if b.length = 3 then rev8 (b.getD 2 0).toNat else 0) = q
    have e : 256 = 2 ^ i * (2 * 2 ^ (7 - i)) := by
      rw [← Nat.pow_succ', ← Nat.pow_add, show i + (7 - i + 1) = 8 by omega]
    rw [e, Nat.mul_assoc, Nat.add_mul_div_left _ _ (Nat.two_pow_pos i), Nat.mul_assoc, Nat.add_mul_mod_self_left]
  · have h3 : b.length = 3 := by omega
    rw [if_pos h3, show i / 8 = 1 by omega, show i % 8 = i - 8 by omega, rev8_bit hz (by omega)]
    rw [show (2 : Nat) ^ i = 256 * 2 ^ (i - 8) by rw [show i = 8 + (i - 8) by omega, Nat.pow_add]; simp, ← Nat.div_div_eq_div_mul, show (rev8 (b.getD 1 0).toNat + 256 * rev8 (b.getD 2 0).toNat) / 256 = rev8 (b.getD 2 0).toNat by omega]
theorem bitsR_lt {b : List UInt8} (hl : b.length ≤ 3) : bitsR b < 2 ^ ((b.length - 1) * 8) ∨ b.length ≤ 1 := by
  have h1 := rev8_lt (UInt8.toNat_lt (b.getD 1 0))
  have h2 := rev8_lt (UInt8.toNat_lt (b.getD 2 0))
  unfold bitsR
  by_cases h3 : b.length = 3
  · left; rw [if_pos h3, h3]; simp only [Nat.reduceSub, Nat.reduceMul, Nat.reducePow]; omega
  · by_cases h4 : b.length = 2
    · left; rw [if_neg h3, h4]; simp only [Nat.reduceSub, Nat.reduceMul, Nat.reducePow]; omega
    · right; omega
/-- what the reference says of a body that is not empty, of no more than two bytes of bits -/
theorem maskM_ref {b : List UInt8} (h0 : b.length ≠ 0) (hl : b.length ≤ 3) (hx : (b.getD 0 0).toNat < 8) (hn : (b.getD 0 0).toNat ≤ (b.length - 1) * 8) :
    maskM b = if b.length = 1 then (0, 0) else if 2 ^ ((b.length - 1) * 8 - (b.getD 0 0).toNat) ≤ bitsR b ∨ bitsR b < 2 ^ ((b.length - 1) * 8 - (b.getD 0 0).toNat - 1) then (0, 4) else if 32768 ≤ bitsR b then (0, 1) else (bitsR b, 0) := by
  have hy : (b.getD 1 0).toNat < 256 := UInt8.toNat_lt _
  have hz : (b.getD 2 0).toNat < 256 := UInt8.toNat_lt _
  have h1 := rev8_lt hy
  have h2 := rev8_lt hz
  unfold maskM
  rw [if_neg h0, if_neg (by omega)]
  by_cases h1l : b.length = 1
  · rw [if_pos h1l, if_pos h1l]
  rw [if_neg h1l, if_neg h1l]
  have key : (ntz8 (b.getD (b.length - 1) 0).toNat ≠ (b.getD 0 0).toNat) ↔ (2 ^ ((b.length - 1) * 8 - (b.getD 0 0).toNat) ≤ bitsR b ∨ bitsR b < 2 ^ ((b.length - 1) * 8 - (b.getD 0 0).toNat - 1)) := by
    by_cases h3 : b.length = 3
    · rw [h3]
      rw [show 3 - 1 = 2 from rfl, ntz8_iff hz hx]
      unfold bitsR
      rw [if_pos h3]
      generalize hx' : (b.getD 0 0).toNat = x at *
      rw [show 2 * 8 - x = 8 + (8 - x) by omega, show 8 + (8 - x) - 1 = 8 + (7 - x) by omega, Nat.pow_add, Nat.pow_add]
      simp only [Nat.reducePow]
      omega
    · have h2l : b.length = 2 := by omega
      rw [h2l]
      rw [show 2 - 1 = 1 from rfl, ntz8_iff hy hx]
      unfold bitsR
      rw [if_neg h3]
      generalize hx' : (b.getD 0 0).toNat = x at *
      rw [show 1 * 8 - x = 8 - x by omega, show 8 - x - 1 = 7 - x by omega, Nat.mul_zero, Nat.add_zero]
  by_cases hk : ntz8 (b.getD (b.length - 1) 0).toNat ≠ (b.getD 0 0).toNat
  · rw [if_pos hk, if_pos (key.1 hk)]
  · rw [if_neg hk, if_neg (fun h => hk (key.2 h))]
    rfl
theorem shr128' {z : Int} (q : Nat) (hz : z = (q : Int)) (h : q < 8) : Int.fdiv 128 (2 ^ (min z.toNat 8)) = ((2 ^ (7 - q) : Nat) : Int) := by
  subst hz
  have := all_lt (n := 8) (p := fun q => Int.fdiv 128 (2 ^ (min ((q : Nat) : Int).toNat 8)) == ((2 ^ (7 - q) : Nat) : Int)) (by decide) h
  exact eq_of_beq this
theorem shr_natI {M b : Nat} {z : Int} (q : Nat) (hz : z = (q : Int)) (h : q ≤ b) : Int.fdiv ((M : Nat) : Int) (2 ^ (min z.toNat b)) = ((M / 2 ^ q : Nat) : Int) := by
  subst hz; exact shr_nat h
theorem shl1I {z : Int} (i : Nat) (hz : z = (i : Int)) (h : i ≤ 62) : IntKind.i64.wrap (1 * 2 ^ (min z.toNat 64)) = ((2 ^ i : Nat) : Int) := by
  subst hz; exact shl1 h
theorem tab_wrap {k : IntKind} {L T : List UInt8} {i v : Nat} (h : L = T) (hv : (T.getD i 0).toNat = v) (hk : wide8 k = true) : k.wrap ((L.getD i 0).toNat : Int) = ((v : Nat) : Int) := by
  rw [h, hv]; have := UInt8.toNat_lt (T.getD i 0); exact wide8_wrap hk (by omega) (by omega)
/-- the bits of a mask, turned, while its bytes are laid -/
def turnM (m : Nat) : Nat → Nat
  | 0 => rev16 m
  | j + 1 => turnM m j % 256 * 256
def outL (m : Nat) : Nat → List UInt8
  | 0 => [UInt8.ofNat ((8 - bl m % 8) % 8)]
  | j + 1 => outL m j ++ [UInt8.ofNat (turnM m j / 256)]
theorem turnM_lt {m : Nat} (h : m < 65536) (j : Nat) : turnM m j < 65536 := by
  cases j with
  | zero => exact rev16_lt h
  | succ j => show turnM m j % 256 * 256 < 65536; omega
theorem outL_len (m j : Nat) : (outL m j).length = 1 + j := by
  induction j with
  | zero => rfl
  | succ j ih => show (outL m j ++ _).length = _; rw [List.length_append, ih, List.length_singleton]; omega
theorem outL_end {m : Nat} (h : m < 65536) : outL m ((bl m + 7) / 8) = flagsL m := by
  have h3 := (bl_is h).2
  have r1 := rev8_lt (i := m / 256) (by omega)
  have r2 := rev8_lt (i := m % 256) (by omega)
  have t0 : turnM m 0 / 256 = rev8 (m % 256) := by show rev16 m / 256 = _; unfold rev16; omega
  have t1 : turnM m 1 / 256 = rev8 (m / 256) := by show rev16 m % 256 * 256 / 256 = _; unfold rev16; omega
  unfold flagsL
  by_cases h0 : bl m = 0
  · rw [if_pos h0, h0]; simp only [Nat.reduceAdd, Nat.reduceDiv, outL, h0]
  · rw [if_neg h0]
    by_cases h8 : bl m ≤ 8
    · rw [if_pos h8, show (bl m + 7) / 8 = 1 by omega]; simp only [outL, t0]; rfl
    · rw [if_neg h8, show (bl m + 7) / 8 = 2 by omega]; simp only [outL, t0, t1]; rfl
/-- how many bits there are among the first ones -/
def bp (M : Nat) : Nat → Nat
  | 0 => 0
  | i + 1 => if M / 2 ^ i % 2 = 1 then i + 1 else bp M i
theorem bp_is (M i : Nat) : IsBl (M % 2 ^ i) (bp M i) ∧ bp M i ≤ i := by
  induction i with
  | zero => exact ⟨⟨by simp [Nat.mod_one, bp], .inl rfl⟩, Nat.le_refl _⟩
  | succ i ih => exact ⟨isBl_step ih.1 ih.2, by have h2 := ih.2; show (if M / 2 ^ i % 2 = 1 then i + 1 else bp M i) ≤ i + 1; split <;> omega⟩
theorem bp_end {M : Nat} (h : M < 32768) : bp M 15 = bl M := by
  have h1 := (bp_is M 15).1
  rw [show M % 2 ^ 15 = M by simp only [Nat.reducePow]; omega] at h1
  exact isBl_unique h1 (bl_is (by omega)).1
theorem gF_on' {M n i : Nat} (hb : M / 2 ^ i % 2 = 1) (hi : i < 15) (h : M < 32768) : gF M n i (1 + i / 8) + 2 ^ (7 - i % 8) < 256 := by
  have h1 := gF_on (n := n) (j := 1 + i / 8) hb (by omega) (by omega)
  rw [if_pos rfl] at h1
  rw [← h1]; exact gF_lt (by omega)
/-- a body's bits as a number of 16 bits, the first one highest -/
def turnedM (b : List UInt8) : Nat := (b.getD 1 0).toNat % 256 * 256 + (if b.length = 3 then (b.getD 2 0).toNat else 0)
theorem turned_rev {b : List UInt8} (h : b.length = 2 ∨ b.length = 3) : turnedM b < 65536 ∧ rev16 (turnedM b) = bitsR b := by
  have h1 : (b.getD 1 0).toNat < 256 := UInt8.toNat_lt _
  have h2 : (b.getD 2 0).toNat < 256 := UInt8.toNat_lt _
  unfold turnedM rev16 bitsR
  generalize (b.getD 1 0).toNat = p at *
  generalize (b.getD 2 0).toNat = q at *
  rcases h with h | h
  · rw [if_neg (by omega), if_neg (by omega), show (p % 256 * 256 + 0) / 256 = p by omega, show (p % 256 * 256 + 0) % 256 = 0 by omega]
    exact ⟨by omega, rfl⟩
  · rw [if_pos h, if_pos h, show (p % 256 * 256 + q) / 256 = p by omega, show (p % 256 * 256 + q) % 256 = q by omega]
    exact ⟨by omega, rfl⟩
end Am
end Go.Proofs.YtdfjiodkmhpfkaaDoor

/- errors.Is at two sentinels, and bullanum.Num: the number of an error. -/
namespace Go.Proofs.YtdfjiodkmhpfkaaDoor
set_option linter.unusedVariables false
open Go.RowKit Go.Extern.Stop Go.Stop Go.Extern

theorem isTypeOf (v : Value) (w : World) : (callFunc 85 #[.iface 197 v]).run Tryd.prog w = .ok (.value (.iface 152 (.agg #[.pointer (some ⟨31, 197, none⟩)]))) w := by kernel_rfl
theorem isComparable (w : World) : (callFunc 167 #[.agg #[.pointer (some ⟨31, 197, none⟩)]]).run Tryd.prog w = .ok (.value (.bool true)) w := by kernel_rfl
theorem isMethodComparable (v : Value) (w : World) : (Go.method 344 152 v "Comparable").run Tryd.prog w = .ok (167, v) w := by kernel_rfl
theorem isComp : (Tryd.prog.info? 197).map (·.comparable) = some true := by kernel_rfl
theorem isSize : (Tryd.prog.info? 224).map (·.size) = some 1 := by kernel_rfl
theorem noIsE (v : Value) (xT : TypeId) (w : World) : (Instr.typeAssert (.iface 197 v) xT 154 true).run Tryd.prog w = .ok (.tuple #[.nilIface, .bool false]) w := run_typeAssert_lacksB Tryd.underlying154 (by kernel_rfl) (by kernel_rfl) v xT w
theorem noUnwrapE (v : Value) (xT : TypeId) (w : World) : (Instr.typeAssert (.iface 197 v) xT 157 true).run Tryd.prog w = .ok (.tuple #[.nilIface, .bool false]) w := run_typeAssert_lacksB Tryd.underlying157 (by kernel_rfl) (by kernel_rfl) v xT w
theorem noUnwrapsE (v : Value) (xT : TypeId) (w : World) : (Instr.typeAssert (.iface 197 v) xT 159 true).run Tryd.prog w = .ok (.tuple #[.nilIface, .bool false]) w := run_typeAssert_lacksB Tryd.underlying159 (by kernel_rfl) (by kernel_rfl) v xT w

set_option maxHeartbeats 400000 in
theorem is_same (a : Addr) (w : World) :
    Calls Tryd.prog 49 #[.iface 197 (.pointer (some a)), .iface 197 (.pointer (some a))] w fun e w' => e = .returned (.bool true) ∧ w = w' := by
  obtain ⟨i, hi, hcmp⟩ := Option.map_eq_some_iff.1 isComp
  obtain ⟨j, hj, hjs⟩ := Option.map_eq_some_iff.1 isSize
  have tT := isTypeOf
  have cT := isComparable
  have mR := isMethodComparable
  have heq := run_eql_iface_ptr_same (P := Tryd.prog) w a Tryd.underlying27 Tryd.underlying197 hi hcmp hj
  go_enter Tryd.func49, Tryd.ntmps49
  go_wp2
  refine wp_loop_rounds 1 ?_
  rw [rounds_succ]
  go_wp2
  go_ret
  exact ⟨rfl, rfl⟩

set_option maxHeartbeats 400000 in
theorem is_other (a b : Addr) (ca cb : Array Value) (ta tb : TypeId) (w : World) (hne : a ≠ b) (ha : w.heap[a.block]? = some (.cells ca ta (0, 0))) (hb : w.heap[b.block]? = some (.cells cb tb (0, 0))) :
    Calls Tryd.prog 49 #[.iface 197 (.pointer (some a)), .iface 197 (.pointer (some b))] w fun e w' => e = .returned (.bool false) ∧ w = w' := by
  obtain ⟨i, hi, hcmp⟩ := Option.map_eq_some_iff.1 isComp
  obtain ⟨j, hj, hjs⟩ := Option.map_eq_some_iff.1 isSize
  have tT := isTypeOf
  have cT := isComparable
  have mR := isMethodComparable
  have nE := noIsE
  have uE := noUnwrapE
  have vE := noUnwrapsE
  have heq := run_eql_iface_ptr_other (P := Tryd.prog) w Tryd.underlying27 Tryd.underlying197 hi hcmp hj (by rw [hjs]; decide) hne ha hb
  go_enter Tryd.func49, Tryd.ntmps49
  go_wp2
  refine wp_loop_rounds 1 ?_
  rw [rounds_succ]
  go_wp2
  go_ret
  exact ⟨rfl, rfl⟩

/-- errors.Is at the errors m and k + 1. -/
theorem is_ev {w : World} {al : List Addr} (h : Sent w al) (m k : Nat) (hm0 : m ≠ 0) (hm : m ≤ 28) (hk : k < 28) :
    Calls Tryd.prog 49 #[ev al m, ev al (k + 1)] w fun e w' => e = .returned (.bool (decide (m = k + 1))) ∧ w = w' := by
  have hl : al.length = 28 := h.len.trans (by rw [OkG.eq]; rfl)
  obtain ⟨a, ha⟩ : ∃ a, al[m - 1]? = some a := ⟨al[m - 1], List.getElem?_eq_getElem (by omega)⟩
  obtain ⟨b, hb⟩ : ∃ b, al[k]? = some b := ⟨al[k], List.getElem?_eq_getElem (by omega)⟩
  have e1 : ev al m = .iface 197 (.pointer (some a)) := by simp [ev, hm0, ha]
  have e2 : ev al (k + 1) = .iface 197 (.pointer (some b)) := by simp [ev, hb]
  rw [e1, e2]
  by_cases hmk : m = k + 1
  · subst hmk
    simp only [Nat.add_sub_cancel] at ha
    obtain rfl := Option.some.inj (ha.symm.trans hb)
    simp only [decide_true]
    exact is_same a w
  · have hne : a ≠ b := by
      intro e
      subst e
      have all : ∀ i, i < 28 → ((errG gs)[i]?).any (fun g => (lst gs).contains g) = true := by decide
      have get : ∀ i, i < 28 → ∃ g, (errG gs)[i]? = some g ∧ g ∈ lst gs := fun i hi => by
        have h1 := all i hi
        cases h2 : (errG gs)[i]? with
        | none => rw [h2] at h1; cases h1
        | some g => rw [h2] at h1; exact ⟨g, rfl, List.contains_iff_mem.1 h1⟩
      obtain ⟨g1, k1, k2⟩ := get (m - 1) (by omega)
      obtain ⟨g2, k3, k4⟩ := get k hk
      have := h.nd (m - 1) k g1 g2 k1 k2 k3 k4 (ha.trans hb.symm)
      omega
    simp only [hmk, decide_false]
    obtain ⟨ca, ta, h1⟩ := h.row a (List.mem_of_getElem? ha)
    obtain ⟨cb, tb, h2⟩ := h.row b (List.mem_of_getElem? hb)
    exact is_other a b ca cb ta tb w hne h1 h2
end Go.Proofs.YtdfjiodkmhpfkaaDoor

/- bullanum.Num: the number of an error. -/
namespace Go.Proofs.YtdfjiodkmhpfkaaDoor
set_option linter.unusedVariables false
open Go.RowKit

theorem sent_size {w : World} {al : List Addr} (h : Sent w al) : ∀ g ∈ gs, g < w.heap.size := by
  exact h.lt

def evs (al : List Addr) : Array Value := #[ev al 1, ev al 2, ev al 3, ev al 4, ev al 5, ev al 6, ev al 7, ev al 8, ev al 9, ev al 10, ev al 11, ev al 12, ev al 13, ev al 14, ev al 15, ev al 16, ev al 17, ev al 18, ev al 19, ev al 20, ev al 21, ev al 22, ev al 23, ev al 24, ev al 25, ev al 26, ev al 27, ev al 28]
theorem evs_get (al : List Addr) (k : Nat) (hk : k < 28) : (evs al)[k]? = some (ev al (k + 1)) := by
  have : ∀ k, k < 28 → (evs al)[k]? = some (ev al (k + 1)) := by
    intro k hk
    match k, hk with
    | 0, _ => rfl
    | 1, _ => rfl
    | 2, _ => rfl
    | 3, _ => rfl
    | 4, _ => rfl
    | 5, _ => rfl
    | 6, _ => rfl
    | 7, _ => rfl
    | 8, _ => rfl
    | 9, _ => rfl
    | 10, _ => rfl
    | 11, _ => rfl
    | 12, _ => rfl
    | 13, _ => rfl
    | 14, _ => rfl
    | 15, _ => rfl
    | 16, _ => rfl
    | 17, _ => rfl
    | 18, _ => rfl
    | 19, _ => rfl
    | 20, _ => rfl
    | 21, _ => rfl
    | 22, _ => rfl
    | 23, _ => rfl
    | 24, _ => rfl
    | 25, _ => rfl
    | 26, _ => rfl
    | 27, _ => rfl
    | k + 28, h => omega
  exact this k hk

set_option maxRecDepth 100000 in
set_option maxHeartbeats 400000 in
theorem num_any {w : World} {al : List Addr} (h : Sent w al) (m : Nat) (hm : m ≤ 28) :
    Calls Tryd.prog 11 #[ev al m] w fun e w' => e = .returned (.int .i64 m) ∧ Below w.heap.size w w' := by
  by_cases h0 : m = 0
  · subst h0
    have e0 : decide ((0 : Nat) = 0) = true := rfl
    go_enter Tryd.func11, Tryd.ntmps11
    go_wp2
    go_ret
    exact ⟨rfl, Below.refl _ _⟩
  · have hd : decide (m = 0) = false := by simpa using h0
    have g0 : w.cell? ⟨0, 0, none⟩ = some (ev al 1) := h.var 0 _ rfl (by decide)
    have g1 : w.cell? ⟨1, 0, none⟩ = some (ev al 2) := h.var 1 _ rfl (by decide)
    have g2 : w.cell? ⟨2, 0, none⟩ = some (ev al 3) := h.var 2 _ rfl (by decide)
    have g3 : w.cell? ⟨3, 0, none⟩ = some (ev al 4) := h.var 3 _ rfl (by decide)
    have g4 : w.cell? ⟨4, 0, none⟩ = some (ev al 5) := h.var 4 _ rfl (by decide)
    have g5 : w.cell? ⟨5, 0, none⟩ = some (ev al 6) := h.var 5 _ rfl (by decide)
    have g6 : w.cell? ⟨6, 0, none⟩ = some (ev al 7) := h.var 6 _ rfl (by decide)
    have g7 : w.cell? ⟨7, 0, none⟩ = some (ev al 8) := h.var 7 _ rfl (by decide)
    have g8 : w.cell? ⟨8, 0, none⟩ = some (ev al 9) := h.var 8 _ rfl (by decide)
    have g9 : w.cell? ⟨9, 0, none⟩ = some (ev al 10) := h.var 9 _ rfl (by decide)
    have g10 : w.cell? ⟨10, 0, none⟩ = some (ev al 11) := h.var 10 _ rfl (by decide)
    have g11 : w.cell? ⟨11, 0, none⟩ = some (ev al 12) := h.var 11 _ rfl (by decide)
    have g12 : w.cell? ⟨12, 0, none⟩ = some (ev al 13) := h.var 12 _ rfl (by decide)
    have g13 : w.cell? ⟨13, 0, none⟩ = some (ev al 14) := h.var 13 _ rfl (by decide)
    have g14 : w.cell? ⟨14, 0, none⟩ = some (ev al 15) := h.var 14 _ rfl (by decide)
    have g15 : w.cell? ⟨15, 0, none⟩ = some (ev al 16) := h.var 15 _ rfl (by decide)
    have g16 : w.cell? ⟨16, 0, none⟩ = some (ev al 17) := h.var 16 _ rfl (by decide)
    have g17 : w.cell? ⟨17, 0, none⟩ = some (ev al 18) := h.var 17 _ rfl (by decide)
    have g18 : w.cell? ⟨18, 0, none⟩ = some (ev al 19) := h.var 18 _ rfl (by decide)
    have g19 : w.cell? ⟨19, 0, none⟩ = some (ev al 20) := h.var 19 _ rfl (by decide)
    have g20 : w.cell? ⟨20, 0, none⟩ = some (ev al 21) := h.var 20 _ rfl (by decide)
    have g21 : w.cell? ⟨21, 0, none⟩ = some (ev al 22) := h.var 21 _ rfl (by decide)
    have g22 : w.cell? ⟨22, 0, none⟩ = some (ev al 23) := h.var 22 _ rfl (by decide)
    have g23 : w.cell? ⟨23, 0, none⟩ = some (ev al 24) := h.var 23 _ rfl (by decide)
    have g24 : w.cell? ⟨24, 0, none⟩ = some (ev al 25) := h.var 24 _ rfl (by decide)
    have g25 : w.cell? ⟨25, 0, none⟩ = some (ev al 26) := h.var 25 _ rfl (by decide)
    have g26 : w.cell? ⟨26, 0, none⟩ = some (ev al 27) := h.var 26 _ rfl (by decide)
    have g27 : w.cell? ⟨27, 0, none⟩ = some (ev al 28) := h.var 27 _ rfl (by decide)
    have HB : Hid (Below w.heap.size w (w.alloc (.cells (evs al) 27))) := (Below.refl _ _).alloc (Nat.le_refl _) _
    have HS : Hid (Sent (w.alloc (.cells (evs al) 27)) al) := h.below HB.out
    have HC : Hid (∀ k, k < 28 → (w.alloc (.cells (evs al) 27)).cell? ⟨w.heap.size, k, none⟩ = some (ev al (k + 1))) := fun k hk => by
      rw [World.cell?_alloc_mark]
      exact evs_get al k hk
    clear h
    go_enter Tryd.func11, Tryd.ntmps11
    go_wp2_with (refine wpList_value (o := ⟨some 36, _, _, _, _, _⟩) (.slice (some ⟨w.heap.size, 0, none⟩) 28 28) (w.alloc (.cells (evs al) 27)) rfl (by kernel_rfl) ?_)
    clear g0 g1 g2 g3 g4 g5 g6 g7 g8 g9 g10 g11 g12 g13 g14 g15 g16 g17 g18 g19 g20 g21 g22 g23 g24 g25 g26 g27
    show Code.wp _ _ _ _ (w.alloc (.cells (evs al) 27))
    generalize hW : w.alloc (.cells (evs al) 27) = W at HB HS HC ⊢
    have HW := Lib.hid hW
    clear hW
    go_loop [39] (fun i => ∃ k : Nat, k < m ∧ i = .int .i64 k) (fun i => 28 - (intOf i).toNat)
    case atStart => exact ⟨0, by omega, rfl⟩
    case round =>
      obtain ⟨k, hk, rfl⟩ := hrel
      have hc := HC.out k (by omega)
      by_cases hlast : m = k + 1
      · subst hlast
        have C := Lib.hid (is_ev HS.out (k + 1) k h0 hm (by omega))
        go_wp2_with (go_at_call 49; refine (C.out).mono ?_; rintro e w' ⟨rfl, rfl⟩)
        go_ret
        exact ⟨by simp, HB.out⟩
      · have hdd : decide (m = k + 1) = false := by simpa using hlast
        have C := Lib.hid (is_ev HS.out m k h0 hm (by omega))
        go_wp2_with (go_at_call 49; refine (C.out).mono ?_; rintro e w' ⟨rfl, rfl⟩)
        go_round
        case rel => exact ⟨k + 1, by omega, by go_num⟩
        case measure => simp [intOf]; omega
end Go.Proofs.YtdfjiodkmhpfkaaDoor

/- bullanum.Num as a contract of the abstract walk. -/
namespace Go.Proofs.YtdfjiodkmhpfkaaDoor
set_option linter.unusedVariables false
namespace Am
variable {gs : List Nat} [OkG gs]
open Go.RowKit
theorem num_ac (m : Nat) (hm : m ≤ 28) : ACp gs Tryd.prog 11 [.err m] (.c (.int .i64 m)) :=
  ac_old fun al w St vals hs hv hr => by
    have h0 : vals.getD 0 undef = ev al m := hr 0
    rw [vals1 hv, h0]
    exact num_any hs.std m hm
end Am
end Go.Proofs.YtdfjiodkmhpfkaaDoor

/- bullanum.Bytes and bullanum.Kept: a copy with marked room behind it, and that it stands as it stood. -/
namespace Go.Proofs.YtdfjiodkmhpfkaaDoor
set_option linter.unusedVariables false
open Go.RowKit

def marks : List UInt8 := [201, 202, 203, 204, 205, 206]
/-- v reads as l, and six marks lie behind it -/
def Marked (w : World) (v : Value) (l : List UInt8) : Prop :=
  ∃ g, v = .slice (some ⟨g, 0, none⟩) l.length (l.length + 6) ∧ l.length + 6 ≤ 9223372036854775807 ∧ ∀ i, i < l.length + 6 → w.cell? ⟨g, i, none⟩ = some (.int .u8 ((l ++ marks).getD i 0).toNat)
def MarkedAt (w : World) (g : Nat) (v : Value) (l : List UInt8) : Prop :=
  v = .slice (some ⟨g, 0, none⟩) l.length (l.length + 6) ∧ l.length + 6 ≤ 9223372036854775807 ∧ ∀ i, i < l.length + 6 → w.cell? ⟨g, i, none⟩ = some (.int .u8 ((l ++ marks).getD i 0).toNat)
theorem Marked.below {a b : World} {v : Value} {l : List UInt8} (h : Marked a v l) (k : Below a.heap.size a b) : Marked b v l := by
  obtain ⟨g, rfl, h1, h2⟩ := h
  exact ⟨g, rfl, h1, fun i hi => below_cell k (h2 i hi)⟩
theorem Marked.bs {w : World} {v : Value} {l : List UInt8} (h : Marked w v l) : Bs w v l := by
  obtain ⟨g, rfl, h1, h2⟩ := h
  refine Bs.of_cells (by omega) (by omega) fun i hi => ?_
  rw [Nat.zero_add, h2 i (by omega)]
  simp [List.getD, List.getElem?_append_left hi]

theorem info_byte : (Tryd.prog.info? 5).map (fun i => (i.zero, i.size, i.bytes)) = some (some (.int .u8 0), 1, 1) := by kernel_rfl

theorem bytes_one (l : List UInt8) : ∀ u ∈ l.map (fun c => Value.int .u8 c.toNat), u.oneCell' = true := by
  intro u hu
  obtain ⟨c, _, rfl⟩ := List.mem_map.1 hu
  rfl
theorem Bs.parts {w : World} {v : Value} {l : List UInt8} (h : Bs w v l) :
    ∃ ao cap, v = .slice ao l.length cap ∧ l.length ≤ cap ∧ cap ≤ 9223372036854775807 ∧ (ao = none → l.length = 0 ∧ cap = 0) ∧
      ∀ ad, ao = some ad → ∀ j u, (l.map fun c => Value.int .u8 c.toNat)[j]? = some u → w.cell? (ad.add j) = some u := by
  obtain ⟨ao, cap, rfl, h1, h2, h3, h4⟩ := h
  refine ⟨ao, cap, rfl, h1, h2, fun h => ⟨by have := h3 h; omega, h3 h⟩, ?_⟩
  intro ad had j u hu
  obtain ⟨hs, hc⟩ := h4 ad had
  obtain ⟨b, o, sp⟩ := ad
  have hj : j < l.length := by
    have := (List.getElem?_eq_some_iff.1 hu).1
    simpa using this
  have hs := hs (by omega)
  simp only at hs
  subst hs
  rw [Addr.add_lit, hc j hj]
  rw [List.getElem?_map, List.getElem?_eq_getElem hj] at hu
  simpa [List.getD, hj] using hu

theorem marks_get (i : Nat) (hi : i < 6) : ((marks.getD i 0).toNat : Int) = 201 + i := by
  match i, hi with
  | 0, _ => rfl
  | 1, _ => rfl
  | 2, _ => rfl
  | 3, _ => rfl
  | 4, _ => rfl
  | 5, _ => rfl

end Go.Proofs.YtdfjiodkmhpfkaaDoor

/- bullanum.Bytes and bullanum.Kept as contracts of the abstract walk. -/
namespace Go.Proofs.YtdfjiodkmhpfkaaDoor
set_option linter.unusedVariables false
namespace Am
variable {gs : List Nat} [OkG gs]
open Go.RowKit
/-- a copy with six marks behind it -/
def markSV (l : List UInt8) : SV where
  p St w v := ∃ g, St g ∧ MarkedAt w g v l
  st := fun {St St' w w' v} hs hb ⟨g, h1, h2, h3, h4⟩ => ⟨g, hs g h1, h2, h3, fun i hi => cell_keep (fun cur t z hc => hb g cur t z h1 hc) (h4 i hi)⟩
  one := fun {St w v} ⟨g, h1, h2, h3, h4⟩ => by rw [h2]; exact ⟨rfl, rfl⟩
def markC (l : List UInt8) : CV := .pv (markSV l)
theorem CEnt.mark {l : List UInt8} : CEnt (markC l) (bsC l) := fun al St w v ⟨g, h1, h2, h3, h4⟩ => by
  refine ⟨_, _, h2, by omega, h3, (fun h => by cases h), fun a ha hn => ?_⟩
  cases ha
  refine ⟨rfl, h1, fun i j hi hj => ⟨_, by rw [show 0 + (i * 1 + j) = i by omega]; exact h4 i (by omega), ?_⟩⟩
  show _ = _
  simp [List.getD, List.getElem?_append_left hi]
end Am
end Go.Proofs.YtdfjiodkmhpfkaaDoor

/- Chapter 7: bits in turn, masks and their bodies. -/
namespace Go.Proofs.YtdfjiodkmhpfkaaDoor
set_option linter.unusedVariables false
namespace Am
variable {gs : List Nat} [OkG gs]
open Go.RowKit
set_option maxRecDepth 100000


theorem rev16_ac {gs : List Nat} (x : Nat) (hx : x < 65536) : ACp gs Tryd.prog 89 [.c (.int .u16 (x : Nat))] (.c (.int .u16 (rev16 x : Nat))) := by
  have h1 := rev8_lt (i := x / 256) (by omega)
  have h2 := rev8_lt (i := x % 256) (by omega)
  refine ac_of 13 Tryd.func89 rfl rfl rfl (fun al w0 F0 St0 => ?_)
  refine jcr ?_
  refine jq jrm ?_
  refine seq_nil ?_
  refine jcs ?_
  refine jcd (.rd 0 (.rd 1 (.rd 2 (.rd 3 (.rd 4 (.rd 5 (.rd 6 (.rd 7 (.rd 8 (.rd 9 (.rd 10 .done))))))))))) ?_
  refine jyq jrm ?_
  refine jyq (rd_shr rfl rfl rfl (by (first | omega | decide | (dsimp only at *; omega))) (((x / 256 : Nat) : Int)) (shr8_16 _ rfl)) ?_
  refine jyq (rd_indexS rfl rfl rfl Tryd.underlying9 (show _ = ((x / 256 : Nat) : Int) by first | omega | (simp only [List.length_append, List.length_cons, List.length_nil]; omega)) (by exact Nat.lt_of_lt_of_eq (show x / 256 < 256 by omega) (by kernel_rfl))) ?_
  refine jyq (rd_convI rfl rfl Tryd.underlying5 Tryd.underlying131 (((rev8 (x / 256) : Nat) : Int)) (tab_wrap (T := rev8T) (by kernel_rfl) (rev8T_get (by omega)) rfl)) ?_
  refine jyq jrm ?_
  refine jyq (rd_and rfl rfl rfl (((x % 256 : Nat) : Int)) (and255 hx)) ?_
  refine jyq (rd_indexS rfl rfl rfl Tryd.underlying9 (show _ = ((x % 256 : Nat) : Int) by first | omega | (simp only [List.length_append, List.length_cons, List.length_nil]; omega)) (by exact Nat.lt_of_lt_of_eq (show x % 256 < 256 by omega) (by kernel_rfl))) ?_
  refine jyq (rd_convI rfl rfl Tryd.underlying5 Tryd.underlying131 (((rev8 (x % 256) : Nat) : Int)) (tab_wrap (T := rev8T) (by kernel_rfl) (rev8T_get (by omega)) rfl)) ?_
  refine jyq (rd_shl rfl rfl rfl (by (first | omega | decide | (dsimp only at *; omega))) (((rev8 (x % 256) % 256 * 256 : Nat) : Int)) (shl8_16 _ rfl)) ?_
  refine jyq (rd_or rfl rfl rfl (((rev8 (x / 256) + 256 * (rev8 (x % 256) % 256) : Nat) : Int)) (or_hl h1 (by omega))) ?_
  refine jyq jrm ?_
  refine jyd ?_
  refine jtn ?_
  refine code_ret (jrt (hv := ?_))
  refine CEnt.int ?_
  unfold rev16; omega
theorem len64_ac {gs : List Nat} (m : Nat) (hm : m < 65536) : ACp gs Tryd.prog 106 [.c (.int .u64 (m : Nat))] (.c (.int .i64 (bl m : Nat))) := by
  refine ac_of 25 Tryd.func106 rfl rfl rfl (fun al w0 F0 St0 => ?_)
  refine jcr ?_
  refine jq jrm ?_
  refine seq_nil ?_
  refine jcs ?_
  refine jcr ?_
  refine jq jrm ?_
  refine jq jrc ?_
  refine seq_nil ?_
  refine jcc (fun h338 => ?_) fun h338 => ?_
  · exfalso; omega
  refine code_skip (jtn ?_)
  refine jcs ?_
  refine jcr ?_
  refine jq jrm ?_
  refine jq jrc ?_
  refine seq_nil ?_
  refine jcc (fun h342 => ?_) fun h342 => ?_
  · exfalso; omega
  refine code_skip (jtn ?_)
  refine jcs ?_
  refine jcr ?_
  refine jq jrm ?_
  refine jq jrc ?_
  refine seq_nil ?_
  refine jcc (fun h346 => ?_) fun h346 => ?_
  rotate_left
  · refine code_skip (jtn ?_)
    obtain ⟨q, hq, hq2⟩ : ∃ q, q = (if 256 ≤ m then m / 256 else m) ∧ q < 256 := ⟨_, rfl, by split <;> omega⟩
    refine code_ent (weaken 0 (.c (.int .u64 (q : Nat))) (CEnt.int (by rw [hq]; first | rw [if_pos (by omega)] | rw [if_neg (by omega)]))) ?_
    have hl := (len8_bd hq2).2.1
    refine jcr ?_
    refine jq jrm ?_
    refine jq jrm ?_
    refine jq (rd_convI rfl rfl Tryd.underlying64 Tryd.underlying5 (((q : Nat) : Int)) ((by rw [IntKind.wrap_u8]; omega))) ?_
    refine jq (rd_indexS rfl rfl rfl Tryd.underlying9 (show _ = ((q : Nat) : Int) by first | omega | (simp only [List.length_append, List.length_cons, List.length_nil]; omega)) (by exact Nat.lt_of_lt_of_eq hq2 (by kernel_rfl))) ?_
    refine jq (rd_convI rfl rfl Tryd.underlying5 Tryd.underlying3 (((len8 q : Nat) : Int)) (tab_wrap (T := len8T) (by kernel_rfl) (len8T_get hq2) rfl)) ?_
    refine jq jra ?_
    refine jq jrm ?_
    refine seq_nil ?_
    refine code_ret (jrt (hv := ?_))
    refine CEnt.int ?_
    unfold bl
    first | (rw [if_pos (by omega)] at hq ⊢; subst hq; omega) | (rw [if_neg (by omega)] at hq ⊢; subst hq; omega)
  refine jcr ?_
  refine jq jrm ?_
  refine jq (rd_shr rfl rfl rfl (by (first | omega | decide | (dsimp only at *; omega))) (((m / 256 : Nat) : Int)) (shr8_64 _ rfl)) ?_
  refine jq jrm ?_
  refine seq_nil ?_
  refine jcg ?_
  refine jq jrm ?_
  refine jq jra ?_
  refine jq jrm ?_
  refine seq_nil ?_
  refine jtn ?_
  obtain ⟨q, hq, hq2⟩ : ∃ q, q = (if 256 ≤ m then m / 256 else m) ∧ q < 256 := ⟨_, rfl, by split <;> omega⟩
  refine code_ent (weaken 0 (.c (.int .u64 (q : Nat))) (CEnt.int (by rw [hq]; first | rw [if_pos (by omega)] | rw [if_neg (by omega)]))) ?_
  have hl := (len8_bd hq2).2.1
  refine jcr ?_
  refine jq jrm ?_
  refine jq jrm ?_
  refine jq (rd_convI rfl rfl Tryd.underlying64 Tryd.underlying5 (((q : Nat) : Int)) ((by rw [IntKind.wrap_u8]; omega))) ?_
  refine jq (rd_indexS rfl rfl rfl Tryd.underlying9 (show _ = ((q : Nat) : Int) by first | omega | (simp only [List.length_append, List.length_cons, List.length_nil]; omega)) (by exact Nat.lt_of_lt_of_eq hq2 (by kernel_rfl))) ?_
  refine jq (rd_convI rfl rfl Tryd.underlying5 Tryd.underlying3 (((len8 q : Nat) : Int)) (tab_wrap (T := len8T) (by kernel_rfl) (len8T_get hq2) rfl)) ?_
  refine jq jra ?_
  refine jq jrm ?_
  refine seq_nil ?_
  refine code_ret (jrt (hv := ?_))
  refine CEnt.int ?_
  unfold bl
  first | (rw [if_pos (by omega)] at hq ⊢; subst hq; omega) | (rw [if_neg (by omega)] at hq ⊢; subst hq; omega)
theorem blen_ac {gs : List Nat} (m : Nat) (hm : m < 65536) : ACp gs Tryd.prog 90 [.c (.int .u64 (m : Nat))] (.c (.int .i64 (bl m : Nat))) := by
  refine ac_of 8 Tryd.func90 rfl rfl rfl (fun al w0 F0 St0 => ?_)
  refine jcr ?_
  refine jq jrm ?_
  refine seq_nil ?_
  refine jcs ?_
  refine jcF ?_
  refine code_skip (jtn ?_)
  refine jcr ?_
  refine jq jrm ?_
  refine jqe (jecP (len64_ac m hm) ?_)
  refine jq jrm ?_
  refine seq_nil ?_
  refine code_ret (jrt (hv := CEnt.refl _))
theorem flags_bad (z : Int) (hz : z < 0 ∨ 32767 < z) : ACp gs Tryd.prog 55 [.c (.int .i64 z)] (.tup 2 (fl [bsC [], .err 1])) := by
  refine ac_of 41 Tryd.func55 rfl rfl rfl (fun al w0 F0 St0 => ?_)
  refine jcr ?_
  refine jq jrm ?_
  refine jq jrm ?_
  refine seq_nil ?_
  refine jcs ?_
  refine jcr ?_
  refine jq jrm ?_
  refine jq jrc ?_
  refine jq jrm ?_
  refine jqsp 10 (fun g76 => ?_) fun g76 => ?_
  · refine jqs ?_
    refine jqs ?_
    refine jq jrpT ?_
    refine seq_nil ?_
    refine jcT ?_
    refine jcs ?_
    refine jcd (.rd 0 (.rd 1 (.rd 2 .done))) ?_
    refine jyq (jrde 0) ?_
    refine jyq jrm ?_
    refine jyq jrm ?_
    refine jyd ?_
    refine jtn ?_
    refine code_ret (jtr (jrt (hv := CEnt.tup2 CEnt.nilB (CEnt.refl _))))
  refine jq jrm ?_
  refine jq jrc ?_
  refine jq jrpF ?_
  refine seq_nil ?_
  refine jcc (fun h76 => ?_) fun h76 => ?_
  rotate_left
  · exfalso; simp at h76; omega
  refine jcs ?_
  refine jcd (.rd 0 (.rd 1 (.rd 2 .done))) ?_
  refine jyq (jrde 0) ?_
  refine jyq jrm ?_
  refine jyq jrm ?_
  refine jyd ?_
  refine jtn ?_
  refine code_ret (jtr (jrt (hv := CEnt.tup2 CEnt.nilB (CEnt.refl _))))
theorem flags_ac {gs : List Nat} (m : Nat) (hm : m < 32768) : ACp gs Tryd.prog 55 [.c (.int .i64 (m : Nat))] (.tup 2 (fl [bsC (flagsL m), .err 0])) := by
  have hb := (bl_is (m := m) (by omega)).2
  refine ac_of 41 Tryd.func55 rfl rfl rfl (fun al w0 F0 St0 => ?_)
  refine jcr ?_
  refine jq jrm ?_
  refine jq jrm ?_
  refine seq_nil ?_
  refine jcs ?_
  refine jcr ?_
  refine jq jrm ?_
  refine jq jrc ?_
  refine jq jrm ?_
  refine jqsp 10 (fun g76 => ?_) fun g76 => ?_
  · exfalso; omega
  refine jq jrm ?_
  refine jq jrc ?_
  refine jq jrpF ?_
  refine seq_nil ?_
  refine jcc (fun h76 => ?_) fun h76 => ?_
  · exfalso; omega
  refine code_skip (jtn ?_)
  refine jcr ?_
  refine jq jrm ?_
  first | refine jq (jrv .i64 .u16) ?_ | refine jq (jrvW .i64 .u16) ?_
  refine jqe (jecP (rev16_ac m (by omega)) ?_)
  refine jq jrm ?_
  refine seq_nil ?_
  refine jcr ?_
  refine jq jrm ?_
  first | refine jq (jrv .i64 .u64) ?_ | refine jq (jrvW .i64 .u64) ?_
  refine jqe (jecP (blen_ac m (by omega)) ?_)
  refine jq jrm ?_
  refine seq_nil ?_
  refine jcr ?_
  refine jq jrm ?_
  first | refine jq jrr ?_ | refine jq (rd_remT rfl rfl rfl (by (first | omega | decide | (dsimp only at *; omega)))) ?_
  refine jq jra ?_
  first | refine jq jrr ?_ | refine jq (rd_remT rfl rfl rfl (by (first | omega | decide | (dsimp only at *; omega)))) ?_
  first | refine jq (jrv .i64 .u8) ?_ | refine jq (jrvW .i64 .u8) ?_
  refine jqe (jebl 1 1 zr5 fun p1 => ?_)
  refine jq jrm ?_
  refine seq_nil ?_
  refine jcs ?_
  refine jcr ?_
  refine jq jrm ?_
  refine seq_nil ?_
  refine code_block ?_
  refine code_ent (blk_ent 0 rfl (Nat.le_refl _) (fun _ => rfl) (fl_by (l2 := [UInt8.ofNat ((8 - bl m % 8) % 8)]) (.cons (CEnt.int (by rw [u8_ofNat (by omega)]; omega)) .nil))) ?_
  refine l_loop (α := Nat × Option Nat) [4, 6, 7, 27, 28, 29, 30, 31, 32, 33, 34, 35, 36, 37, 38, 39] (fun (j, g) => [(4, .c (.int .u16 (turnM m j : Nat))), (6, .os 0 g 0 (outL m j).length 1), (7, .c (.int .i64 ((8 * j : Nat) : Int)))]) (fun (j, g) => [(g, .blk (outL m j).length (byF (outL m j)))]) (fun j => j.1 ≤ (bl m + 7) / 8) (fun j => 3 - j.1) ((0, p1)) ?_ (fun _ => rfl) ?_ ?_ ?_
  · exact Nat.zero_le _
  · exact .cons (CEnt.refl _) (.cons (CEnt.refl _) (.cons (CEnt.refl _) .nil))
  · exact .same .nil
  · rintro ⟨j, g'⟩ (hj : j ≤ (bl m + 7) / 8)
    have ht := turnM_lt (m := m) (by omega) j
    have hol := outL_len m j
    refine jcs ?_
    refine jcr ?_
    refine jq jrm ?_
    refine jq jrm ?_
    refine jq jrc ?_
    refine seq_nil ?_
    refine jcc (fun h83 => ?_) fun h83 => ?_
    rotate_left
    · refine code_exit (jte (jte (jbx (jtn ?_))))
      refine jcr ?_
      refine jq jrm ?_
      refine jq jrm ?_
      refine jq jrm ?_
      refine seq_nil ?_
      refine code_ent (freeze 0 rfl) ?_
      refine code_ent (thawB 2 (outL m j) rfl rfl (by first | rfl | simp) rfl) ?_
      refine code_ret (jrt (hv := ?_))
      have e : j = (bl m + 7) / 8 := by omega
      refine CEnt.tup2 (CEnt.bs ?_) CEnt.nil
      rw [e]; exact outL_end (by omega)
    refine code_skip (jtn ?_)
    refine jcs ?_
    refine code_block ?_
    refine jcr ?_
    refine jq jrm ?_
    refine jq jrm ?_
    refine jq (rd_shr rfl rfl rfl (by (first | omega | decide | (dsimp only at *; omega))) (((turnM m j / 256 : Nat) : Int)) (shr8_16 _ rfl)) ?_
    first | refine jq (jrv .u16 .u8) ?_ | refine jq (jrvW .u16 .u8) ?_
    refine jqe (jebl 1 1 zr5 fun p2 => ?_)
    refine jqm (m_appendB (l2 := [UInt8.ofNat (turnM m j / 256)]) rfl rfl rfl (Nat.le_refl _) (fun _ _ => CEnt.refl _) (src_os rfl (.inl rfl) (by decide)) rfl (hh_bytes (.cons (CEnt.int ((by rw [u8_ofNat (by omega)]))) .nil)) Tryd.underlying46 nu46 sz5 zr5 by5 rfl (by first | omega | (simp; done) | (simp; omega) | (simp at *; omega)) (leaf_fl rfl rfl) rfl rfl (fun p3 => ?_))
    refine jq jrm ?_
    refine seq_nil ?_
    refine jcg ?_
    refine jq jrm ?_
    refine jq (rd_shl rfl rfl rfl (by (first | omega | decide | (dsimp only at *; omega))) (((turnM m j % 256 * 256 : Nat) : Int)) (shl8_16 _ rfl)) ?_
    refine jq jrm ?_
    refine seq_nil ?_
    refine jbn (jtn ?_)
    refine jcg ?_
    refine jq jrm ?_
    refine jq jra ?_
    refine jq jrm ?_
    refine seq_nil ?_
    refine jtn ?_
    refine jlend ((j + 1, p3)) ?_ ?_ (h5 := ?_) (h7 := ?_)
    · show j + 1 ≤ (bl m + 7) / 8; omega
    · show 3 - (j + 1) < 3 - j; omega
    · exact .cons (CEnt.refl _) (.cons (CEnt.refl _) (.cons (CEnt.int (by omega)) .nil))
    · exact .same .nil
def rF (M n i : Nat) (j : Nat) : CV := .c (.int .u8 ((gF M n i j : Nat) : Int))
end Am
end Go.Proofs.YtdfjiodkmhpfkaaDoor

/- Chapter 7: the laws TextsFlags and TextsMask. -/
namespace Go.Proofs.YtdfjiodkmhpfkaaDoor
namespace Am
variable {gs : List Nat} [OkG gs]
open Go.RowKit
set_option linter.unusedVariables false
set_option maxRecDepth 100000

theorem fl1 : flagsL 1 = [7, 128] := by decide
theorem fl256 : flagsL 256 = [7, 0, 128] := by decide
theorem alive07_ac {gs : List Nat} : ACp gs Tryd.prog 25 [] (.c (.bool true)) := by
  refine ac_of 29 Tryd.func25 rfl rfl rfl (fun al w0 F0 St0 => ?_)
  refine jcr ?_
  refine jq jrm ?_
  refine seq_nil ?_
  refine jcr ?_
  refine jqe (jecP (fl1 ▸ flags_ac 1 (by decide)) ?_)
  refine jq jrm ?_
  refine jq jrx ?_
  refine jq jrx ?_
  refine jq jrm ?_
  refine jq jrm ?_
  refine seq_nil ?_
  refine jcr ?_
  refine jqe (jecP (fl256 ▸ flags_ac 256 (by decide)) ?_)
  refine jq jrm ?_
  refine jq jrx ?_
  refine jq jrx ?_
  refine jq jrm ?_
  refine jq jrm ?_
  refine seq_nil ?_
  refine jcr ?_
  refine jq jrm ?_
  refine jq jre ?_
  refine jq jrm ?_
  refine jqsp 15 (fun g14 => ?_) fun g14 => ?_
  rotate_left
  · refine jqs ?_
    refine jqs ?_
    refine jq jrpF ?_
    refine jq jrm ?_
    refine jqs ?_
    refine jqs ?_
    refine jqs ?_
    refine jq jrpF ?_
    refine jq jrm ?_
    refine jqs ?_
    refine jqs ?_
    refine jqs ?_
    refine jq jrpF ?_
    refine jq jrm ?_
    refine seq_nil ?_
    refine code_ret (jrt (hv := ?_))
    refine CEnt.bool ?_
    first | rfl | (simp at *; done) | (simp_all; done)
  refine jq jrm ?_
  refine jq jre ?_
  refine jq jrpT ?_
  refine jq jrm ?_
  refine jqsp 19 (fun g14_2 => ?_) fun g14_2 => ?_
  rotate_left
  · refine jqs ?_
    refine jqs ?_
    refine jqs ?_
    refine jq jrpF ?_
    refine jq jrm ?_
    refine jqs ?_
    refine jqs ?_
    refine jqs ?_
    refine jq jrpF ?_
    refine jq jrm ?_
    refine seq_nil ?_
    refine code_ret (jrt (hv := ?_))
    refine CEnt.bool ?_
    first | rfl | (simp at *; done) | (simp_all; done)
  refine jq jrm ?_
  first | refine jq (rd_convBS rfl rfl Tryd.underlying46 Tryd.underlying5 Tryd.underlying9) ?_ | refine jqo (rd_convB1 rfl rfl (.inl rfl) (by first | rfl | simp) (by first | exact Nat.le_refl _ | simp) Tryd.underlying46 Tryd.underlying5 Tryd.underlying9) ?_ | refine jqo (rd_convB1 rfl rfl (.inr rfl) (by first | rfl | simp) (by first | exact Nat.le_refl _ | simp) Tryd.underlying46 Tryd.underlying5 Tryd.underlying9) ?_ | refine jq (rd_convBN rfl rfl Tryd.underlying46 Tryd.underlying5 Tryd.underlying9) ?_
  refine jq (rd_eqS rfl rfl rfl) ?_
  refine jq jrpT ?_
  refine jq jrm ?_
  refine jqsp 24 (fun g14_3 => ?_) fun g14_3 => ?_
  · refine jq jrm ?_
    first | refine jq (rd_convBS rfl rfl Tryd.underlying46 Tryd.underlying5 Tryd.underlying9) ?_ | refine jqo (rd_convB1 rfl rfl (.inl rfl) (by first | rfl | simp) (by first | exact Nat.le_refl _ | simp) Tryd.underlying46 Tryd.underlying5 Tryd.underlying9) ?_ | refine jqo (rd_convB1 rfl rfl (.inr rfl) (by first | rfl | simp) (by first | exact Nat.le_refl _ | simp) Tryd.underlying46 Tryd.underlying5 Tryd.underlying9) ?_ | refine jq (rd_convBN rfl rfl Tryd.underlying46 Tryd.underlying5 Tryd.underlying9) ?_
    refine jq (rd_eqS rfl rfl rfl) ?_
    refine jq jrpT ?_
    refine jq jrm ?_
    refine seq_nil ?_
    refine code_ret (jrt (hv := ?_))
    refine CEnt.bool ?_
    first | rfl | (simp at *; done) | (simp_all; done)
  refine jqs ?_
  refine jqs ?_
  refine jqs ?_
  refine jq jrpF ?_
  refine jq jrm ?_
  refine seq_nil ?_
  refine code_ret (jrt (hv := ?_))
  refine CEnt.bool ?_
  first | rfl | (simp at *; done) | (simp_all; done)
end Am
end Go.Proofs.YtdfjiodkmhpfkaaDoor

/- TextsSet: the body of every set of elements. -/
namespace Go.Proofs.YtdfjiodkmhpfkaaDoor
set_option linter.unusedVariables false
namespace Am
variable {gs : List Nat} [OkG gs]
open Go.RowKit
set_option maxRecDepth 100000

theorem sumL_bd {m : Nat} : ∀ {l : List (List UInt8)}, (∀ j, j < l.length → (l.getD j []).length ≤ m) → sumL l ≤ m * l.length
  | [], _ => by simp [sumL]
  | x :: l, h => by
    have h0 := h 0 (by simp)
    have ih := sumL_bd (l := l) (m := m) (fun j hj => by have := h (j + 1) (by simpa using hj); simpa using this)
    have e : sumL (x :: l) = x.length + sumL l := by simp [sumL]
    have h0 : x.length ≤ m := h0
    rw [e, List.length_cons, Nat.mul_succ]
    omega
theorem flat_step {l : List (List UInt8)} {i : Nat} (h : i < l.length) : (l.take i).flatten ++ l.getD i [] = (l.take (i + 1)).flatten := (flat_take h).symm
theorem rot_perm {l : List (List UInt8)} (k : Nat) : (l.drop k ++ l.take k).Perm l := by
  have := List.perm_append_comm (l₁ := l.drop k) (l₂ := l.take k)
  rwa [List.take_append_drop] at this
set_option maxHeartbeats 2000000 in
theorem textsSet_ac {gs : List Nat} (l : List (List UInt8)) (n : Int) (h1 : -9223372036854775808 ≤ n) (h2 : n ≤ 9223372036854775807) : ACp gs Tryd.prog 4 [lbC l, .c (.int .i64 n)] (.c (.bool true)) := by
  have hss : sortL (sortL l) = sortL l := (sortL_of (List.Perm.refl _) (sortL_sorted l)).symm
  have hsl := sortL_length l
  have hsum := sumL_sort l
  refine ac_len 0 rfl fun hlen => ?_
  refine ac_of 97 Tryd.func4 rfl rfl rfl (fun al w0 F0 St0 => ?_)
  refine jcr ?_
  refine jq jrm ?_
  refine seq_nil ?_
  refine jcs ?_
  refine jcr ?_
  refine jqe (jecP alive07_ac ?_)
  refine jq jrn ?_
  refine seq_nil ?_
  refine jcc (fun h72 => ?_) fun h72 => ?_
  · exfalso; exact absurd h72 (by decide)
  refine code_skip (jtn ?_)
  refine jcs ?_
  refine jcr ?_
  refine jq jrm ?_
  refine jq jrl ?_
  refine jq jrc ?_
  refine seq_nil ?_
  refine jcc (fun h75 => ?_) fun h75 => ?_
  · refine jcr ?_
    refine jq jrm ?_
    refine seq_nil ?_
    refine code_ret (jtr (jrt (hv := CEnt.refl _)))
  refine code_skip (jtn ?_)
  refine jcs ?_
  refine jcr ?_
  refine jq jrm ?_
  refine jq jrl ?_
  refine jq jrm ?_
  refine seq_nil ?_
  refine code_block ?_
  refine l_loop (α := Nat) [4, 6, 22, 23, 24, 25, 26, 27, 28, 29] (fun i => [(22, .c (.int .i64 (i : Nat)))]) (fun _ => []) (fun i => i ≤ l.length ∧ ∀ j, j < i → (l.getD j []).length ≤ 100) (fun i => l.length - i) (0) ?_ (fun _ => rfl) ?_ ?_ ?_
  · exact ⟨by omega, fun j hj => by omega⟩
  · (repeat (first | exact EntE.nil | refine EntE.cons (CEnt.refl _) ?_ | refine EntE.cons (CEnt.int (by omega)) ?_))
  · (repeat (first | exact HEnt.nil | refine HEnt.same ?_ | refine HEnt.blk rfl (fun j hj => by rcases j with _|_|_|_|_|_|_|_|j <;> first | exact CEnt.refl _ | exact CEnt.int (by omega) | omega) ?_))
  · rintro i ⟨hi, hb⟩
    refine jcr ?_
    refine jq jrc ?_
    refine seq_nil ?_
    refine jcs ?_
    refine jcc (fun h78 => ?_) fun h78 => ?_
    · refine code_skip (jtn ?_)
      refine jcs ?_
      refine code_block ?_
      refine jcr ?_
      refine jq jri ?_
      first | refine jqo jrdo ?_ | refine jq jrdr ?_
      refine jq jrm ?_
      refine seq_nil ?_
      refine jcr ?_
      refine jq jrm ?_
      refine jq jrl ?_
      refine jq jrc ?_
      refine seq_nil ?_
      refine jcc (fun h79 => ?_) fun h79 => ?_
      · refine jcr ?_
        refine jq jrm ?_
        refine seq_nil ?_
        refine code_ret (jbr (jtr (jtr (jbr (jtr (jrt (hv := CEnt.refl _)))))))
      refine code_skip (jbn (jtn ?_))
      refine jcg ?_
      refine jq jra ?_
      refine jq jrm ?_
      refine seq_nil ?_
      refine jtn ?_
      refine jlend (i + 1) ?_ ?_
      · exact ⟨by omega, fun j hj => by
          by_cases e : j = i
          · subst e; omega
          · exact hb j (by omega)⟩
      · omega
    refine code_exit (jte (jte (jbx (jtn ?_))))
    refine jcr ?_
    refine jqe (jebl 0 1 zr46 fun p1 => ?_)
    refine jq jrm ?_
    refine jqm (m_appendC (l := []) ( rowC_lb) rfl rfl rfl rfl (Nat.le_of_eq (Nat.zero_mul _)) (fun j hj => absurd hj (by simp)) (src_rs rfl) rfl (fun j hj => by first | exact CEnt.refl _ | (simp only [Nat.div_one]; exact CEnt.refl _)) Tryd.underlying45 nu45 sz46 zr46 by46 rfl (by first | omega | (simp; done) | (simp; omega) | (simp at *; omega)) (by first | omega | (simp; done) | (simp; omega) | (simp at *; omega)) (fun j hj => rfl) rfl rfl rfl (fun p2 => ?_))
    refine jq jrm ?_
    refine seq_nil ?_
    have hle : l.length ≤ 20 ∧ sumL l ≤ 100 * l.length := ⟨by omega, sumL_bd fun j hj => hb j (by omega)⟩
    refine code_ent (freeze 0 rfl) ?_
    refine code_ent (thaw 7 (fun b _ => bsC (l.getD b [])) rfl rfl (by simp) (fun a b ha hb => lb_thaw a b (by simpa using ha) hb)) ?_
    refine code_ent (weaken 7 (lbC l) (CEnt.rs (by simp) fun i j _ _ => CEnt.refl _)) ?_
    refine code_ent (pick_ent (H' := []) [] (by decide) rfl) ?_
    refine jcr ?_
    refine jq jrm ?_
    refine jqe (jecP (rsorted07_ac l (by omega)) ?_)
    refine jq jrm ?_
    refine seq_nil ?_
    refine jcr ?_
    refine jqe (jebl 0 1 zr5 fun p3 => ?_)
    refine jq jrm ?_
    refine seq_nil ?_
    refine jcs ?_
    refine jcr ?_
    refine jq jrm ?_
    refine jq jrl ?_
    refine jq jrm ?_
    refine seq_nil ?_
    refine code_block ?_
    refine l_loop (α := Nat × Option Nat) [9, 11, 38, 39, 40, 41, 42, 43, 44, 45] (fun (i, g) => [(38, .c (.int .i64 (i : Nat))), (9, .os 0 g 0 (((sortL l).take i).flatten).length 1)]) (fun (i, g) => [(g, .blk (((sortL l).take i).flatten).length (byF ((sortL l).take i).flatten))]) (fun (i, g) => i ≤ (sortL l).length) (fun (i, g) => (sortL l).length - i) ((0, p3)) ?_ (fun _ => rfl) ?_ ?_ ?_
    · exact Nat.zero_le _
    · exact .cons (CEnt.refl _) (.cons (CEnt.refl _) .nil)
    · exact .blk rfl (fun j hj => absurd hj (Nat.not_lt_zero j)) .nil
    · rintro ⟨m, g'⟩ (hm : m ≤ (sortL l).length)
      have hs3 := sumL_le (sortL l) m
      have hfl := flat_len ((sortL l).take m)
      have hs4 := sumL_le (sortL l) (m + 1)
      have hfl2 := flat_len ((sortL l).take (m + 1))
      refine jcr ?_
      refine jq jrc ?_
      refine seq_nil ?_
      refine jcs ?_
      refine jcc (fun h86 => ?_) fun h86 => ?_
      · refine code_skip (jtn ?_)
        refine jcs ?_
        refine code_block ?_
        refine jcr ?_
        refine jq jri ?_
        first | refine jqo jrdo ?_ | refine jq jrdr ?_
        refine jq jrm ?_
        refine seq_nil ?_
        have hs1 := sumL_take (ls := sortL l) (i := m) (by omega)
        refine jcg ?_
        refine jq jrm ?_
        refine jq jrm ?_
        first | refine jqm (m_appendB rfl rfl rfl (Nat.le_refl _) (fun _ _ => CEnt.refl _) (src_rs rfl) rfl (fun j hj => by simp only [Nat.div_one]; exact CEnt.refl _) Tryd.underlying46 nu46 sz5 zr5 by5 rfl (by first | omega | (simp; done) | (simp; omega) | (simp at *; omega)) (fun j hj => rfl) rfl rfl (fun p4 => ?_)) | refine jqm (m_appendB rfl rfl rfl (Nat.le_refl _) (fun _ _ => CEnt.refl _) (src_str rfl) rfl (fun j hj => CEnt.refl _) Tryd.underlying46 nu46 sz5 zr5 by5 rfl (by first | omega | (simp; done) | (simp; omega) | (simp at *; omega)) (fun j hj => rfl) rfl rfl (fun p4 => ?_)) | refine jqm (m_appendB rfl rfl rfl (Nat.le_refl _) (fun _ _ => CEnt.refl _) (src_os rfl (.inl rfl) (by omega)) rfl (fun j hj => by rw [Nat.zero_add]; exact CEnt.refl _) Tryd.underlying46 nu46 sz5 zr5 by5 rfl (by first | omega | (simp; done) | (simp; omega) | (simp at *; omega)) (fun j hj => rfl) rfl rfl (fun p4 => ?_))
        refine jq jrm ?_
        refine seq_nil ?_
        refine jbn (jtn ?_)
        refine jcg ?_
        refine jq jra ?_
        refine jq jrm ?_
        refine seq_nil ?_
        refine jtn ?_
        refine jlend ((m + 1, p4)) ?_ ?_ (h5 := ?_) (h7 := ?_)
        · show m + 1 ≤ (sortL l).length; omega
        · show (sortL l).length - (m + 1) < (sortL l).length - m; omega
        · exact .cons (CEnt.int (by omega)) (.cons (CEnt.osI (by rw [flat_step (by omega)])) .nil)
        · exact .blk (by rw [flat_step (by omega)]) (fun j hj => CEnt.of_eq (by rw [flat_step (by omega)])) .nil
      refine code_exit (jte (jte (jbx (jtn ?_))))
      have hmm : m = (sortL l).length := by omega
      refine code_ent (freeze 0 rfl) ?_
      refine code_ent (thawB 9 (((sortL l).take m).flatten) rfl rfl (by first | rfl | simp) rfl) ?_
      refine code_ent (weaken 9 (bsC (sortL l).flatten) (CEnt.bs (by rw [hmm, List.take_length]))) ?_
      refine code_ent (pick_ent (H' := []) [] (by decide) rfl) ?_
      refine jcr ?_
      refine jq jrm ?_
      refine jqe (jecP (set_ac l (by omega) (by omega)) ?_)
      refine jq jrm ?_
      refine seq_nil ?_
      refine jcs ?_
      refine jcr ?_
      refine jq jrm ?_
      first | refine jq jrbs ?_ | refine jqo jrbo ?_ | refine jq jrbn ?_
      refine jq jrm ?_
      first | refine jq jrbs ?_ | refine jqo jrbo ?_ | refine jq jrbn ?_
      refine jq jrcs ?_
      refine jq jrm ?_
      refine jqsp 53 (fun g90 => ?_) fun g90 => ?_
      · refine jqs ?_
        refine jqs ?_
        refine jqs ?_
        refine jqs ?_
        refine jq jrpT ?_
        refine jq jrm ?_
        refine jqs ?_
        refine jqs ?_
        refine jqs ?_
        refine jqs ?_
        refine jqs ?_
        refine jqs ?_
        refine jq jrpT ?_
        refine jq jrm ?_
        refine jqs ?_
        refine jqs ?_
        refine jqs ?_
        refine jq jrpT ?_
        refine seq_nil ?_
        refine jcT ?_
        refine jcr ?_
        refine jq jrm ?_
        refine seq_nil ?_
        refine code_ret (jtr (jrt (hv := ?_)))
        exfalso
        first | (simp_all; done) | grind
      refine jq jrm ?_
      refine jq jrm ?_
      refine jqe (jecP (sameLists_ac l l) ?_)
      refine jq jrn ?_
      refine jq jrpF ?_
      refine jq jrm ?_
      refine jqsp 59 (fun g90_2 => ?_) fun g90_2 => ?_
      · refine jqs ?_
        refine jqs ?_
        refine jqs ?_
        refine jqs ?_
        refine jqs ?_
        refine jqs ?_
        refine jq jrpT ?_
        refine jq jrm ?_
        refine jqs ?_
        refine jqs ?_
        refine jqs ?_
        refine jq jrpT ?_
        refine seq_nil ?_
        refine jcT ?_
        refine jcr ?_
        refine jq jrm ?_
        refine seq_nil ?_
        refine code_ret (jtr (jrt (hv := ?_)))
        exfalso
        first | (simp_all; done) | grind
      refine jq jrm ?_
      refine jqe (jecP (sorted07_ac l (by omega)) ?_)
      refine jq jrm ?_
      refine jq jrm ?_
      refine jqe (jecP (sameLists_ac (sortL l) l) ?_)
      refine jq jrcb ?_
      refine jq jrpF ?_
      refine jq jrm ?_
      refine jqsp 67 (fun g90_3 => ?_) fun g90_3 => ?_
      · refine jqs ?_
        refine jqs ?_
        refine jqs ?_
        refine jq jrpT ?_
        refine seq_nil ?_
        refine jcT ?_
        refine jcr ?_
        refine jq jrm ?_
        refine seq_nil ?_
        refine code_ret (jtr (jrt (hv := ?_)))
        exfalso
        first | (simp_all; done) | grind
      refine jq jrm ?_
      refine jqe (jecP (sorted07_ac (sortL l) (by omega)) ?_)
      refine jq jrn ?_
      refine jq jrpF ?_
      refine seq_nil ?_
      refine jcc (fun h90 => ?_) fun h90 => ?_
      · refine jcr ?_
        refine jq jrm ?_
        refine seq_nil ?_
        refine code_ret (jtr (jrt (hv := ?_)))
        exfalso
        first | (simp_all; done) | grind
      refine code_skip (jtn ?_)
      refine jcs ?_
      refine jcr ?_
      refine jq jrm ?_
      refine jq jrl ?_
      refine jq jrc ?_
      refine seq_nil ?_
      refine jcc (fun h93 => ?_) fun h93 => ?_
      · refine jcr ?_
        refine jq jrm ?_
        refine seq_nil ?_
        refine code_ret (jtr (jrt (hv := CEnt.refl _)))
      refine code_skip (jtn ?_)
      obtain ⟨kk, hkk, hkl⟩ : ∃ kk : Nat, n % 18446744073709551616 % (l.length : Int) = (kk : Int) ∧ kk < l.length := by
        have e1 := Int.emod_nonneg (n % 18446744073709551616) (show (l.length : Int) ≠ 0 by omega)
        have e2 := Int.emod_lt_of_pos (n % 18446744073709551616) (show (0 : Int) < l.length by omega)
        exact ⟨(n % 18446744073709551616 % (l.length : Int)).toNat, by omega, by omega⟩
      have hrp := rot_perm (l := l) kk
      have hrs : sumL (l.drop kk ++ l.take kk) = sumL l := (hrp.map List.length).sum_nat
      have hrl : (l.drop kk ++ l.take kk).length = l.length := hrp.length_eq
      refine jcr ?_
      refine jq jrm ?_
      refine jq (rd_convI rfl rfl Tryd.underlying3 Tryd.underlying51 ((n % 18446744073709551616)) ((by rw [IntKind.wrap_u64]))) ?_
      refine jq jrm ?_
      refine jq jrl ?_
      first | refine jq (jrv .i64 .u64) ?_ | refine jq (jrvW .i64 .u64) ?_
      first | refine jq jrr ?_ | refine jq (rd_remT rfl rfl rfl (by (first | omega | decide | (dsimp only at *; omega)))) ?_
      refine jq (rd_convI rfl rfl Tryd.underlying51 Tryd.underlying3 ((kk : Int)) ((by rw [hkk]; exact wrap_id (k := .i64) (by show _ ∧ _; omega)))) ?_
      refine jq jrm ?_
      refine seq_nil ?_
      refine jcs ?_
      refine jcdZ (.rd 1 (.rd 2 (.rd 3 (.rd 5 (.rd 6 (.rd 7 (.one 0 (.one 4 (.one 8 (.rd 9 .done)))))))))) ?_
      refine jzq jrm ?_
      refine jzq jrm ?_
      first | refine jzq (jrsr (hl := (bd_some rfl (show _ = ((kk : Nat) : Int) by first | omega | (simp only [List.length_append, List.length_cons, List.length_nil]; omega)))) (hu := (bd_none _ _))) ?_ | refine jzq (jrso (hl := (bd_some rfl (show _ = ((kk : Nat) : Int) by first | omega | (simp only [List.length_append, List.length_cons, List.length_nil]; omega)))) (hu := (bd_none _ _))) ?_
      refine jzq jrm ?_
      refine jzq jrm ?_
      first | refine jzq (jrsr (hl := (bd_none _ _)) (hu := (bd_some rfl (show _ = ((kk : Nat) : Int) by first | omega | (simp only [List.length_append, List.length_cons, List.length_nil]; omega))))) ?_ | refine jzq (jrso (hl := (bd_none _ _)) (hu := (bd_some rfl (show _ = ((kk : Nat) : Int) by first | omega | (simp only [List.length_append, List.length_cons, List.length_nil]; omega))))) ?_
      refine jze (jebl 0 1 zr46 fun p4 => ?_)
      refine jzm (m_appendC rowC_lb (l := []) (l2 := l.drop kk) rfl rfl rfl rfl (Nat.le_of_eq (Nat.zero_mul _)) (fun j hj => absurd hj (by simp)) (src_rs rfl) (by rw [List.length_drop]) (fun j hj => CEnt.of_eq lb_drop) Tryd.underlying45 nu45 sz46 zr46 by46 rfl (by simp; omega) (by simp; omega) (fun j hj => rfl) rfl rfl (Nat.mul_one _) (fun p5 => ?_))
      refine jzm (m_appendC rowC_lb (l := [] ++ l.drop kk) (l2 := l.take kk) rfl rfl (by simp) rfl (by simp) (fun j hj => CEnt.refl _) (src_rs rfl) (by rw [List.length_take]; omega) (fun j hj => CEnt.of_eq (lb_take (by rw [List.length_take] at hj; omega))) Tryd.underlying45 nu45 sz46 zr46 by46 rfl (by simp; omega) (by simp; omega) (fun j hj => rfl) rfl rfl (Nat.mul_one _) (fun p6 => ?_))
      refine jzq jrm ?_
      refine jzd ?_
      refine jtn ?_
      refine jcs ?_
      refine code_ent (freeze 0 rfl) ?_
      refine code_ent (thaw 14 (fun b _ => bsC ((l.drop kk ++ l.take kk).getD b [])) rfl rfl (by simp) (fun a b ha hb => lb_thaw a b (by simpa using ha) hb)) ?_
      refine code_ent (weaken 14 (lbC (l.drop kk ++ l.take kk)) (CEnt.rs (by simp) fun i j _ _ => CEnt.refl _)) ?_
      refine jcd (.rd 0 (.rd 3 (.rd 4 (.one 1 (.rd 2 (.rd 5 (.rd 6 .done))))))) ?_
      refine jyq jrm ?_
      refine jyq jrm ?_
      first | refine jyq jrbs ?_ | refine jyo jrbo ?_ | refine jyq jrbn ?_
      refine jye (jecP (set_ac (l.drop kk ++ l.take kk) (by omega) (by omega)) ?_)
      first | refine jyq jrbs ?_ | refine jyo jrbo ?_ | refine jyq jrbn ?_
      refine jyq jrcs ?_
      refine jyq jrm ?_
      refine jyd ?_
      refine jtn ?_
      refine code_ret (jrt (hv := ?_))
      refine CEnt.bool ?_
      rw [sortL_perm_eq hrp]
      first | (simp; done) | (simp_all; done)
end Am
end Go.Proofs.YtdfjiodkmhpfkaaDoor

/- From a row's list of sentinels ('laid') to what the walks ask: each variable's pointer, no two the same. -/
namespace Go.Proofs.YtdfjiodkmhpfkaaDoor
set_option linter.unusedVariables false
open Go.RowKit Go.ChangeShapes

theorem addr_ext {a b : Addr} (h1 : a.block = b.block) (h2 : a.off = b.off) (h3 : a.spot = none) (h4 : b.spot = none) : a = b := by
  cases a; cases b; simp_all

def isErr (x : String × DataW Unit) : Bool := match x.2 with
  | .iface nm (.ptr (.agg [.lit (.string _)])) => nm == "*errors.errorString"
  | _ => false
theorem isErr_out {x : String × DataW Unit} (h : isErr x = true) : ∃ text, x.2 = .iface "*errors.errorString" (.ptr (.agg [.lit (.string text)])) := by
  obtain ⟨n, d⟩ := x
  unfold isErr at h
  dsimp only at h ⊢
  split at h
  · exact ⟨_, by rw [eq_of_beq h]⟩
  · cases h

theorem laid_list {P : Program} {W : World} {nm : String} {ti tp te ts : TypeId} {ms : Array (String × TypeId)} {f : Field}
    (hi : P.underlying ti = some (.interface ms)) (hrow : ∀ u, P.typeName? 3 u = some nm → u = tp)
    (hp : P.underlying tp = some (.pointer te)) (he : P.underlying te = some (.struct #[f])) (hft : f.type = ts) (hfo : f.offset = 0) (hs : P.underlying ts = some .string) (hc : P.cellsOf te = 1) (hcs : P.cellsOf ts = 1) :
    ∀ (L : List (String × DataW Unit)) (ps : List MemPlace), DataW.LaidVars P W L ps →
      (∀ b off, MemPlace.cell b off ∈ ps → (∃ c t, W.heap[b]? = some (.cells c t (0, 0))) ∧ ∀ u v, W.cell? ⟨b, off, none⟩ = some (.iface u v) → Value.okWide P W .any 0 u v) → ps.Nodup →
      (∀ x ∈ L, isErr x = true → (∃ text, x.2 = .iface nm (.ptr (.agg [.lit (.string text)]))) ∧ ∀ g, P.globalNamed x.1 = some g → (P.globals[g]?).map (·.type) = some ti) →
      ∃ al : List Addr, al.length = (L.filter isErr).length ∧ al.Nodup ∧ (∀ a ∈ al, a.spot = none ∧ MemPlace.cell a.block a.off ∈ ps) ∧
        ∀ (i : Nat) (x : String × DataW Unit) (a : Addr), (L.filter isErr)[i]? = some x → al[i]? = some a → ∃ g, P.globalNamed x.1 = some g ∧ W.cell? ⟨g, 0, none⟩ = some (.iface tp (.pointer (some a)))
  | [], ps, _, _, _, _ => ⟨[], rfl, List.nodup_nil, by simp, by simp⟩
  | (n, d) :: r, ps, hv, hrows, hnd, hL => by
    obtain ⟨g, t, cs, fuel, p, q, hg, ht, hvar, hd, hrest, rfl⟩ := hv
    have hnq : q.Nodup := List.Nodup.sublist (List.sublist_append_right _ _) hnd
    obtain ⟨al, h1, h2, h3, h4⟩ := laid_list hi hrow hp he hft hfo hs hc hcs r q hrest (fun b off hm => hrows b off (List.mem_append_right _ hm)) hnq (fun x hx => hL x (List.mem_cons_of_mem _ hx))
    by_cases hE : isErr (n, d) = true
    case neg =>
      have hE : isErr (n, d) = false := by simpa using hE
      rw [List.filter_cons_of_neg (by simp [hE])]
      exact ⟨al, h1, h2, fun a ha => ⟨(h3 a ha).1, List.mem_append_right _ (h3 a ha).2⟩, h4⟩
    obtain ⟨⟨text, hx⟩, hty⟩ := hL (n, d) (List.mem_cons_self ..) hE
    rw [List.filter_cons_of_pos hE]
    simp only at hx
    subst hx
    obtain rfl := Option.some.inj ((hty g hg).symm.trans ht)
    obtain ⟨l⟩ := cs
    have hcell0 : ∀ v, l = [v] → W.cell? ⟨g, 0, none⟩ = some v := fun v e => by
      subst e
      simpa using World.var?_cell hg hvar 0
    obtain ⟨a, s, rfl, ha, _, _, rfl⟩ := errorString_of_trod hi hrow hp he hft hfo hs hc hcs hd (fun u v e => by
      simp only at e
      subst e
      exact (hrows g 0 (by simp [MemPlace.row])).2 u v (hcell0 _ rfl))
    have hsp : a.spot = none := World.cell?_spot ha
    have hpl : MemPlace.cell a.block a.off ∈ MemPlace.row a 1 := by simp [MemPlace.row]
    refine ⟨a :: al, by simp [h1], List.nodup_cons.2 ⟨fun hm => ?_, h2⟩, ?_, ?_⟩
    · have hq := (h3 a hm).2
      have := (List.nodup_append.1 hnd).2.2 (MemPlace.cell a.block a.off) (List.mem_append_right _ hpl) _ hq
      exact this rfl
    · intro b hb
      rcases List.mem_cons.1 hb with rfl | hb
      · exact ⟨hsp, List.mem_append_left _ (List.mem_append_right _ hpl)⟩
      · exact ⟨(h3 b hb).1, List.mem_append_right _ (h3 b hb).2⟩
    · intro i x b hi' hb
      match i, hi', hb with
      | 0, hi', hb =>
        simp only [List.getElem?_cons_zero, Option.some.injEq] at hi' hb
        subst hi'
        subst hb
        exact ⟨g, hg, hcell0 _ rfl⟩
      | i + 1, hi', hb => exact h4 i x b (by simpa using hi') (by simpa using hb)

theorem starRow (u : TypeId) (h : Tryd.prog.typeName? 3 u = some "*errors.errorString") : u = 197 := by
  have e : "*errors.errorString" = "*" ++ "errors.errorString" := by decide +kernel
  exact typeName_ptr_named (nm := "errors.errorString") (by rw [← e]; kernel_rfl) (by kernel_rfl) (by decide) u (by rw [← e]; exact h)
theorem cellsErr : Tryd.prog.cellsOf 224 = 1 := by kernel_rfl
theorem cellsStr : Tryd.prog.cellsOf 9 = 1 := by kernel_rfl

/-- what a row's list of sentinels gives -/
theorem sent_of_laid {W : World} {L : List (String × DataW Unit)} {g0 : List Nat} (h : laidMetH Tryd.prog L W) (h1 : (L.all fun x => x.2.handleName?.isNone) = true)
    (h3 : ((L.filter isErr).map fun x => Tryd.prog.globalNamed x.1) = (errG g0).map some) (h4 : ((errG g0).map fun g => (Tryd.prog.globals[g]?).map (·.type)) = List.replicate (errG g0).length (some 27))
    (ht : tabA ∈ lst g0 → tabB ∈ lst g0 → Lib.Utf8Tabs tabA tabB W) (hAB : ((lst g0).contains tabA) = ((lst g0).contains tabB)) : ∃ al, SentL W g0 al := by
  rw [MakeChecks.laidMetH_plain _ _ _ h1] at h
  obtain ⟨ps, hv, hnd, hrows⟩ := h
  have hlen : (L.filter isErr).length = (errG g0).length := by simpa using congrArg List.length h3
  have hgl : ∀ (i : Nat) (x : String × DataW Unit), (L.filter isErr)[i]? = some x → ∃ g, (errG g0)[i]? = some g ∧ Tryd.prog.globalNamed x.1 = some g := by
    intro i x hx
    have := congrArg (fun l => l[i]?) h3
    simp only [List.getElem?_map, hx, Option.map_some] at this
    obtain ⟨g, hg, e⟩ := Option.map_eq_some_iff.1 this.symm
    exact ⟨g, hg, e.symm⟩
  obtain ⟨al, l1, l2, l3, l4⟩ := laid_list Tryd.underlying27 starRow Tryd.underlying197 Tryd.underlying224 rfl rfl Tryd.underlying9 cellsErr cellsStr L ps hv hrows hnd
    (fun x hx hE => ⟨isErr_out hE, fun g hg => by
      obtain ⟨i, hi⟩ := List.mem_iff_getElem?.1 (List.mem_filter.2 ⟨hx, hE⟩)
      obtain ⟨g', hg', e⟩ := hgl i x hi
      obtain rfl := Option.some.inj (e.symm.trans hg)
      have := congrArg (fun l => l[i]?) h4
      simp only [List.getElem?_map, hg', Option.map_some] at this
      have hlt : i < (errG g0).length := (List.getElem?_eq_some_iff.1 hg').1
      rw [List.getElem?_replicate, if_pos hlt] at this
      exact Option.some.inj this⟩)
  have hvar : ∀ i g, (errG g0)[i]? = some g → W.cell? ⟨g, 0, none⟩ = some (ev al (i + 1)) := by
    intro i g hg
    have hlt : i < (errG g0).length := (List.getElem?_eq_some_iff.1 hg).1
    obtain ⟨x, hx⟩ : ∃ x, (L.filter isErr)[i]? = some x := ⟨(L.filter isErr)[i], List.getElem?_eq_getElem (by omega)⟩
    obtain ⟨a, ha⟩ : ∃ a, al[i]? = some a := ⟨al[i], List.getElem?_eq_getElem (by omega)⟩
    obtain ⟨g', hg', e⟩ := hgl i x hx
    obtain rfl := Option.some.inj (hg.symm.trans hg')
    obtain ⟨g2, e2, hc⟩ := l4 i x a hx ha
    obtain rfl := Option.some.inj (e.symm.trans e2)
    rw [hc]
    simp [ev, ha]
  refine ⟨al, by omega, fun i j g g' hi _ hj _ e => (List.getElem?_inj (by have := (List.getElem?_eq_some_iff.1 hi).1; omega) l2).1 e, fun i g hi _ => hvar i g hi, fun a ha => (hrows a.block a.off (l3 a ha).2).1, ht, fun g hg => ?_⟩
  by_cases hT : (Nat.beq g tabA || Nat.beq g tabB) = true
  · have hc : tabA ∈ lst g0 ∧ tabB ∈ lst g0 := by
      rcases Bool.or_eq_true_iff.1 hT with e | e
      · have := Nat.eq_of_beq_eq_true e
        subst this
        have h5 : (lst g0).contains tabA = true := List.contains_iff_mem.2 hg
        exact ⟨hg, List.contains_iff_mem.1 (hAB ▸ h5)⟩
      · have := Nat.eq_of_beq_eq_true e
        subst this
        have h5 : (lst g0).contains tabB = true := List.contains_iff_mem.2 hg
        exact ⟨List.contains_iff_mem.1 (hAB.symm ▸ h5), hg⟩
    have hU := ht hc.1 hc.2
    rcases Bool.or_eq_true_iff.1 hT with e | e
    · have := Nat.eq_of_beq_eq_true e
      subst this
      exact World.block_lt_of_cell? W _ (hU.1 0 (by decide))
    · have := Nat.eq_of_beq_eq_true e
      subst this
      exact World.block_lt_of_cell? W _ (hU.2 0 (by decide)).1
  · have hm : g ∈ errG g0 := List.mem_filter.2 ⟨(lst_mem.1 hg).1, by
      cases hb : (Nat.beq g tabA || Nat.beq g tabB) with
      | true => exact absurd hb hT
      | false => rfl⟩
    obtain ⟨i, hi⟩ := List.mem_iff_getElem?.1 hm
    exact World.block_lt_of_cell? W _ (hvar i g hi)
/-- the same errors at the numbers of the table: pos i says where number i + 1 stands in the row's list -/
theorem sent_part {W : World} {g1 gP : List Nat} {al1 : List Addr} (pos : List Nat) (h : SentL W g1 al1) (hlen : pos.length = (errG gP).length) (hpos : (pos.all fun p => Nat.blt p (errG g1).length) = true)
    (hat : ((List.range pos.length).all fun i => match (errG gP)[i]? with | some g => !(Nat.blt g 1000000000) || ((errG g1)[pos.getD i 0]? == some g && (lst g1).contains g) | none => true) = true)
    (hinj : ((List.range pos.length).all fun i => (List.range pos.length).all fun j => match (errG gP)[i]?, (errG gP)[j]? with | some g, some g' => !(Nat.blt g 1000000000) || !(Nat.blt g' 1000000000) || !(pos.getD i 0 == pos.getD j 0) || i == j | _, _ => true) = true)
    (hsub : ((lst gP).all fun g => (lst g1).contains g) = true) : SentL W gP (pos.map fun p => al1.getD p default) := by
  have hl1 : al1.length = (errG g1).length := h.len
  have hp : ∀ i, i < pos.length → pos.getD i 0 < al1.length := fun i hi => by
    have := List.all_eq_true.1 hpos (pos.getD i 0) (by simp [List.getD, hi])
    rw [hl1]
    exact Nat.le_of_ble_eq_true this
  have hget : ∀ i g, (errG gP)[i]? = some g → g ∈ lst gP → i < pos.length ∧ (errG g1)[pos.getD i 0]? = some g ∧ g ∈ lst g1 := fun i g hi hg => by
    have hlt : i < pos.length := by rw [hlen]; exact (List.getElem?_eq_some_iff.1 hi).1
    have h1 := List.all_eq_true.1 hat i (List.mem_range.2 hlt)
    simp only [hi] at h1
    have h2 : Nat.blt g 1000000000 = true := by have := (lst_mem.1 hg).2; simpa using this
    rw [h2] at h1
    simp only [Bool.not_true, Bool.false_or, Bool.and_eq_true, beq_iff_eq, List.contains_iff_mem] at h1
    exact ⟨hlt, h1⟩
  have hal : ∀ i, i < pos.length → (pos.map fun p => al1.getD p default)[i]? = al1[pos.getD i 0]? := fun i hi => by
    have := hp i hi
    simp [List.getD, hi] at this ⊢
    simp [this]
  refine ⟨by simp [hlen], fun i j g g' hi hg hj hg' e => ?_, fun i g hi hg => ?_, fun a ha => ?_, fun h1 h2 => h.tab ?_ ?_, fun g hg => h.lt g ?_⟩
  · obtain ⟨k1, k2, k3⟩ := hget i g hi hg
    obtain ⟨k4, k5, k6⟩ := hget j g' hj hg'
    rw [hal i k1, hal j k4] at e
    have e2 := h.nd _ _ g g' k2 k3 k5 k6 e
    have h1 := List.all_eq_true.1 (List.all_eq_true.1 hinj i (List.mem_range.2 k1)) j (List.mem_range.2 k4)
    simp only [hi, hj] at h1
    have h2 : Nat.blt g 1000000000 = true := by have := (lst_mem.1 hg).2; simpa using this
    have h3 : Nat.blt g' 1000000000 = true := by have := (lst_mem.1 hg').2; simpa using this
    rw [h2, h3, e2] at h1
    simpa using h1
  · obtain ⟨k1, k2, k3⟩ := hget i g hi hg
    rw [h.var _ g k2 k3]
    simp only [ev, Nat.add_one_ne_zero, if_false, Nat.add_sub_cancel]
    rw [hal i k1]
  · obtain ⟨p, hp1, rfl⟩ := List.mem_map.1 ha
    obtain ⟨i, hi⟩ := List.mem_iff_getElem?.1 hp1
    have hlt := (List.getElem?_eq_some_iff.1 hi).1
    have h1 := hp i hlt
    have e : pos.getD i 0 = p := by simp [List.getD, hi]
    rw [e] at h1
    refine h.row _ ?_
    simp [List.getD, h1]
  · exact List.contains_iff_mem.1 (List.all_eq_true.1 hsub _ h1)
  · exact List.contains_iff_mem.1 (List.all_eq_true.1 hsub _ h2)
  · exact List.contains_iff_mem.1 (List.all_eq_true.1 hsub _ hg)
theorem sent_nil (W : World) : SentL W [] [] := ⟨rfl, fun i j g g' h => by simp [errG] at h, fun i g h => by simp [errG] at h, fun a h => by simp at h, fun h => by simp [lst] at h, fun g h => by simp [lst] at h⟩

/-! ### arguments that come in -/
/-- a slice of bytes that came in -/
theorem bs_of_trod {P : Program} {W : World} {T E : TypeId} {ao : Option Addr} {len cap : Nat} {H : Type} {enc : TypeId × Value → H} {d : DataW H} {ps : List MemPlace}
    (hT : P.underlying T = some (.slice E)) (hE : P.underlying E = some (.int .u8)) (hc : P.cellsOf E = 1)
    (h : DataW.Trod enc P W 0 (fun _ => true) true T (.slice ao len cap) d ps) : ∃ l, Bs W (.slice ao len cap) l := by
  obtain ⟨fuel, hf⟩ := h
  rcases open_ints hT hE hc hf with ⟨hcs, _⟩ | ⟨x, l, c, zs, hcs, _, hl, hm, hz, _, hcell, hwz⟩
  · simp [Value.cells] at hcs
    obtain ⟨rfl, rfl, rfl⟩ := hcs
    exact ⟨[], Bs.nil W⟩
  · simp [Value.cells] at hcs
    obtain ⟨rfl, rfl, rfl⟩ := hcs
    have hz' : zs.length = cap := by simpa using hz
    have hlen : ((zs.take len).map fun z => UInt8.ofNat z.toNat).length = len := by simp; omega
    have key : ∀ i, i < len → W.cell? (x.add i) = some (.int .u8 ((((zs.take len).map fun z => UInt8.ofNat z.toNat).getD i 0).toNat : Nat)) := by
      intro i hi
      rw [hcell i (by omega)]
      have hzi : zs[i]? = some (zs.getD i 0) := by simp [List.getD, show i < zs.length by omega]
      have hwf := hwz (zs.getD i 0) (List.mem_of_getElem? hzi)
      have hb := bounds_u8 hwf
      have e : ((zs.take len).map fun z => UInt8.ofNat z.toNat).getD i 0 = UInt8.ofNat (zs.getD i 0).toNat := by
        simp [List.getD, List.getElem?_take, hi, show i < zs.length by omega]
      rw [e, UInt8.toNat_ofNat']
      congr 2
      omega
    obtain ⟨b, o, sp⟩ := x
    have hm' : cap ≤ 9223372036854775807 := by unfold maxLen at hm; omega
    by_cases h0 : len = 0
    · subst h0
      exact ⟨[], _, cap, rfl, by simp, hm', by simp, fun y hy => by
        cases hy
        exact ⟨fun h => by simp at h, fun i hi => by simp at hi⟩⟩
    · have hsp : sp = none := by
        have := World.cell?_spot (key 0 (by omega))
        simpa [Addr.add] using this
      subst hsp
      refine ⟨(zs.take len).map fun z => UInt8.ofNat z.toNat, ?_⟩
      have := Bs.of_cells (w := W) (b := b) (o := o) (cap := cap) (l := (zs.take len).map fun z => UInt8.ofNat z.toNat) (by omega) hm' (fun i hi => by
        have := key i (by omega)
        rwa [Addr.add_lit] at this)
      rwa [hlen] at this
end Go.Proofs.YtdfjiodkmhpfkaaDoor

/- Arguments that come in, by their types: from 'trod' to plain words. -/
namespace Go.Proofs.YtdfjiodkmhpfkaaDoor
set_option linter.unusedVariables false
open Go.RowKit Go.ChangeShapes
namespace Am
/-- values of type t lie in k cells and read as E x for an x with φ -/
def Opens (P : Program) (t : TypeId) (k : Nat) (D : Type) (φ : D → Prop) (E : D → Nat → CV) : Prop :=
  ∀ (H : Type) (enc : TypeId × Value → H) (W : World) (fuel : Nat) (cs : List Value) (y : DataW H × List MemPlace), DataW.trod enc P W 0 (fun _ => true) true fuel t cs = some y →
    cs.length = k ∧ ∃ x : D, φ x ∧ ∀ al j, j < k → RepC al (fun b => b < W.heap.size) W (E x j) (cs.getD j undef)
section
variable {P : Program} {t : TypeId}
theorem one_cell {al : List Addr} {W : World} {St : Nat → Prop} {c : Nat → CV} {v : Value} (h : RepC al St W (c 0) v) : ∀ j, j < 1 → RepC al St W (c j) ([v].getD j undef) := fun j hj => by
  obtain rfl : j = 0 := by omega
  exact h
theorem opens_i64 (hu : P.underlying t = some (.int .i64)) : Opens P t 1 Int (fun z => -9223372036854775808 ≤ z ∧ z ≤ 9223372036854775807) (fun z _ => .c (.int .i64 z)) := fun H enc W fuel cs y h => by
  obtain ⟨n, rfl, _, hw⟩ := DataW.trod_int hu h
  exact ⟨rfl, n, bounds_i64 hw, fun al => one_cell rfl⟩
theorem opens_int {k : IntKind} (hu : P.underlying t = some (.int k)) : Opens P t 1 Int (fun z => (Lit.int k z).wf = true) (fun z _ => .c (.int k z)) := fun H enc W fuel cs y h => by
  obtain ⟨n, rfl, _, hw⟩ := DataW.trod_int hu h
  exact ⟨rfl, n, hw, fun al => one_cell rfl⟩
theorem opens_u8 (hu : P.underlying t = some (.int .u8)) : Opens P t 1 UInt8 (fun _ => True) (fun z _ => .c (.int .u8 (z.toNat : Nat))) := fun H enc W fuel cs y h => by
  obtain ⟨n, rfl, _, hw⟩ := DataW.trod_int hu h
  have hb := bounds_u8 hw
  refine ⟨rfl, UInt8.ofNat n.toNat, trivial, fun al => one_cell ?_⟩
  show Value.int .u8 n = .int .u8 ((UInt8.ofNat n.toNat).toNat : Nat)
  rw [UInt8.toNat_ofNat']
  congr 1
  omega
theorem opens_bool (hu : P.underlying t = some .bool) : Opens P t 1 Bool (fun _ => True) (fun z _ => .c (.bool z)) := fun H enc W fuel cs y h => by
  obtain ⟨n, rfl, _⟩ := DataW.trod_bool hu h
  exact ⟨rfl, n, trivial, fun al => one_cell rfl⟩
theorem opens_str (hu : P.underlying t = some .string) : Opens P t 1 ByteArray (fun s => s.size ≤ maxLen) (fun z _ => .c (.string z)) := fun H enc W fuel cs y h => by
  obtain ⟨n, rfl, _, hs⟩ := DataW.trod_string hu h
  exact ⟨rfl, n, hs, fun al => one_cell rfl⟩
theorem opens_slice {e : TypeId} {k : Nat} {D : Type} {φ : D → Prop} {E : D → Nat → CV} (d0 : D) (ho : Opens P e k D φ E) (hu : P.underlying t = some (.slice e)) (hk : P.cellsOf e = k) (hk0 : 0 < k) :
    Opens P t 1 (List D) (fun l => l.length ≤ maxLen ∧ ∀ x ∈ l, φ x) (fun l _ => .rs k l.length fun i j => E (l.getD i d0) j) := fun H enc W fuel cs y h => by
  rcases DataW.trod_slice hu h with ⟨rfl, _⟩ | ⟨a, len, cap, elems, rest, n, _, rfl, _, _, hle, hm, hl, hel, _⟩
  · exact ⟨rfl, [], ⟨by simp, by simp⟩, fun al => one_cell ⟨none, 0, rfl, Nat.le_refl _, by decide, fun _ => rfl, fun _ h => by cases h⟩⟩
  · refine ⟨rfl, ?_⟩
    subst hk
    have key : ∀ i, ∃ x : D, i < len → φ x ∧ ∀ al j, j < P.cellsOf e → ∃ v, W.cell? (a.add (i * P.cellsOf e + j)) = some v ∧ RepC al (fun b => b < W.heap.size) W (E x j) v := fun i => by
      by_cases hi : i < len
      · have h1 := hel i hi
        rw [List.getElem?_eq_getElem (by omega)] at h1
        obtain ⟨cs, h2, h3⟩ := Option.bind_eq_some_iff.1 h1
        obtain ⟨_, h4, h5⟩ := World.cells?_some h2
        obtain ⟨_, x, hx, hr⟩ := ho H enc W n cs _ h3
        refine ⟨x, fun _ => ⟨hx, fun al j hj => ⟨cs.getD j undef, ?_, hr al j hj⟩⟩⟩
        have := h5 j hj
        rw [Addr.add_add] at this
        rw [this]
        simp [h4, hj]
      · exact ⟨d0, fun h => absurd h hi⟩
    obtain ⟨F, hF⟩ : ∃ F : Nat → D, ∀ i, i < len → φ (F i) ∧ ∀ al j, j < P.cellsOf e → ∃ v, W.cell? (a.add (i * P.cellsOf e + j)) = some v ∧ RepC al (fun b => b < W.heap.size) W (E (F i) j) v :=
      ⟨fun i => (key i).choose, fun i hi => (key i).choose_spec hi⟩
    have hm' : cap ≤ 9223372036854775807 := by unfold maxLen at hm; omega
    refine ⟨(List.range len).map F, ⟨by simp; omega, by simp only [List.mem_map, List.mem_range]; rintro x ⟨i, hi, rfl⟩; exact (hF i hi).1⟩, fun al => one_cell ?_⟩
    refine ⟨some a, cap, by simp, by simpa using hle, hm', by simp, fun b hb hn => ?_⟩
    cases hb
    simp at hn
    obtain ⟨v0, hv0, _⟩ := (hF 0 hn).2 al 0 hk0
    have hsp : a.spot = none := by
      have := World.cell?_spot hv0
      obtain ⟨b, o, sp⟩ := a
      simpa [Addr.add] using this
    refine ⟨hsp, ?_, fun i j hi hj => ?_⟩
    · have := World.block_lt_of_cell? W _ hv0
      obtain ⟨b, o, sp⟩ := a
      simpa [Addr.add] using this
    · simp at hi
      obtain ⟨v, hv, hr⟩ := (hF i hi).2 al j hj
      refine ⟨v, ?_, by simpa [List.getD, hi] using hr⟩
      obtain ⟨b, o, sp⟩ := a
      simp only at hsp
      subst hsp
      rwa [Addr.add_lit] at hv
/-- fields, one behind the other -/
def OpensF (P : Program) (fs : List Field) (D : Type) (φ : D → Prop) (E : D → Nat → CV) (C : Nat → Bool) : Prop :=
  ∀ (H : Type) (enc : TypeId × Value → H) (W : World) (cs : List Value), (∀ f ∈ fs, ∃ n y, DataW.trod enc P W 0 (fun _ => true) true n f.type ((cs.drop f.offset).take (P.cellsOf f.type)) = some y) →
    ∃ x : D, φ x ∧ ∀ al j, C j = true → RepC al (fun b => b < W.heap.size) W (E x j) (cs.getD j undef)
theorem opensF_nil : OpensF P [] Unit (fun _ => True) (fun _ _ => .top) (fun _ => false) := fun H enc W cs _ => ⟨(), trivial, fun al j h => by cases h⟩
theorem opensF_cons {f : Field} {fs : List Field} {k : Nat} {D1 D2 : Type} {φ1 : D1 → Prop} {φ2 : D2 → Prop} {E1 : D1 → Nat → CV} {E2 : D2 → Nat → CV} {C2 : Nat → Bool} (h1 : Opens P f.type k D1 φ1 E1) (h2 : OpensF P fs D2 φ2 E2 C2) :
    OpensF P (f :: fs) (D1 × D2) (fun x => φ1 x.1 ∧ φ2 x.2) (fun x j => match Nat.ble f.offset j && Nat.blt j (f.offset + k) with | true => E1 x.1 (j - f.offset) | false => E2 x.2 j) (fun j => (Nat.ble f.offset j && Nat.blt j (f.offset + k)) || C2 j) := fun H enc W cs h => by
  obtain ⟨n, y, hy⟩ := h f (List.mem_cons_self ..)
  obtain ⟨hl, x1, p1, r1⟩ := h1 H enc W n _ y hy
  obtain ⟨x2, p2, r2⟩ := h2 H enc W cs fun g hg => h g (List.mem_cons_of_mem _ hg)
  refine ⟨(x1, x2), ⟨p1, p2⟩, fun al j hj => ?_⟩
  cases hb : Nat.ble f.offset j && Nat.blt j (f.offset + k) with
  | true =>
    have hb0 := hb
    simp only [Bool.and_eq_true] at hb
    have b1 : f.offset ≤ j := Nat.le_of_ble_eq_true hb.1
    have b2 : j < f.offset + k := Nat.le_of_ble_eq_true hb.2
    have := r1 al (j - f.offset) (by omega)
    simp only [List.length_take, List.length_drop] at hl
    rw [List.getD_eq_getElem?_getD, List.getElem?_take, if_pos (by omega), List.getElem?_drop, show f.offset + (j - f.offset) = j by omega, ← List.getD_eq_getElem?_getD] at this
    simp only [hb0]
    exact this
  | false =>
    simp only [hb, Bool.false_or] at hj
    simp only [hb]
    exact r2 al j hj
theorem opens_struct {fs : Array Field} {n : Nat} {D : Type} {φ : D → Prop} {E : D → Nat → CV} {C : Nat → Bool} (hu : P.underlying t = some (.struct fs)) (hn : P.cellsOf t = n) (ho : OpensF P fs.toList D φ E C) (hC : (List.range n).all C = true) : Opens P t n D φ E := fun H enc W fuel cs y h => by
  obtain ⟨xs, m, _, _, hl, hlen, hf⟩ := DataW.trod_struct hu h
  obtain ⟨x, hx, hr⟩ := ho H enc W cs fun f hf' => by
    obtain ⟨i, hi⟩ := List.mem_iff_getElem?.1 hf'
    rw [Array.getElem?_toList] at hi
    have := hf i f hi
    have hlt : i < xs.length := by rw [hlen]; exact (Array.getElem?_eq_some_iff.1 hi).1
    rw [List.getElem?_eq_getElem hlt] at this
    exact ⟨m, _, this⟩
  exact ⟨hl.trans hn, x, hx, fun al j hj => hr al j (List.all_eq_true.1 hC j (List.mem_range.2 hj))⟩
theorem arg_one {D : Type} {φ : D → Prop} {E : D → Nat → CV} (ho : Opens P t 1 D φ E) {H : Type} {enc : TypeId × Value → H} {W : World} {v : Value} {d : DataW H} {p : List MemPlace} (hv : v.cells = #[v]) (h : DataW.Trod enc P W 0 (fun _ => true) true t v d p) :
    ∃ x : D, φ x ∧ ∀ al, RepC al (fun b => b < W.heap.size) W (E x 0) v := by
  obtain ⟨fuel, hf⟩ := h
  obtain ⟨_, x, hx, hr⟩ := ho H enc W fuel _ _ hf
  refine ⟨x, hx, fun al => ?_⟩
  have := hr al 0 (by decide)
  rw [hv] at this
  exact this
theorem arg_agg {n : Nat} {D : Type} {φ : D → Prop} {E : D → Nat → CV} (ho : Opens P t n D φ E) {H : Type} {enc : TypeId × Value → H} {W : World} {cs : Array Value} {d : DataW H} {p : List MemPlace} (h : DataW.Trod enc P W 0 (fun _ => true) true t (.agg cs) d p) :
    ∃ x : D, φ x ∧ ∀ al, RepC al (fun b => b < W.heap.size) W (.agg n (E x)) (.agg cs) := by
  obtain ⟨fuel, hf⟩ := h
  obtain ⟨hl, x, hx, hr⟩ := ho H enc W fuel _ _ hf
  refine ⟨x, hx, fun al => ⟨cs, rfl, by simpa [Value.cells] using hl, fun i hi => ?_⟩⟩
  have := hr al i hi
  simpa [Value.cells] using this
/-- how many bytes a slice that came in is -/
theorem len_weight {H : Type} {enc : TypeId × Value → H} {W : World} {e : TypeId} {d : DataW H} {p : List MemPlace} {ao : Option Addr} {len cap : Nat} (hu : P.underlying t = some (.slice e)) (h : DataW.Trod enc P W 0 (fun _ => true) true t (.slice ao len cap) d p)
    (hw : (d.weights P t).all (fun x => decide (x ≤ reachBytes)) = true) : len * P.bytesOf e ≤ reachBytes := by
  obtain ⟨fuel, hf⟩ := h
  rcases DataW.trod_slice hu hf with ⟨h1, _⟩ | ⟨a, len', cap', elems, rest, n, _, h1, h2, _, _, _, h3, _⟩
  · simp [Value.cells] at h1
    simp [h1.2.1]
  · simp [Value.cells] at h1
    obtain ⟨rfl, rfl, rfl⟩ := h1
    simp only [Prod.mk.injEq] at h2
    obtain ⟨rfl, _⟩ := h2
    simp only [DataW.weights, hu, List.all_cons, Bool.and_eq_true, decide_eq_true_eq, List.length_map] at hw
    rw [← h3]
    exact Nat.le_trans (Nat.mul_le_mul_right _ (Nat.le_add_right _ _)) hw.1
theorem rs_len {al : List Addr} {St : Nat → Prop} {W : World} {k n len cap : Nat} {f : Nat → Nat → CV} {ao : Option Addr} (h : RepC al St W (.rs k n f) (.slice ao len cap)) : n = len := by
  obtain ⟨_, _, h1, _⟩ := h
  simp at h1
  exact h1.2.1.symm
end
end Am
end Go.Proofs.YtdfjiodkmhpfkaaDoor

/- Arguments that come in: texts as lists; lists in other words. -/
namespace Go.Proofs.YtdfjiodkmhpfkaaDoor
set_option linter.unusedVariables false
open Go.RowKit Go.ChangeShapes
namespace Am
theorem opens_strL {P : Program} {t : TypeId} (hu : P.underlying t = some .string) : Opens P t 1 (List UInt8) (fun s => s.length ≤ maxLen) (fun z _ => strC z) := fun H enc W fuel cs y h => by
  obtain ⟨n, rfl, _, hs⟩ := DataW.trod_string hu h
  obtain ⟨l, rfl⟩ := ba_list n
  exact ⟨rfl, l, hs, fun al => one_cell rfl⟩
theorem map_getD {α β : Type} (f : α → β) (l : List α) {i : Nat} (d0 : α) (d1 : β) (h : i < l.length) : (l.map f).getD i d1 = f (l.getD i d0) := by simp [List.getD, h]
theorem rs_map {α β : Type} {k : Nat} {E : α → Nat → CV} {E' : β → Nat → CV} {d0 : α} {d1 : β} (f : α → β) (l : List α) (h : ∀ a j, j < k → CEnt (E a j) (E' (f a) j)) : CEnt (.rs k l.length fun i j => E (l.getD i d0) j) (.rs k (l.map f).length fun i j => E' ((l.map f).getD i d1) j) := by
  refine CEnt.rs (by simp) fun i j hi hj => ?_
  have e : (l.map f).getD i d1 = f (l.getD i d0) := by simp [List.getD, hi]
  rw [e]
  exact h _ j hj
end Am
end Go.Proofs.YtdfjiodkmhpfkaaDoor
