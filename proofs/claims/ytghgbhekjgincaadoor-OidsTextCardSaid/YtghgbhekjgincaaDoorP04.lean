
/- Plain facts on numbers as bytes (chapter 4): no program in sight. -/
import Derived.Test.YtghgbhekjgincaaDoorChecked
import Derived.Laws.BitsAllLaws
import Derived.IntWalk
namespace Go.Proofs.YtghgbhekjgincaaDoor
open Go.RowKit

def byte (n : Int) : UInt8 := UInt8.ofNat (n % 256).toNat
theorem byte_toNat (n : Int) : ((byte n).toNat : Int) = n % 256 := by
  have h0 : 0 ≤ n % 256 := Int.emod_nonneg _ (by decide)
  have h1 : n % 256 < 256 := Int.emod_lt_of_pos _ (by decide)
  have : (byte n).toNat = (n % 256).toNat := by
    unfold byte
    rw [UInt8.toNat_ofNat']
    omega
  omega
theorem byte_of (c : UInt8) : byte c.toNat = c := by
  apply UInt8.toNat_inj.1
  have := byte_toNat c.toNat
  have := c.toNat_lt
  omega

/-- n shifted k bytes to the right -/
def sh : Nat → Int → Int
  | 0, n => n
  | k + 1, n => sh k n / 256
/-- the k low bytes, the lowest first -/
def digs (k : Nat) (n : Int) : List UInt8 := (List.range k).map fun j => byte (sh j n)
theorem digs_length (k : Nat) (n : Int) : (digs k n).length = k := by simp [digs]
theorem digs_succ (k : Nat) (n : Int) : digs (k + 1) n = digs k n ++ [byte (sh k n)] := by simp [digs, List.range_succ]
theorem digs_get (k : Nat) (n : Int) (j : Nat) (h : j < k) : (digs k n).getD j 0 = byte (sh j n) := by simp [digs, List.getD, h]
/-- the byte j tells all that is left -/
def stp (j : Nat) (n : Int) : Bool := (sh (j + 1) n == 0 && decide (sh j n % 256 < 128)) || (sh (j + 1) n == -1 && decide (128 ≤ sh j n % 256))
theorem stp_iff (j : Nat) (n : Int) : stp j n = true ↔ -128 ≤ sh j n ∧ sh j n < 128 := by
  simp only [stp, sh, Bool.or_eq_true, Bool.and_eq_true, beq_iff_eq, decide_eq_true_eq]
  constructor
  · intro h; omega
  · intro h; omega
theorem stp_mono (j : Nat) (n : Int) (h : stp j n = true) : stp (j + 1) n = true := by
  rw [stp_iff] at h ⊢
  simp only [sh]
  omega
theorem stp_mono' (n : Int) (j m : Nat) (hjm : j ≤ m) (h : stp j n = true) : stp m n = true := by
  induction m with
  | zero => obtain rfl : j = 0 := by omega
            exact h
  | succ m ih =>
    by_cases e : j = m + 1
    · subst e; exact h
    · exact stp_mono m n (ih (by omega))
theorem stp_seven (n : Int) (h1 : -9223372036854775808 ≤ n) (h2 : n ≤ 9223372036854775807) : stp 7 n = true := by
  rw [stp_iff]
  simp only [sh]
  omega
/-- k + 1 bytes are n's body -/
def IsLen (n : Int) (k : Nat) : Prop := k ≤ 7 ∧ stp k n = true ∧ ∀ j, j < k → stp j n = false
theorem IsLen.unique {n : Int} {k m : Nat} (h : IsLen n k) (g : IsLen n m) : k = m := by
  rcases Nat.lt_trichotomy k m with h1 | h1 | h1
  · have := g.2.2 k h1; rw [h.2.1] at this; cases this
  · exact h1
  · have := h.2.2 m h1; rw [g.2.1] at this; cases this

/-- a number of bytes, the highest first, with its sign -/
def sgn (c : UInt8) : Int := if c.toNat < 128 then c.toNat else (c.toNat : Int) - 256
def valS (l : List UInt8) : Int := match l with
  | [] => 0
  | c :: r => r.foldl (fun a b => a * 256 + b.toNat) (sgn c)
theorem valS_snoc (l : List UInt8) (hl : l ≠ []) (c : UInt8) : valS (l ++ [c]) = valS l * 256 + c.toNat := by
  cases l with
  | nil => exact absurd rfl hl
  | cons x r => simp [valS, List.foldl_append]
theorem valS_bound (l : List UInt8) : ∀ m, l.length = m + 1 → -(128 * 256 ^ m) ≤ valS l ∧ valS l < 128 * 256 ^ m := by
  intro m
  induction m generalizing l with
  | zero =>
    intro h
    match l, h with
    | [c], _ =>
      have := c.toNat_lt
      simp only [valS, List.foldl_nil, sgn]
      split <;> omega
  | succ m ih =>
    intro h
    have hne : l ≠ [] := by intro e; subst e; simp at h
    have e : l = l.dropLast ++ [l.getLast hne] := (List.dropLast_concat_getLast hne).symm
    have hl : l.dropLast.length = m + 1 := by simp; omega
    have hd : l.dropLast ≠ [] := by intro e; rw [e] at hl; simp at hl
    have := ih l.dropLast hl
    have hc := (l.getLast hne).toNat_lt
    rw [e, valS_snoc _ hd]
    have hp : (256 : Int) ^ (m + 1) = 256 ^ m * 256 := Int.pow_succ _ _
    rw [hp]
    generalize (256 : Int) ^ m = p at this ⊢
    omega
theorem valS_small (l : List UInt8) (h : l.length ≤ 7) : -36028797018963968 ≤ valS l ∧ valS l < 36028797018963968 := by
  match l, h with
  | [], _ => show -36028797018963968 ≤ (0 : Int) ∧ (0 : Int) < 36028797018963968; omega
  | c :: r, h =>
    simp only [List.length_cons] at h
    have := valS_bound (c :: r) r.length rfl
    have hp : ((256 : Int) ^ r.length) ≤ 256 ^ 6 := by
      have : r.length = 0 ∨ r.length = 1 ∨ r.length = 2 ∨ r.length = 3 ∨ r.length = 4 ∨ r.length = 5 ∨ r.length = 6 := by omega
      rcases this with h | h | h | h | h | h | h <;> rw [h] <;> decide
    have e6 : (256 : Int) ^ 6 = 281474976710656 := by decide
    omega
theorem valS_digs (n : Int) : ∀ k, stp k n = true → valS (digs (k + 1) n).reverse = n := by
  intro k h
  have key : ∀ j, j ≤ k → valS ((digs (k + 1) n).reverse.take (j + 1)) = sh (k - j) n := by
    intro j
    induction j with
    | zero =>
      intro _
      rw [digs_succ]
      simp only [List.reverse_append, List.reverse_cons, List.reverse_nil, List.nil_append, List.singleton_append, List.take_succ_cons, List.take_zero, valS, List.foldl_nil, sgn, Nat.sub_zero]
      rw [stp_iff] at h
      have := byte_toNat (sh k n)
      split <;> omega
    | succ j ih =>
      intro hj
      have hlen : j + 1 < (digs (k + 1) n).reverse.length := by simp [digs_length]; omega
      rw [List.take_succ_eq_append_getElem hlen, valS_snoc _ (by intro e; have := congrArg List.length e; simp [digs_length] at this), ih (by omega)]
      have eg : (digs (k + 1) n).reverse[j + 1] = byte (sh (k - (j + 1)) n) := by
        rw [List.getElem_reverse]
        have := digs_get (k + 1) n ((digs (k + 1) n).length - 1 - (j + 1)) (by rw [digs_length]; omega)
        simp only [List.getD, digs_length] at this ⊢
        rw [List.getElem?_eq_getElem (by rw [digs_length]; omega)] at this
        simp only [Option.getD_some] at this
        rw [show k - (j + 1) = k + 1 - 1 - (j + 1) by omega]
        exact this
      rw [eg, byte_toNat, show k - j = (k - (j + 1)) + 1 by omega]
      simp only [sh]
      omega
  have := key k (Nat.le_refl _)
  rw [List.take_of_length_le (by simp [digs_length])] at this
  simpa [sh] using this

/-- needless first byte -/
def idle (l : List UInt8) : Bool := match l with
  | a :: b :: _ => (a.toNat == 0 && decide (b.toNat < 128)) || (a.toNat == 255 && decide (128 ≤ b.toNat))
  | _ => false
/-- what whole.Get answers: the number, the error's number -/
def getM (l : List UInt8) : Int × Nat :=
  if l.length = 0 then (0, 2) else if idle l = true then (0, 4) else if 8 < l.length then (0, 1) else (valS l, 0)

theorem digs_rev_cons (k : Nat) (n : Int) : (digs (k + 2) n).reverse = byte (sh (k + 1) n) :: byte (sh k n) :: (digs k n).reverse := by
  rw [digs_succ, digs_succ]
  simp
theorem idle_digs (n : Int) (k : Nat) (h : stp (k + 1) n = true) : idle (digs (k + 2) n).reverse = stp k n := by
  rw [digs_rev_cons]
  rw [stp_iff] at h
  have e := stp_iff k n
  rw [Bool.eq_iff_iff, e]
  simp only [idle, Bool.or_eq_true, Bool.and_eq_true, beq_iff_eq, decide_eq_true_eq]
  have h1 := byte_toNat (sh (k + 1) n)
  have h2 := byte_toNat (sh k n)
  simp only [sh] at h h1 h2 ⊢
  omega
theorem getM_put (n : Int) (k : Nat) (h : IsLen n k) : getM (digs (k + 1) n).reverse = (n, 0) := by
  have hi : idle (digs (k + 1) n).reverse = false := by
    cases k with
    | zero => simp [digs, idle]
    | succ k => rw [idle_digs n k h.2.1]; exact h.2.2 k (by omega)
  have := h.1
  simp [getM, digs_length, hi, valS_digs n k h.2.1]
  omega
/-- one byte more ahead: it is not of its form -/
theorem getM_more (n : Int) (k : Nat) (h : IsLen n k) : getM ((if n < 0 then 255 else 0) :: (digs (k + 1) n).reverse) = (0, 4) := by
  have hs := h.2.1
  rw [stp_iff] at hs
  have hneg : n < 0 ↔ sh k n < 0 := by
    clear h hs
    induction k with
    | zero => simp [sh]
    | succ k ih => rw [ih]; simp only [sh]; omega
  have e : (digs (k + 1) n).reverse = byte (sh k n) :: (digs k n).reverse := by rw [digs_succ]; simp
  have hb := byte_toNat (sh k n)
  have hi : idle ((if n < 0 then 255 else 0) :: (digs (k + 1) n).reverse) = true := by
    rw [e]
    simp only [idle, Bool.or_eq_true, Bool.and_eq_true, beq_iff_eq, decide_eq_true_eq]
    by_cases hn : n < 0
    · rw [if_pos hn]
      have : (255 : UInt8).toNat = 255 := rfl
      omega
    · rw [if_neg hn]
      have : (0 : UInt8).toNat = 0 := rfl
      omega
  simp [getM, hi]

/-- a byte joined behind a number -/
theorem i64_join (m c : Int) (h1 : -36028797018963968 ≤ m) (h2 : m < 36028797018963968) (h3 : 0 ≤ c) (h4 : c < 256) : bits .or .i64 (m * 256) c = m * 256 + c := by
  show IntKind.i64.wrap ((BitVec.ofInt 64 (m * 256) ||| BitVec.ofInt 64 c).toNat : Int) = _
  rw [BitVec.toNat_or, BitVec.toNat_ofInt, BitVec.toNat_ofInt]
  have e1 : (c % ((2 ^ 64 : Nat) : Int)).toNat = c.toNat := by
    have : ((2 ^ 64 : Nat) : Int) = 18446744073709551616 := by decide
    rw [this]; omega
  have e2 : (m * 256 % ((2 ^ 64 : Nat) : Int)).toNat = (m * 256 % 18446744073709551616).toNat := by
    have : ((2 ^ 64 : Nat) : Int) = 18446744073709551616 := by decide
    rw [this]
  rw [e1, e2, nat_join 8 _ _ (by omega) (by omega), IntKind.wrap_i64]
  omega
theorem digs_rev_get (n : Int) (k i : Nat) (h : i < k) : (digs k n).reverse.getD i 0 = byte (sh (k - 1 - i) n) := by
  have hl : i < (digs k n).length := by rw [digs_length]; exact h
  simp only [List.getD, List.getElem?_reverse hl, digs_length]
  have := digs_get k n (k - 1 - i) (by omega)
  simpa [List.getD] using this
theorem wrap_sgn (c : UInt8) : wrap64 (IntKind.i8.wrap (c.toNat : Int)) = sgn c := by
  have := c.toNat_lt
  have e : IntKind.i8.wrap (c.toNat : Int) = ((c.toNat : Int) + 128) % 256 - 128 := by simp [IntKind.wrap, IntKind.bits, IntKind.signed]; omega
  rw [e]
  unfold wrap64 sgn
  split <;> omega
end Go.Proofs.YtghgbhekjgincaaDoor
