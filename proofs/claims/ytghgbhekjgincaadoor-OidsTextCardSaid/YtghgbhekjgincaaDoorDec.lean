
/- Plain facts on figures: a number's decimal text. -/
import Derived.Test.YtghgbhekjgincaaDoorP04
namespace Go.Proofs.YtghgbhekjgincaaDoor
open Go.RowKit

def fig (d : Nat) : UInt8 := byte (48 + d : Nat)
/-- the figures of a number -/
def dec (n : Nat) : List UInt8 := if n < 10 then [fig n] else dec (n / 10) ++ [fig (n % 10)]
termination_by n

def isFig (c : UInt8) : Bool := decide (48 ≤ c.toNat) && decide (c.toNat ≤ 57)
/-- the number of a row of figures -/
def valD (l : List UInt8) : Nat := l.foldl (fun a c => 10 * a + (c.toNat - 48)) 0
def figM (l : List UInt8) : Nat × Nat := if l.length = 0 ∨ 18 < l.length ∨ (1 < l.length ∧ (l.getD 0 0).toNat = 48) ∨ l.all isFig = false then (0, 4) else (valD l, 0)

theorem dec_small {n : Nat} (h : n < 10) : dec n = [fig n] := by rw [dec, if_pos h]
theorem dec_big {n : Nat} (h : ¬ n < 10) : dec n = dec (n / 10) ++ [fig (n % 10)] := by rw [dec, if_neg h]
theorem fig_toNat (n : Nat) (h : n < 10) : (fig n).toNat = 48 + n := by
  unfold fig
  have := byte_toNat ((48 + n : Nat) : Int)
  omega
theorem valD_append (l : List UInt8) (c : UInt8) : valD (l ++ [c]) = 10 * valD l + (c.toNat - 48) := by simp [valD]

theorem dec_ind {p : Nat → Prop} (h0 : ∀ n, n < 10 → p n) (h1 : ∀ n, ¬ n < 10 → p (n / 10) → p n) (n : Nat) : p n := by
  induction n using Nat.strongRecOn with
  | ind n ih =>
    by_cases h : n < 10
    · exact h0 n h
    · exact h1 n h (ih _ (by omega))

theorem dec_pos (n : Nat) : 0 < (dec n).length := by
  by_cases h : n < 10
  · rw [dec_small h]; simp
  · rw [dec_big h]; simp
theorem dec_figs (n : Nat) : (dec n).all isFig = true := by
  induction n using dec_ind with
  | h0 n h =>
    rw [dec_small h]
    have := fig_toNat n h
    simp [isFig, this]; omega
  | h1 n h ih =>
    rw [dec_big h, List.all_append, ih]
    have := fig_toNat (n % 10) (by omega)
    simp [isFig, this]; omega
theorem dec_val (n : Nat) : valD (dec n) = n := by
  induction n using dec_ind with
  | h0 n h =>
    rw [dec_small h]
    have := fig_toNat n h
    simp [valD, this]
  | h1 n h ih =>
    rw [dec_big h, valD_append, ih]
    have := fig_toNat (n % 10) (by omega)
    omega
theorem dec_head (n : Nat) : 1 < (dec n).length → ((dec n).getD 0 0).toNat ≠ 48 := by
  induction n using dec_ind with
  | h0 n h => rw [dec_small h]; simp
  | h1 n h ih =>
    intro _
    rw [dec_big h]
    have hp := dec_pos (n / 10)
    have e : (dec (n / 10) ++ [fig (n % 10)]).getD 0 0 = (dec (n / 10)).getD 0 0 := by
      simp only [List.getD, List.getElem?_append_left hp]
    rw [e]
    by_cases hs : n / 10 < 10
    · rw [dec_small hs]
      have := fig_toNat (n / 10) hs
      simp only [List.getD, List.getElem?_cons_zero, Option.getD_some]
      omega
    · apply ih
      rw [dec_big hs]
      have := dec_pos (n / 10 / 10)
      simp
      omega
theorem dec_len (k : Nat) : ∀ n, n < 10 ^ (k + 1) → (dec n).length ≤ k + 1 := by
  induction k with
  | zero => intro n h; rw [dec_small (by simpa using h)]; simp
  | succ k ih =>
    intro n h
    by_cases hs : n < 10
    · rw [dec_small hs]; simp
    · rw [dec_big hs]
      have := ih (n / 10) (by rw [Nat.pow_succ] at h; omega)
      simp; omega
theorem snoc_ind {p : List UInt8 → Prop} (h0 : p []) (h1 : ∀ l c, p l → p (l ++ [c])) (l : List UInt8) : p l := by
  have h : ∀ l : List UInt8, p l.reverse := by
    intro l
    induction l with
    | nil => exact h0
    | cons c l ih => rw [List.reverse_cons]; exact h1 _ _ ih
  have := h l.reverse
  rwa [List.reverse_reverse] at this
theorem all_snoc {l : List UInt8} {c : UInt8} (h : (l ++ [c]).all isFig = true) : l.all isFig = true ∧ 48 ≤ c.toNat ∧ c.toNat ≤ 57 := by
  simp only [List.all_append, List.all_cons, List.all_nil, Bool.and_true, Bool.and_eq_true, isFig, decide_eq_true_eq] at h
  exact ⟨by simpa [isFig] using h.1, h.2⟩
theorem head_snoc {l : List UInt8} {c : UInt8} (h : 0 < l.length) : (l ++ [c]).getD 0 0 = l.getD 0 0 := by
  simp only [List.getD, List.getElem?_append_left h]
theorem valD_lt (l : List UInt8) : l.all isFig = true → valD l < 10 ^ l.length := by
  induction l using snoc_ind with
  | h0 => intro _; simp [valD]
  | h1 l c ih =>
    intro h
    obtain ⟨h1, h2, h3⟩ := all_snoc h
    have := ih h1
    rw [valD_append, List.length_append, List.length_singleton, Nat.pow_succ]
    omega
theorem valD_lt17 {l : List UInt8} (h : l.all isFig = true) (hl : l.length ≤ 17) : valD l < 100000000000000000 :=
  Nat.lt_of_lt_of_le (valD_lt l h) (Nat.le_trans (Nat.pow_le_pow_right (by decide) hl) (by decide))
theorem valD_lt18 {l : List UInt8} (h : l.all isFig = true) (hl : l.length ≤ 18) : valD l < 1000000000000000000 :=
  Nat.lt_of_lt_of_le (valD_lt l h) (Nat.le_trans (Nat.pow_le_pow_right (by decide) hl) (by decide))
theorem valD_pos (l : List UInt8) : 0 < l.length → l.all isFig = true → (l.getD 0 0).toNat ≠ 48 → 0 < valD l := by
  induction l using snoc_ind with
  | h0 => simp
  | h1 l c ih =>
    intro _ h hh
    obtain ⟨h1, h2, h3⟩ := all_snoc h
    rw [valD_append]
    by_cases hl : l = []
    · subst hl
      simp only [List.nil_append, List.getD, List.getElem?_cons_zero, Option.getD_some] at hh
      omega
    · have hp := List.length_pos_iff.2 hl
      rw [head_snoc hp] at hh
      have := ih hp h1 hh
      omega
theorem fig_back {c : UInt8} (h2 : 48 ≤ c.toNat) : fig (c.toNat - 48) = c := by
  unfold fig
  apply UInt8.toNat_inj.1
  have := byte_toNat ((48 + (c.toNat - 48) : Nat) : Int)
  have := c.toNat_lt
  omega
theorem dec_valD (l : List UInt8) : 0 < l.length → l.all isFig = true → (1 < l.length → (l.getD 0 0).toNat ≠ 48) → dec (valD l) = l := by
  induction l using snoc_ind with
  | h0 => simp
  | h1 l c ih =>
    intro _ h hh
    obtain ⟨h1, h2, h3⟩ := all_snoc h
    rw [valD_append]
    by_cases hl : l = []
    · subst hl
      show dec (10 * 0 + (c.toNat - 48)) = [c]
      rw [Nat.mul_zero, Nat.zero_add, dec_small (by omega), fig_back h2]
    · have hp := List.length_pos_iff.2 hl
      rw [head_snoc hp] at hh
      have h0 := hh (by simp; omega)
      have hv := valD_pos l hp h1 h0
      rw [dec_big (by omega), show (10 * valD l + (c.toNat - 48)) / 10 = valD l by omega, show (10 * valD l + (c.toNat - 48)) % 10 = c.toNat - 48 by omega, fig_back h2, ih hp h1 (fun _ => h0)]
theorem figM_dec {n : Nat} (h : n < 1000000000000000000) : figM (dec n) = (n, 0) := by
  have h1 := dec_pos n
  have h2 := dec_len 17 n h
  have h3 := dec_head n
  unfold figM
  rw [if_neg, dec_val]
  rintro (h | h | ⟨h, h'⟩ | h)
  · omega
  · omega
  · exact h3 h h'
  · rw [dec_figs] at h; cases h
/-- as the reference tells it -/
theorem figM_ref (l : List UInt8) : figM l = if 1 ≤ l.length ∧ l.length ≤ 18 ∧ l.all isFig = true ∧ dec (valD l) = l then (valD l, 0) else (0, 4) := by
  unfold figM
  split
  · rename_i h
    rw [if_neg]
    rintro ⟨h1, h2, h3, h4⟩
    rcases h with h | h | ⟨h, h'⟩ | h
    · omega
    · omega
    · rw [← h4] at h h'
      exact dec_head _ h h'
    · rw [h3] at h; cases h
  · rename_i h
    have h1 : ¬ l.length = 0 := fun e => h (.inl e)
    have h2 : ¬ 18 < l.length := fun e => h (.inr (.inl e))
    have h3 : l.all isFig = true := by
      cases e : l.all isFig with
      | true => rfl
      | false => exact absurd (.inr (.inr (.inr e))) h
    have h4 : 1 < l.length → (l.getD 0 0).toNat ≠ 48 := fun a b => h (.inr (.inr (.inl ⟨a, b⟩)))
    rw [if_pos ⟨by omega, by omega, h3, dec_valD l (by omega) h3 h4⟩]
theorem dec_step {m : Nat} (h : 0 < m) (o : List UInt8) : (if m = 0 then [] else dec m) ++ o.reverse = (if m / 10 = 0 then [] else dec (m / 10)) ++ (o ++ [fig (m % 10)]).reverse := by
  rw [if_neg (by omega), List.reverse_append, List.reverse_singleton, List.singleton_append]
  by_cases hs : m < 10
  · rw [dec_small hs, if_pos (by omega), show m % 10 = m by omega]; rfl
  · rw [dec_big hs, if_neg (by omega), List.append_assoc]; rfl
theorem dec_first (n : Nat) : dec n = (if n / 10 = 0 then [] else dec (n / 10)) ++ [fig (n % 10)].reverse := by
  by_cases hs : n < 10
  · rw [dec_small hs, if_pos (by omega), show n % 10 = n by omega]; rfl
  · rw [dec_big hs, if_neg (by omega)]; rfl
theorem fig_int (n : Nat) : ((fig (n % 10)).toNat : Int) = 48 + (n : Int) % 10 := by
  have := fig_toNat (n % 10) (by omega)
  omega
theorem take_snoc (l : List UInt8) (i : Nat) (h : i < l.length) : l.take (i + 1) = l.take i ++ [l.getD i 0] := by
  rw [List.take_succ_eq_append_getElem h]
  simp [List.getD, List.getElem?_eq_getElem h]
theorem all_take {l : List UInt8} (h : l.all isFig = false → False) (i : Nat) : (l.take i).all isFig = true := by
  have h' : l.all isFig = true := by cases e : l.all isFig with | true => rfl | false => exact absurd e h
  rw [List.all_eq_true] at h' ⊢
  exact fun x hx => h' x (List.mem_of_mem_take hx)
theorem all_of_bad {l : List UInt8} {i : Nat} (hi : i < l.length) (h : isFig (l.getD i 0) = false) : l.all isFig = false := by
  cases e : l.all isFig with
  | false => rfl
  | true =>
    rw [List.all_eq_true] at e
    have := e (l.getD i 0) (by simp [List.getD, List.getElem?_eq_getElem hi])
    rw [h] at this
    cases this
end Go.Proofs.YtghgbhekjgincaaDoor
