/- Chapter 3, plain: elements of DER: tags, lengths, the first element of bytes, how many levels an element has. -/
import Derived.Test.YtndbjkapdmpbbaaDoorBase
namespace Go.Proofs.YtndbjkapdmpbbaaDoor
namespace Am
open Go.RowKit
set_option linter.unusedVariables false

def madeM (t : Int) : Bool := decide (t = 48 ∨ t = 49 ∨ (160 ≤ t ∧ t < 176))
def plainT : List Int := [1, 2, 3, 4, 5, 6, 10, 12, 24]
def knownM (t : Int) : Bool := madeM t || decide ((1 ≤ t ∧ t ≤ 6) ∨ t = 10 ∨ t = 12 ∨ t = 24)
theorem plain_known (t : Int) : decide (t ∈ plainT) = decide ((1 ≤ t ∧ t ≤ 6) ∨ t = 10 ∨ t = 12 ∨ t = 24) := by
  refine decide_eq_decide.2 ?_
  simp only [plainT, List.mem_cons, List.not_mem_nil, or_false]
  omega
def b8 (n : Nat) : UInt8 := UInt8.ofNat n
theorem b8_toNat {n : Nat} (h : n < 256) : (b8 n).toNat = n := by
  unfold b8
  rw [UInt8.toNat_ofNat']
  omega
theorem b8_mod (n : Nat) : (b8 n).toNat = n % 256 := by
  unfold b8
  rw [UInt8.toNat_ofNat']
/-- a length's bytes -/
def lenL (n : Nat) : List UInt8 :=
  if n < 128 then [b8 n] else if n < 256 then [129, b8 n] else if n < 65536 then [130, b8 (n / 256), b8 n]
  else if n < 16777216 then [131, b8 (n / 65536), b8 (n / 256), b8 n] else [132, b8 (n / 16777216), b8 (n / 65536), b8 (n / 256), b8 n]
theorem lenL_bd (n : Nat) : 1 ≤ (lenL n).length ∧ (lenL n).length ≤ 5 := by
  unfold lenL
  split
  · simp
  · split
    · simp
    · split
      · simp
      · split <;> simp
theorem lenL_bd3 {n : Nat} (h : n < 65536) : 1 ≤ (lenL n).length ∧ (lenL n).length ≤ 3 := by
  unfold lenL
  split
  · simp
  · split
    · simp
    · simp [h]
def putL (tag : Int) (body : List UInt8) : List UInt8 := UInt8.ofNat tag.toNat :: (lenL body.length ++ body)
/-- a number by its bytes -/
def beN (l : List UInt8) : Nat := l.foldl (fun n c => n * 256 + c.toNat) 0
theorem beN_snoc (l : List UInt8) (c : UInt8) : beN (l ++ [c]) = beN l * 256 + c.toNat := by simp [beN]
theorem beN_take {l : List UInt8} {i : Nat} (h : i < l.length) : beN (l.take (i + 1)) = beN (l.take i) * 256 + (l.getD i 0).toNat := by
  rw [List.take_succ_eq_append_getElem h, beN_snoc]
  simp [List.getD, h]
theorem beN_lt (l : List UInt8) : beN l < 256 ^ l.length := by
  have key : ∀ (r : List UInt8) (n k : Nat), n < 256 ^ k → r.foldl (fun n c => n * 256 + c.toNat) n < 256 ^ (k + r.length) := by
    intro r
    induction r with
    | nil => intro n k h; simpa using h
    | cons c r ih =>
      intro n k h
      have := ih (n * 256 + c.toNat) (k + 1) (by have := c.toNat_lt; rw [Nat.pow_succ]; omega)
      simpa [Nat.add_assoc, Nat.add_comm 1] using this
  have := key l 0 0 (by decide)
  simpa [beN] using this

structure Ms where
  e : Nat
  n : Nat
  rest : List UInt8
/-- a length, and what stands behind it -/
def measM (b : List UInt8) : Ms :=
  if b.length = 0 then ⟨2, 0, []⟩ else
  let c := (b.getD 0 0).toNat
  let r := b.drop 1
  if c ≤ 127 then ⟨0, c, r⟩ else
  if c = 128 ∨ 132 < c then ⟨4, 0, []⟩ else
  if r.length < c - 128 then ⟨2, 0, []⟩ else
  if beN (r.take (c - 128)) ≤ 127 ∨ (r.getD 0 0).toNat = 0 then ⟨4, 0, []⟩ else ⟨0, beN (r.take (c - 128)), r.drop (c - 128)⟩
theorem measM_ne {b r : List UInt8} {c : Nat} (h : b.length ≠ 0) (hc : c = (b.getD 0 0).toNat) (hr : r = b.drop 1) : measM b = if c ≤ 127 then ⟨0, c, r⟩ else
  if c = 128 ∨ 132 < c then ⟨4, 0, []⟩ else
  if r.length < c - 128 then ⟨2, 0, []⟩ else
  if beN (r.take (c - 128)) ≤ 127 ∨ (r.getD 0 0).toNat = 0 then ⟨4, 0, []⟩ else ⟨0, beN (r.take (c - 128)), r.drop (c - 128)⟩ := by
  subst hc hr
  unfold measM
  rw [if_neg h]
theorem measM_rest (b : List UInt8) : (measM b).rest.length ≤ b.length - 1 ∧ ((measM b).e ≠ 0 → (measM b).rest = [] ∧ (measM b).n = 0) ∧ (measM b).e ≤ 4 := by
  unfold measM
  split
  · simp
  · dsimp only
    split
    · simp
    · split
      · simp
      · split
        · simp
        · split
          · simp
          · refine ⟨?_, by simp, by simp⟩
            simp
            omega

structure Nx where
  e : Nat
  tag : Nat
  body : List UInt8
  rest : List UInt8
/-- the first element of bytes -/
def nextM (b : List UInt8) : Nx :=
  if b.length = 0 then ⟨2, 0, [], []⟩ else
  if knownM ((b.getD 0 0).toNat : Nat) = false then ⟨5, 0, [], []⟩ else
  let m := measM (b.drop 1)
  if m.e ≠ 0 then ⟨m.e, 0, [], []⟩ else
  if 65530 < m.n then ⟨3, 0, [], []⟩ else
  if m.rest.length < m.n then ⟨2, 0, [], []⟩ else ⟨0, (b.getD 0 0).toNat, m.rest.take m.n, m.rest.drop m.n⟩
theorem nextM_ne {b : List UInt8} {t : Nat} {m : Ms} (h : b.length ≠ 0) (ht : t = (b.getD 0 0).toNat) (hk : knownM (t : Nat) = true) (hm : m = measM (b.drop 1)) : nextM b = if m.e ≠ 0 then ⟨m.e, 0, [], []⟩ else
  if 65530 < m.n then ⟨3, 0, [], []⟩ else
  if m.rest.length < m.n then ⟨2, 0, [], []⟩ else ⟨0, t, m.rest.take m.n, m.rest.drop m.n⟩ := by
  subst ht hm
  unfold nextM
  rw [if_neg h, if_neg (by rw [hk]; exact Bool.noConfusion)]
theorem nextM_bd (b : List UInt8) : (nextM b).e ≤ 5 ∧ (nextM b).tag ≤ 255 ∧ (nextM b).body.length ≤ 65530 ∧ (nextM b).body.length ≤ b.length ∧ (nextM b).rest.length ≤ b.length ∧ ((nextM b).e = 0 → (nextM b).rest.length < b.length) := by
  unfold nextM
  split
  · simp
  · split
    · simp
    · dsimp only
      have hm := measM_rest (b.drop 1)
      split
      · refine ⟨by dsimp only; omega, by simp, by simp, by simp, by simp, fun h => by dsimp only at h; omega⟩
      · split
        · simp
        · split
          · simp
          · have h8 := (b.getD 0 0).toNat_lt
            have hm1 := hm.1
            rw [List.length_drop] at hm1
            refine ⟨by simp, by dsimp only; omega, by rw [List.length_take]; omega, by rw [List.length_take]; omega, by rw [List.length_drop]; omega, fun _ => by rw [List.length_drop]; omega⟩

def loopW (rec : Nat → List UInt8 → Nat × Nat) (set : Bool) (lv : Nat) : Nat → List UInt8 → List UInt8 → Nat → Nat × Nat
  | 0, _, _, dp => (dp, 0)
  | fuel + 1, b, last, dp =>
    if b.length = 0 then (dp, 0) else
    if (nextM b).e ≠ 0 then (0, (nextM b).e) else
    if lv ≤ 1 then (0, 6) else
    if (rec (nextM b).tag (nextM b).body).2 ≠ 0 then (0, (rec (nextM b).tag (nextM b).body).2) else
    if set = true ∧ Op.bytesLess (b.take (b.length - (nextM b).rest.length)) last = true then (0, 7) else
    loopW rec set lv fuel (nextM b).rest (b.take (b.length - (nextM b).rest.length)) (max dp ((rec (nextM b).tag (nextM b).body).1 + 1))
/-- how many levels an element has, with so many left; the error's number -/
def wholeM : Nat → Nat → List UInt8 → Nat × Nat
  | 0, _, _ => (1, 0)
  | lv + 1, tag, body => if madeM tag = false then (1, 0) else loopW (wholeM lv) (decide (tag = 49)) (lv + 1) body.length body [] 1
theorem loopW_bd (rec : Nat → List UInt8 → Nat × Nat) (set : Bool) (lv B : Nat) (hr : ∀ t b, (rec t b).1 ≤ B ∧ (rec t b).2 ≤ 7) : ∀ (fuel : Nat) (b last : List UInt8) (dp : Nat), dp ≤ B + 1 → (loopW rec set lv fuel b last dp).1 ≤ B + 1 ∧ (loopW rec set lv fuel b last dp).2 ≤ 7
  | 0, _, _, dp, h => ⟨h, by simp [loopW]⟩
  | fuel + 1, b, last, dp, h => by
    have h1 := nextM_bd b
    have h2 := hr (nextM b).tag (nextM b).body
    unfold loopW
    split
    · exact ⟨h, by simp⟩
    · split
      · exact ⟨by simp, by simp; omega⟩
      · split
        · exact ⟨by simp, by simp⟩
        · split
          · exact ⟨by simp, by simp; omega⟩
          · split
            · exact ⟨by simp, by simp⟩
            · exact loopW_bd rec set lv B hr fuel _ _ _ (by omega)
theorem wholeM_bd : ∀ (lv tag : Nat) (body : List UInt8), (wholeM lv tag body).1 ≤ lv + 1 ∧ (wholeM lv tag body).2 ≤ 7
  | 0, _, _ => by simp [wholeM]
  | lv + 1, tag, body => by
    unfold wholeM
    split
    · exact ⟨by simp, by simp⟩
    · exact loopW_bd _ _ _ _ (fun t b => wholeM_bd lv t b) _ _ _ _ (by omega)
def depthM (b : List UInt8) : Nat × Nat :=
  if 65536 < b.length then (0, 3) else
  if (nextM b).e ≠ 0 then (0, (nextM b).e) else
  if 0 < (nextM b).rest.length then (0, 4) else wholeM 16 (nextM b).tag (nextM b).body
theorem depthM_bd (b : List UInt8) : (depthM b).1 ≤ 17 ∧ (depthM b).2 ≤ 7 := by
  have h1 := nextM_bd b
  have h2 := wholeM_bd 16 (nextM b).tag (nextM b).body
  unfold depthM
  split
  · simp
  · split
    · exact ⟨by simp, by simp; omega⟩
    · split
      · simp
      · exact h2

/-! ### what is put is read -/
theorem meas_put {n : Nat} (r : List UInt8) (h : n < 4294967296) : measM (lenL n ++ r) = ⟨0, n, r⟩ := by
  unfold lenL
  split
  · rename_i h1
    simp [measM, b8_toNat (show n < 256 by omega)]
    omega
  · split
    · rename_i h1 h2
      simp [measM, b8_toNat h2, beN]
      omega
    · split
      · rename_i h1 h2 h3
        simp [measM, b8_mod, beN]
        rw [if_neg (by omega), if_neg (by omega)]; congr 1; omega
      · split
        · rename_i h1 h2 h3 h4
          simp [measM, b8_mod, beN]
          rw [if_neg (by omega), if_neg (by omega)]; congr 1; omega
        · rename_i h1 h2 h3 h4
          simp [measM, b8_mod, beN]
          rw [if_neg (by omega), if_neg (by omega)]; congr 1; omega
theorem next_put {tag : Int} {body r : List UInt8} (hk : knownM tag = true) (hb : body.length ≤ 65530) : nextM (putL tag body ++ r) = ⟨0, tag.toNat, body, r⟩ := by
  have ht : 0 ≤ tag ∧ tag < 256 := by
    unfold knownM madeM at hk
    simp at hk
    omega
  have e0 : (UInt8.ofNat tag.toNat).toNat = tag.toNat := b8_toNat (n := tag.toNat) (by omega)
  have hm := meas_put (n := body.length) (body ++ r) (by omega)
  have e1 : ((tag.toNat : Nat) : Int) = tag := by omega
  unfold nextM putL
  simp only [List.cons_append, List.length_cons, List.getD_cons_zero, e0, e1, hk, List.drop_succ_cons, List.drop_zero, List.append_assoc, hm]
  rw [if_neg (by omega), if_neg (by simp), if_neg (by simp), if_neg (by omega), if_neg (by simp)]
  simp
end Am
end Go.Proofs.YtndbjkapdmpbbaaDoor
