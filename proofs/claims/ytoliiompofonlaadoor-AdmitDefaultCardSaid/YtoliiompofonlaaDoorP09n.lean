
/- Chapter 9, plain: labels, subjects, their texts and parts. -/
import Derived.Test.YtoliiompofonlaaDoorBase
namespace Go.Proofs.YtoliiompofonlaaDoor
namespace Am
open Go.RowKit
set_option linter.unusedVariables false

/-! ### labels -/
def lch (c : UInt8) : Bool := (decide (97 ≤ c.toNat) && decide (c.toNat ≤ 122)) || (decide (48 ≤ c.toNat) && decide (c.toNat ≤ 57)) || decide (c.toNat = 45)
def labM (l : List UInt8) : Bool := decide (l ≠ []) && decide (l.length ≤ 24) && decide (l.getD 0 0 ≠ 45) && decide (l.getD (l.length - 1) 0 ≠ 45) && l.all lch
theorem lab_free {l : List UInt8} (h : labM l = true) : (58 : UInt8) ∉ l ∧ (47 : UInt8) ∉ l ∧ l ≠ [] := by
  simp only [labM, Bool.and_eq_true, decide_eq_true_eq, List.all_eq_true] at h
  obtain ⟨⟨⟨⟨h1, _⟩, _⟩, _⟩, h2⟩ := h
  exact ⟨fun hm => by have := h2 _ hm; revert this; decide, fun hm => by have := h2 _ hm; revert this; decide, h1⟩
/-! ### subjects -/
abbrev S3 := Int × List UInt8 × List UInt8
def wordL : List (List UInt8) := [[110, 111, 100, 101], [119, 111, 114, 107, 108, 111, 97, 100], [111, 112, 101, 114, 97, 116, 111, 114], [98, 111, 111, 116], [99, 97]]
def wordM (k : Int) : List UInt8 := if k < 1 then [] else wordL.getD (k - 1).toNat []
def rightS (s : S3) : Bool := decide (1 ≤ s.1) && decide (s.1 ≤ 5) && labM s.2.2 && (if s.1 = 2 then labM s.2.1 else decide (s.2.1 = []))
theorem right_iff (s : S3) : rightS s = true ↔ 1 ≤ s.1 ∧ s.1 ≤ 5 ∧ labM s.2.2 = true ∧ (s.1 = 2 → labM s.2.1 = true) ∧ (s.1 ≠ 2 → s.2.1 = []) := by
  simp only [rightS, Bool.and_eq_true, decide_eq_true_eq]
  by_cases h : s.1 = 2
  · rw [if_pos h]
    exact ⟨fun ⟨⟨⟨a, b⟩, c⟩, d⟩ => ⟨a, b, c, fun _ => d, fun e => absurd h e⟩, fun ⟨a, b, c, d, _⟩ => ⟨⟨⟨a, b⟩, c⟩, d h⟩⟩
  · rw [if_neg h, decide_eq_true_eq]
    exact ⟨fun ⟨⟨⟨a, b⟩, c⟩, d⟩ => ⟨a, b, c, fun e => absurd e h, fun _ => d⟩, fun ⟨a, b, c, _, d⟩ => ⟨⟨⟨a, b⟩, c⟩, d h⟩⟩
theorem kinds {k : Int} (h1 : 1 ≤ k) (h5 : k ≤ 5) : k = 1 ∨ k = 2 ∨ k = 3 ∨ k = 4 ∨ k = 5 := by omega
theorem wordM_nil (k : Int) : wordM k = [] ↔ ¬ (1 ≤ k ∧ k ≤ 5) := by
  constructor
  · intro h hk
    rcases kinds hk.1 hk.2 with rfl | rfl | rfl | rfl | rfl <;> exact absurd h (by decide)
  · intro h
    unfold wordM
    by_cases h1 : k < 1
    · rw [if_pos h1]
    · rw [if_neg h1, List.getD_eq_getElem?_getD, List.getElem?_eq_none (by show 5 ≤ _; omega)]; rfl
theorem word_free {k : Int} (h1 : 1 ≤ k) (h5 : k ≤ 5) : (58 : UInt8) ∉ wordM k := by
  rcases kinds h1 h5 with rfl | rfl | rfl | rfl | rfl <;> decide
theorem word_idx {k : Int} (h1 : 1 ≤ k) (h5 : k ≤ 5) : ((wordL.idxOf (wordM k) : Nat) : Int) + 1 = k ∧ wordM k ∈ wordL := by
  rcases kinds h1 h5 with rfl | rfl | rfl | rfl | rfl <;> decide
/-- what stands before and behind the first byte c; is there one -/
def cutM (c : UInt8) : List UInt8 → List UInt8 × List UInt8 × Bool
  | [] => ([], [], false)
  | x :: l => if x = c then ([], l, true) else (x :: (cutM c l).1, (cutM c l).2.1, (cutM c l).2.2)
theorem cut_at {c : UInt8} : ∀ {p : List UInt8} (r : List UInt8), c ∉ p → cutM c (p ++ c :: r) = (p, r, true)
  | [], r, _ => by simp [cutM]
  | x :: l, r, h => by
    have h1 : x ≠ c := fun e => h (by simp [e])
    have h2 : c ∉ l := fun e => h (by simp [e])
    rw [List.cons_append, cutM, if_neg h1, cut_at r h2]
theorem cut_none {c : UInt8} : ∀ {p : List UInt8}, c ∉ p → cutM c p = (p, [], false)
  | [], _ => rfl
  | x :: l, h => by
    have h1 : x ≠ c := fun e => h (by simp [e])
    have h2 : c ∉ l := fun e => h (by simp [e])
    rw [cutM, if_neg h1, cut_none h2]
def textS (s : S3) : List UInt8 := wordM s.1 ++ 58 :: (if s.2.1 = [] then s.2.2 else s.2.1 ++ 47 :: s.2.2)
/-- the index of a word, from 1 on; 0: it is none -/
def idxW (w : List UInt8) : Int := if w ∈ wordL then (wordL.idxOf w : Nat) + 1 else 0
theorem idxW_bd (w : List UInt8) : 0 ≤ idxW w ∧ idxW w ≤ 5 := by
  unfold idxW
  split
  · rename_i h
    have := List.idxOf_lt_length_iff.2 h
    have e : wordL.length = 5 := rfl
    omega
  · omega
/-- what a text is taken for -/
def guessT (t : List UInt8) : S3 :=
  if (cutM 47 (cutM 58 t).2.1).2.2 = true then (idxW (cutM 58 t).1, (cutM 47 (cutM 58 t).2.1).1, (cutM 47 (cutM 58 t).2.1).2.1) else (idxW (cutM 58 t).1, [], (cutM 58 t).2.1)
theorem guess_text {s : S3} (h : rightS s = true) : guessT (textS s) = s := by
  obtain ⟨h1, h5, hn, h2, hs⟩ := (right_iff s).1 h
  obtain ⟨k, sp, nm⟩ := s
  have e := cut_at (if sp = [] then nm else sp ++ 47 :: nm) (word_free h1 h5)
  have hi := word_idx h1 h5
  unfold guessT textS
  simp only [e]
  have hk : idxW (wordM k) = k := by unfold idxW; rw [if_pos hi.2]; exact hi.1
  by_cases hk2 : k = 2
  · have hl := lab_free (h2 hk2)
    rw [if_neg hl.2.2, cut_at _ hl.2.1, if_pos rfl, hk]
  · have := hs hk2
    simp only at this
    subst this
    rw [if_pos rfl, cut_none (lab_free hn).2.1, if_neg (by simp), hk]
theorem text_inj {s s' : S3} (h : rightS s = true) (h' : rightS s' = true) (he : textS s = textS s') : s = s' := by
  rw [← guess_text h, he, guess_text h']
def zeroS : S3 := (0, [], [])
/-- a text's subject; the error's number -/
def parseT (t : List UInt8) : S3 × Nat := if rightS (guessT t) = true ∧ textS (guessT t) = t then (guessT t, 0) else (zeroS, 9)
theorem parse_textS {s : S3} (h : rightS s = true) : parseT (textS s) = (s, 0) := by
  unfold parseT
  rw [guess_text h, if_pos ⟨h, rfl⟩]
theorem parseT_iff (t : List UInt8) (s : S3) : parseT t = (s, 0) ↔ rightS s = true ∧ textS s = t := by
  constructor
  · intro h
    unfold parseT at h
    split at h
    · rename_i h1
      obtain ⟨rfl, _⟩ := Prod.mk.inj h
      exact h1
    · simp at h
  · rintro ⟨h, rfl⟩
    exact parse_textS h
theorem parseT_no {t : List UInt8} (h : ∀ s, rightS s = true → textS s ≠ t) : parseT t = (zeroS, 9) := by
  unfold parseT
  rw [if_neg (fun h1 => h _ h1.1 h1.2)]
/-- the reference's: a text as a subject of a kind -/
def asKind (t : List UInt8) (k : Int) : S3 :=
  if k = 2 ∧ (cutM 47 (t.drop ((wordM k).length + 1))).2.2 = true then (k, (cutM 47 (t.drop ((wordM k).length + 1))).1, (cutM 47 (t.drop ((wordM k).length + 1))).2.1) else (k, [], t.drop ((wordM k).length + 1))
def isKind (t : List UInt8) (k : Int) : Prop := (wordM k).length + 1 ≤ t.length ∧ t.take ((wordM k).length + 1) = wordM k ++ [58] ∧ rightS (asKind t k) = true ∧ textS (asKind t k) = t
theorem asKind_fst (t : List UInt8) (k : Int) : (asKind t k).1 = k := by unfold asKind; split <;> rfl
theorem isKind_text {s : S3} (h : rightS s = true) : isKind (textS s) s.1 ∧ asKind (textS s) s.1 = s := by
  obtain ⟨h1, h5, hn, h2, hs⟩ := (right_iff s).1 h
  obtain ⟨k, sp, nm⟩ := s
  have hd : (textS (k, sp, nm)).drop ((wordM k).length + 1) = if sp = [] then nm else sp ++ 47 :: nm := by
    unfold textS
    rw [← List.singleton_append (x := (58 : UInt8)), ← List.append_assoc, show (wordM k).length + 1 = (wordM k ++ [58]).length by simp, List.drop_left]
  have e : asKind (textS (k, sp, nm)) k = (k, sp, nm) := by
    unfold asKind
    rw [hd]
    by_cases hk2 : k = 2
    · have hl := lab_free (h2 hk2)
      rw [if_neg hl.2.2, cut_at _ hl.2.1, if_pos ⟨hk2, rfl⟩]
    · have := hs hk2
      simp only at this
      subst this
      rw [if_pos rfl, if_neg (fun h => hk2 h.1)]
  refine ⟨⟨?_, ?_, ?_, ?_⟩, e⟩
  · unfold textS; simp
  · unfold textS
    show (wordM k ++ 58 :: _).take _ = _
    rw [← List.singleton_append (x := (58 : UInt8)), ← List.append_assoc, show (wordM k).length + 1 = (wordM k ++ [58]).length by simp, List.take_left]
  · rw [e]; exact h
  · rw [e]
/-- the first kind as which a text reads -/
theorem kind_parse {t : List UInt8} {k : Int} (h : isKind t k) : parseT t = (asKind t k, 0) := (parseT_iff _ _).2 ⟨h.2.2.1, h.2.2.2⟩
theorem no_kind {t : List UInt8} (h : ∀ k, 1 ≤ k → k ≤ 5 → ¬ isKind t k) : parseT t = (zeroS, 9) := parseT_no fun s hs e => by
  obtain ⟨h1, h5, _⟩ := (right_iff s).1 hs
  exact h s.1 h1 h5 (e ▸ (isKind_text hs).1)

/-! ### parts -/
def oidB : List UInt8 := [49, 46, 51, 46, 57, 57, 57, 57, 46, 49, 46]
def oidK : List UInt8 := oidB ++ [49]
def oidS : List UInt8 := oidB ++ [50]
def oidN : List UInt8 := oidB ++ [51]
abbrev P2 := List UInt8 × List UInt8
def partsS (s : S3) : List P2 := if s.2.1 = [] then [(oidK, wordM s.1), (oidN, s.2.2)] else [(oidK, wordM s.1), (oidS, s.2.1), (oidN, s.2.2)]
/-- what parts make of a subject, part by part -/
def stepP (s : S3) (p : P2) : S3 := if p.1 = oidK then (idxW p.2, s.2.1, s.2.2) else if p.1 = oidS then (s.1, p.2, s.2.2) else if p.1 = oidN then (s.1, s.2.1, p.2) else s
def guessP (l : List P2) : S3 := l.foldl stepP zeroS
theorem guess_parts {s : S3} (h : rightS s = true) : guessP (partsS s) = s := by
  obtain ⟨h1, h5, hn, h2, hs⟩ := (right_iff s).1 h
  obtain ⟨k, sp, nm⟩ := s
  have hk : idxW (wordM k) = k := by
    have hi := word_idx h1 h5
    unfold idxW; rw [if_pos hi.2]; exact hi.1
  have ks : oidS ≠ oidK := by decide
  have kn : oidN ≠ oidK := by decide
  have sn : oidN ≠ oidS := by decide
  unfold partsS
  by_cases he : sp = []
  · subst he
    simp [guessP, stepP, hk, ks, kn, sn, zeroS]
  · simp [guessP, stepP, hk, ks, kn, sn, zeroS, he]
theorem parts_inj {s s' : S3} (h : rightS s = true) (h' : rightS s' = true) (he : partsS s = partsS s') : s = s' := by
  rw [← guess_parts h, he, guess_parts h']
/-- the subject of parts; the error's number -/
def ofP (l : List P2) : S3 × Nat := if rightS (guessP l) = true ∧ partsS (guessP l) = l then (guessP l, 0) else (zeroS, 9)
theorem ofP_iff (l : List P2) (s : S3) : ofP l = (s, 0) ↔ rightS s = true ∧ partsS s = l := by
  constructor
  · intro h
    unfold ofP at h
    split at h
    · rename_i h1
      obtain ⟨rfl, _⟩ := Prod.mk.inj h
      exact h1
    · simp at h
  · rintro ⟨h, rfl⟩
    unfold ofP
    rw [guess_parts h, if_pos ⟨h, rfl⟩]
theorem ofP_no {l : List P2} (h : ∀ s, rightS s = true → partsS s ≠ l) : ofP l = (zeroS, 9) := by
  unfold ofP
  rw [if_neg (fun h1 => h _ h1.1 h1.2)]
/-- the reference's: parts as those of a subject of a kind -/
def asKindP (l : List P2) (k : Int) : S3 := (k, (if k = 2 ∧ 1 < l.length then (l.getD 1 ([], [])).2 else []), (if 0 < l.length then (l.getD (l.length - 1) ([], [])).2 else []))
def isKindP (l : List P2) (k : Int) : Prop := rightS (asKindP l k) = true ∧ partsS (asKindP l k) = l
theorem isKind_parts {s : S3} (h : rightS s = true) : asKindP (partsS s) s.1 = s := by
  obtain ⟨h1, h5, hn, h2, hs⟩ := (right_iff s).1 h
  obtain ⟨k, sp, nm⟩ := s
  unfold partsS asKindP
  by_cases hk2 : k = 2
  · have hl := lab_free (h2 hk2)
    simp only at hl
    subst hk2
    simp [hl.2.2]
  · have := hs hk2
    simp only at this
    subst this
    simp [hk2]
theorem kind_parts {l : List P2} {k : Int} (h : isKindP l k) : ofP l = (asKindP l k, 0) := (ofP_iff _ _).2 h
theorem no_kindP {l : List P2} (h : ∀ k, 1 ≤ k → k ≤ 5 → ¬ isKindP l k) : ofP l = (zeroS, 9) := ofP_no fun s hs e => by
  obtain ⟨h1, h5, _⟩ := (right_iff s).1 hs
  refine h s.1 h1 h5 ?_
  rw [← e]
  unfold isKindP
  rw [isKind_parts hs]
  exact ⟨hs, rfl⟩
theorem parts_ref {s : S3} (h : rightS s = true) : partsS s = if s.1 = 2 then [(oidK, wordM s.1), (oidS, s.2.1), (oidN, s.2.2)] else [(oidK, wordM s.1), (oidN, s.2.2)] := by
  obtain ⟨h1, h5, hn, h2, hs⟩ := (right_iff s).1 h
  unfold partsS
  by_cases hk2 : s.1 = 2
  · rw [if_pos hk2, if_neg (lab_free (h2 hk2)).2.2]
  · rw [if_neg hk2, if_pos (hs hk2)]
theorem text_ref {s : S3} (h : rightS s = true) : textS s = if s.1 = 2 then wordM 2 ++ 58 :: (s.2.1 ++ 47 :: s.2.2) else wordM s.1 ++ 58 :: s.2.2 := by
  obtain ⟨h1, h5, hn, h2, hs⟩ := (right_iff s).1 h
  unfold textS
  by_cases hk2 : s.1 = 2
  · rw [if_pos hk2, if_neg (lab_free (h2 hk2)).2.2, hk2]
  · rw [if_neg hk2, if_pos (hs hk2)]
end Am
end Go.Proofs.YtoliiompofonlaaDoor
