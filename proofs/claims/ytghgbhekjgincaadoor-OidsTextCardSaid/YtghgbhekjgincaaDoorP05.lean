
/- Chapter 5, plain: parts between dots, arcs, numbers of seven bits a byte, bodies, texts, order. -/
import Derived.Test.YtghgbhekjgincaaDoorDec
namespace Go.Proofs.YtghgbhekjgincaaDoor
namespace Am
open Go.RowKit
set_option linter.unusedVariables false

theorem getD_app {q r : List UInt8} {i : Nat} (h : i < q.length) : (q ++ r).getD i 0 = q.getD i 0 := by simp [List.getD, List.getElem?_append_left h]
theorem ex_snoc {l : List UInt8} (h : l ≠ []) : ∃ q c, l = q ++ [c] := ⟨l.dropLast, l.getLast h, (List.dropLast_concat_getLast h).symm⟩
/-! ### parts between separators -/
def consHead (x : UInt8) : List (List UInt8) → List (List UInt8)
  | [] => [[x]]
  | p :: r => (x :: p) :: r
/-- the parts of a text between the bytes c -/
def splitC (c : UInt8) : List UInt8 → List (List UInt8)
  | [] => [[]]
  | x :: l => if x = c then [] :: splitC c l else consHead x (splitC c l)
def joinC (c : UInt8) : List (List UInt8) → List UInt8
  | [] => []
  | [p] => p
  | p :: q :: r => p ++ c :: joinC c (q :: r)
theorem splitC_ne (c : UInt8) (l : List UInt8) : splitC c l ≠ [] := by
  cases l with
  | nil => simp [splitC]
  | cons x l =>
    rw [splitC]
    split
    · simp
    · cases splitC c l <;> simp [consHead]
theorem splitC_none {c : UInt8} : ∀ {l : List UInt8}, c ∉ l → splitC c l = [l]
  | [], _ => rfl
  | x :: l, h => by
    have h1 : x ≠ c := fun e => h (by simp [e])
    have h2 : c ∉ l := fun e => h (by simp [e])
    rw [splitC, if_neg h1, splitC_none h2]; rfl
theorem splitC_at {c : UInt8} : ∀ {p : List UInt8} (r : List UInt8), c ∉ p → splitC c (p ++ c :: r) = p :: splitC c r
  | [], r, _ => by simp [splitC]
  | x :: l, r, h => by
    have h1 : x ≠ c := fun e => h (by simp [e])
    have h2 : c ∉ l := fun e => h (by simp [e])
    rw [List.cons_append, splitC, if_neg h1, splitC_at r h2]; rfl
theorem join_head (c : UInt8) (x : UInt8) : ∀ ls : List (List UInt8), ls ≠ [] → joinC c (consHead x ls) = x :: joinC c ls
  | [], h => absurd rfl h
  | [p], _ => rfl
  | p :: q :: r, _ => rfl
theorem join_split (c : UInt8) : ∀ l : List UInt8, joinC c (splitC c l) = l
  | [] => rfl
  | x :: l => by
    rw [splitC]
    have ih := join_split c l
    have hne := splitC_ne c l
    split
    · rename_i e
      subst e
      revert ih hne
      cases splitC x l with
      | nil => intro _ h; exact absurd rfl h
      | cons p r => intro ih _; rw [joinC, ih]; rfl
    · rw [join_head c x _ hne, ih]
theorem split_join {c : UInt8} : ∀ {ls : List (List UInt8)}, ls ≠ [] → (∀ p ∈ ls, c ∉ p) → splitC c (joinC c ls) = ls
  | [], h, _ => absurd rfl h
  | [p], _, h => by rw [joinC, splitC_none (h p (by simp))]
  | p :: q :: r, _, h => by
    rw [joinC, splitC_at _ (h p (by simp)), split_join (by simp) (fun x hx => h x (by simp at hx ⊢; exact .inr hx))]
theorem split_free {c : UInt8} : ∀ {l : List UInt8} {p : List UInt8}, p ∈ splitC c l → c ∉ p
  | [], p, h => by simp [splitC] at h; simp [h]
  | x :: l, p, h => by
    rw [splitC] at h
    split at h
    · simp at h
      rcases h with rfl | h
      · simp
      · exact split_free h
    · rename_i hx
      have ih := fun q => @split_free c l q
      revert h ih
      cases splitC c l with
      | nil => intro h _; simp [consHead] at h; subst h; simp; exact fun e => hx e.symm
      | cons q r =>
        intro h ih
        simp [consHead] at h
        rcases h with rfl | h
        · simp
          exact ⟨fun e => hx e.symm, ih q (by simp)⟩
        · exact ih p (by simp [h])

/-! ### arcs -/
def okP (p : List UInt8) : Bool := decide ((figM p).2 = 0) && decide (p.length ≤ 10)
def valP (p : List UInt8) : Int := ((figM p).1 : Nat)
def rightA (l : List Int) : Bool := decide (2 ≤ l.length) && decide (l.length ≤ 16) && l.all (fun n => decide (0 ≤ n) && decide (n ≤ 2147483647)) && decide (l.getD 0 0 ≤ 2) && (decide (l.getD 0 0 = 2) || decide (l.getD 1 0 < 40))
/-- a text's arcs; the error's number -/
def parseM (s : List UInt8) : List Int × Nat :=
  if ((splitC 46 s).all okP) = false then ([], 4) else if rightA ((splitC 46 s).map valP) = false then ([], 1) else ((splitC 46 s).map valP, 0)

/-! ### a number's bytes, of seven bits each -/
def sepHi (m : Nat) : List UInt8 := if h : m = 0 then [] else sepHi (m / 128) ++ [UInt8.ofNat (m % 128 + 128)]
termination_by m
decreasing_by omega
def sepL (n : Nat) : List UInt8 := sepHi (n / 128) ++ [UInt8.ofNat (n % 128)]
theorem sepHi_zero : sepHi 0 = [] := by rw [sepHi]; simp
theorem sepHi_pos {m : Nat} (h : m ≠ 0) : sepHi m = sepHi (m / 128) ++ [UInt8.ofNat (m % 128 + 128)] := by rw [sepHi, dif_neg h]
theorem sepHi_len (k : Nat) : ∀ m, m < 128 ^ k → (sepHi m).length ≤ k := by
  induction k with
  | zero => intro m h; have : m = 0 := by simpa using h
            subst this; rw [sepHi_zero]; simp
  | succ k ih =>
    intro m h
    by_cases h0 : m = 0
    · subst h0; rw [sepHi_zero]; simp
    · rw [sepHi_pos h0, List.length_append]
      have := ih (m / 128) (Nat.div_lt_of_lt_mul (by rw [Nat.pow_succ] at h; omega))
      simp; omega
theorem sepL_len {n : Nat} (h : n < 34359738368) : (sepL n).length ≤ 5 := by
  have := sepHi_len 4 (n / 128) (by omega)
  simp [sepL]; omega
theorem sepL_pos (n : Nat) : 0 < (sepL n).length := by simp [sepL]
/-- the number of bytes of seven bits each -/
def valS (l : List UInt8) : Nat := l.foldl (fun a c => a * 128 + c.toNat % 128) 0
theorem valS_snoc (l : List UInt8) (c : UInt8) : valS (l ++ [c]) = valS l * 128 + c.toNat % 128 := by simp [valS]
theorem valS_hi (m : Nat) : valS (sepHi m) = m := by
  induction m using Nat.strongRecOn with
  | ind m ih =>
    by_cases h0 : m = 0
    · subst h0; rw [sepHi_zero]; rfl
    · rw [sepHi_pos h0, valS_snoc, ih _ (by omega), UInt8.toNat_ofNat']
      omega
theorem valS_sep (n : Nat) : valS (sepL n) = n := by
  rw [sepL, valS_snoc, valS_hi, UInt8.toNat_ofNat']
  omega
theorem sepHi_big (m : Nat) : ∀ c ∈ sepHi m, 128 ≤ c.toNat := by
  induction m using Nat.strongRecOn with
  | ind m ih =>
    by_cases h0 : m = 0
    · subst h0; rw [sepHi_zero]; simp
    · rw [sepHi_pos h0]
      intro c hc
      rcases List.mem_append.1 hc with h | h
      · exact ih _ (by omega) c h
      · rw [List.mem_singleton] at h; subst h; rw [UInt8.toNat_ofNat']; omega
theorem sepHi_head (m : Nat) (h : m ≠ 0) : ((sepHi m).getD 0 0).toNat ≠ 128 := by
  induction m using Nat.strongRecOn with
  | ind m ih =>
    rw [sepHi_pos h]
    by_cases h1 : m / 128 = 0
    · rw [h1, sepHi_zero]
      simp only [List.nil_append, List.getD_cons_zero]
      rw [UInt8.toNat_ofNat']; omega
    · have := ih (m / 128) (by omega) h1
      have hp : 0 < (sepHi (m / 128)).length := by rw [sepHi_pos h1]; simp
      rwa [getD_app hp]
/-- a row's first run: up to the first byte below 128 -/
def runLen : List UInt8 → Nat
  | [] => 0
  | c :: l => if c.toNat < 128 then 1 else 1 + runLen l
theorem runLen_le : ∀ l : List UInt8, runLen l ≤ l.length
  | [] => Nat.le_refl _
  | c :: l => by
    have := runLen_le l
    rw [runLen]; split <;> simp <;> omega
theorem runLen_pos {l : List UInt8} (h : l ≠ []) : 0 < runLen l := by
  cases l with
  | nil => exact absurd rfl h
  | cons c l => rw [runLen]; split <;> omega
theorem runLen_app {l : List UInt8} (h : ∀ c ∈ l, 128 ≤ c.toNat) (x : UInt8) (hx : x.toNat < 128) (r : List UInt8) : runLen (l ++ x :: r) = l.length + 1 := by
  induction l with
  | nil => simp [runLen, hx]
  | cons c l ih =>
    have h1 := h c (by simp)
    rw [List.cons_append, runLen, if_neg (by omega), ih (fun d hd => h d (by simp [hd]))]
    simp; omega
/-- the number of a run, up to the most; the error's number -/
def numM (run : List UInt8) (most : Nat) : Nat × Nat :=
  if 128 ≤ (run.getD (run.length - 1) 0).toNat then (0, 2) else if (run.getD 0 0).toNat = 128 then (0, 4) else if most < valS run then (0, 1) else (valS run, 0)
/-- a body's numbers from one on; the error's number -/
def numsM (most : Nat) (b : List UInt8) : List Nat × Nat :=
  if h : b = [] then ([], 0) else
    if (numM (b.take (runLen b)) most).2 ≠ 0 then ([], (numM (b.take (runLen b)) most).2) else
      if (numsM 2147483647 (b.drop (runLen b))).2 ≠ 0 then ([], (numsM 2147483647 (b.drop (runLen b))).2) else
        ((numM (b.take (runLen b)) most).1 :: (numsM 2147483647 (b.drop (runLen b))).1, 0)
termination_by b.length
decreasing_by
  all_goals
    have := runLen_pos h
    have := List.length_pos_iff.2 h
    simp; omega
def arcsOf : List Nat → List Int
  | [] => []
  | n :: r => (min (n / 40) 2 : Nat) :: ((n : Int) - 40 * (min (n / 40) 2 : Nat)) :: r.map Int.ofNat
/-- a body's arcs; the error's number -/
def getA (b : List UInt8) : List Int × Nat :=
  if b = [] then ([], 2) else if (numsM 2147483727 b).2 ≠ 0 then ([], (numsM 2147483727 b).2) else
    if rightA (arcsOf (numsM 2147483727 b).1) = false then ([], 1) else (arcsOf (numsM 2147483727 b).1, 0)
/-- the body of arcs -/
def putA (l : List Int) : List UInt8 := sepL (40 * l.getD 0 0 + l.getD 1 0).toNat ++ ((l.drop 2).map fun n => sepL n.toNat).flatten
theorem run_sep (n : Nat) (r : List UInt8) : runLen (sepL n ++ r) = (sepL n).length := by
  rw [sepL, List.append_assoc, List.singleton_append, runLen_app (sepHi_big _) _ (by rw [UInt8.toNat_ofNat']; omega)]
  simp
theorem num_sep {n most : Nat} (h : n ≤ most) : numM (sepL n) most = (n, 0) := by
  have h1 : (sepL n).getD ((sepL n).length - 1) 0 = UInt8.ofNat (n % 128) := by
    simp [sepL, List.getD]
  have h2 : ((sepL n).getD 0 0).toNat ≠ 128 := by
    by_cases h0 : n / 128 = 0
    · rw [sepL, h0, sepHi_zero]
      simp only [List.nil_append, List.getD_cons_zero]
      rw [UInt8.toNat_ofNat']; omega
    · have := sepHi_head _ h0
      have hp : 0 < (sepHi (n / 128)).length := by rw [sepHi_pos h0]; simp
      rw [sepL]
      rwa [getD_app hp]
  have h3 : (UInt8.ofNat (n % 128)).toNat = n % 128 := by rw [UInt8.toNat_ofNat']; omega
  unfold numM
  rw [h1, h3, if_neg (by omega), if_neg h2, valS_sep, if_neg (by omega)]
theorem nums_sep {n most : Nat} (h : n ≤ most) (r : List UInt8) (l : List Nat) (hr : numsM 2147483647 r = (l, 0)) : numsM most (sepL n ++ r) = (n :: l, 0) := by
  have hp := sepL_pos n
  rw [numsM, dif_neg (by intro e; have := congrArg List.length e; rw [List.length_append, List.length_nil] at this; omega), run_sep, List.take_left, List.drop_left, num_sep h, hr]
  simp
theorem nums_all (l : List Nat) (h : ∀ n ∈ l, n ≤ 2147483647) : numsM 2147483647 ((l.map sepL).flatten) = (l, 0) := by
  induction l with
  | nil => rw [numsM]; simp
  | cons n l ih =>
    rw [List.map_cons, List.flatten_cons]
    exact nums_sep (h n (by simp)) _ _ (ih fun m hm => h m (by simp [hm]))
theorem right_at {l : List Int} (h : rightA l = true) : 2 ≤ l.length ∧ l.length ≤ 16 ∧ (∀ n ∈ l, 0 ≤ n ∧ n ≤ 2147483647) ∧ l.getD 0 0 ≤ 2 ∧ (l.getD 0 0 = 2 ∨ l.getD 1 0 < 40) := by
  simp only [rightA, Bool.and_eq_true, Bool.or_eq_true, decide_eq_true_eq, List.all_eq_true] at h
  obtain ⟨⟨⟨⟨h1, h2⟩, h3⟩, h4⟩, h5⟩ := h
  exact ⟨h1, h2, fun n hn => h3 n hn, h4, h5⟩
theorem arcs_two {a b : Int} {r : List Nat} (h : 0 ≤ a ∧ a ≤ 2) (hb : 0 ≤ b) (h2 : a = 2 ∨ b < 40) : arcsOf ((40 * a + b).toNat :: r) = a :: b :: r.map Int.ofNat := by
  have e : min ((40 * a + b).toNat / 40) 2 = a.toNat := by omega
  simp only [arcsOf, e]
  refine congr (congrArg _ (by omega)) (congr (congrArg _ (by omega)) rfl)
theorem get_put {l : List Int} (h : rightA l = true) : getA (putA l) = (l, 0) := by
  obtain ⟨h1, h2, h3, h4, h5⟩ := right_at h
  match l, h1 with
  | a :: b :: r, _ =>
    simp only [List.getD_cons_zero, List.getD_cons_succ] at h4 h5
    have ha := h3 a (by simp)
    have hb := h3 b (by simp)
    have hr : ∀ n ∈ r.map Int.toNat, n ≤ 2147483647 := fun n hn => by
      obtain ⟨m, hm, rfl⟩ := List.mem_map.1 hn
      have := h3 m (by simp [hm]); omega
    have hn := nums_all _ hr
    rw [List.map_map] at hn
    have hs := nums_sep (n := (40 * a + b).toNat) (most := 2147483727) (by omega) _ _ hn
    have hput : putA (a :: b :: r) = sepL (40 * a + b).toNat ++ (r.map (sepL ∘ Int.toNat)).flatten := rfl
    have hne : putA (a :: b :: r) ≠ [] := fun e => by
      have := congrArg List.length e
      rw [hput] at this
      have hp := sepL_pos (40 * a + b).toNat
      rw [List.length_append, List.length_nil] at this; omega
    have e : arcsOf ((40 * a + b).toNat :: r.map Int.toNat) = a :: b :: r := by
      rw [arcs_two ⟨ha.1, h4⟩ hb.1 h5, List.map_map]
      refine congrArg _ (congrArg _ ?_)
      refine (List.map_congr_left fun x hx => ?_).trans (List.map_id _)
      have := h3 x (by simp [hx])
      simp; omega
    unfold getA
    rw [if_neg hne, hput, hs]
    simp only [ne_eq, not_true_eq_false, if_false, e, h]
    simp
/-! ### a run is the bytes of its number -/
theorem sep_run (l : List UInt8) (h : ∀ c ∈ l, 128 ≤ c.toNat) (h2 : l ≠ [] → (l.getD 0 0).toNat ≠ 128) : sepHi (valS l) = l := by
  have key : ∀ k, ∀ l : List UInt8, l.length = k → (∀ c ∈ l, 128 ≤ c.toNat) → (l ≠ [] → (l.getD 0 0).toNat ≠ 128) → sepHi (valS l) = l ∧ (l ≠ [] → valS l ≠ 0) := by
    intro k
    induction k with
    | zero => intro l hl _ _; have : l = [] := List.length_eq_zero_iff.1 hl
              subst this; exact ⟨sepHi_zero, fun h => absurd rfl h⟩
    | succ k ih =>
      intro l hl hb hh
      obtain ⟨q, c, rfl⟩ := ex_snoc (l := l) (by intro e; rw [e] at hl; simp at hl)
      have hlq : q.length = k := by simpa using hl
      have hc := hb c (by simp)
      have hc2 := c.toNat_lt
      have hq : q ≠ [] → (q.getD 0 0).toNat ≠ 128 := fun hne => by
        have := hh (by simp)
        have hp : 0 < q.length := List.length_pos_iff.2 hne
        rwa [getD_app hp] at this
      obtain ⟨h5, h6⟩ := ih q hlq (fun d hd => hb d (by simp [hd])) hq
      have hv : valS (q ++ [c]) ≠ 0 := by
        rw [valS_snoc]
        by_cases hq0 : q = []
        · subst hq0
          have := hh (by simp)
          simp at this
          show 0 * 128 + _ ≠ 0
          omega
        · have := h6 hq0
          omega
      refine ⟨?_, fun _ => hv⟩
      rw [sepHi_pos hv, valS_snoc, show (valS q * 128 + c.toNat % 128) / 128 = valS q by omega, h5]
      refine congrArg _ ?_
      rw [show (valS q * 128 + c.toNat % 128) % 128 + 128 = c.toNat by omega, UInt8.ofNat_toNat]
  exact (key _ l rfl h h2).1
theorem sep_runL {l : List UInt8} (hne : l ≠ []) (h : ∀ i, i + 1 < l.length → 128 ≤ (l.getD i 0).toNat) (h1 : (l.getD (l.length - 1) 0).toNat < 128) (h2 : (l.getD 0 0).toNat ≠ 128) : sepL (valS l) = l := by
  obtain ⟨q, c, rfl⟩ := ex_snoc hne
  have hc : c.toNat < 128 := by simpa [List.getD] using h1
  have hb : ∀ d ∈ q, 128 ≤ d.toNat := fun d hd => by
    obtain ⟨i, hi, rfl⟩ := List.getElem_of_mem hd
    have := h i (by simp; omega)
    simpa [List.getD, List.getElem?_append_left hi, hi] using this
  have hq : q ≠ [] → (q.getD 0 0).toNat ≠ 128 := fun hne => by
    have hp : 0 < q.length := List.length_pos_iff.2 hne
    rwa [getD_app hp] at h2
  rw [sepL, valS_snoc, show (valS q * 128 + c.toNat % 128) / 128 = valS q by omega, show (valS q * 128 + c.toNat % 128) % 128 = c.toNat by omega, sep_run q hb hq, UInt8.ofNat_toNat]
theorem runLen_mid : ∀ (l : List UInt8) (i : Nat), i + 1 < runLen l → 128 ≤ (l.getD i 0).toNat
  | [], i, h => by simp [runLen] at h
  | c :: l, i, h => by
    rw [runLen] at h
    split at h
    · omega
    · cases i with
      | zero => simp; omega
      | succ i => simpa using runLen_mid l i (by omega)
theorem num_back {b : List UInt8} {most n : Nat} (hb : b ≠ []) (h : numM (b.take (runLen b)) most = (n, 0)) : sepL n = b.take (runLen b) ∧ n ≤ most := by
  unfold numM at h
  have hp := runLen_pos hb
  have hle := runLen_le b
  have hlen : (b.take (runLen b)).length = runLen b := by simp; omega
  split at h
  · simp at h
  split at h
  · simp at h
  split at h
  · simp at h
  simp at h
  subst h
  refine ⟨sep_runL (by intro e; rw [e] at hlen; simp at hlen; omega) (fun i hi => ?_) (by omega) (by assumption), by omega⟩
  rw [hlen] at hi
  have := runLen_mid b i hi
  simpa [List.getD, List.getElem?_take, show i < runLen b by omega] using this
theorem nums_back : ∀ (k : Nat) (b : List UInt8) (most : Nat) (l : List Nat), b.length ≤ k → numsM most b = (l, 0) → (l.map sepL).flatten = b ∧ (∀ n ∈ l.drop 1, n ≤ 2147483647) ∧ (∀ n, l.head? = some n → n ≤ most) ∧ (b ≠ [] → l ≠ []) := by
  intro k
  induction k with
  | zero =>
    intro b most l hk h
    have : b = [] := List.length_eq_zero_iff.1 (by omega)
    subst this
    rw [numsM] at h
    simp at h
    subst h
    simp
  | succ k ih =>
    intro b most l hk h
    by_cases hb : b = []
    · subst hb
      rw [numsM] at h
      simp at h
      subst h
      simp
    · rw [numsM, dif_neg hb] at h
      split at h
      · rename_i h1; simp at h; exact absurd h.2 h1
      rename_i h1
      split at h
      · rename_i h2; simp at h; exact absurd h.2 h2
      rename_i h2
      have hp := runLen_pos hb
      have hl := List.length_pos_iff.2 hb
      obtain ⟨l', hl'⟩ : ∃ l', numsM 2147483647 (b.drop (runLen b)) = (l', 0) := ⟨_, Prod.ext rfl (by simpa using h2)⟩
      obtain ⟨h3, h4, h5, _⟩ := ih (b.drop (runLen b)) 2147483647 l' (by simp; omega) hl'
      obtain ⟨n, hn⟩ : ∃ n, numM (b.take (runLen b)) most = (n, 0) := ⟨_, Prod.ext rfl (by simpa using h1)⟩
      obtain ⟨h6, h7⟩ := num_back hb hn
      rw [hl', hn] at h
      simp at h
      subst h
      refine ⟨?_, ?_, ?_, fun _ => by simp⟩
      · rw [List.map_cons, List.flatten_cons, h3, h6, List.take_append_drop]
      · intro m hm
        cases l' with
        | nil => simp at hm
        | cons x r =>
          simp at hm
          rcases hm with rfl | hm
          · exact h5 _ rfl
          · exact h4 m (by simpa using hm)
      · intro m hm; simp at hm; omega
theorem put_get {b : List UInt8} {l : List Int} (h : getA b = (l, 0)) : putA l = b ∧ rightA l = true := by
  unfold getA at h
  split at h
  · simp at h
  rename_i hb
  split at h
  · rename_i h1; simp at h; exact absurd h.2 h1
  rename_i h1
  split at h
  · simp at h
  rename_i h2
  simp at h
  have hr : rightA (arcsOf (numsM 2147483727 b).1) = true := by simpa using h2
  obtain ⟨ns, hns⟩ : ∃ ns, numsM 2147483727 b = (ns, 0) := ⟨_, Prod.ext rfl (by simpa using h1)⟩
  obtain ⟨h3, h4, h5, h6⟩ := nums_back b.length b _ ns (Nat.le_refl _) hns
  rw [hns] at h hr
  subst h
  refine ⟨?_, hr⟩
  cases ns with
  | nil => exact absurd rfl (h6 hb)
  | cons n r =>
    rw [← h3]
    show sepL _ ++ _ = _
    simp only [arcsOf, List.getD_cons_zero, List.getD_cons_succ, List.drop_succ_cons, List.drop_zero, List.map_cons, List.flatten_cons]
    refine congr (congrArg _ (congrArg _ ?_)) (congrArg _ ?_)
    · omega
    · rw [List.map_map]
      refine List.map_congr_left fun x _ => ?_
      simp
theorem isFig_iff (c : UInt8) : isFig c = (decide (48 ≤ c.toNat) && decide (c.toNat ≤ 57)) := rfl
theorem figM_back {p : List UInt8} (h : (figM p).2 = 0) : dec (figM p).1 = p := by
  rw [figM_ref] at h ⊢
  split at h
  · rename_i h1
    rw [if_pos h1]
    exact h1.2.2.2
  · simp at h

/-! ### texts of arcs -/
def textL (l : List Int) : List UInt8 := joinC 46 (l.map fun n => dec n.toNat)
theorem dec_free (n : Nat) : (46 : UInt8) ∉ dec n := fun h => by
  have := List.all_eq_true.1 (dec_figs n) _ h
  rw [isFig_iff] at this
  simp at this
theorem ok_dec {n : Int} (h0 : 0 ≤ n) (h : n ≤ 2147483647) : okP (dec n.toNat) = true ∧ valP (dec n.toNat) = n := by
  have h1 := figM_dec (n := n.toNat) (by omega)
  have h2 := dec_len 9 n.toNat (by omega)
  simp only [okP, valP, h1]
  refine ⟨by simp; omega, by show ((n.toNat : Nat) : Int) = n; omega⟩
theorem parse_text {l : List Int} (h : rightA l = true) : parseM (textL l) = (l, 0) := by
  obtain ⟨h1, h2, h3, h4, h5⟩ := right_at h
  have hs : splitC 46 (textL l) = l.map fun n => dec n.toNat := split_join (by cases l <;> simp at h1 ⊢) (fun p hp => by
    obtain ⟨n, _, rfl⟩ := List.mem_map.1 hp
    exact dec_free _)
  have ho : ((l.map fun n => dec n.toNat).all okP) = true := by
    rw [List.all_eq_true]
    intro p hp
    obtain ⟨n, hn, rfl⟩ := List.mem_map.1 hp
    exact (ok_dec (h3 n hn).1 (h3 n hn).2).1
  have hv : (l.map fun n => dec n.toNat).map valP = l := by
    rw [List.map_map]
    refine (List.map_congr_left fun n hn => ?_).trans (List.map_id _)
    exact (ok_dec (h3 n hn).1 (h3 n hn).2).2
  unfold parseM
  rw [hs, ho, hv, h]
  simp
theorem parse_right {s : List UInt8} {l : List Int} (h : parseM s = (l, 0)) : rightA l = true ∧ (splitC 46 s).all okP = true ∧ l = (splitC 46 s).map valP := by
  unfold parseM at h
  split at h
  · simp at h
  rename_i h1
  split at h
  · simp at h
  rename_i h2
  simp at h
  subst h
  exact ⟨by simpa using h2, by simpa using h1, rfl⟩
theorem text_parse {s : List UInt8} {l : List Int} (h : parseM s = (l, 0)) : textL l = s := by
  obtain ⟨h1, h2, rfl⟩ := parse_right h
  unfold textL
  rw [List.map_map]
  have : (splitC 46 s).map ((fun n => dec n.toNat) ∘ valP) = splitC 46 s := by
    refine (List.map_congr_left fun p hp => ?_).trans (List.map_id _)
    have h3 := List.all_eq_true.1 h2 p hp
    simp only [okP, Bool.and_eq_true, decide_eq_true_eq] at h3
    exact figM_back h3.1
  rw [this, join_split]
theorem parse_bd (s : List UInt8) : (parseM s).2 ≤ 4 := by
  unfold parseM; split <;> (try split) <;> simp
theorem parse_err {s : List UInt8} (h : (parseM s).2 ≠ 0) : (parseM s).1 = [] := by
  unfold parseM at h ⊢
  split <;> (try split) <;> simp_all
/-! ### their order -/
def cmpA : List Int → List Int → Int
  | [], [] => 0
  | [], _ :: _ => -1
  | _ :: _, [] => 1
  | a :: l, b :: r => if a < b then -1 else if b < a then 1 else cmpA l r
theorem cmpA_bd : ∀ l r : List Int, -1 ≤ cmpA l r ∧ cmpA l r ≤ 1
  | [], [] => by simp [cmpA]
  | [], _ :: _ => by simp [cmpA]
  | _ :: _, [] => by simp [cmpA]
  | a :: l, b :: r => by
    rw [cmpA]
    split
    · omega
    split
    · omega
    exact cmpA_bd l r
theorem cmpA_neg : ∀ l r : List Int, cmpA r l = -cmpA l r
  | [], [] => by simp [cmpA]
  | [], _ :: _ => by simp [cmpA]
  | _ :: _, [] => by simp [cmpA]
  | a :: l, b :: r => by
    rw [cmpA, cmpA, cmpA_neg l r]
    split <;> split <;> (try split) <;> omega
theorem cmpA_trans : ∀ l r q : List Int, cmpA l r ≤ 0 → cmpA r q ≤ 0 → cmpA l q ≤ 0
  | [], _, [], _, _ => by simp [cmpA]
  | [], _, _ :: _, _, _ => by simp [cmpA]
  | _ :: _, [], _, h, _ => by simp [cmpA] at h
  | _ :: _, _ :: _, [], _, h => by simp [cmpA] at h
  | a :: l, b :: r, c :: q, h1, h2 => by
    have ih := cmpA_trans l r q
    rw [cmpA] at h1 h2 ⊢
    split at h1
    · split at h2
      · rw [if_pos (by omega)]; omega
      · split at h2
        · omega
        · rw [if_pos (by omega)]; omega
    · split at h1
      · omega
      · split at h2
        · rw [if_pos (by omega)]; omega
        · split at h2
          · omega
          · rw [if_neg (by omega), if_neg (by omega)]
            exact ih h1 h2
theorem cmpA_drop {l r : List Int} {i : Nat} (h1 : i < l.length) (h2 : i < r.length) : cmpA (l.drop i) (r.drop i) = if l.getD i 0 < r.getD i 0 then -1 else if r.getD i 0 < l.getD i 0 then 1 else cmpA (l.drop (i + 1)) (r.drop (i + 1)) := by
  rw [List.drop_eq_getElem_cons h1, List.drop_eq_getElem_cons h2, cmpA]
  simp [List.getD, h1, h2]
/-- does an identifier begin with another one -/
def underA (x y : List Int) : Bool := decide (y.length ≤ x.length) && decide (x.take y.length = y)
end Am
end Go.Proofs.YtghgbhekjgincaaDoor
