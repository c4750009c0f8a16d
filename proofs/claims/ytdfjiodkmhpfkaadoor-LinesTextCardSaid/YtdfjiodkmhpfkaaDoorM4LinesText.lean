/- What the law leans on, part 4: P38b, SlB, W04s, W38, W23f, W23g, W23h, Err, Num, NumC, L23, W23i, W23j, W38b, W38d, W38e, W05, W05b, W38f, W38g, P38c, W38c, W38h -/
import Derived.Test.YtdfjiodkmhpfkaaDoorM3LinesText
import Derived.Stop.Asserts
import Derived.RowKitTokens

/- Chapter 38, plain: ops, fields, lines. -/
namespace Go.Proofs.YtdfjiodkmhpfkaaDoor
set_option linter.unusedVariables false
namespace Am
set_option maxRecDepth 100000

structure Op38 where
  k : Int
  n : Int
  m : Int
  bits : Nat
  b : List UInt8
  what : Int
  cred : List UInt8
  kd : Int
  sp : List UInt8
  nm : List UInt8
  mb : List UInt8
  mn : Int
  mm : Int
  tx : List UInt8
def op0 : Op38 := ⟨0, 0, 0, 0, [], 0, [], 0, [], [], [], 0, 0, []⟩
/-- where a letter's number, text, bytes lie -/
def numK (c : UInt8) : Option Nat := if c = 110 then some 1 else if c = 109 then some 2 else if c = 87 then some 5 else if c = 75 then some 7 else if c = 78 then some 11 else if c = 77 then some 12 else none
def txtK (c : UInt8) : Option Nat := if c = 83 then some 8 else if c = 65 then some 9 else if c = 84 then some 13 else none
def rawK (c : UInt8) : Nat := if c = 66 then 10 else 4
def setN (o : Op38) (c : UInt8) (v : Int) : Op38 := if c = 110 then { o with n := v } else if c = 109 then { o with m := v } else if c = 87 then { o with what := v } else if c = 75 then { o with kd := v } else if c = 78 then { o with mn := v } else { o with mm := v }
def setX (o : Op38) (c : UInt8) (v : List UInt8) : Op38 := if c = 83 then { o with sp := v } else if c = 65 then { o with nm := v } else if c = 84 then { o with tx := v } else if c = 66 then { o with mb := v } else { o with b := v }
/-- a field from a word -/
def hear1 (o : Op38) (c : UInt8) (w : List UInt8) : Op38 × Nat :=
  if c = 117 then ({ o with bits := (figM w).1 }, (figM w).2)
  else if (numK c).isSome then (setN o c (numD w).1, (numD w).2)
  else if (hexD w).2 ≠ 0 then (o, (hexD w).2) else (setX o c (hexD w).1, 0)
def hearAll : Op38 → List UInt8 → List (List UInt8) → Op38 × Nat
  | o, [], _ => (o, 0)
  | o, c :: cs, ws => if (hear1 o c (ws.headD [])).2 ≠ 0 then (op0, (hear1 o c (ws.headD [])).2) else hearAll (hear1 o c (ws.headD [])).1 cs ws.tail
/-- word, kind, letters -/
def formsL : List (List UInt8 × Int × List UInt8) :=
  [([116, 105, 99, 107], 1, [110]), ([115, 101, 110, 100], 2, [110]), ([115, 101, 114, 118, 101], 3, [110]), ([104, 101, 97, 114], 4, [110]),
   ([108, 111, 115, 101], 5, [110, 109]), ([116, 117, 114, 110], 6, [110, 109]), ([116, 119, 105, 99, 101], 7, [110, 109]), ([115, 116, 101, 112], 8, [110, 98]),
   ([114, 97, 119], 9, [98]), ([97, 114, 109], 11, [110]), ([99, 114, 97, 115, 104], 12, [110, 117, 109]), ([99, 111, 109, 112, 97, 99, 116], 13, []),
   ([97, 100, 109, 105, 110], 10, [87, 75, 83, 65, 66, 78, 77, 84])]
def f38 : List UInt8 × Int × List UInt8 := ([], 0, [])
def formAt (i : Nat) : List UInt8 × Int × List UInt8 := formsL.getD i f38
end Am
end Go.Proofs.YtdfjiodkmhpfkaaDoor

/- Slices of the library on bytes and numbers: Index, Contains, Reverse, Clone, Compare. -/
namespace Go.Proofs.YtdfjiodkmhpfkaaDoor
set_option linter.unusedVariables false
namespace Am
variable {gs : List Nat} [OkG gs]
open Go.RowKit
set_option maxRecDepth 100000

theorem isNaN8_ac {gs : List Nat} (c : UInt8) : ACp gs Tryd.prog 115 [.c (.int .u8 (c.toNat : Nat))] (.c (.bool false)) := by
  refine ac_of 6 Tryd.func115 rfl rfl rfl (fun al w0 F0 St0 => ?_)
  refine jcr ?_
  refine jq jrm ?_
  refine seq_nil ?_
  refine jcr ?_
  refine jq jrm ?_
  refine jq jrm ?_
  refine jq jrc ?_
  refine jq jrm ?_
  refine seq_nil ?_
  refine code_ret (jrt (hv := CEnt.bool (by simp)))
def cmp8 (a b : UInt8) : Int := if a.toNat < b.toNat then -1 else if b.toNat < a.toNat then 1 else 0
theorem cmp8_ac {gs : List Nat} (a b : UInt8) : ACp gs Tryd.prog 92 [.c (.int .u8 (a.toNat : Nat)), .c (.int .u8 (b.toNat : Nat))] (.c (.int .i64 (cmp8 a b))) := by
  refine ac_of 20 Tryd.func92 rfl rfl rfl (fun al w0 F0 St0 => ?_)
  refine jcr ?_
  refine jq jrm ?_
  refine seq_nil ?_
  refine jcr ?_
  refine jq jrm ?_
  refine jqe (jecP (isNaN8_ac a) ?_)
  refine jq jrm ?_
  refine seq_nil ?_
  refine jcr ?_
  refine jq jrm ?_
  refine jqe (jecP (isNaN8_ac b) ?_)
  refine jq jrm ?_
  refine seq_nil ?_
  refine jcs ?_
  refine jcr ?_
  refine jq jrm ?_
  refine seq_nil ?_
  refine jcc (fun h43 => ?_) fun h43 => ?_
  · refine jcs ?_
    refine jcr ?_
    refine jq jrm ?_
    refine seq_nil ?_
    refine jcc (fun h44 => ?_) fun h44 => ?_
    · refine jcr ?_
      refine jq jrm ?_
      refine seq_nil ?_
      refine code_ret (jtr (jtr (jrt (hv := ?_))))
      first | (exfalso; simp at *; done) | (refine CEnt.int ?_; unfold cmp8; split <;> first | omega | (split <;> omega))
    refine code_skip (jtn ?_)
    refine jcr ?_
    refine jq jrm ?_
    refine seq_nil ?_
    refine code_ret (jtr (jrt (hv := ?_)))
    first | (exfalso; simp at *; done) | (refine CEnt.int ?_; unfold cmp8; split <;> first | omega | (split <;> omega))
  refine code_skip (jtn ?_)
  refine jcs ?_
  refine jcr ?_
  refine jq jrm ?_
  refine seq_nil ?_
  refine jcc (fun h49 => ?_) fun h49 => ?_
  · refine jcr ?_
    refine jq jrm ?_
    refine seq_nil ?_
    refine code_ret (jtr (jrt (hv := ?_)))
    first | (exfalso; simp at *; done) | (refine CEnt.int ?_; unfold cmp8; split <;> first | omega | (split <;> omega))
  refine code_skip (jtn ?_)
  refine jcs ?_
  refine jcr ?_
  refine jq jrm ?_
  refine jq jrm ?_
  refine jq jrc ?_
  refine seq_nil ?_
  refine jcc (fun h52 => ?_) fun h52 => ?_
  · refine jcr ?_
    refine jq jrm ?_
    refine seq_nil ?_
    refine code_ret (jtr (jrt (hv := ?_)))
    first | (exfalso; simp at *; done) | (refine CEnt.int ?_; unfold cmp8; split <;> first | omega | (split <;> omega))
  refine code_skip (jtn ?_)
  refine jcs ?_
  refine jcr ?_
  refine jq jrm ?_
  refine jq jrm ?_
  refine jq jrc ?_
  refine seq_nil ?_
  refine jcc (fun h55 => ?_) fun h55 => ?_
  · refine jcr ?_
    refine jq jrm ?_
    refine seq_nil ?_
    refine code_ret (jtr (jrt (hv := ?_)))
    first | (exfalso; simp at *; done) | (refine CEnt.int ?_; unfold cmp8; split <;> first | omega | (split <;> omega))
  refine code_skip (jtn ?_)
  refine jcr ?_
  refine jq jrm ?_
  refine seq_nil ?_
  refine code_ret (jrt (hv := ?_))
  first | (exfalso; simp at *; done) | (refine CEnt.int ?_; unfold cmp8; split <;> first | omega | (split <;> omega))
/-- bytes in order -/
def cmpL : List UInt8 → List UInt8 → Int
  | [], [] => 0
  | [], _ :: _ => -1
  | _ :: _, [] => 1
  | a :: l, b :: r => if cmp8 a b ≠ 0 then cmp8 a b else cmpL l r
theorem cmpL_lt : ∀ l r : List UInt8, decide (cmpL l r < 0) = Op.bytesLess l r
  | [], [] => by simp [cmpL, Op.bytesLess]
  | [], _ :: _ => by simp [cmpL, Op.bytesLess]
  | _ :: _, [] => by simp [cmpL, Op.bytesLess]
  | a :: l, b :: r => by
    have ih := cmpL_lt l r
    rw [cmpL, Op.bytesLess, ← ih]
    have h1 : (a < b) ↔ a.toNat < b.toNat := UInt8.lt_iff_toNat_lt
    have h2 : (a = b) ↔ a.toNat = b.toNat := UInt8.toNat_inj.symm
    rw [Bool.eq_iff_iff]
    simp only [decide_eq_true_eq, Bool.or_eq_true, Bool.and_eq_true, beq_iff_eq, h1, h2]
    by_cases h3 : a.toNat < b.toNat
    · simp [cmp8, h3]
    · by_cases h4 : b.toNat < a.toNat
      · simp [cmp8, h3, h4]
        omega
      · have h5 : a.toNat = b.toNat := by omega
        simp [cmp8, h5]
theorem cmpL_eq : ∀ l r : List UInt8, cmpL l r = 0 ↔ l = r
  | [], [] => by simp [cmpL]
  | [], _ :: _ => by simp [cmpL]
  | _ :: _, [] => by simp [cmpL]
  | a :: l, b :: r => by
    have ih := cmpL_eq l r
    have h2 : (a = b) ↔ a.toNat = b.toNat := UInt8.toNat_inj.symm
    rw [cmpL, List.cons.injEq, h2]
    by_cases h3 : a.toNat < b.toNat
    · simp [cmp8, h3]
      omega
    · by_cases h4 : b.toNat < a.toNat
      · simp [cmp8, h3, h4]
        omega
      · have h5 : a.toNat = b.toNat := by omega
        simp [cmp8, h5, ih]
theorem cmpL_bd (l r : List UInt8) : -1 ≤ cmpL l r ∧ cmpL l r ≤ 1 := by
  induction l generalizing r with
  | nil => cases r <;> simp [cmpL]
  | cons a l ih =>
    cases r with
    | nil => simp [cmpL]
    | cons b r =>
      rw [cmpL]
      split
      · unfold cmp8; split <;> first | omega | (split <;> omega)
      · exact ih r
theorem cmpL_drop {l r : List UInt8} {i : Nat} (h1 : i < l.length) (h2 : i < r.length) : cmpL (l.drop i) (r.drop i) = if cmp8 (l.getD i 0) (r.getD i 0) ≠ 0 then cmp8 (l.getD i 0) (r.getD i 0) else cmpL (l.drop (i + 1)) (r.drop (i + 1)) := by
  rw [List.drop_eq_getElem_cons h1, List.drop_eq_getElem_cons h2, cmpL]
  simp [List.getD, h1, h2]
theorem compare8_ac {gs : List Nat} (l r : List UInt8) : ACp gs Tryd.prog 58 [bsC l, bsC r] (.c (.int .i64 (cmpL l r))) := by
  refine ac_len 0 rfl fun hlen => ?_
  refine ac_of 36 Tryd.func58 rfl rfl rfl (fun al w0 F0 St0 => ?_)
  refine jcr ?_
  refine jq jrm ?_
  refine seq_nil ?_
  refine jcs ?_
  refine jcr ?_
  refine jq jrm ?_
  refine jq jrl ?_
  refine jq jrm ?_
  refine seq_nil ?_
  refine code_block ?_
  refine l_loop (α := Nat) [4, 5, 6, 7, 8, 11, 12, 13, 14, 15, 16, 17, 18, 19, 20, 21, 22, 23, 24, 25, 26, 27, 28, 29, 30] (fun i => [(11, .c (.int .i64 (i : Nat)))]) (fun _ => []) (fun i => i ≤ l.length ∧ i ≤ r.length ∧ cmpL (l.drop i) (r.drop i) = cmpL l r) (fun i => l.length - i) (0) ?_ (fun _ => rfl) ?_ ?_ ?_
  · exact ⟨by omega, by omega, rfl⟩
  · (repeat (first | exact EntE.nil | refine EntE.cons (CEnt.refl _) ?_ | refine EntE.cons (CEnt.int (by omega)) ?_))
  · (repeat (first | exact HEnt.nil | refine HEnt.same ?_ | refine HEnt.blk rfl (fun j hj => by rcases j with _|_|_|_|_|_|_|_|j <;> first | exact CEnt.refl _ | exact CEnt.int (by omega) | omega) ?_))
  · rintro i ⟨hi, hj, he⟩
    refine jcr ?_
    refine jq jrc ?_
    refine seq_nil ?_
    refine jcs ?_
    refine jcc (fun h58 => ?_) fun h58 => ?_
    rotate_left
    · refine code_exit (jte (jte (jbx (jtn ?_))))
      refine jcs ?_
      refine jcr ?_
      refine jq jrm ?_
      refine jq jrl ?_
      refine jq jrm ?_
      refine jq jrl ?_
      refine jq jrc ?_
      refine seq_nil ?_
      refine jcc (fun h67 => ?_) fun h67 => ?_
      · refine jcr ?_
        refine jq jrm ?_
        refine seq_nil ?_
        refine code_ret (jtr (jrt (hv := ?_)))
        refine CEnt.int ?_
        have h1 : l.drop i = [] := List.drop_eq_nil_of_le (by omega)
        rw [← he, h1]
        first | (rw [List.drop_eq_nil_of_le (show r.length ≤ i by omega)]; rfl) | (rw [List.drop_eq_getElem_cons (show i < r.length by omega)]; rfl)
      refine code_skip (jtn ?_)
      refine jcr ?_
      refine jq jrm ?_
      refine seq_nil ?_
      refine code_ret (jrt (hv := ?_))
      refine CEnt.int ?_
      have h1 : l.drop i = [] := List.drop_eq_nil_of_le (by omega)
      rw [← he, h1]
      first | (rw [List.drop_eq_nil_of_le (show r.length ≤ i by omega)]; rfl) | (rw [List.drop_eq_getElem_cons (show i < r.length by omega)]; rfl)
    refine code_skip (jtn ?_)
    refine jcs ?_
    refine code_block ?_
    refine jcr ?_
    refine jq jrm ?_
    refine jq jri ?_
    first | refine jqo jrdo ?_ | refine jq jrdr ?_
    refine jq jrm ?_
    refine jq jrm ?_
    refine seq_nil ?_
    refine jcs ?_
    refine jcr ?_
    refine jq jrm ?_
    refine jq jrm ?_
    refine jq jrl ?_
    refine jq jrc ?_
    refine seq_nil ?_
    refine jcc (fun h59 => ?_) fun h59 => ?_
    · refine jcr ?_
      refine jq jrm ?_
      refine seq_nil ?_
      refine code_ret (jtr (jbr (jtr (jtr (jbr (jtr (jrt (hv := ?_))))))))
      refine CEnt.int ?_
      have : r.drop i = [] := List.drop_eq_nil_of_le (by omega)
      rw [← he, this, List.drop_eq_getElem_cons (by omega)]
      rfl
    refine code_skip (jtn ?_)
    refine jcr ?_
    refine jq jrm ?_
    refine jq jrm ?_
    refine jq jri ?_
    first | refine jqo jrdo ?_ | refine jq jrdr ?_
    refine jq jrm ?_
    refine seq_nil ?_
    refine jcr ?_
    refine jq jrm ?_
    refine jq jrm ?_
    refine jqe (jecP (cmp8_ac (l.getD i 0) (r.getD i 0)) ?_)
    refine jq jrm ?_
    refine seq_nil ?_
    refine jcr ?_
    refine jq jrm ?_
    refine jq jrc ?_
    refine seq_nil ?_
    refine jcc (fun h63 => ?_) fun h63 => ?_
    · refine jcr ?_
      refine jq jrm ?_
      refine jq jrm ?_
      refine seq_nil ?_
      refine code_ret (jbr (jtr (jtr (jbr (jtr (jrt (hv := ?_)))))))
      refine CEnt.int ?_
      rw [← he, cmpL_drop (l := l) (r := r) (i := i) (by omega) (by omega), if_pos h63]
    refine code_skip (jbn (jtn ?_))
    refine jcg ?_
    refine jq jra ?_
    refine jq jrm ?_
    refine seq_nil ?_
    refine jtn ?_
    refine jlend (i + 1) ?_ ?_
    · exact ⟨by omega, by omega, by rw [← he, cmpL_drop (l := l) (r := r) (i := i) (by omega) (by omega), if_neg h63]⟩
    · omega

/-- where a number first stands -/
def idxI (l : List Int) (x : Int) : Int := if x ∈ l then (l.idxOf x : Nat) else -1
/-- a list, turned at its ends up to i -/
def revJ (l : List UInt8) (i : Nat) : List UInt8 := (List.range l.length).map fun j => if j < i ∨ l.length ≤ j + i then l.reverse.getD j 0 else l.getD j 0
theorem revJ_len (l : List UInt8) (i : Nat) : (revJ l i).length = l.length := by simp [revJ]
theorem revJ_get {l : List UInt8} {i j : Nat} (h : j < l.length) : (revJ l i).getD j 0 = if j < i ∨ l.length ≤ j + i then l.reverse.getD j 0 else l.getD j 0 := by simp [revJ, List.getD, h]
theorem rev_get {l : List UInt8} {j : Nat} (h : j < l.length) : l.reverse.getD j 0 = l.getD (l.length - 1 - j) 0 := by
  simp [List.getD, List.getElem?_reverse h, show l.length - 1 - j < l.length by omega]
theorem revJ_all {l : List UInt8} {i : Nat} (h : l.length ≤ 2 * i + 1) : revJ l i = l.reverse := by
  apply List.ext_getElem
  · simp [revJ]
  · intro j h1 h2
    have hj : j < l.length := by simpa using h2
    have e := revJ_get (i := i) hj
    simp only [List.getD_eq_getElem?_getD, List.getElem?_eq_getElem h1, List.getElem?_eq_getElem h2, List.getElem?_eq_getElem hj, Option.getD_some] at e
    rw [e]
    split
    · rfl
    · have : j = l.length - 1 - j := by omega
      rw [List.getElem_reverse]
      congr 1
theorem revJ_zero (l : List UInt8) : revJ l 0 = l := by
  apply List.ext_getElem
  · simp [revJ]
  · intro j h1 h2
    have e := revJ_get (i := 0) h2
    simp only [List.getD_eq_getElem?_getD, List.getElem?_eq_getElem h1, List.getElem?_eq_getElem h2, Option.getD_some] at e
    rw [e, if_neg (by omega)]
def OwnL (g : Option Nat) (l : List UInt8) : CV → List (Option Nat × Res) → Prop := fun r H' => r = .c (.tuple #[]) ∧ H' = [(g, .blk l.length (byF l))]
theorem reverse8_ac {gs : List Nat} (g : Option Nat) (l : List UInt8) (hl : l.length ≤ 100000000000) : AC gs Tryd.prog 62 [(g, .blk l.length (byF l))] [.os 0 g 0 l.length 1] (OwnL g l.reverse) := by
  refine ac_of 28 Tryd.func62 rfl rfl rfl (fun al w0 F0 St0 => ?_)
  refine jcr ?_
  refine jq jrm ?_
  refine jq jrl ?_
  refine jq jra ?_
  refine jq jrm ?_
  refine jq jrm ?_
  refine seq_nil ?_
  refine code_block ?_
  refine l_loop (α := Nat) [2, 3, 7, 8, 9, 10, 11, 12, 13, 14, 15, 16, 17, 18, 19, 20, 21, 22, 23, 24, 25, 26, 27] (fun i => [(2, .c (.int .i64 (i : Nat))), (3, .c (.int .i64 ((l.length : Int) - 1 - i)))]) (fun i => [(g, .blk l.length (byF (revJ l i)))]) (fun i => 2 * i ≤ l.length + 1) (fun i => l.length - i) (0) ?_ (fun _ => rfl) ?_ ?_ ?_
  · show 2 * 0 ≤ l.length + 1; omega
  · exact .cons (CEnt.refl _) (.cons (CEnt.int (by omega)) .nil)
  · exact .blk rfl (fun j hj => by rw [revJ_zero]; exact CEnt.refl _) .nil
  · rintro i (hi : 2 * i ≤ l.length + 1)
    refine jcs ?_
    refine jcr ?_
    refine jq jrm ?_
    refine jq jrm ?_
    refine jq jrc ?_
    refine seq_nil ?_
    refine jcc (fun h484 => ?_) fun h484 => ?_
    rotate_left
    · refine code_exit (jte (jte (jbx ?_)))
      exact end_own (.inr rfl) _ _ [0] (by decide) rfl (res_0 rfl) ⟨rfl, by show [(g, Res.blk l.length (byF (revJ l i)))] = _; rw [revJ_all (by omega), List.length_reverse]⟩
    refine code_skip (jtn ?_)
    refine jcs ?_
    refine code_block ?_
    refine jcdZ (.rd 0 (.rd 1 (.rd 2 (.rd 3 (.rd 4 (.rd 5 (.rd 6 (.rd 7 (.rd 8 (.rd 9 (.rd 10 (.rd 11 (.rd 12 (.one 13 (.rd 14 (.one 15 .done)))))))))))))))) ?_
    refine jzq jrm ?_
    refine jzq jrm ?_
    refine jzq jrm ?_
    refine jzq jrm ?_
    refine jzq jrm ?_
    refine jzq jrm ?_
    refine jzq (jri (i := (l.length - 1 - i)) (hz := by first | omega | (simp only [List.length_append, List.length_cons, List.length_nil]; omega))) ?_
    first | refine jzo jrdo ?_ | refine jzq jrdr ?_
    refine jzq jrm ?_
    refine jzq jrm ?_
    refine jzq (jri (i := i) (hz := by first | omega | (simp only [List.length_append, List.length_cons, List.length_nil]; omega))) ?_
    first | refine jzo jrdo ?_ | refine jzq jrdr ?_
    refine jzq (jri (i := i) (hz := by first | omega | (simp only [List.length_append, List.length_cons, List.length_nil]; omega))) ?_
    refine jzm (jmst 1 ?_)
    refine jzq (jri (i := (l.length - 1 - i)) (hz := by first | omega | (simp only [List.length_append, List.length_cons, List.length_nil]; omega))) ?_
    refine jzm (jmst 1 ?_)
    refine jzd ?_
    refine jbn (jtn ?_)
    refine jcg ?_
    refine jq jrm ?_
    refine jq jra ?_
    refine jq jrm ?_
    refine jq jra ?_
    refine jq jrm ?_
    refine jq jrm ?_
    refine seq_nil ?_
    refine jtn ?_
    refine jlend (i + 1) ?_ ?_ (h7 := ?_)
    · show 2 * (i + 1) ≤ l.length + 1; omega
    · omega
    · exact .blk rfl (fun j hj => by
        refine (CEnt.of_eq (updF_one _ _ _ j)).trans ?_
        have hj : j < l.length := hj
        have e3 := revJ_get (i := i + 1) hj
        have ri := @rev_get l i (by omega)
        have rj := @rev_get l (l.length - 1 - i) (by omega)
        have ei := @revJ_get l i i (by omega)
        have ej := @revJ_get l i (l.length - 1 - i) (by omega)
        rw [if_neg (by omega)] at ei ej
        rw [show l.length - 1 - (l.length - 1 - i) = i by omega] at rj
        show CEnt (if j = _ then _ else updF (byF (revJ l i)) i [_] j) _
        rw [updF_one]
        unfold byF
        by_cases h1 : j = l.length - 1 - i
        · rw [if_pos h1]
          subst h1
          exact CEnt.int (by rw [ei, e3, if_pos (.inr (by omega)), rj])
        · rw [if_neg h1]
          by_cases h2 : j = i
          · rw [if_pos h2]
            subst h2
            exact CEnt.int (by rw [ej, e3, if_pos (.inl (by omega)), ri])
          · rw [if_neg h2]
            have e0 := revJ_get (i := i) hj
            refine CEnt.int ?_
            rw [e0, e3]
            by_cases h3 : j < i ∨ l.length ≤ j + i
            · rw [if_pos h3, if_pos (by omega)]
            · rw [if_neg h3, if_neg (by omega)]) .nil
end Am
end Go.Proofs.YtdfjiodkmhpfkaaDoor

/- Chapter 4 in the abstract walk: figures and their numbers. -/
namespace Go.Proofs.YtdfjiodkmhpfkaaDoor
set_option linter.unusedVariables false
namespace Am
variable {gs : List Nat} [Ok2 gs]
open Go.RowKit
set_option maxRecDepth 100000

theorem wser_ac {gs : List Nat} (N : Nat) (hN : N ≤ 9223372036854775807) : ACp gs Tryd.prog 61 [.c (.int .i64 (N : Nat))] (strC (dec N)) := by
  have hdl := dec_len 18 N (by omega)
  refine ac_of 28 Tryd.func61 rfl rfl rfl (fun al w0 F0 St0 => ?_)
  refine jcr ?_
  refine jq jrm ?_
  refine seq_nil ?_
  refine jcs ?_
  refine jcr ?_
  refine jq jrm ?_
  refine jq jrc ?_
  refine seq_nil ?_
  refine jcc (fun h84 => ?_) fun h84 => ?_
  · exfalso; omega
  refine code_skip (jtn ?_)
  refine jcr ?_
  refine jq jrm ?_
  first | refine jq jrr ?_ | refine jq (rd_remT rfl rfl rfl (by (first | omega | decide | (dsimp only at *; omega)))) ?_
  refine jq jra ?_
  first | refine jq (jrv .i64 .u8) ?_ | refine jq (jrvW .i64 .u8) ?_
  refine jqe (jebl 1 1 zr5 fun p1 => ?_)
  refine jq jrm ?_
  refine seq_nil ?_
  refine jcs ?_
  refine jcr ?_
  refine jq jrm ?_
  first | refine jq jrq ?_ | refine jq (rd_quoT rfl rfl rfl (by (first | omega | decide | (dsimp only at *; omega))) _ rfl) ?_
  refine jq jrm ?_
  refine seq_nil ?_
  refine code_block ?_
  refine l_loop (α := Nat × List UInt8 × Option Nat) [0, 3, 13, 14, 15, 16, 17, 18, 19, 20, 21, 22, 23] (fun (m, o, g) => [(0, .c (.int .i64 (m : Nat))), (3, .os 0 g 0 o.length 1)]) (fun (m, o, g) => [(g, .blk o.length (byF o))]) (fun (m, o, g) => m ≤ N ∧ dec N = (if m = 0 then [] else dec m) ++ o.reverse) (fun (m, o, g) => m) ((N / 10, [fig (N % 10)], p1)) ?_ (fun _ => rfl) ?_ ?_ ?_
  · exact ⟨Nat.div_le_self _ _, dec_first N⟩
  · exact .cons (CEnt.int (by omega)) (.cons (CEnt.refl _) .nil)
  · exact .blk rfl (fun j hj => fl_by (l2 := [fig (N % 10)]) (.cons (CEnt.int (fig_int N).symm) .nil) j hj) .nil
  · rintro ⟨m, o, g⟩ ⟨(hm : m ≤ N), hd⟩
    have ho : o.length ≤ 19 := by have := congrArg List.length hd; simp only [List.length_append, List.length_reverse] at this; omega
    refine jcs ?_
    refine jcr ?_
    refine jq jrm ?_
    refine jq jrc ?_
    refine seq_nil ?_
    refine jcc (fun h88 => ?_) fun h88 => ?_
    rotate_left
    · refine code_exit (jte (jte (jbx (jtn ?_))))
      refine jcr ?_
      refine jq jrm ?_
      refine jqm (jmcH 0 (reverse8_ac _ o (by omega)) ?_)
      rintro _ _ ⟨rfl, rfl⟩
      refine ⟨_, _, rfl, CEnt.refl _, ?_⟩
      refine seq_nil ?_
      refine jcr ?_
      refine jq jrm ?_
      first | refine jq jrbs ?_ | refine jqo jrbo ?_ | refine jq jrbn ?_
      refine jq jrm ?_
      refine seq_nil ?_
      refine code_ret (jrt (hv := ?_))
      refine CEnt.strL ?_
      rw [hd, if_pos (by omega)]
      rfl
    refine code_skip (jtn ?_)
    refine jcs ?_
    refine code_block ?_
    refine jcg ?_
    refine jq jrm ?_
    refine jq jrm ?_
    first | refine jq jrr ?_ | refine jq (rd_remT rfl rfl rfl (by (first | omega | decide | (dsimp only at *; omega)))) ?_
    refine jq jra ?_
    first | refine jq (jrv .i64 .u8) ?_ | refine jq (jrvW .i64 .u8) ?_
    refine jqe (jebl 1 1 zr5 fun p2 => ?_)
    refine jqm (m_appendB (l2 := [fig (m % 10)]) rfl rfl rfl (Nat.le_refl _) (fun _ _ => CEnt.refl _) (src_os rfl (.inl rfl) (by decide)) rfl (hh_bytes (.cons (CEnt.int ((fig_int m).symm)) .nil)) Tryd.underlying46 nu46 sz5 zr5 by5 rfl (by first | omega | (simp; done) | (simp; omega) | (simp at *; omega)) (leaf_fl rfl rfl) rfl rfl (fun p3 => ?_))
    refine jq jrm ?_
    refine seq_nil ?_
    refine jbn (jtn ?_)
    refine jcg ?_
    refine jq jrm ?_
    first | refine jq jrq ?_ | refine jq (rd_quoT rfl rfl rfl (by (first | omega | decide | (dsimp only at *; omega))) _ rfl) ?_
    refine jq jrm ?_
    refine seq_nil ?_
    refine jtn ?_
    refine jlend ((m / 10, o ++ [fig (m % 10)], p3)) ?_ ?_ (h5 := ?_)
    · exact ⟨by omega, by rw [hd]; exact dec_step (by omega) o⟩
    · show m / 10 < m; omega
    · exact .cons (CEnt.int (by omega)) (.cons (CEnt.refl _) .nil)
theorem wser_any {gs : List Nat} (n : Int) (h1 : -9223372036854775808 ≤ n) (h2 : n ≤ 9223372036854775807) : ACp gs Tryd.prog 61 [.c (.int .i64 n)] (strC (if n < 0 then [] else dec n.toNat)) := by
  by_cases hn : n < 0
  · rw [if_pos hn]
    refine ac_of 28 Tryd.func61 rfl rfl rfl (fun al w0 F0 St0 => ?_)
    refine jcr ?_
    refine jq jrm ?_
    refine seq_nil ?_
    refine jcs ?_
    refine jcr ?_
    refine jq jrm ?_
    refine jq jrc ?_
    refine seq_nil ?_
    refine jcc (fun h84 => ?_) fun h84 => ?_
    rotate_left
    · exfalso; omega
    refine jcr ?_
    refine jq jrm ?_
    refine seq_nil ?_
    refine code_ret (jtr (jrt (hv := CEnt.refl _)))
  · rw [if_neg hn]
    have := wser_ac (gs := gs) n.toNat (by omega)
    rwa [show ((n.toNat : Nat) : Int) = n by omega] at this
theorem rser_ac {gs : List Nat} (N : Nat) (hN : N ≤ 9223372036854775807) : ACp gs Tryd.prog 63 [.c (.int .i64 (N : Nat))] (strC (dec N)) := by
  induction N using dec_ind with
  | h0 N h =>
    refine ac_of 20 Tryd.func63 rfl rfl rfl (fun al w0 F0 St0 => ?_)
    refine jcr ?_
    refine jq jrm ?_
    refine seq_nil ?_
    refine jcs ?_
    refine jcr ?_
    refine jq jrm ?_
    refine jq jrc ?_
    refine seq_nil ?_
    refine jcc (fun h42 => ?_) fun h42 => ?_
    rotate_left
    · exfalso; omega
    refine jcr ?_
    refine jq jrm ?_
    refine jq jra ?_
    first | refine jq (jrv .i64 .u8) ?_ | refine jq (jrvW .i64 .u8) ?_
    refine jqe (jebl 1 1 zr5 fun p1 => ?_)
    refine seq_ent (freeze 0 rfl) ?_
    refine seq_ent (thawBL 8 ([fig N]) rfl rfl rfl rfl (.cons (CEnt.int ((by rw [fig_toNat _ h]; omega))) .nil)) ?_
    first | refine jq jrbs ?_ | refine jqo jrbo ?_ | refine jq jrbn ?_
    refine jq jrm ?_
    refine seq_nil ?_
    refine code_ret (jtr (jrt (hv := ?_)))
    refine CEnt.strL ?_
    exact (dec_small h).symm
  | h1 N h ih =>
    have hdl := dec_len 18 N (by omega)
    have hdl2 := dec_len 18 (N / 10) (by omega)
    refine ac_of 20 Tryd.func63 rfl rfl rfl (fun al w0 F0 St0 => ?_)
    refine jcr ?_
    refine jq jrm ?_
    refine seq_nil ?_
    refine jcs ?_
    refine jcr ?_
    refine jq jrm ?_
    refine jq jrc ?_
    refine seq_nil ?_
    refine jcc (fun h42 => ?_) fun h42 => ?_
    · exfalso; omega
    refine code_skip (jtn ?_)
    refine jcs ?_
    refine jcd (.rd 0 (.rd 1 (.rd 3 (.rd 4 (.rd 5 (.rd 6 (.two 2 (.one 7 (.rd 8 (.rd 9 (.rd 10 .done)))) 7 (.rd 8 (.one 2 (.rd 9 (.rd 10 .done))))))))))) ?_
    refine jyq jrm ?_
    first | refine jyq (rd_quo rfl rfl rfl (by (first | omega | decide | (simp only [List.length_cons, List.length_nil]; omega))) (by (first | omega | decide | (simp only [List.length_cons, List.length_nil]; omega))) (wrap_id (k := .i64) (by show _ ∧ _; (first | omega | decide | (simp only [List.length_cons, List.length_nil]; omega))))) ?_ | refine jyq (rd_quoT rfl rfl rfl (by (first | omega | decide | (simp only [List.length_cons, List.length_nil]; omega))) _ rfl) ?_
    refine jyq jrm ?_
    first | refine jyq (rd_rem rfl rfl rfl (by (first | omega | decide | (simp only [List.length_cons, List.length_nil]; omega))) (by (first | omega | decide | (simp only [List.length_cons, List.length_nil]; omega)))) ?_ | refine jyq (rd_remT rfl rfl rfl (by (first | omega | decide | (simp only [List.length_cons, List.length_nil]; omega)))) ?_
    refine jyq (jra (hS := by show _ ∧ _; (first | omega | decide | (simp only [List.length_cons, List.length_nil]; omega)))) ?_
    first | refine jyq (jrv .i64 .u8 (hS := by show _ ∧ _; (first | omega | decide | (simp only [List.length_cons, List.length_nil]; omega)))) ?_ | refine jyq (jrvW .i64 .u8) ?_
    refine jytwo ?_ ?_
    · refine jye (jecP (ih (by omega)) ?_ (ho := rfl) (he := (.cons (se rfl (CEnt.int (by omega))) .nil)))
      refine jye (jebl 1 1 zr5 fun p1 => ?_)
      refine x_ent (freeze 0 rfl) ?_
      refine x_ent (thawBL 17 ([fig (N % 10)]) rfl rfl rfl rfl (.cons (CEnt.int ((fig_int N).symm)) .nil)) ?_
      first | refine jyq jrbs ?_ | refine jyo jrbo ?_ | refine jyq jrbn ?_
      refine jyq (jras (hS := by (first | omega | decide | (simp only [List.length_cons, List.length_nil]; omega)))) ?_
      refine jyq jrm ?_
      refine jyd ?_
      refine jtn ?_
      refine code_ret (jrt (hv := ?_))
      refine CEnt.strL ?_
      exact (dec_big h).symm
    · refine jye (jebl 1 1 zr5 fun p1 => ?_)
      refine x_ent (freeze 0 rfl) ?_
      refine x_ent (thawBL 17 ([fig (N % 10)]) rfl rfl rfl rfl (.cons (CEnt.int ((fig_int N).symm)) .nil)) ?_
      first | refine jyq jrbs ?_ | refine jyo jrbo ?_ | refine jyq jrbn ?_
      refine jye (jecP (ih (by omega)) ?_ (ho := rfl) (he := (.cons (se rfl (CEnt.int (by omega))) .nil)))
      refine jyq (jras (hS := by (first | omega | decide | (simp only [List.length_cons, List.length_nil]; omega)))) ?_
      refine jyq jrm ?_
      refine jyd ?_
      refine jtn ?_
      refine code_ret (jrt (hv := ?_))
      refine CEnt.strL ?_
      exact (dec_big h).symm

/-! ### figures -/
theorem isFig_of (c : UInt8) : isFig c = true ↔ 48 ≤ c.toNat ∧ c.toNat ≤ 57 := by simp [isFig]
theorem isFig_yes {c : UInt8} (h1 : 48 ≤ (c.toNat : Int)) (h2 : (c.toNat : Int) ≤ 57) : isFig c = true := (isFig_of c).2 ⟨by omega, by omega⟩
theorem isFig_no {c : UInt8} (h : (c.toNat : Int) < 48 ∨ 57 < (c.toNat : Int)) : isFig c = false := by
  cases e : isFig c with
  | false => rfl
  | true => have := (isFig_of c).1 e; omega
theorem take_figs {l : List UInt8} {i : Nat} (hi : i < l.length) (h : (l.take i).all isFig = true) (hc : isFig (l.getD i 0) = true) : (l.take (i + 1)).all isFig = true := by
  rw [take_snoc l i hi, List.all_append, h, List.all_cons, hc]
  rfl
theorem figM_bad {l : List UInt8} (h : l = [] ∨ (18 : Int) < (l.length : Nat) ∨ ((1 : Int) < (l.length : Nat) ∧ ((l.getD 0 0).toNat : Int) = 48) ∨ l.all isFig = false) : (figM l).1 = 0 ∧ (figM l).2 = 4 := by
  unfold figM
  rw [if_pos (by
    rcases h with h | h | h | h
    · exact .inl (by simp [h])
    · exact .inr (.inl (by omega))
    · exact .inr (.inr (.inl ⟨by omega, by omega⟩))
    · exact .inr (.inr (.inr h)))]
  exact ⟨rfl, rfl⟩
theorem figM_good {l : List UInt8} (h0 : l ≠ []) (h1 : ¬ (18 : Int) < (l.length : Nat)) (h2 : ¬ ((1 : Int) < (l.length : Nat) ∧ ((l.getD 0 0).toNat : Int) = 48)) (h3 : l.all isFig = true) : (figM l).1 = valD l ∧ (figM l).2 = 0 := by
  unfold figM
  rw [if_neg (by
    rintro (h | h | h | h)
    · exact h0 (List.eq_nil_of_length_eq_zero h)
    · exact h1 (by omega)
    · exact h2 ⟨by omega, by omega⟩
    · rw [h3] at h; cases h)]
  exact ⟨rfl, rfl⟩
theorem take_val {l : List UInt8} {i : Nat} (hi : i < l.length) : valD (l.take (i + 1)) = 10 * valD (l.take i) + ((l.getD i 0).toNat - 48) := by
  rw [take_snoc l i hi, valD_append]
theorem wfig_ac (l : List UInt8) : ACp gs Tryd.prog 66 [strC l] (.tup 2 (fl [.c (.int .i64 ((figM l).1 : Nat)), .err (figM l).2])) := by
  refine ac_of 48 Tryd.func66 rfl rfl rfl (fun al w0 F0 St0 => ?_)
  refine jcr ?_
  refine jq jrm ?_
  refine jq jrm ?_
  refine seq_nil ?_
  refine jcs ?_
  refine jcr ?_
  refine jq jrm ?_
  refine jq jrcs ?_
  refine jq jrm ?_
  refine jqsp 9 (fun g97 => ?_) fun g97 => ?_
  · refine jqs ?_
    refine jqs ?_
    refine jqs ?_
    refine jq jrpT ?_
    refine jq jrm ?_
    refine jqs ?_
    refine jqs ?_
    refine jqs ?_
    refine jqs ?_
    refine jqs ?_
    refine jqs ?_
    refine jqs ?_
    refine jqs ?_
    refine jq jrpT ?_
    refine seq_nil ?_
    refine jcT ?_
    refine jcs ?_
    refine jcd (.rd 0 (.rd 1 (.rd 2 .done))) ?_
    refine jyq (jrde 3) ?_
    refine jyq jrm ?_
    refine jyq jrm ?_
    refine jyd ?_
    refine jtn ?_
    refine code_ret (jtr (jrt (hv := ?_)))
    have hb := @figM_bad l (by first | (simp_all; done) | grind)
    exact CEnt.tup2 (CEnt.int (by rw [hb.1]; rfl)) (CEnt.errN hb.2)
  refine jq jrm ?_
  refine jq jrls ?_
  refine jq jrc ?_
  refine jq jrpF ?_
  refine jq jrm ?_
  refine jqsp 14 (fun g97_2 => ?_) fun g97_2 => ?_
  · refine jqs ?_
    refine jqs ?_
    refine jqs ?_
    refine jqs ?_
    refine jqs ?_
    refine jqs ?_
    refine jqs ?_
    refine jqs ?_
    refine jq jrpT ?_
    refine seq_nil ?_
    refine jcT ?_
    refine jcs ?_
    refine jcd (.rd 0 (.rd 1 (.rd 2 .done))) ?_
    refine jyq (jrde 3) ?_
    refine jyq jrm ?_
    refine jyq jrm ?_
    refine jyd ?_
    refine jtn ?_
    refine code_ret (jtr (jrt (hv := ?_)))
    have hb := @figM_bad l (by first | (simp_all; done) | grind)
    exact CEnt.tup2 (CEnt.int (by rw [hb.1]; rfl)) (CEnt.errN hb.2)
  refine jq jrm ?_
  refine jq jrls ?_
  refine jq jrc ?_
  refine jq jrm ?_
  refine jqsp 18 (fun g97_3 => ?_) fun g97_3 => ?_
  rotate_left
  · refine jqs ?_
    refine jqs ?_
    refine jqs ?_
    refine jq jrpF ?_
    refine jq jrpF ?_
    refine seq_nil ?_
    refine jcF ?_
    refine code_skip (jtn ?_)
    refine jcr ?_
    refine jq jrm ?_
    refine seq_nil ?_
    refine jcs ?_
    refine jcr ?_
    refine jq jrm ?_
    refine jq jrls ?_
    refine jq jrm ?_
    refine seq_nil ?_
    refine code_block ?_
    refine l_loop (α := Nat) [2, 3, 4, 5, 6, 27, 28, 29, 30, 31, 32, 33, 34, 35, 36, 37, 38, 39, 40, 41, 42, 43, 44, 45, 46] (fun i => [(4, .c (.int .i64 (valD (l.take i) : Nat))), (27, .c (.int .i64 (i : Nat)))]) (fun _ => []) (fun i => i ≤ l.length ∧ (l.take i).all isFig = true) (fun i => l.length - i) (0) ?_ (fun _ => rfl) ?_ ?_ ?_
    · exact ⟨Nat.zero_le _, rfl⟩
    · (repeat (first | exact EntE.nil | refine EntE.cons (CEnt.refl _) ?_ | refine EntE.cons (CEnt.int (by omega)) ?_))
    · (repeat (first | exact HEnt.nil | refine HEnt.same ?_ | refine HEnt.blk rfl (fun j hj => by rcases j with _|_|_|_|_|_|_|_|j <;> first | exact CEnt.refl _ | exact CEnt.int (by omega) | omega) ?_))
    · rintro i ⟨(hi : i ≤ l.length), hf⟩
      have hl18 : l.length ≤ 18 := by omega
      refine jcr ?_
      refine jq jrc ?_
      refine seq_nil ?_
      refine jcs ?_
      refine jcc (fun h101 => ?_) fun h101 => ?_
      rotate_left
      · refine code_exit (jte (jte (jbx (jtn ?_))))
        refine jcr ?_
        refine jq jrm ?_
        refine jq jrm ?_
        refine jq jrm ?_
        refine seq_nil ?_
        refine code_ret (jrt (hv := ?_))
        have hi2 : i = l.length := by omega
        rw [hi2, List.take_length] at hf
        have hb := figM_good (l := l) (by first | (simp_all; done) | grind) (by first | (simp_all; done) | grind) (by first | (simp_all; done) | grind) hf
        exact CEnt.tup2 (CEnt.int (by rw [hb.1, hi2, List.take_length])) (CEnt.errN hb.2)
      refine code_skip (jtn ?_)
      refine jcs ?_
      refine code_block ?_
      refine jcr ?_
      refine jq jrm ?_
      refine jq jrm ?_
      refine seq_nil ?_
      have hv := valD_lt17 hf (by rw [List.length_take]; omega)
      refine jcr ?_
      refine jq jrm ?_
      refine jq jrm ?_
      refine jq jrix ?_
      refine jq jrm ?_
      refine seq_nil ?_
      refine jcs ?_
      refine jcr ?_
      refine jq jrm ?_
      refine jq jrc ?_
      refine jq jrm ?_
      refine jqsp 35 (fun g103 => ?_) fun g103 => ?_
      · refine jqs ?_
        refine jqs ?_
        refine jq jrpT ?_
        refine seq_nil ?_
        refine jcT ?_
        refine jcs ?_
        refine jcd (.rd 0 (.rd 1 (.rd 2 .done))) ?_
        refine jyq (jrde 3) ?_
        refine jyq jrm ?_
        refine jyq jrm ?_
        refine jyd ?_
        refine jtn ?_
        refine code_ret (jtr (jbr (jtr (jtr (jbr (jtr (jrt (hv := ?_))))))))
        have hb := @figM_bad l (.inr (.inr (.inr (all_of_bad (i := i) (by omega) (by first | exact isFig_no (.inl (by omega)) | exact isFig_no (.inr (by omega)))))))
        exact CEnt.tup2 (CEnt.int (by rw [hb.1]; rfl)) (CEnt.errN hb.2)
      refine jq jrm ?_
      refine jq jrc ?_
      refine jq jrpF ?_
      refine seq_nil ?_
      refine jcc (fun h103 => ?_) fun h103 => ?_
      · refine jcs ?_
        refine jcd (.rd 0 (.rd 1 (.rd 2 .done))) ?_
        refine jyq (jrde 3) ?_
        refine jyq jrm ?_
        refine jyq jrm ?_
        refine jyd ?_
        refine jtn ?_
        refine code_ret (jtr (jbr (jtr (jtr (jbr (jtr (jrt (hv := ?_))))))))
        have hb := @figM_bad l (.inr (.inr (.inr (all_of_bad (i := i) (by omega) (by first | exact isFig_no (.inl (by omega)) | exact isFig_no (.inr (by omega)))))))
        exact CEnt.tup2 (CEnt.int (by rw [hb.1]; rfl)) (CEnt.errN hb.2)
      refine code_skip (jtn ?_)
      refine jcg ?_
      refine jq jrm ?_
      refine jq jra ?_
      refine jq jrm ?_
      refine jq jra ?_
      first | refine jq (jrv8 .i64) ?_ | refine jq (jrv .u8 .i64) ?_ | refine jq (jrvW .u8 .i64) ?_
      refine jq jra ?_
      refine jq jrm ?_
      refine seq_nil ?_
      refine jbn (jtn ?_)
      refine jcg ?_
      refine jq jra ?_
      refine jq jrm ?_
      refine seq_nil ?_
      refine jtn ?_
      refine jlend (i + 1) ?_ ?_ (h5 := ?_)
      · exact ⟨by omega, take_figs (by omega) hf (isFig_yes (by omega) (by omega))⟩
      · show l.length - (i + 1) < l.length - i; omega
      · exact .cons (CEnt.int (by rw [take_val (by omega)]; omega)) (.cons (CEnt.int (by omega)) .nil)
  refine jq jrm ?_
  refine jq (jrix (i := 0)) ?_
  refine jq jrc ?_
  refine jq jrpT ?_
  refine jq jrpF ?_
  refine seq_nil ?_
  refine jcc (fun h97 => ?_) fun h97 => ?_
  · refine jcs ?_
    refine jcd (.rd 0 (.rd 1 (.rd 2 .done))) ?_
    refine jyq (jrde 3) ?_
    refine jyq jrm ?_
    refine jyq jrm ?_
    refine jyd ?_
    refine jtn ?_
    refine code_ret (jtr (jrt (hv := ?_)))
    have hb := @figM_bad l (by first | (simp_all; done) | grind)
    exact CEnt.tup2 (CEnt.int (by rw [hb.1]; rfl)) (CEnt.errN hb.2)
  refine code_skip (jtn ?_)
  refine jcr ?_
  refine jq jrm ?_
  refine seq_nil ?_
  refine jcs ?_
  refine jcr ?_
  refine jq jrm ?_
  refine jq jrls ?_
  refine jq jrm ?_
  refine seq_nil ?_
  refine code_block ?_
  refine l_loop (α := Nat) [2, 3, 4, 5, 6, 27, 28, 29, 30, 31, 32, 33, 34, 35, 36, 37, 38, 39, 40, 41, 42, 43, 44, 45, 46] (fun i => [(4, .c (.int .i64 (valD (l.take i) : Nat))), (27, .c (.int .i64 (i : Nat)))]) (fun _ => []) (fun i => i ≤ l.length ∧ (l.take i).all isFig = true) (fun i => l.length - i) (0) ?_ (fun _ => rfl) ?_ ?_ ?_
  · exact ⟨Nat.zero_le _, rfl⟩
  · (repeat (first | exact EntE.nil | refine EntE.cons (CEnt.refl _) ?_ | refine EntE.cons (CEnt.int (by omega)) ?_))
  · (repeat (first | exact HEnt.nil | refine HEnt.same ?_ | refine HEnt.blk rfl (fun j hj => by rcases j with _|_|_|_|_|_|_|_|j <;> first | exact CEnt.refl _ | exact CEnt.int (by omega) | omega) ?_))
  · rintro i ⟨(hi : i ≤ l.length), hf⟩
    have hl18 : l.length ≤ 18 := by omega
    refine jcr ?_
    refine jq jrc ?_
    refine seq_nil ?_
    refine jcs ?_
    refine jcc (fun h101 => ?_) fun h101 => ?_
    rotate_left
    · refine code_exit (jte (jte (jbx (jtn ?_))))
      refine jcr ?_
      refine jq jrm ?_
      refine jq jrm ?_
      refine jq jrm ?_
      refine seq_nil ?_
      refine code_ret (jrt (hv := ?_))
      have hi2 : i = l.length := by omega
      rw [hi2, List.take_length] at hf
      have hb := figM_good (l := l) (by first | (simp_all; done) | grind) (by first | (simp_all; done) | grind) (by first | (simp_all; done) | grind) hf
      exact CEnt.tup2 (CEnt.int (by rw [hb.1, hi2, List.take_length])) (CEnt.errN hb.2)
    refine code_skip (jtn ?_)
    refine jcs ?_
    refine code_block ?_
    refine jcr ?_
    refine jq jrm ?_
    refine jq jrm ?_
    refine seq_nil ?_
    have hv := valD_lt17 hf (by rw [List.length_take]; omega)
    refine jcr ?_
    refine jq jrm ?_
    refine jq jrm ?_
    refine jq jrix ?_
    refine jq jrm ?_
    refine seq_nil ?_
    refine jcs ?_
    refine jcr ?_
    refine jq jrm ?_
    refine jq jrc ?_
    refine jq jrm ?_
    refine jqsp 35 (fun g103 => ?_) fun g103 => ?_
    · refine jqs ?_
      refine jqs ?_
      refine jq jrpT ?_
      refine seq_nil ?_
      refine jcT ?_
      refine jcs ?_
      refine jcd (.rd 0 (.rd 1 (.rd 2 .done))) ?_
      refine jyq (jrde 3) ?_
      refine jyq jrm ?_
      refine jyq jrm ?_
      refine jyd ?_
      refine jtn ?_
      refine code_ret (jtr (jbr (jtr (jtr (jbr (jtr (jrt (hv := ?_))))))))
      have hb := @figM_bad l (.inr (.inr (.inr (all_of_bad (i := i) (by omega) (by first | exact isFig_no (.inl (by omega)) | exact isFig_no (.inr (by omega)))))))
      exact CEnt.tup2 (CEnt.int (by rw [hb.1]; rfl)) (CEnt.errN hb.2)
    refine jq jrm ?_
    refine jq jrc ?_
    refine jq jrpF ?_
    refine seq_nil ?_
    refine jcc (fun h103 => ?_) fun h103 => ?_
    · refine jcs ?_
      refine jcd (.rd 0 (.rd 1 (.rd 2 .done))) ?_
      refine jyq (jrde 3) ?_
      refine jyq jrm ?_
      refine jyq jrm ?_
      refine jyd ?_
      refine jtn ?_
      refine code_ret (jtr (jbr (jtr (jtr (jbr (jtr (jrt (hv := ?_))))))))
      have hb := @figM_bad l (.inr (.inr (.inr (all_of_bad (i := i) (by omega) (by first | exact isFig_no (.inl (by omega)) | exact isFig_no (.inr (by omega)))))))
      exact CEnt.tup2 (CEnt.int (by rw [hb.1]; rfl)) (CEnt.errN hb.2)
    refine code_skip (jtn ?_)
    refine jcg ?_
    refine jq jrm ?_
    refine jq jra ?_
    refine jq jrm ?_
    refine jq jra ?_
    first | refine jq (jrv8 .i64) ?_ | refine jq (jrv .u8 .i64) ?_ | refine jq (jrvW .u8 .i64) ?_
    refine jq jra ?_
    refine jq jrm ?_
    refine seq_nil ?_
    refine jbn (jtn ?_)
    refine jcg ?_
    refine jq jra ?_
    refine jq jrm ?_
    refine seq_nil ?_
    refine jtn ?_
    refine jlend (i + 1) ?_ ?_ (h5 := ?_)
    · exact ⟨by omega, take_figs (by omega) hf (isFig_yes (by omega) (by omega))⟩
    · show l.length - (i + 1) < l.length - i; omega
    · exact .cons (CEnt.int (by rw [take_val (by omega)]; omega)) (.cons (CEnt.int (by omega)) .nil)
def figR (l : List UInt8) : Nat × Bool := if (figM l).2 = 0 then ((figM l).1, true) else (0, false)
theorem figR_bad {l : List UInt8} (h : (l.length : Int) < 1 ∨ (18 : Int) < (l.length : Nat) ∨ l.all isFig = false ∨ dec (valD l) ≠ l) : figR l = (0, false) := by
  unfold figR
  rw [figM_ref, if_neg (show ¬ (1 ≤ l.length ∧ l.length ≤ 18 ∧ l.all isFig = true ∧ dec (valD l) = l) from fun h2 => by
    rcases h with h | h | h | h
    · omega
    · omega
    · rw [h] at h2; exact absurd h2.2.2.1 (by simp)
    · exact h h2.2.2.2)]
  rfl
theorem figR_good {l : List UInt8} (h0 : ¬ (l.length : Int) < 1) (h1 : ¬ (18 : Int) < (l.length : Nat)) (h2 : l.all isFig = true) (h3 : dec (valD l) = l) : figR l = (valD l, true) := by
  have e : figM l = (valD l, 0) := by rw [figM_ref, if_pos ⟨by omega, by omega, h2, h3⟩]
  unfold figR
  rw [e]
  rfl
theorem rfig_ac {gs : List Nat} (l : List UInt8) : ACp gs Tryd.prog 67 [strC l] (.tup 2 (fl [.c (.int .i64 ((figR l).1 : Nat)), .c (.bool (figR l).2)])) := by
  refine ac_of 43 Tryd.func67 rfl rfl rfl (fun al w0 F0 St0 => ?_)
  refine jcr ?_
  refine jq jrm ?_
  refine jq jrm ?_
  refine seq_nil ?_
  refine jcs ?_
  refine jcr ?_
  refine jq jrm ?_
  refine jq jrls ?_
  refine jq jrc ?_
  refine jq jrm ?_
  refine jqsp 9 (fun g50 => ?_) fun g50 => ?_
  · refine jqs ?_
    refine jqs ?_
    refine jqs ?_
    refine jq jrpT ?_
    refine seq_nil ?_
    refine jcT ?_
    refine jcr ?_
    refine jq jrm ?_
    refine jq jrm ?_
    refine seq_nil ?_
    refine code_ret (jtr (jrt (hv := ?_)))
    have hb := @figR_bad l (by omega)
    rw [hb]
    exact CEnt.refl _
  refine jq jrm ?_
  refine jq jrls ?_
  refine jq jrc ?_
  refine jq jrpF ?_
  refine seq_nil ?_
  refine jcc (fun h50 => ?_) fun h50 => ?_
  · refine jcr ?_
    refine jq jrm ?_
    refine jq jrm ?_
    refine seq_nil ?_
    refine code_ret (jtr (jrt (hv := ?_)))
    have hb := @figR_bad l (by omega)
    rw [hb]
    exact CEnt.refl _
  refine code_skip (jtn ?_)
  refine jcr ?_
  refine jq jrm ?_
  refine seq_nil ?_
  refine jcs ?_
  refine jcr ?_
  refine jq jrm ?_
  refine seq_nil ?_
  refine code_block ?_
  refine l_loop (α := Nat) [2, 3, 4, 5, 14, 15, 16, 17, 18, 19, 20, 21, 22, 23, 24, 25, 26, 27, 28, 29, 30, 31, 32, 33, 34, 35, 36, 37] (fun i => [(4, .c (.int .i64 (valD (l.take i) : Nat))), (5, .c (.int .i64 (i : Nat)))]) (fun _ => []) (fun i => i ≤ l.length ∧ (l.take i).all isFig = true) (fun i => l.length - i) (0) ?_ (fun _ => rfl) ?_ ?_ ?_
  · exact ⟨Nat.zero_le _, rfl⟩
  · (repeat (first | exact EntE.nil | refine EntE.cons (CEnt.refl _) ?_ | refine EntE.cons (CEnt.int (by omega)) ?_))
  · (repeat (first | exact HEnt.nil | refine HEnt.same ?_ | refine HEnt.blk rfl (fun j hj => by rcases j with _|_|_|_|_|_|_|_|j <;> first | exact CEnt.refl _ | exact CEnt.int (by omega) | omega) ?_))
  · rintro i ⟨(hi : i ≤ l.length), hf⟩
    have hl18 : l.length ≤ 18 := by omega
    refine jcs ?_
    refine jcr ?_
    refine jq jrm ?_
    refine jq jrm ?_
    refine jq jrls ?_
    refine jq jrc ?_
    refine seq_nil ?_
    refine jcc (fun h54 => ?_) fun h54 => ?_
    rotate_left
    · refine code_exit (jte (jte (jbx (jtn ?_))))
      refine jcs ?_
      have hi2 : i = l.length := by omega
      rw [hi2, List.take_length] at hf
      have hv := valD_lt18 hf (by omega)
      refine jcr ?_
      refine jq jrm ?_
      refine jqe (jecP (rser_ac (valD l) (by omega)) ?_ (ho := rfl) (he := (.cons (se rfl (CEnt.int (by rw [hi2, List.take_length]))) .nil)))
      refine jq jrm ?_
      refine jq jrcs ?_
      refine seq_nil ?_
      refine jcc (fun h60 => ?_) fun h60 => ?_
      · refine jcr ?_
        refine jq jrm ?_
        refine jq jrm ?_
        refine seq_nil ?_
        refine code_ret (jtr (jrt (hv := ?_)))
        have hb := @figR_bad l (.inr (.inr (.inr (by first | exact h60 | simp_all))))
        rw [hb]
        exact CEnt.refl _
      refine code_skip (jtn ?_)
      refine jcr ?_
      refine jq jrm ?_
      refine jq jrm ?_
      refine jq jrm ?_
      refine seq_nil ?_
      refine code_ret (jrt (hv := ?_))
      have hb := figR_good (l := l) (by omega) (by omega) hf (by first | (simp_all; done) | (exact Classical.byContradiction h60))
      rw [hb, hi2, List.take_length]
      exact CEnt.refl _
    refine code_skip (jtn ?_)
    refine jcs ?_
    refine code_block ?_
    refine jcs ?_
    have hv := valD_lt17 hf (by rw [List.length_take]; omega)
    refine jcr ?_
    refine jq jrm ?_
    refine jq jrm ?_
    refine jq jrix ?_
    refine jq jrc ?_
    refine jq jrm ?_
    refine jqsp 24 (fun g55 => ?_) fun g55 => ?_
    · refine jqs ?_
      refine jqs ?_
      refine jqs ?_
      refine jqs ?_
      refine jq jrpT ?_
      refine seq_nil ?_
      refine jcT ?_
      refine jcr ?_
      refine jq jrm ?_
      refine jq jrm ?_
      refine seq_nil ?_
      refine code_ret (jtr (jbr (jtr (jtr (jbr (jtr (jrt (hv := ?_))))))))
      have hb := @figR_bad l (.inr (.inr (.inl (all_of_bad (i := i) (by omega) (by first | exact isFig_no (.inl (by omega)) | exact isFig_no (.inr (by omega)))))))
      rw [hb]
      exact CEnt.refl _
    refine jq jrm ?_
    refine jq jrm ?_
    refine jq jrix ?_
    refine jq jrc ?_
    refine jq jrpF ?_
    refine seq_nil ?_
    refine jcc (fun h55 => ?_) fun h55 => ?_
    · refine jcr ?_
      refine jq jrm ?_
      refine jq jrm ?_
      refine seq_nil ?_
      refine code_ret (jtr (jbr (jtr (jtr (jbr (jtr (jrt (hv := ?_))))))))
      have hb := @figR_bad l (.inr (.inr (.inl (all_of_bad (i := i) (by omega) (by first | exact isFig_no (.inl (by omega)) | exact isFig_no (.inr (by omega)))))))
      rw [hb]
      exact CEnt.refl _
    refine code_skip (jtn ?_)
    refine jcg ?_
    refine jq jrm ?_
    refine jq jra ?_
    refine jq jrm ?_
    refine jq jrm ?_
    refine jq jrix ?_
    first | refine jq (jrv8 .i64) ?_ | refine jq (jrv .u8 .i64) ?_ | refine jq (jrvW .u8 .i64) ?_
    refine jq jra ?_
    refine jq jra ?_
    refine jq jrm ?_
    refine seq_nil ?_
    refine jbn (jtn ?_)
    refine jcg ?_
    refine jq jrm ?_
    refine jq jra ?_
    refine jq jrm ?_
    refine seq_nil ?_
    refine jtn ?_
    refine jlend (i + 1) ?_ ?_ (h5 := ?_)
    · exact ⟨by omega, take_figs (by omega) hf (isFig_yes (by omega) (by omega))⟩
    · show l.length - (i + 1) < l.length - i; omega
    · exact .cons (CEnt.int (by rw [take_val (by omega)]; omega)) (.cons (CEnt.int (by omega)) .nil)
end Am
end Go.Proofs.YtdfjiodkmhpfkaaDoor

/- Chapter 38: numbers and bytes as words: the program's side. -/
namespace Go.Proofs.YtdfjiodkmhpfkaaDoor
set_option linter.unusedVariables false
namespace Am
variable {gs : List Nat} [OkG gs]
open Go.RowKit
set_option maxRecDepth 100000

section
variable {P : Program} {G : Gh} {s : AS} {o : Oper} {x y : Operand} {t u : TypeId}
theorem rd_remN {m : Nat} (ho : o.op = .binOp .rem t x y u) (hx : s.eval x = .c (.int .i64 (-(m : Int)))) (hy : s.eval y = .c (.int .i64 10)) : ARd P G o s (.c (.int .i64 (-((m % 10 : Nat) : Int)))) := by
  have h := rd_remT (P := P) (G := G) ho hx hy (by decide)
  have e : Int.tmod (-(m : Int)) 10 = -((m % 10 : Nat) : Int) := by rw [Int.neg_tmod, Int.tmod_eq_emod_of_nonneg (by omega)]; omega
  rwa [e] at h
theorem rd_quoN {m : Nat} (hm : m ≤ 9223372036854775808) (ho : o.op = .binOp .quo t x y u) (hx : s.eval x = .c (.int .i64 (-(m : Int)))) (hy : s.eval y = .c (.int .i64 10)) : ARd P G o s (.c (.int .i64 (-((m / 10 : Nat) : Int)))) := by
  have e : Int.tdiv (-(m : Int)) 10 = -((m / 10 : Nat) : Int) := by rw [Int.neg_tdiv, Int.tdiv_eq_ediv_of_nonneg (by omega)]; omega
  exact rd_quoT ho hx hy (by decide) _ (by rw [e]; exact wrap_id (k := .i64) (by show _ ∧ _; omega))
theorem rd_quoN' {m : Nat} (ho : o.op = .binOp .quo t x y u) (hx : s.eval x = .c (.int .i64 (-(m : Int)))) (hy : s.eval y = .c (.int .i64 10)) (hm : m ≤ 9223372036854775808) : ARd P G o s (.c (.int .i64 (-((m / 10 : Nat) : Int)))) := rd_quoN hm ho hx hy
end
set_option maxHeartbeats 1000000 in
theorem numeral_ac {gs : List Nat} (n : Int) (h1 : -9223372036854775808 ≤ n) (h2 : n ≤ 9223372036854775807) : ACp gs Tryd.prog 31 [.c (.int .i64 n)] (strC (numE n)) := by
  by_cases hn : 0 ≤ n
  · have e : numE n = if n < 0 then [] else dec n.toNat := by unfold numE; rw [if_pos hn, if_neg (by omega)]
    refine ac_of 31 Tryd.func31 rfl rfl rfl (fun al w0 F0 St0 => ?_)
    refine jcr ?_
    refine jq jrm ?_
    refine seq_nil ?_
    refine jcs ?_
    refine jcr ?_
    refine jq jrm ?_
    refine jq jrc ?_
    refine seq_nil ?_
    refine jcc (fun h44 => ?_) fun h44 => ?_
    rotate_left
    · exfalso; omega
    refine jcr ?_
    refine jq jrm ?_
    refine jqe (jecP (wser_any n h1 h2) ?_)
    refine jq jrm ?_
    refine seq_nil ?_
    refine code_ret (jtr (jrt (hv := CEnt.strL e.symm)))
  · obtain ⟨N, rfl⟩ : ∃ N : Nat, n = -(N : Int) := ⟨(-n).toNat, by omega⟩
    have e : numE (-(N : Int)) = 45 :: dec N := by unfold numE; rw [if_neg hn]; simp
    have hdl := dec_len 18 N (by omega)
    have hNb : N ≤ 9223372036854775808 := by omega
    rw [e]
    refine ac_of 31 Tryd.func31 rfl rfl rfl (fun al w0 F0 St0 => ?_)
    refine jcr ?_
    refine jq jrm ?_
    refine seq_nil ?_
    refine jcs ?_
    refine jcr ?_
    refine jq jrm ?_
    refine jq jrc ?_
    refine seq_nil ?_
    refine jcc (fun h44 => ?_) fun h44 => ?_
    · exfalso; omega
    refine code_skip (jtn ?_)
    refine jcr ?_
    refine jq jrm ?_
    refine jq (rd_remN rfl rfl rfl) ?_
    refine jq jra ?_
    first | refine jq (jrv .i64 .u8) ?_ | refine jq (jrvW .i64 .u8) ?_
    refine jqe (jebl 1 1 zr5 fun p1 => ?_)
    refine jq jrm ?_
    refine seq_nil ?_
    refine jcs ?_
    refine jcr ?_
    refine jq jrm ?_
    refine jq (rd_quoN' rfl rfl rfl (by first | exact hNb | exact Nat.le_trans hm hNb)) ?_
    refine jq jrm ?_
    refine seq_nil ?_
    refine code_block ?_
    refine l_loop (α := Nat × List UInt8 × Option Nat) [0, 3, 15, 16, 17, 18, 19, 20, 21, 22, 23, 24, 25] (fun (m, o, g) => [(0, .c (.int .i64 (-(m : Int)))), (3, .os 0 g 0 o.length 1)]) (fun (m, o, g) => [(g, .blk o.length (byF o))]) (fun (m, o, g) => m ≤ N ∧ dec N = (if m = 0 then [] else dec m) ++ o.reverse) (fun (m, o, g) => m) ((N / 10, [fig (N % 10)], p1)) ?_ (fun _ => rfl) ?_ ?_ ?_
    · exact ⟨Nat.div_le_self _ _, dec_first N⟩
    · exact .cons (CEnt.refl _) (.cons (CEnt.refl _) .nil)
    · exact .blk rfl (fun j hj => fl_by (l2 := [fig (N % 10)]) (.cons (CEnt.int (by have := fig_int N; omega)) .nil) j hj) .nil
    · rintro ⟨m, o, g⟩ ⟨(hm : m ≤ N), hd⟩
      have ho : o.length ≤ 19 := by have := congrArg List.length hd; simp only [List.length_append, List.length_reverse] at this; omega
      refine jcs ?_
      refine jcr ?_
      refine jq jrm ?_
      refine jq jrc ?_
      refine seq_nil ?_
      refine jcc (fun h48 => ?_) fun h48 => ?_
      rotate_left
      · refine code_exit (jte (jte (jbx (jtn ?_))))
        refine jcr ?_
        refine jq jrm ?_
        refine jqm (jmcH 0 (reverse8_ac _ o (by omega)) ?_)
        rintro _ _ ⟨rfl, rfl⟩
        refine ⟨_, _, rfl, CEnt.refl _, ?_⟩
        refine seq_nil ?_
        refine jcr ?_
        refine jq jrm ?_
        first | refine jq jrbs ?_ | refine jqo jrbo ?_ | refine jq jrbn ?_
        refine jq (jras (hS := by (first | omega | (simp only [List.length_cons, List.length_nil, List.length_reverse]; omega)))) ?_
        refine jq jrm ?_
        refine seq_nil ?_
        refine code_ret (jrt (hv := ?_))
        refine CEnt.strL ?_
        rw [hd, if_pos (by omega)]
        rfl
      refine code_skip (jtn ?_)
      refine jcs ?_
      refine code_block ?_
      refine jcg ?_
      refine jq jrm ?_
      refine jq jrm ?_
      refine jq (rd_remN rfl rfl rfl) ?_
      refine jq jra ?_
      first | refine jq (jrv .i64 .u8) ?_ | refine jq (jrvW .i64 .u8) ?_
      refine jqe (jebl 1 1 zr5 fun p2 => ?_)
      refine jqm (m_appendB (l2 := [fig (m % 10)]) rfl rfl rfl (Nat.le_refl _) (fun _ _ => CEnt.refl _) (src_os rfl (.inl rfl) (by decide)) rfl (hh_bytes (.cons (CEnt.int ((by have := fig_int m; omega))) .nil)) Tryd.underlying46 nu46 sz5 zr5 by5 rfl (by first | omega | (simp; done) | (simp; omega) | (simp at *; omega)) (leaf_fl rfl rfl) rfl rfl (fun p3 => ?_))
      refine jq jrm ?_
      refine seq_nil ?_
      refine jbn (jtn ?_)
      refine jcg ?_
      refine jq jrm ?_
      refine jq (rd_quoN' rfl rfl rfl (by first | exact hNb | exact Nat.le_trans hm hNb)) ?_
      refine jq jrm ?_
      refine seq_nil ?_
      refine jtn ?_
      refine jlend ((m / 10, o ++ [fig (m % 10)], p3)) ?_ ?_ (h5 := ?_)
      · exact ⟨by omega, by rw [hd]; exact dec_step (by omega) o⟩
      · show m / 10 < m; omega
      · exact .cons (CEnt.refl _) (.cons (CEnt.refl _) .nil)
theorem acp_ent {gs : List Nat} {P : Program} {f : FuncId} {args : List CV} {m m' : CV} (h : ACp gs P f args m) (he : CEnt m m') : ACp gs P f args m' :=
  fun al w St F0 vals a b c => (h al w St F0 vals a b c).mono fun e w' ⟨v, r, H', St', h1, ⟨hr, hH⟩, h3, h4⟩ => ⟨v, m', H', St', h1, ⟨rfl, hH⟩, by subst hr; exact he _ _ _ _ h3, h4⟩
theorem CEnt.tupV {a b : Value} : CEnt (.c (.tuple #[a, b])) (.tup 2 (fl [.c a, .c b])) := fun al St w v h => ⟨#[a, b], h, rfl, fun i hi => by rcases i with _ | _ | i <;> first | rfl | omega⟩
theorem cut_ac {gs : List Nat} (s : List UInt8) : ACp gs Tryd.prog 65 [strC s, strC [45]] (.tup 2 (fl [strC (if s.getD 0 0 = 45 then s.drop 1 else s), .c (.bool (decide (s.getD 0 0 = 45)))])) :=
  acp_ent (ac_old fun al w St vals hs hv hr => by
    rw [vals2 hv, show vals.getD 0 undef = .string ⟨s.toArray⟩ from hr 0, show vals.getD 1 undef = .string ⟨#[45]⟩ from hr 1]
    have e1 : Lib.hasPrefix s [45] = decide (s.getD 0 0 = 45) := by
      rw [pre_hyp]
      cases s with
      | nil => simp
      | cons c s => simp
    refine (Tryd.strings_CutPrefix _ _ w).mono ?_
    rintro e w' ⟨rfl, rfl⟩
    have e2 : Lib.trimPrefix s [45] = if s.getD 0 0 = 45 then s.drop 1 else s := by
      unfold Lib.trimPrefix
      rw [e1]
      by_cases h : s.getD 0 0 = 45
      · rw [if_pos h, if_pos (decide_eq_true h)]; rfl
      · rw [if_neg h, if_neg (by rw [decide_eq_false h]; exact Bool.noConfusion)]
    exact ⟨by rw [← e2, ← e1], Below.refl _ _⟩) CEnt.tupV
set_option maxHeartbeats 1000000 in
theorem number38_ac (s : List UInt8) : ACp gs Tryd.prog 35 [strC s] (.tup 2 (fl [.c (.int .i64 (numD s).1), .err (numD s).2])) := by
  obtain ⟨X, hX⟩ : ∃ X, X = if s.getD 0 0 = 45 then s.drop 1 else s := ⟨_, rfl⟩
  have hc := cut_ac (gs := gs) s
  rw [← hX] at hc
  have hbd : (figM X).2 = 0 → (figM X).1 < 1000000000000000000 := fun hl => by
    have e := figM_ref X
    by_cases c : 1 ≤ X.length ∧ X.length ≤ 18 ∧ X.all isFig = true ∧ dec (valD X) = X
    · rw [if_pos c] at e; rw [e]; exact valD_lt18 c.2.2.1 c.2.1
    · rw [if_neg c] at e; rw [e] at hl; cases hl
  refine ac_of 34 Tryd.func35 rfl rfl rfl (fun al w0 F0 St0 => ?_)
  refine jcr ?_
  refine jq jrm ?_
  refine jq jrm ?_
  refine seq_nil ?_
  refine jcr ?_
  refine jq jrm ?_
  refine jqe (jecP hc ?_)
  refine jq jrm ?_
  refine jq jrx ?_
  refine jq jrx ?_
  refine jq jrm ?_
  refine jq jrm ?_
  refine seq_nil ?_
  refine jcr ?_
  refine jq jrm ?_
  refine jqe (jecP (wfig_ac X) ?_)
  refine jq jrm ?_
  refine jq jrx ?_
  refine jq jrx ?_
  refine jq jrm ?_
  refine jq jrm ?_
  refine seq_nil ?_
  refine jcs ?_
  refine code_block ?_
  refine jcr ?_
  refine jq jrm ?_
  refine jq jre ?_
  refine jq jrm ?_
  refine jqsp 21 (fun g60 => ?_) fun g60 => ?_
  · refine jqs ?_
    refine jqs ?_
    refine jqs ?_
    refine jqs ?_
    refine jqs ?_
    refine jq jrpT ?_
    refine jq jrm ?_
    refine seq_nil ?_
    refine jcT ?_
    refine jcs ?_
    refine jcd (.rd 0 (.rd 1 (.rd 2 .done))) ?_
    refine jyq (jrde 3) ?_
    refine jyq jrm ?_
    refine jyq jrm ?_
    refine jyd ?_
    refine jtn ?_
    refine code_ret (jbr (jtr (jrt (hv := ?_))))
    have hb : numD s = (0, 4) := by
      unfold numD
      by_cases h45 : s.getD 0 0 = 45
      · rw [if_pos h45] at hX ⊢
        rw [← hX, if_pos (by first | (simp_all; done) | grind)]
      · rw [if_neg h45] at hX ⊢
        rw [← hX]
        have e := figM_ref X
        by_cases c : 1 ≤ X.length ∧ X.length ≤ 18 ∧ X.all isFig = true ∧ dec (valD X) = X
        · rw [if_pos c] at e; exfalso; simp_all
        · rw [if_neg c] at e; rw [e]; rfl
    rw [hb]
    exact CEnt.refl _
  refine jq jrm ?_
  refine jq jrm ?_
  refine jqsp 23 (fun g60_2 => ?_) fun g60_2 => ?_
  rotate_left
  · refine jqs ?_
    refine jqs ?_
    refine jq jrpF ?_
    refine jq jrpF ?_
    refine jq jrm ?_
    refine seq_nil ?_
    refine jcF ?_
    refine jcr ?_
    refine jq jrm ?_
    refine jq jrm ?_
    refine seq_nil ?_
    refine jcc (fun h62 => ?_) fun h62 => ?_
    · refine jcr ?_
      refine jq jrm ?_
      first | refine jq (rd_neg rfl rfl _ (wrap_id (k := .i64) (by show _ ∧ _; (first | omega | decide | (dsimp only at *; omega))))) ?_ | refine jq (rd_neg rfl rfl _ rfl) ?_
      refine jq jrm ?_
      refine jq jrm ?_
      refine seq_nil ?_
      refine code_ret (jbr (jtr (jrt (hv := ?_))))
      have hb : numD s = (-((figM X).1 : Int), 0) := by
        unfold numD
        rw [if_pos (by first | (simp_all; done) | grind)] at hX ⊢
        rw [← hX, if_neg (by first | (simp_all; done) | grind)]
      rw [hb]
      exact CEnt.tup2 (CEnt.int (by simp)) (CEnt.nilE rfl)
    refine code_skip (jbn (jtn ?_))
    refine jcr ?_
    refine jq jrm ?_
    refine jq jrm ?_
    refine jq jrm ?_
    refine seq_nil ?_
    refine code_ret (jrt (hv := ?_))
    have hb : numD s = (((figM X).1 : Int), 0) := by
      unfold numD
      rw [if_neg (by first | (simp_all; done) | grind)] at hX ⊢
      rw [← hX]
      have : (figM X).2 = 0 := by first | (simp_all; done) | grind
      rw [this]
    rw [hb]
    exact CEnt.tup2 (CEnt.int rfl) (CEnt.nilE rfl)
  refine jq jrm ?_
  refine jq jrc ?_
  refine jq jrpT ?_
  refine jq jrpF ?_
  refine jq jrm ?_
  refine seq_nil ?_
  refine jcc (fun h60 => ?_) fun h60 => ?_
  · refine jcs ?_
    refine jcd (.rd 0 (.rd 1 (.rd 2 .done))) ?_
    refine jyq (jrde 3) ?_
    refine jyq jrm ?_
    refine jyq jrm ?_
    refine jyd ?_
    refine jtn ?_
    refine code_ret (jbr (jtr (jrt (hv := ?_))))
    have hb : numD s = (0, 4) := by
      unfold numD
      by_cases h45 : s.getD 0 0 = 45
      · rw [if_pos h45] at hX ⊢
        rw [← hX, if_pos (by first | (simp_all; done) | grind)]
      · rw [if_neg h45] at hX ⊢
        rw [← hX]
        have e := figM_ref X
        by_cases c : 1 ≤ X.length ∧ X.length ≤ 18 ∧ X.all isFig = true ∧ dec (valD X) = X
        · rw [if_pos c] at e; exfalso; simp_all
        · rw [if_neg c] at e; rw [e]; rfl
    rw [hb]
    exact CEnt.refl _
  refine jcr ?_
  refine jq jrm ?_
  refine jq jrm ?_
  refine seq_nil ?_
  refine jcc (fun h62 => ?_) fun h62 => ?_
  · refine jcr ?_
    refine jq jrm ?_
    first | refine jq (rd_neg rfl rfl _ (wrap_id (k := .i64) (by show _ ∧ _; (first | omega | decide | (dsimp only at *; omega))))) ?_ | refine jq (rd_neg rfl rfl _ rfl) ?_
    refine jq jrm ?_
    refine jq jrm ?_
    refine seq_nil ?_
    refine code_ret (jbr (jtr (jrt (hv := ?_))))
    have hb : numD s = (-((figM X).1 : Int), 0) := by
      unfold numD
      rw [if_pos (by first | (simp_all; done) | grind)] at hX ⊢
      rw [← hX, if_neg (by first | (simp_all; done) | grind)]
    rw [hb]
    exact CEnt.tup2 (CEnt.int (by simp)) (CEnt.nilE rfl)
  refine code_skip (jbn (jtn ?_))
  refine jcr ?_
  refine jq jrm ?_
  refine jq jrm ?_
  refine jq jrm ?_
  refine seq_nil ?_
  refine code_ret (jrt (hv := ?_))
  have hb : numD s = (((figM X).1 : Int), 0) := by
    unfold numD
    rw [if_neg (by first | (simp_all; done) | grind)] at hX ⊢
    rw [← hX]
    have : (figM X).2 = 0 := by first | (simp_all; done) | grind
    rw [this]
  rw [hb]
  exact CEnt.tup2 (CEnt.int rfl) (CEnt.nilE rfl)
/-! ### bytes -/
theorem CEnt.nilV {i k : Nat} : CEnt (.c (.slice none 0 0)) (.os i none 0 0 k) := fun al St w v h => ⟨rfl, h⟩
theorem hx_at (n : Nat) (h : n < 16) : (hexL.getD n 0) = hx n := by
  have : ∀ k : Fin 16, hexL.getD k.val 0 = hx k.val := by decide
  exact this ⟨n, h⟩
theorem and15 : ∀ c : Fin 256, IntKind.u8.wrap (BitVec.ofInt (IntKind.bits .u8) (c.val : Int) &&& BitVec.ofInt (IntKind.bits .u8) 15).toNat = ((c.val % 16 : Nat) : Int) := by decide +kernel
theorem shr4 (c : UInt8) : ((c.toNat : Nat) : Int).fdiv (2 ^ (min (4 : Int).toNat (IntKind.bits .u8))) = ((c.toNat / 16 : Nat) : Int) := by
  have : (2 : Int) ^ (min (4 : Int).toNat (IntKind.bits .u8)) = 16 := by decide
  rw [this, Int.fdiv_eq_ediv_of_nonneg _ (by omega)]; omega
theorem low4 (c : UInt8) : IntKind.u8.wrap (BitVec.ofInt (IntKind.bits .u8) ((c.toNat : Nat) : Int) &&& BitVec.ofInt (IntKind.bits .u8) 15).toNat = ((c.toNat % 16 : Nat) : Int) := and15 ⟨c.toNat, c.toNat_lt⟩
theorem flatX_take {b : List UInt8} {i : Nat} (h : i < b.length) : flatX (b.take (i + 1)) = flatX (b.take i) ++ [hx ((b.getD i 0).toNat / 16), hx ((b.getD i 0).toNat % 16)] := by
  rw [take_snoc b i h, flatX_snoc]
set_option maxHeartbeats 1000000 in
theorem hex38_ac {gs : List Nat} (b : List UInt8) (hb : b.length ≤ 1000000) : ACp gs Tryd.prog 33 [bsC b] (strC (hexE b)) := by
  have hfl := flatX_len b
  refine ac_of 27 Tryd.func33 rfl rfl rfl (fun al w0 F0 St0 => ?_)
  refine jcr ?_
  refine jq jrm ?_
  refine seq_nil ?_
  refine jcs ?_
  refine jcr ?_
  refine jq jrm ?_
  refine jq jrl ?_
  refine jq jrc ?_
  refine seq_nil ?_
  refine jcc (fun h70 => ?_) fun h70 => ?_
  · refine jcr ?_
    refine jq jrm ?_
    refine seq_nil ?_
    refine code_ret (jtr (jrt (hv := ?_)))
    refine CEnt.strL ?_
    have : b = [] := List.eq_nil_of_length_eq_zero (by omega)
    subst this; rfl
  refine code_skip (jtn ?_)
  refine jcr ?_
  refine jq jrm ?_
  refine seq_nil ?_
  refine jcs ?_
  refine code_ent (ent_none (byF [])) ?_
  refine jcr ?_
  refine jq jrm ?_
  refine jq jrl ?_
  refine jq jrm ?_
  refine seq_nil ?_
  refine code_block ?_
  refine l_loop (α := Nat × List UInt8 × Option Nat) [3, 5, 11, 12, 13, 14, 15, 16, 17, 18, 19, 20, 21, 22, 23, 24] (fun (i, X, g) => [(11, .c (.int .i64 (i : Nat))), (3, .os 0 g 0 X.length 1)]) (fun (i, X, g) => [(g, .blk X.length (byF X))]) (fun (i, X, g) => i ≤ b.length ∧ X = flatX (b.take i)) (fun (i, X, g) => b.length - i) ((0, [], none)) ?_ (fun _ => rfl) ?_ ?_ ?_
  · exact ⟨Nat.zero_le _, rfl⟩
  · exact .cons (CEnt.refl _) (.cons CEnt.nilV .nil)
  · exact .same .nil
  · rintro ⟨i, X, g⟩ ⟨(hi : i ≤ b.length), hX⟩
    have hXl : X.length = 2 * i := by rw [hX, flatX_len, List.length_take]; omega
    refine code_ent (ent_none (byF [])) ?_
    refine jcr ?_
    refine jq jrc ?_
    refine seq_nil ?_
    refine jcs ?_
    refine jcc (fun h74 => ?_) fun h74 => ?_
    rotate_left
    · refine code_exit (jte (jte (jbx (jtn ?_))))
      refine jcr ?_
      refine jq jrm ?_
      first | refine jq jrbs ?_ | refine jqo jrbo ?_ | refine jq jrbn ?_
      refine jq jrm ?_
      refine seq_nil ?_
      refine code_ret (jrt (hv := ?_))
      refine CEnt.strL ?_
      have hbn : b ≠ [] := fun e => by subst e; exact h70 rfl
      unfold hexE
      rw [if_neg hbn, hX, show i = b.length by omega, List.take_length]
    refine code_skip (jtn ?_)
    refine jcs ?_
    refine code_block ?_
    refine code_ent (ent_none (byF [])) ?_
    refine jcr ?_
    refine jq jri ?_
    first | refine jqo jrdo ?_ | refine jq jrdr ?_
    refine jq jrm ?_
    refine seq_nil ?_
    refine jcdB 8 (.rd 0 (.rd 1 (.rd 2 (.rd 3 (.rd 4 (.rd 5 (.rd 6 (.one 7 .done)))))))) ?_
    refine jyq jrm ?_
    refine jyq jrm ?_
    refine jyq (rd_shr rfl rfl rfl (by (first | omega | (show _ < hexL.length; have := (b.getD i 0).toNat_lt; simp only [hexL, List.length_cons, List.length_nil]; omega))) ((((b.getD i 0).toNat / 16 : Nat) : Int)) (shr4 _)) ?_
    refine jyq (jrix (i := ((b.getD i 0).toNat / 16)) (hz := by first | omega | (simp only [List.length_append, List.length_cons, List.length_nil]; omega)) (hS := by (first | omega | (show _ < hexL.length; have := (b.getD i 0).toNat_lt; simp only [hexL, List.length_cons, List.length_nil]; omega)))) ?_
    refine jyq jrm ?_
    refine jyq (rd_and rfl rfl rfl ((((b.getD i 0).toNat % 16 : Nat) : Int)) (low4 _)) ?_
    refine jyq (jrix (i := ((b.getD i 0).toNat % 16)) (hz := by first | omega | (simp only [List.length_append, List.length_cons, List.length_nil]; omega)) (hS := by (first | omega | (show _ < hexL.length; have := (b.getD i 0).toNat_lt; simp only [hexL, List.length_cons, List.length_nil]; omega)))) ?_
    refine jye (jebl 2 1 zr5 fun p1 => ?_)
    refine jyd ?_
    show ASeq _ _ _ _ _ _
    refine jqm (m_appendB (l2 := [hx ((b.getD i 0).toNat / 16), hx ((b.getD i 0).toNat % 16)]) rfl rfl rfl (Nat.le_refl _) (fun _ _ => CEnt.refl _) (src_os rfl (.inl rfl) (by decide)) rfl (hh_bytes (.cons (CEnt.int (congrArg (fun c : UInt8 => ((c.toNat : Nat) : Int)) (hx_at _ (by have := (b.getD i 0).toNat_lt; omega)))) (.cons (CEnt.int (congrArg (fun c : UInt8 => ((c.toNat : Nat) : Int)) (hx_at _ (by omega)))) .nil))) Tryd.underlying46 nu46 sz5 zr5 by5 rfl (by first | omega | (simp; done) | (simp; omega) | (simp at *; omega)) (leaf_fl rfl rfl) rfl rfl (fun p2 => ?_))
    refine jq jrm ?_
    refine seq_nil ?_
    refine jbn (jtn ?_)
    refine code_ent (ent_none (byF [])) ?_
    refine jcg ?_
    refine jq jra ?_
    refine jq jrm ?_
    refine seq_nil ?_
    refine jtn ?_
    refine jlend ((i + 1, X ++ [hx ((b.getD i 0).toNat / 16), hx ((b.getD i 0).toNat % 16)], p2)) ?_ ?_ (h5 := ?_)
    · exact ⟨by omega, by rw [hX]; exact (flatX_take (by omega)).symm⟩
    · show b.length - (i + 1) < b.length - i; omega
    · exact .cons (CEnt.int (by omega)) (.cons (CEnt.refl _) .nil)
end Am
end Go.Proofs.YtdfjiodkmhpfkaaDoor

/- Chapter 23: rows of texts in order. -/
namespace Go.Proofs.YtdfjiodkmhpfkaaDoor
set_option linter.unusedVariables false
namespace Am
variable {gs : List Nat} [OkG gs]
open Go.RowKit
set_option maxRecDepth 100000

def lsF (ls : List (List UInt8)) (j : Nat) : CV := strC (ls.getD j [])
theorem rowC_ls : RowC 1 lsF := fun l l2 j hj => by
  simp only [lsF, List.getD_eq_getElem?_getD]
  split
  · rw [List.getElem?_append_left (by omega)]
  · rw [List.getElem?_append_right (by omega), Nat.mul_one]
def allN (n : Nat) (p : Nat → Bool) : Bool := (List.range n).all p
theorem allN_iff {n : Nat} {p : Nat → Bool} : allN n p = true ↔ ∀ i, i < n → p i = true := by simp [allN]
theorem allN_false {n i : Nat} {p : Nat → Bool} (hi : i < n) (h : p i = false) : allN n p = false := by
  cases e : allN n p with
  | false => rfl
  | true => rw [allN_iff.1 e i hi] at h; cases h
/-- no text is below the one ahead of it -/
def sortS (l : List (List UInt8)) : Bool := allN (l.length - 1) fun j => !Op.bytesLess (l.getD (j + 1) []) (l.getD j [])
/-- no two neighbours are alike -/
def distS (l : List (List UInt8)) : Bool := allN (l.length - 1) fun j => decide (l.getD (j + 1) [] ≠ l.getD j [])
def risesS (l : List (List UInt8)) : Bool := decide (l.length ≤ 8) && sortS l && distS l && l.all labM
theorem upd_str {X : List (List UInt8)} {o : Nat} {c : List UInt8} (ho : o < X.length) (j : Nat) : CEnt (updF (lsF X) o (List.map CV.c (Value.string ⟨c.toArray⟩).cells.toList) j) (lsF (X.set o c) j) := by
  rw [updF_get, show (List.map CV.c (Value.string ⟨c.toArray⟩).cells.toList).length = 1 from rfl]
  by_cases e : j = o
  · subst e
    rw [if_pos (by omega), Nat.sub_self]
    have : (X.set j c).getD j [] = c := by simp [List.getD, ho]
    unfold lsF
    rw [this]
    exact CEnt.refl _
  · rw [if_neg (by omega)]
    refine CEnt.of_eq ?_
    unfold lsF
    simp [List.getD, List.getElem?_set, Ne.symm e]
/-- what is told of what Compact leaves: its length alone -/
def CompQ (l : List (List UInt8)) : CV → List (Option Nat × Res) → Prop := fun r H' => ∃ (n' : Nat) (g : Option Nat) (N : Nat) (F : Nat → CV), r = .os 0 g 0 n' 1 ∧ H' = [(g, .blk N F)] ∧ n' ≤ l.length ∧ (n' = l.length ↔ distS l = true)
theorem dist_bad {l : List (List UInt8)} {k : Nat} (h1 : 1 ≤ k) (hk : k < l.length) (h : l.getD k [] = l.getD (k - 1) []) : distS l = false :=
  allN_false (i := k - 1) (by omega) (by
    have e : k - 1 + 1 = k := by omega
    simp only [e, h]; simp)
end Am
end Go.Proofs.YtdfjiodkmhpfkaaDoor

/- Chapter 23: requests that are right. -/
namespace Go.Proofs.YtdfjiodkmhpfkaaDoor
set_option linter.unusedVariables false
namespace Am
variable {gs : List Nat} [OkG gs]
open Go.RowKit
set_option maxRecDepth 100000

def reqOk (q : Q5) : Bool := rightS q.1 && decide (q.1.1 ≠ 5) && hexOk q.2.1 && decide (1 ≤ q.2.2.1) && decide (q.2.2.1 ≤ 15) && decide (1 ≤ q.2.2.2.1) && decide (q.2.2.2.1 ≤ 253402300799) && risesS q.2.2.2.2
end Am
end Go.Proofs.YtdfjiodkmhpfkaaDoor

/- Chapter 23: Permit. -/
namespace Go.Proofs.YtdfjiodkmhpfkaaDoor
set_option linter.unusedVariables false
namespace Am
variable {gs : List Nat} [OkG gs]
open Go.RowKit
set_option maxRecDepth 100000

theorem keepS_zero {p : G5 → Bool} {e : Nat} {l : List G5} {k : Nat} (he : e ≠ 0) (h : (keepS p e l k).2 = 0) : k = 0 ∧ (keepS p e l k).1 = l.filter p ∧ l.filter p ≠ [] := by
  by_cases hk : k = 0
  · rw [keepS_good hk] at h ⊢
    refine ⟨hk, rfl, fun e2 => ?_⟩
    simp only [e2, if_true] at h
    exact he h
  · rw [keepS_bad hk] at h; exact absurd h hk
theorem keepS_len {p : G5 → Bool} {e : Nat} {l : List G5} {k : Nat} : (keepS p e l k).1.length ≤ l.length := by
  unfold keepS; split
  · exact Nat.le_refl _
  · exact List.length_filter_le _ _
def p1M (w : S3) (q : Q5) (r : G5) : Bool := decide (r.1 = w.1) && decide (r.2.1 = q.1.1)
def p2M (w : S3) (q : Q5) (r : G5) : Bool := !r.2.2.1 || sameQ w q
def p3M (q : Q5) (r : G5) : Bool := decide (lackB q.2.2.1 r.2.2.2.1 = 0)
def st1 (l : List G5) (w : S3) (q : Q5) : List G5 × Nat := keepS (p1M w q) 22 l 0
def st2 (l : List G5) (w : S3) (q : Q5) : List G5 × Nat := keepS (p2M w q) 9 (st1 l w q).1 (st1 l w q).2
def st3 (l : List G5) (w : S3) (q : Q5) : List G5 × Nat := keepS (p3M q) 15 (st2 l w q).1 (st2 l w q).2
def permM (l : List G5) (w : S3) (q : Q5) : Int × Nat :=
  if polOk l = false then (0, 24) else if rightS w = false then (0, 9) else if reqOk q = false then (0, 4) else
    if (st3 l w q).2 ≠ 0 then (0, (st3 l w q).2) else ((maxG ((st3 l w q).1.getD 0 g0) ((st3 l w q).1.drop 1)).2.2.2.2, 0)
theorem st3_zero {l : List G5} {w : S3} {q : Q5} (h : (st3 l w q).2 = 0) : (st3 l w q).1 = l.filter (fun r => p3M q r && p2M w q r && p1M w q r) ∧ (st3 l w q).1 ≠ [] := by
  obtain ⟨h1, h2, h3⟩ := keepS_zero (by decide) h
  obtain ⟨h4, h5, h6⟩ := keepS_zero (by decide) h1
  obtain ⟨_, h8, h9⟩ := keepS_zero (by decide) h4
  have e1 : (st1 l w q).1 = l.filter (p1M w q) := h8
  have e2 : (st2 l w q).1 = (st1 l w q).1.filter (p2M w q) := h5
  have e3 : (st3 l w q).1 = (st2 l w q).1.filter (p3M q) := h2
  refine ⟨?_, fun e => ?_⟩
  · rw [e3, e2, e1, List.filter_filter, List.filter_filter]
  · rw [e3] at e; exact h3 e
theorem pol_all {l : List G5} (h : polOk l = true) : ∀ g ∈ l, grOk g = true := by
  unfold polOk at h
  rw [Bool.and_eq_true] at h
  exact List.all_eq_true.1 h.2
theorem after3 {l : List G5} {w : S3} {q : Q5} (h : ¬ (st3 l w q).2 ≠ 0) (hpol : polOk l = true) : (st3 l w q).2 = 0 ∧ (∀ g ∈ (st3 l w q).1, grOk g = true) ∧ 0 < (st3 l w q).1.length := by
  have hk3 : (st3 l w q).2 = 0 := Classical.byContradiction h
  obtain ⟨he3, hne⟩ := st3_zero hk3
  refine ⟨hk3, fun g hg => ?_, List.length_pos_iff.2 hne⟩
  rw [he3] at hg
  exact pol_all hpol g (List.mem_filter.1 hg).1
theorem CEnt.fn2 {k : FuncId} {f g : Nat → CV} (h0 : CEnt (f 0) (g 0)) (h1 : CEnt (f 1) (g 1)) : CEnt (.fn k 2 f) (.fn k 2 g) := fun al St w v ⟨cs, k1, k2, k3⟩ =>
  ⟨cs, k1, k2, fun i hi => match i, hi with
    | 0, hi => h0 al St w _ (k3 0 hi)
    | 1, hi => h1 al St w _ (k3 1 hi)⟩
theorem know_op {G : Gh} {s : AS} (d : Nat) {i off : Nat} {g : Option Nat} (hl : look s.env s.b d = .op i g off) : ∀ a w, Rel G s a w → ∃ n, g = some n := fun a w ⟨St, hr⟩ => by
  have := evR hr (x := .tmp d) hl
  obtain ⟨b, hb, _⟩ := this
  exact ⟨b, hb⟩
theorem sub_box (s : S3) : ∀ j, j < 3 → CEnt (fl ((List.range 3).map (sF3 s)) (0 + j)) (sF3 s j) := fun j hj => by
  rcases j with _ | _ | _ | j <;> first | exact CEnt.refl _ | omega
theorem req_box (q : Q5) : ∀ j, j < 7 → CEnt (fl ((List.range 7).map (reqF q)) (0 + j)) (reqF q j) := fun j hj => by
  rcases j with _ | _ | _ | _ | _ | _ | _ | j <;> first | exact CEnt.refl _ | omega
end Am
end Go.Proofs.YtdfjiodkmhpfkaaDoor

/- errors.Is at two sentinels, and bullanum.Num: the number of an error. -/
namespace Go.Proofs.YtdfjiodkmhpfkaaDoor
set_option linter.unusedVariables false
open Go.RowKit Go.Extern.Stop Go.Stop Go.Extern

theorem isTypeOf (v : Value) (w : World) : (callFunc 85 #[.iface 197 v]).run Tryd.prog w = .ok (.value (.iface 152 (.agg #[.pointer (some ⟨31, 197, none⟩)]))) w := by kernel_rfl
theorem isComparable (w : World) : (callFunc 167 #[.agg #[.pointer (some ⟨31, 197, none⟩)]]).run Tryd.prog w = .ok (.value (.bool true)) w := by kernel_rfl
theorem isMethodComparable (v : Value) (w : World) : (Go.method 344 152 v "Comparable").run Tryd.prog w = .ok (167, v) w := by kernel_rfl
theorem isComp : (Tryd.prog.info? 197).map (·.comparable) = some true := by kernel_rfl
theorem isSize : (Tryd.prog.info? 224).map (·.size) = some 1 := by kernel_rfl
theorem noIsE (v : Value) (xT : TypeId) (w : World) : (Instr.typeAssert (.iface 197 v) xT 154 true).run Tryd.prog w = .ok (.tuple #[.nilIface, .bool false]) w := run_typeAssert_lacksB Tryd.underlying154 (by kernel_rfl) (by kernel_rfl) v xT w
theorem noUnwrapE (v : Value) (xT : TypeId) (w : World) : (Instr.typeAssert (.iface 197 v) xT 157 true).run Tryd.prog w = .ok (.tuple #[.nilIface, .bool false]) w := run_typeAssert_lacksB Tryd.underlying157 (by kernel_rfl) (by kernel_rfl) v xT w
theorem noUnwrapsE (v : Value) (xT : TypeId) (w : World) : (Instr.typeAssert (.iface 197 v) xT 159 true).run Tryd.prog w = .ok (.tuple #[.nilIface, .bool false]) w := run_typeAssert_lacksB Tryd.underlying159 (by kernel_rfl) (by kernel_rfl) v xT w

set_option maxHeartbeats 400000 in
theorem is_same (a : Addr) (w : World) :
    Calls Tryd.prog 49 #[.iface 197 (.pointer (some a)), .iface 197 (.pointer (some a))] w fun e w' => e = .returned (.bool true) ∧ w = w' := by
  obtain ⟨i, hi, hcmp⟩ := Option.map_eq_some_iff.1 isComp
  obtain ⟨j, hj, hjs⟩ := Option.map_eq_some_iff.1 isSize
  have tT := isTypeOf
  have cT := isComparable
  have mR := isMethodComparable
  have heq := run_eql_iface_ptr_same (P := Tryd.prog) w a Tryd.underlying27 Tryd.underlying197 hi hcmp hj
  go_enter Tryd.func49, Tryd.ntmps49
  go_wp2
  refine wp_loop_rounds 1 ?_
  rw [rounds_succ]
  go_wp2
  go_ret
  exact ⟨rfl, rfl⟩

set_option maxHeartbeats 400000 in
theorem is_other (a b : Addr) (ca cb : Array Value) (ta tb : TypeId) (w : World) (hne : a ≠ b) (ha : w.heap[a.block]? = some (.cells ca ta (0, 0))) (hb : w.heap[b.block]? = some (.cells cb tb (0, 0))) :
    Calls Tryd.prog 49 #[.iface 197 (.pointer (some a)), .iface 197 (.pointer (some b))] w fun e w' => e = .returned (.bool false) ∧ w = w' := by
  obtain ⟨i, hi, hcmp⟩ := Option.map_eq_some_iff.1 isComp
  obtain ⟨j, hj, hjs⟩ := Option.map_eq_some_iff.1 isSize
  have tT := isTypeOf
  have cT := isComparable
  have mR := isMethodComparable
  have nE := noIsE
  have uE := noUnwrapE
  have vE := noUnwrapsE
  have heq := run_eql_iface_ptr_other (P := Tryd.prog) w Tryd.underlying27 Tryd.underlying197 hi hcmp hj (by rw [hjs]; decide) hne ha hb
  go_enter Tryd.func49, Tryd.ntmps49
  go_wp2
  refine wp_loop_rounds 1 ?_
  rw [rounds_succ]
  go_wp2
  go_ret
  exact ⟨rfl, rfl⟩

/-- errors.Is at the errors m and k + 1. -/
theorem is_ev {w : World} {al : List Addr} (h : Sent w al) (m k : Nat) (hm0 : m ≠ 0) (hm : m ≤ 28) (hk : k < 28) :
    Calls Tryd.prog 49 #[ev al m, ev al (k + 1)] w fun e w' => e = .returned (.bool (decide (m = k + 1))) ∧ w = w' := by
  have hl : al.length = 28 := h.len.trans (by rw [OkG.eq]; rfl)
  obtain ⟨a, ha⟩ : ∃ a, al[m - 1]? = some a := ⟨al[m - 1], List.getElem?_eq_getElem (by omega)⟩
  obtain ⟨b, hb⟩ : ∃ b, al[k]? = some b := ⟨al[k], List.getElem?_eq_getElem (by omega)⟩
  have e1 : ev al m = .iface 197 (.pointer (some a)) := by simp [ev, hm0, ha]
  have e2 : ev al (k + 1) = .iface 197 (.pointer (some b)) := by simp [ev, hb]
  rw [e1, e2]
  by_cases hmk : m = k + 1
  · subst hmk
    simp only [Nat.add_sub_cancel] at ha
    obtain rfl := Option.some.inj (ha.symm.trans hb)
    simp only [decide_true]
    exact is_same a w
  · have hne : a ≠ b := by
      intro e
      subst e
      have all : ∀ i, i < 28 → ((errG gs)[i]?).any (fun g => (lst gs).contains g) = true := by decide
      have get : ∀ i, i < 28 → ∃ g, (errG gs)[i]? = some g ∧ g ∈ lst gs := fun i hi => by
        have h1 := all i hi
        cases h2 : (errG gs)[i]? with
        | none => rw [h2] at h1; cases h1
        | some g => rw [h2] at h1; exact ⟨g, rfl, List.contains_iff_mem.1 h1⟩
      obtain ⟨g1, k1, k2⟩ := get (m - 1) (by omega)
      obtain ⟨g2, k3, k4⟩ := get k hk
      have := h.nd (m - 1) k g1 g2 k1 k2 k3 k4 (ha.trans hb.symm)
      omega
    simp only [hmk, decide_false]
    obtain ⟨ca, ta, h1⟩ := h.row a (List.mem_of_getElem? ha)
    obtain ⟨cb, tb, h2⟩ := h.row b (List.mem_of_getElem? hb)
    exact is_other a b ca cb ta tb w hne h1 h2
end Go.Proofs.YtdfjiodkmhpfkaaDoor

/- bullanum.Num: the number of an error. -/
namespace Go.Proofs.YtdfjiodkmhpfkaaDoor
set_option linter.unusedVariables false
open Go.RowKit

theorem sent_size {w : World} {al : List Addr} (h : Sent w al) : ∀ g ∈ gs, g < w.heap.size := by
  exact h.lt

def evs (al : List Addr) : Array Value := #[ev al 1, ev al 2, ev al 3, ev al 4, ev al 5, ev al 6, ev al 7, ev al 8, ev al 9, ev al 10, ev al 11, ev al 12, ev al 13, ev al 14, ev al 15, ev al 16, ev al 17, ev al 18, ev al 19, ev al 20, ev al 21, ev al 22, ev al 23, ev al 24, ev al 25, ev al 26, ev al 27, ev al 28]
theorem evs_get (al : List Addr) (k : Nat) (hk : k < 28) : (evs al)[k]? = some (ev al (k + 1)) := by
  have : ∀ k, k < 28 → (evs al)[k]? = some (ev al (k + 1)) := by
    intro k hk
    match k, hk with
    | 0, _ => rfl
    | 1, _ => rfl
    | 2, _ => rfl
    | 3, _ => rfl
    | 4, _ => rfl
    | 5, _ => rfl
    | 6, _ => rfl
    | 7, _ => rfl
    | 8, _ => rfl
    | 9, _ => rfl
    | 10, _ => rfl
    | 11, _ => rfl
    | 12, _ => rfl
    | 13, _ => rfl
    | 14, _ => rfl
    | 15, _ => rfl
    | 16, _ => rfl
    | 17, _ => rfl
    | 18, _ => rfl
    | 19, _ => rfl
    | 20, _ => rfl
    | 21, _ => rfl
    | 22, _ => rfl
    | 23, _ => rfl
    | 24, _ => rfl
    | 25, _ => rfl
    | 26, _ => rfl
    | 27, _ => rfl
    | k + 28, h => omega
  exact this k hk

set_option maxRecDepth 100000 in
set_option maxHeartbeats 400000 in
theorem num_any {w : World} {al : List Addr} (h : Sent w al) (m : Nat) (hm : m ≤ 28) :
    Calls Tryd.prog 11 #[ev al m] w fun e w' => e = .returned (.int .i64 m) ∧ Below w.heap.size w w' := by
  by_cases h0 : m = 0
  · subst h0
    have e0 : decide ((0 : Nat) = 0) = true := rfl
    go_enter Tryd.func11, Tryd.ntmps11
    go_wp2
    go_ret
    exact ⟨rfl, Below.refl _ _⟩
  · have hd : decide (m = 0) = false := by simpa using h0
    have g0 : w.cell? ⟨0, 0, none⟩ = some (ev al 1) := h.var 0 _ rfl (by decide)
    have g1 : w.cell? ⟨1, 0, none⟩ = some (ev al 2) := h.var 1 _ rfl (by decide)
    have g2 : w.cell? ⟨2, 0, none⟩ = some (ev al 3) := h.var 2 _ rfl (by decide)
    have g3 : w.cell? ⟨3, 0, none⟩ = some (ev al 4) := h.var 3 _ rfl (by decide)
    have g4 : w.cell? ⟨4, 0, none⟩ = some (ev al 5) := h.var 4 _ rfl (by decide)
    have g5 : w.cell? ⟨5, 0, none⟩ = some (ev al 6) := h.var 5 _ rfl (by decide)
    have g6 : w.cell? ⟨6, 0, none⟩ = some (ev al 7) := h.var 6 _ rfl (by decide)
    have g7 : w.cell? ⟨7, 0, none⟩ = some (ev al 8) := h.var 7 _ rfl (by decide)
    have g8 : w.cell? ⟨8, 0, none⟩ = some (ev al 9) := h.var 8 _ rfl (by decide)
    have g9 : w.cell? ⟨9, 0, none⟩ = some (ev al 10) := h.var 9 _ rfl (by decide)
    have g10 : w.cell? ⟨10, 0, none⟩ = some (ev al 11) := h.var 10 _ rfl (by decide)
    have g11 : w.cell? ⟨11, 0, none⟩ = some (ev al 12) := h.var 11 _ rfl (by decide)
    have g12 : w.cell? ⟨12, 0, none⟩ = some (ev al 13) := h.var 12 _ rfl (by decide)
    have g13 : w.cell? ⟨13, 0, none⟩ = some (ev al 14) := h.var 13 _ rfl (by decide)
    have g14 : w.cell? ⟨14, 0, none⟩ = some (ev al 15) := h.var 14 _ rfl (by decide)
    have g15 : w.cell? ⟨15, 0, none⟩ = some (ev al 16) := h.var 15 _ rfl (by decide)
    have g16 : w.cell? ⟨16, 0, none⟩ = some (ev al 17) := h.var 16 _ rfl (by decide)
    have g17 : w.cell? ⟨17, 0, none⟩ = some (ev al 18) := h.var 17 _ rfl (by decide)
    have g18 : w.cell? ⟨18, 0, none⟩ = some (ev al 19) := h.var 18 _ rfl (by decide)
    have g19 : w.cell? ⟨19, 0, none⟩ = some (ev al 20) := h.var 19 _ rfl (by decide)
    have g20 : w.cell? ⟨20, 0, none⟩ = some (ev al 21) := h.var 20 _ rfl (by decide)
    have g21 : w.cell? ⟨21, 0, none⟩ = some (ev al 22) := h.var 21 _ rfl (by decide)
    have g22 : w.cell? ⟨22, 0, none⟩ = some (ev al 23) := h.var 22 _ rfl (by decide)
    have g23 : w.cell? ⟨23, 0, none⟩ = some (ev al 24) := h.var 23 _ rfl (by decide)
    have g24 : w.cell? ⟨24, 0, none⟩ = some (ev al 25) := h.var 24 _ rfl (by decide)
    have g25 : w.cell? ⟨25, 0, none⟩ = some (ev al 26) := h.var 25 _ rfl (by decide)
    have g26 : w.cell? ⟨26, 0, none⟩ = some (ev al 27) := h.var 26 _ rfl (by decide)
    have g27 : w.cell? ⟨27, 0, none⟩ = some (ev al 28) := h.var 27 _ rfl (by decide)
    have HB : Hid (Below w.heap.size w (w.alloc (.cells (evs al) 27))) := (Below.refl _ _).alloc (Nat.le_refl _) _
    have HS : Hid (Sent (w.alloc (.cells (evs al) 27)) al) := h.below HB.out
    have HC : Hid (∀ k, k < 28 → (w.alloc (.cells (evs al) 27)).cell? ⟨w.heap.size, k, none⟩ = some (ev al (k + 1))) := fun k hk => by
      rw [World.cell?_alloc_mark]
      exact evs_get al k hk
    clear h
    go_enter Tryd.func11, Tryd.ntmps11
    go_wp2_with (refine wpList_value (o := ⟨some 36, _, _, _, _, _⟩) (.slice (some ⟨w.heap.size, 0, none⟩) 28 28) (w.alloc (.cells (evs al) 27)) rfl (by kernel_rfl) ?_)
    clear g0 g1 g2 g3 g4 g5 g6 g7 g8 g9 g10 g11 g12 g13 g14 g15 g16 g17 g18 g19 g20 g21 g22 g23 g24 g25 g26 g27
    show Code.wp _ _ _ _ (w.alloc (.cells (evs al) 27))
    generalize hW : w.alloc (.cells (evs al) 27) = W at HB HS HC ⊢
    have HW := Lib.hid hW
    clear hW
    go_loop [39] (fun i => ∃ k : Nat, k < m ∧ i = .int .i64 k) (fun i => 28 - (intOf i).toNat)
    case atStart => exact ⟨0, by omega, rfl⟩
    case round =>
      obtain ⟨k, hk, rfl⟩ := hrel
      have hc := HC.out k (by omega)
      by_cases hlast : m = k + 1
      · subst hlast
        have C := Lib.hid (is_ev HS.out (k + 1) k h0 hm (by omega))
        go_wp2_with (go_at_call 49; refine (C.out).mono ?_; rintro e w' ⟨rfl, rfl⟩)
        go_ret
        exact ⟨by simp, HB.out⟩
      · have hdd : decide (m = k + 1) = false := by simpa using hlast
        have C := Lib.hid (is_ev HS.out m k h0 hm (by omega))
        go_wp2_with (go_at_call 49; refine (C.out).mono ?_; rintro e w' ⟨rfl, rfl⟩)
        go_round
        case rel => exact ⟨k + 1, by omega, by go_num⟩
        case measure => simp [intOf]; omega
end Go.Proofs.YtdfjiodkmhpfkaaDoor

/- bullanum.Num as a contract of the abstract walk. -/
namespace Go.Proofs.YtdfjiodkmhpfkaaDoor
set_option linter.unusedVariables false
namespace Am
variable {gs : List Nat} [OkG gs]
open Go.RowKit
theorem num_ac (m : Nat) (hm : m ≤ 28) : ACp gs Tryd.prog 11 [.err m] (.c (.int .i64 m)) :=
  ac_old fun al w St vals hs hv hr => by
    have h0 : vals.getD 0 undef = ev al m := hr 0
    rw [vals1 hv, h0]
    exact num_any hs.std m hm
end Am
end Go.Proofs.YtdfjiodkmhpfkaaDoor

/- Chapter 23: the law's example; AdmitLives. -/
namespace Go.Proofs.YtdfjiodkmhpfkaaDoor
set_option linter.unusedVariables false
namespace Am
variable {gs : List Nat} [OkG gs]
open Go.RowKit
set_option maxRecDepth 100000

section
variable {P : Program} {G : Gh} {s : AS} {o : Oper} {x y z : Operand} {k : IntKind}
theorem rd_min3 {p q r : Int} {ats : Array TypeId} (ho : o.op = .call ⟨.builtin .min, #[x, y, z], ats⟩) (hx : s.eval x = .c (.int k p)) (hy : s.eval y = .c (.int k q)) (hz : s.eval z = .c (.int k r)) : ARd P G o s (.c (.int k (min (min p q) r))) := fun St a w h =>
  ⟨_, fun W _ => by
    have e1 : min p q = if q < p then q else p := by split <;> omega
    have e2 : min (min p q) r = if r < min p q then r else min p q := by split <;> omega
    simp [execOp, ho, resolve, invoke, builtin, evC h hx, evC h hy, evC h hz, Builtin.min_, Builtin.min2]
    rw [show min p (min q r) = min (min p q) r by omega, e2, e1], rfl⟩
end
def naM (now dur most e : Int) : Int × Nat :=
  if ¬ (0 ≤ now ∧ now ≤ 253402300799 ∧ 0 ≤ e ∧ e ≤ 253402300799 ∧ 1 ≤ dur ∧ 1 ≤ most) then (0, 1) else if e ≤ now then (0, 13) else (now + min (min dur most) (e - now), 0)
def exQ : Q5 := ((1, [], [98]), List.replicate 32 48, 2, 5, [])
theorem perm_ex1 : permM defL (1, [], [97]) exQ = (0, 9) := by decide +kernel
theorem perm_ex2 : permM defL (1, [], [98]) exQ = (86400, 0) := by decide +kernel
def spanF (a : Int × Int × Int × Int) : Nat → CV := fl [.c (.int .i64 a.1), .c (.int .i64 a.2.1), .c (.int .i64 a.2.2.1), .c (.int .i64 a.2.2.2)]
theorem naM_bd (a : Int × Int × Int × Int) : (naM a.1 a.2.1 a.2.2.1 a.2.2.2).2 ≤ 28 ∧ ((naM a.1 a.2.1 a.2.2.1 a.2.2.2).2 = 0 → a.1 < (naM a.1 a.2.1 a.2.2.1 a.2.2.2).1 ∧ (naM a.1 a.2.1 a.2.2.1 a.2.2.2).1 ≤ a.2.2.2 ∧ (naM a.1 a.2.1 a.2.2.1 a.2.2.2).1 - a.1 ≤ a.2.1 ∧ (naM a.1 a.2.1 a.2.2.1 a.2.2.2).1 - a.1 ≤ a.2.2.1 ∧ 0 ≤ a.1 ∧ a.2.2.2 ≤ 253402300799) := by
  unfold naM
  split
  · exact ⟨by decide, fun h => by cases h⟩
  · rename_i h1
    have h1 := Classical.not_not.1 h1
    split
    · exact ⟨by decide, fun h => by cases h⟩
    · dsimp only
      exact ⟨by decide, fun _ => by omega⟩
end Am
end Go.Proofs.YtdfjiodkmhpfkaaDoor

/- Chapter 23: the law's small things; the reference's Right, Default, Subject; requests by the reference. -/
namespace Go.Proofs.YtdfjiodkmhpfkaaDoor
set_option linter.unusedVariables false
namespace Am
variable {gs : List Nat} [OkG gs]
open Go.RowKit
set_option maxRecDepth 100000

def long23 (n : Nat) (w : S3) (q : Q5) : Bool := decide (60 < n) || decide (100 < w.2.2.length) || decide (100 < w.2.1.length) || decide (100 < q.1.2.2.length) || decide (100 < q.1.2.1.length) || decide (100 < q.2.1.length) || decide (20 < q.2.2.2.2.length) || q.2.2.2.2.any fun s => decide (100 < s.length)
theorem any_true {α : Type} {p : α → Bool} {l : List α} {k : Nat} (d : α) (h : k < l.length) (hp : p (l.getD k d) = true) : l.any p = true :=
  List.any_eq_true.2 ⟨_, (by simp [List.getD, h]), hp⟩
theorem any_none {α : Type} {p : α → Bool} {l : List α} (d : α) (h : ∀ j, j < l.length → p (l.getD j d) = false) : l.any p = false := by
  cases e : l.any p with
  | false => rfl
  | true =>
    obtain ⟨x, hx, hp⟩ := List.any_eq_true.1 e
    obtain ⟨j, hj, rfl⟩ := List.getElem_of_mem hx
    have := h j hj
    rw [show l.getD j d = l[j] by simp [List.getD, hj], hp] at this; cases this
end Am
end Go.Proofs.YtdfjiodkmhpfkaaDoor

/- Chapter 23: requests by the reference. -/
namespace Go.Proofs.YtdfjiodkmhpfkaaDoor
set_option linter.unusedVariables false
namespace Am
variable {gs : List Nat} [OkG gs]
open Go.RowKit
set_option maxRecDepth 100000

section
variable {P : Program} {G : Gh} {s : AS} {o : Oper} {x y : Operand} {t u : TypeId}
theorem rd_leS {a b : ByteArray} (ho : o.op = .binOp .leq t x y u) (hx : s.eval x = .c (.string a)) (hy : s.eval y = .c (.string b)) : ARd P G o s (.c (.bool (Op.bytesLess a.toList b.toList || a.toList == b.toList))) :=
  rd_bin ho hx hy fun W => by simp [binS, eqG_str, binOp, Op.stringOp]
theorem rd_leL {a b : List UInt8} (ho : o.op = .binOp .leq t x y u) (hx : s.eval x = strC a) (hy : s.eval y = strC b) : ARd P G o s (.c (.bool (Op.bytesLess a b || a == b))) := by
  have := rd_leS (P := P) (G := G) ho hx hy
  rwa [ba_toList, ba_toList] at this
end
theorem hex_iff (c : UInt8) : 0 ≤ Lib.indexByte hexL c ↔ (48 ≤ c.toNat ∧ c.toNat ≤ 57) ∨ (97 ≤ c.toNat ∧ c.toNat ≤ 102) := by
  have h : ∀ n : Fin 256, decide (0 ≤ Lib.indexByte hexL (UInt8.ofNat n.val)) = (decide (48 ≤ n.val) && decide (n.val ≤ 57) || decide (97 ≤ n.val) && decide (n.val ≤ 102)) := by decide +kernel
  have h1 := h ⟨c.toNat, c.toNat_lt⟩
  rw [show UInt8.ofNat (⟨c.toNat, c.toNat_lt⟩ : Fin 256).val = c from UInt8.ofNat_toNat] at h1
  by_cases e : 0 ≤ Lib.indexByte hexL c
  · rw [decide_eq_true e] at h1
    have := h1.symm
    simp only [Bool.or_eq_true, Bool.and_eq_true, decide_eq_true_eq] at this
    exact ⟨fun _ => this, fun _ => e⟩
  · rw [decide_eq_false e] at h1
    have := h1.symm
    simp only [Bool.or_eq_false_iff, Bool.and_eq_false_iff, decide_eq_false_iff_not] at this
    exact ⟨fun h => absurd h e, fun h => by omega⟩
/-- what the reference asks of a row of other names -/
def altsM (l : List (List UInt8)) : Bool := decide (l.length ≤ 8) && allN l.length fun i => labM (l.getD i []) && (decide (i = 0) || !(Op.bytesLess (l.getD i []) (l.getD (i - 1) []) || l.getD i [] == l.getD (i - 1) []))
end Am
end Go.Proofs.YtdfjiodkmhpfkaaDoor

/- Chapter 38: bytes of figures; numbers and bytes as words by the reference. -/
namespace Go.Proofs.YtdfjiodkmhpfkaaDoor
set_option linter.unusedVariables false
namespace Am
variable {gs : List Nat} [OkG gs]
open Go.RowKit
set_option maxRecDepth 100000

theorem set_at {X : List UInt8} {k : Nat} {v : UInt8} (j : Nat) (hk : k < X.length) : (X.set k v).getD j 0 = if j = k then v else X.getD j 0 := by
  by_cases e : j = k
  · subst e; simp [List.getD, hk]
  · rw [if_neg e]; simp [List.getD, List.getElem?_set, Ne.symm e]
theorem rep_at (n j : Nat) : (List.replicate n (0 : UInt8)).getD j 0 = 0 := by
  rw [List.getD_eq_getElem?_getD, List.getElem?_replicate]; split <;> rfl
theorem mix_all : ∀ a n : Fin 16, mixB (UInt8.ofNat a.val) (n.val : Int) = UInt8.ofNat (16 * a.val + n.val) := by decide +kernel
theorem mix_at {a n : Nat} (ha : a < 16) (hn : n < 16) : mixB (UInt8.ofNat a) (n : Int) = UInt8.ofNat (16 * a + n) := mix_all ⟨a, ha⟩ ⟨n, hn⟩
theorem hv_int {c : UInt8} (h : 0 ≤ Lib.indexByte hexL c) : Lib.indexByte hexL c = ((hv c : Nat) : Int) ∧ hv c < 16 := by
  have := hexB_bd c
  unfold hv
  omega
theorem all_hex {l : List UInt8} (h : ∀ j, j < l.length → 0 ≤ Lib.indexByte hexL (l.getD j 0)) : l.all isHx = true := List.all_eq_true.2 fun c hc => by
  obtain ⟨j, hj, rfl⟩ := List.getElem_of_mem hc
  have := h j hj
  simpa [isHx, List.getD, hj] using this
theorem no_hex {l : List UInt8} {i : Nat} (hi : i < l.length) (h : Lib.indexByte hexL (l.getD i 0) < 0) : l.all isHx = false := by
  cases e : l.all isHx with
  | false => rfl
  | true =>
    have := List.all_eq_true.1 e (l.getD i 0) (by simp [List.getD, hi])
    exact absurd (of_decide_eq_true this) (by omega)
/-- what stands in the row behind i figures -/
def HexS (l X : List UInt8) (i : Nat) : Prop :=
  X.length = l.length / 2 ∧ (∀ j, j < i / 2 → X.getD j 0 = bx (l.getD (2 * j) 0) (l.getD (2 * j + 1) 0)) ∧ (i % 2 = 1 → X.getD (i / 2) 0 = UInt8.ofNat (hv (l.getD (i - 1) 0))) ∧ ∀ j, (i + 1) / 2 ≤ j → X.getD j 0 = 0
theorem HexS.start (l : List UInt8) : HexS l (List.replicate (l.length / 2) 0) 0 :=
  ⟨List.length_replicate, fun j hj => absurd hj (Nat.not_lt_zero j), fun h => by omega, fun j _ => rep_at _ j⟩
theorem HexS.step {l X : List UInt8} {i : Nat} (h : HexS l X i) (hi : i < l.length) (he : l.length % 2 = 0) (hx : ∀ j, j ≤ i → 0 ≤ Lib.indexByte hexL (l.getD j 0)) : HexS l (X.set (i / 2) (mixB (X.getD (i / 2) 0) (Lib.indexByte hexL (l.getD i 0)))) (i + 1) := by
  obtain ⟨h1, h2, h3, h4⟩ := h
  obtain ⟨n1, n2⟩ := hv_int (hx i (Nat.le_refl _))
  have hk : i / 2 < X.length := by omega
  rw [n1]
  refine ⟨by rw [List.length_set, h1], fun j hj => ?_, fun ho => ?_, fun j hj => ?_⟩
  · rw [set_at j hk]
    by_cases e : j = i / 2
    · rw [if_pos e]
      have ho : i % 2 = 1 := by omega
      obtain ⟨m1, m2⟩ := hv_int (hx (i - 1) (by omega))
      rw [h3 ho, mix_at m2 n2, show 2 * j = i - 1 by omega, show i - 1 + 1 = i by omega]
      rfl
    · rw [if_neg e]; exact h2 j (by omega)
  · rw [set_at _ hk, if_pos (by omega), h4 (i / 2) (by omega)]
    have := mix_at (a := 0) (by omega) n2
    rw [show i + 1 - 1 = i by omega]
    simpa using this
  · rw [set_at j hk, if_neg (by omega)]
    exact h4 j (by omega)
theorem HexS.done {l X : List UInt8} {i : Nat} (h : HexS l X i) (hi : i = l.length) (he : l.length % 2 = 0) : X = hexB l := by
  obtain ⟨h1, h2, h3, h4⟩ := h
  have hl := hexB_len l
  refine List.ext_getElem (by omega) fun j a b => ?_
  have e1 := h2 j (by omega)
  have e2 := hexB_get l j (by omega)
  rw [← e2] at e1
  simpa [List.getD, a, b] using e1
theorem zero_row (n j : Nat) : CEnt (.c (.int .u8 0)) (byF (List.replicate n 0) j) := CEnt.of_eq (by
  unfold byF
  rw [rep_at]; rfl)
set_option maxHeartbeats 1000000 in
theorem bytes38_ac (l : List UInt8) (hl : l.length ≤ 1000000) : ACp gs Tryd.prog 37 [strC l] (.tup 2 (fl [bsC (hexD l).1, .err (hexD l).2])) := by
  refine ac_of 53 Tryd.func37 rfl rfl rfl (fun al w0 F0 St0 => ?_)
  refine jcr ?_
  refine jq jrm ?_
  refine jq jrm ?_
  refine seq_nil ?_
  refine jcs ?_
  refine jcr ?_
  refine jq jrm ?_
  refine jq jrcs ?_
  refine seq_nil ?_
  refine jcc (fun h82 => ?_) fun h82 => ?_
  · refine jcr ?_
    refine jq jrm ?_
    refine jq jrm ?_
    refine seq_nil ?_
    refine code_ret (jtr (jrt (hv := ?_)))
    have hb : hexD l = ([], 0) := by unfold hexD; rw [if_pos (by first | assumption | simpa using h82)]
    exact CEnt.tup2 (CEnt.nilS' (by rw [hb]; rfl)) (CEnt.nilE (by rw [hb]))
  refine code_skip (jtn ?_)
  refine jcs ?_
  refine jcr ?_
  refine jq jrm ?_
  refine jq jrcs ?_
  refine jq jrm ?_
  refine jqsp 11 (fun g85 => ?_) fun g85 => ?_
  · refine jqs ?_
    refine jqs ?_
    refine jqs ?_
    refine jqs ?_
    refine jq jrpT ?_
    refine seq_nil ?_
    refine jcT ?_
    refine jcs ?_
    refine jcd (.rd 0 (.rd 1 (.rd 2 .done))) ?_
    refine jyq (jrde 3) ?_
    refine jyq jrm ?_
    refine jyq jrm ?_
    refine jyd ?_
    refine jtn ?_
    refine code_ret (jtr (jrt (hv := ?_)))
    have hb : hexD l = ([], 4) := by unfold hexD; rw [if_neg (by first | assumption | simpa using h82), if_pos (by first | (exact .inr (.inl (by omega))) | (exact .inl (by simp_all; done)) | (simp_all; omega))]
    exact CEnt.tup2 (CEnt.nilS' (by rw [hb]; rfl)) (CEnt.errN (by rw [hb]))
  refine jq jrm ?_
  refine jq jrls ?_
  first | refine jq jrr ?_ | refine jq (rd_remT rfl rfl rfl (by (first | omega | decide | (dsimp only at *; omega)))) ?_
  refine jq jrc ?_
  refine jq jrpF ?_
  refine seq_nil ?_
  refine jcc (fun h85 => ?_) fun h85 => ?_
  · refine jcs ?_
    refine jcd (.rd 0 (.rd 1 (.rd 2 .done))) ?_
    refine jyq (jrde 3) ?_
    refine jyq jrm ?_
    refine jyq jrm ?_
    refine jyd ?_
    refine jtn ?_
    refine code_ret (jtr (jrt (hv := ?_)))
    have hb : hexD l = ([], 4) := by unfold hexD; rw [if_neg (by first | assumption | simpa using h82), if_pos (by first | (exact .inr (.inl (by omega))) | (exact .inl (by simp_all; done)) | (simp_all; omega))]
    exact CEnt.tup2 (CEnt.nilS' (by rw [hb]; rfl)) (CEnt.errN (by rw [hb]))
  refine code_skip (jtn ?_)
  have he2 : l.length % 2 = 0 ∧ 0 < l.length := by
    have hne := List.length_pos_iff.2 (show l ≠ [] from g85)
    omega
  refine jcr ?_
  refine jq jrm ?_
  refine jq jrls ?_
  first | refine jq jrq ?_ | refine jq (rd_quoT rfl rfl rfl (by (first | omega | decide | (dsimp only at *; omega))) _ rfl) ?_
  refine jqe (e_make (F := byF (List.replicate (l.length / 2) 0)) rfl rfl rfl (by first | exact rfl | exact natI (by omega)) (by first | exact rfl | exact natI (by omega)) (by (first | omega | decide | (dsimp only at *; omega))) Tryd.underlying46 sz5 zr5 by5 (by (first | omega | decide | (dsimp only at *; omega))) (by (first | omega | decide | (dsimp only at *; omega))) (fun j hj => by rw [zero_cell j]; exact zero_row _ j) rfl rfl (fun p1 => ?_))
  refine seq_ent (weaken 21 (.os 0 p1 0 (l.length / 2) 1) (CEnt.osI rfl)) ?_
  refine jq jrm ?_
  refine seq_nil ?_
  refine jcs ?_
  refine jcr ?_
  refine jq jrm ?_
  refine jq jrls ?_
  refine jq jrm ?_
  refine seq_nil ?_
  refine code_block ?_
  refine l_loop (α := Nat × List UInt8) [2, 3, 5, 6, 24, 25, 26, 27, 28, 29, 30, 31, 32, 33, 34, 35, 36, 37, 38, 39, 40, 41, 42, 43, 44, 45, 46, 47] (fun (i, X) => [(24, .c (.int .i64 (i : Nat)))]) (fun (i, X) => [(p1, .blk (l.length / 2) (byF X))]) (fun (i, X) => i ≤ l.length ∧ HexS l X i ∧ ∀ j, j < i → 0 ≤ Lib.indexByte hexL (l.getD j 0)) (fun (i, X) => l.length - i) ((0, List.replicate (l.length / 2) 0)) ?_ (fun _ => rfl) ?_ ?_ ?_
  · exact ⟨Nat.zero_le _, HexS.start l, fun j hj => absurd hj (Nat.not_lt_zero j)⟩
  · exact .cons (CEnt.refl _) .nil
  · exact .blk (Nat.mul_one _) (fun j hj => CEnt.refl _) .nil
  · rintro ⟨i, X⟩ ⟨(hi : i ≤ l.length), (hS : HexS l X i), he⟩
    have hhx := hexB_bd (l.getD i 0)
    have hXl : X.length = l.length / 2 := hS.1
    refine jcr ?_
    refine jq jrc ?_
    refine seq_nil ?_
    refine jcs ?_
    refine jcc (fun h89 => ?_) fun h89 => ?_
    rotate_left
    · refine code_exit (jte (jte (jbx (jtn ?_))))
      refine jcs ?_
      have hil : i = l.length := by omega
      have hall : l.all isHx = true := all_hex fun j hj => he j (by omega)
      have hXe := hS.done hil he2.1
      refine jcr ?_
      refine jq jrm ?_
      refine jq jrl ?_
      refine jq jrc ?_
      refine seq_nil ?_
      refine jcc (fun h96 => ?_) fun h96 => ?_
      · refine jcs ?_
        refine jcd (.rd 0 (.rd 1 (.rd 2 .done))) ?_
        refine jyq (jrde 2) ?_
        refine jyq jrm ?_
        refine jyq jrm ?_
        refine jyd ?_
        refine jtn ?_
        refine code_ret (jtr (jrt (hv := ?_)))
        have hb : hexD l = ([], 3) := by unfold hexD; rw [if_neg (by first | assumption | simpa using h82), if_neg (by rw [hall]; rintro (h | h | h) <;> first | omega | cases h), if_pos (by omega)]
        exact CEnt.tup2 (CEnt.nilS' (by rw [hb]; rfl)) (CEnt.errN (by rw [hb]))
      refine code_skip (jtn ?_)
      refine code_ent (freeze 0 rfl) ?_
      refine code_ent (thaw 4 (fun k => fun _ => byF X k) rfl rfl (by omega) (fun a b ha hb => CEnt.of_eq (by rw [Nat.zero_add]; congr 1; omega))) ?_
      refine jcr ?_
      refine jq jrm ?_
      refine jq jrm ?_
      refine jq jrm ?_
      refine seq_nil ?_
      refine code_ret (jrt (hv := ?_))
      have hb : hexD l = (hexB l, 0) := by unfold hexD; rw [if_neg (by first | assumption | simpa using h82), if_neg (by rw [hall]; rintro (h | h | h) <;> first | omega | cases h), if_neg (by omega)]
      rw [hb]
      exact CEnt.tup2 (CEnt.rs (hexB_len l).symm fun i j hi hj => CEnt.of_eq (by rw [hXe])) (CEnt.nilE rfl)
    refine code_skip (jtn ?_)
    refine jcs ?_
    refine code_block ?_
    refine jcr ?_
    refine jq jrm ?_
    refine jq jrm ?_
    refine seq_nil ?_
    refine jcr ?_
    refine jq jrm ?_
    refine jq jrm ?_
    refine jq jrix ?_
    refine jqe (jecP (idxB_ac hexL (l.getD i 0)) ?_)
    refine jq jrm ?_
    refine seq_nil ?_
    refine jcs ?_
    refine jcr ?_
    refine jq jrm ?_
    refine jq jrc ?_
    refine seq_nil ?_
    refine jcc (fun h91 => ?_) fun h91 => ?_
    · refine jcs ?_
      refine jcd (.rd 0 (.rd 1 (.rd 2 .done))) ?_
      refine jyq (jrde 3) ?_
      refine jyq jrm ?_
      refine jyq jrm ?_
      refine jyd ?_
      refine jtn ?_
      refine code_ret (jtr (jbr (jtr (jtr (jbr (jtr (jrt (hv := ?_))))))))
      have hb : hexD l = ([], 4) := by unfold hexD; rw [if_neg (by first | assumption | simpa using h82), if_pos (.inr (.inr (no_hex (i := i) (by omega) (by omega))))]
      exact CEnt.tup2 (CEnt.nilS' (by rw [hb]; rfl)) (CEnt.errN (by rw [hb]))
    refine code_skip (jtn ?_)
    refine jcg ?_
    refine jq jrm ?_
    refine jq jrm ?_
    first | refine jq jrq ?_ | refine jq (rd_quoT rfl rfl rfl (by (first | omega | decide | (dsimp only at *; omega))) _ rfl) ?_
    refine jq jrm ?_
    refine jq jrm ?_
    first | refine jq jrq ?_ | refine jq (rd_quoT rfl rfl rfl (by (first | omega | decide | (dsimp only at *; omega))) _ rfl) ?_
    refine jq (jri (i := (i / 2)) (hz := by first | omega | (simp only [List.length_append, List.length_cons, List.length_nil]; omega))) ?_
    first | refine jqo jrdo ?_ | refine jq jrdr ?_
    refine jq (rd_shl rfl rfl rfl (by (first | omega | decide | (dsimp only at *; omega))) ((shl4 (X.getD (i / 2) 0))) (rfl)) ?_
    refine jq jrm ?_
    first | refine jq (jrv .i64 .u8) ?_ | refine jq (jrvW .i64 .u8) ?_
    refine jq (rd_or rfl rfl rfl ((orB (shl4 (X.getD (i / 2) 0)) (Lib.indexByte hexL (l.getD i 0)))) (rfl)) ?_
    refine jq (jri (i := (i / 2)) (hz := by first | omega | (simp only [List.length_append, List.length_cons, List.length_nil]; omega))) ?_
    refine jqm (jmstF 1 (byF (X.set (i / 2) (mixB (X.getD (i / 2) 0) (Lib.indexByte hexL (l.getD i 0))))) ?_ ?_)
    · exact (fun j hj => upd_byte (mixB_int _ _) (by omega) j)
    refine seq_nil ?_
    refine jbn (jtn ?_)
    refine jcg ?_
    refine jq jra ?_
    refine jq jrm ?_
    refine seq_nil ?_
    refine jtn ?_
    refine jlend ((i + 1, X.set (i / 2) (mixB (X.getD (i / 2) 0) (Lib.indexByte hexL (l.getD i 0))))) ?_ ?_ (h5 := ?_) (h7 := ?_)
    · have hx : ∀ j, j ≤ i → 0 ≤ Lib.indexByte hexL (l.getD j 0) := fun j hj => by
        by_cases e : j = i
        · subst e; omega
        · exact he j (by omega)
      exact ⟨by omega, hS.step (by omega) he2.1 hx, fun j hj => hx j (by omega)⟩
    · show l.length - (i + 1) < l.length - i; omega
    · exact .cons (CEnt.int (by omega)) .nil
    · exact .same .nil
/-! ### the reference -/
theorem dig_all : ∀ c : Fin 256, Lib.indexByte hexL (UInt8.ofNat c.val) = if 48 ≤ c.val ∧ c.val ≤ 57 then (c.val : Int) - 48 else if 97 ≤ c.val ∧ c.val ≤ 102 then (c.val : Int) - 97 + 10 else -1 := by decide +kernel
theorem dig_at (c : UInt8) : Lib.indexByte hexL c = if 48 ≤ c.toNat ∧ c.toNat ≤ 57 then (c.toNat : Int) - 48 else if 97 ≤ c.toNat ∧ c.toNat ≤ 102 then (c.toNat : Int) - 97 + 10 else -1 := by
  have h := dig_all ⟨c.toNat, c.toNat_lt⟩
  have e : UInt8.ofNat (⟨c.toNat, c.toNat_lt⟩ : Fin 256).val = c := UInt8.ofNat_toNat
  rw [e] at h
  exact h
theorem digit_ac {gs : List Nat} (c : UInt8) : ACp gs Tryd.prog 69 [.c (.int .u8 (c.toNat : Nat))] (.c (.int .i64 (Lib.indexByte hexL c))) := by
  have hd := dig_at c
  refine ac_of 22 Tryd.func69 rfl rfl rfl (fun al w0 F0 St0 => ?_)
  refine jcr ?_
  refine jq jrm ?_
  refine seq_nil ?_
  refine jcs ?_
  refine jcr ?_
  refine jq jrm ?_
  refine jq jrc ?_
  refine jq jrm ?_
  refine jqsp 5 (fun g42 => ?_) fun g42 => ?_
  rotate_left
  · refine jqs ?_
    refine jqs ?_
    refine jq jrpF ?_
    refine seq_nil ?_
    refine jcF ?_
    refine code_skip (jtn ?_)
    refine jcs ?_
    refine jcr ?_
    refine jq jrm ?_
    refine jq jrc ?_
    refine jq jrm ?_
    refine jqsp 14 (fun g45 => ?_) fun g45 => ?_
    rotate_left
    · refine jqs ?_
      refine jqs ?_
      refine jq jrpF ?_
      refine seq_nil ?_
      refine jcF ?_
      refine code_skip (jtn ?_)
      refine jcr ?_
      refine jq jrm ?_
      refine seq_nil ?_
      refine code_ret (jrt (hv := ?_))
      refine CEnt.int ?_
      rw [hd, if_neg (by omega), if_neg (by omega)]
    refine jq jrm ?_
    refine jq jrc ?_
    refine jq jrpT ?_
    refine seq_nil ?_
    refine jcc (fun h45 => ?_) fun h45 => ?_
    rotate_left
    · refine code_skip (jtn ?_)
      refine jcr ?_
      refine jq jrm ?_
      refine seq_nil ?_
      refine code_ret (jrt (hv := ?_))
      refine CEnt.int ?_
      rw [hd, if_neg (by omega), if_neg (by omega)]
    refine jcr ?_
    refine jq jrm ?_
    refine jq jra ?_
    first | refine jq (jrv8 .i64) ?_ | refine jq (jrv .u8 .i64) ?_ | refine jq (jrvW .u8 .i64) ?_
    refine jq jra ?_
    refine jq jrm ?_
    refine seq_nil ?_
    refine code_ret (jtr (jrt (hv := ?_)))
    refine CEnt.int ?_
    rw [hd, if_neg (by omega), if_pos (by omega)]
  refine jq jrm ?_
  refine jq jrc ?_
  refine jq jrpT ?_
  refine seq_nil ?_
  refine jcc (fun h42 => ?_) fun h42 => ?_
  · refine jcr ?_
    refine jq jrm ?_
    refine jq jra ?_
    first | refine jq (jrv8 .i64) ?_ | refine jq (jrv .u8 .i64) ?_ | refine jq (jrvW .u8 .i64) ?_
    refine jq jrm ?_
    refine seq_nil ?_
    refine code_ret (jtr (jrt (hv := ?_)))
    refine CEnt.int ?_
    rw [hd, if_pos (by omega)]
  refine code_skip (jtn ?_)
  refine jcs ?_
  refine jcr ?_
  refine jq jrm ?_
  refine jq jrc ?_
  refine jq jrm ?_
  refine jqsp 14 (fun g45 => ?_) fun g45 => ?_
  rotate_left
  · refine jqs ?_
    refine jqs ?_
    refine jq jrpF ?_
    refine seq_nil ?_
    refine jcF ?_
    refine code_skip (jtn ?_)
    refine jcr ?_
    refine jq jrm ?_
    refine seq_nil ?_
    refine code_ret (jrt (hv := ?_))
    refine CEnt.int ?_
    rw [hd, if_neg (by omega), if_neg (by omega)]
  refine jq jrm ?_
  refine jq jrc ?_
  refine jq jrpT ?_
  refine seq_nil ?_
  refine jcc (fun h45 => ?_) fun h45 => ?_
  rotate_left
  · refine code_skip (jtn ?_)
    refine jcr ?_
    refine jq jrm ?_
    refine seq_nil ?_
    refine code_ret (jrt (hv := ?_))
    refine CEnt.int ?_
    rw [hd, if_neg (by omega), if_neg (by omega)]
  refine jcr ?_
  refine jq jrm ?_
  refine jq jra ?_
  first | refine jq (jrv8 .i64) ?_ | refine jq (jrv .u8 .i64) ?_ | refine jq (jrvW .u8 .i64) ?_
  refine jq jra ?_
  refine jq jrm ?_
  refine seq_nil ?_
  refine code_ret (jtr (jrt (hv := ?_)))
  refine CEnt.int ?_
  rw [hd, if_neg (by omega), if_pos (by omega)]
theorem hexB_take {l : List UInt8} {k : Nat} (h : k < l.length / 2) : (hexB l).take (k + 1) = (hexB l).take k ++ [bx (l.getD (2 * k) 0) (l.getD (2 * k + 1) 0)] := by
  rw [take_snoc _ _ (by rw [hexB_len]; exact h), hexB_get l k h]
theorem bx_int {a b : UInt8} (ha : 0 ≤ Lib.indexByte hexL a) (hb : 0 ≤ Lib.indexByte hexL b) : 16 * Lib.indexByte hexL a + Lib.indexByte hexL b = ((bx a b).toNat : Nat) ∧ (bx a b).toNat < 256 := by
  obtain ⟨a1, a2⟩ := hv_int ha
  obtain ⟨b1, b2⟩ := hv_int hb
  rw [a1, b1]
  unfold bx
  rw [UInt8.toNat_ofNat']
  omega
set_option maxHeartbeats 1000000 in
theorem rbytes38_ac {gs : List Nat} (l : List UInt8) (hl : l.length ≤ 1000000) : ACp gs Tryd.prog 38 [strC l] (.tup 2 (fl [bsC (hexD l).1, .c (.int .i64 ((hexD l).2 : Nat))])) := by
  have hbl := hexB_len l
  refine ac_of 53 Tryd.func38 rfl rfl rfl (fun al w0 F0 St0 => ?_)
  refine jcr ?_
  refine jq jrm ?_
  refine jq jrm ?_
  refine seq_nil ?_
  refine jcs ?_
  refine jcr ?_
  refine jq jrm ?_
  refine jq jrcs ?_
  refine seq_nil ?_
  refine jcc (fun h53 => ?_) fun h53 => ?_
  · refine jcr ?_
    refine jq jrm ?_
    refine jq jrm ?_
    refine seq_nil ?_
    refine code_ret (jtr (jrt (hv := ?_)))
    have hb : hexD l = ([], 0) := by unfold hexD; rw [if_pos (by first | assumption | simpa using h53)]
    exact CEnt.tup2 (CEnt.nilS' (by rw [hb]; rfl)) (CEnt.int (by rw [hb]; rfl))
  refine code_skip (jtn ?_)
  refine jcs ?_
  refine jcr ?_
  refine jq jrm ?_
  refine jq jrls ?_
  refine jq jrc ?_
  refine jq jrm ?_
  refine jqsp 13 (fun g56 => ?_) fun g56 => ?_
  · refine jqs ?_
    refine jqs ?_
    refine jqs ?_
    refine jqs ?_
    refine jq jrpT ?_
    refine seq_nil ?_
    refine jcT ?_
    refine jcr ?_
    refine jq jrm ?_
    refine jq jrm ?_
    refine seq_nil ?_
    refine code_ret (jtr (jrt (hv := ?_)))
    have hb : hexD l = ([], 4) := by unfold hexD; rw [if_neg (by first | assumption | simpa using h53), if_pos (by first | (exact .inr (.inl (by omega))) | (exact .inl (by omega)) | (simp_all; omega))]
    exact CEnt.tup2 (CEnt.nilS' (by rw [hb]; rfl)) (CEnt.int (by rw [hb]; rfl))
  refine jq jrm ?_
  refine jq jrls ?_
  first | refine jq jrr ?_ | refine jq (rd_remT rfl rfl rfl (by (first | omega | decide | (dsimp only at *; omega)))) ?_
  refine jq jrc ?_
  refine jq jrpF ?_
  refine seq_nil ?_
  refine jcc (fun h56 => ?_) fun h56 => ?_
  · refine jcr ?_
    refine jq jrm ?_
    refine jq jrm ?_
    refine seq_nil ?_
    refine code_ret (jtr (jrt (hv := ?_)))
    have hb : hexD l = ([], 4) := by unfold hexD; rw [if_neg (by first | assumption | simpa using h53), if_pos (by first | (exact .inr (.inl (by omega))) | (exact .inl (by omega)) | (simp_all; omega))]
    exact CEnt.tup2 (CEnt.nilS' (by rw [hb]; rfl)) (CEnt.int (by rw [hb]; rfl))
  refine code_skip (jtn ?_)
  have he2 : l.length % 2 = 0 ∧ 0 < l.length := by omega
  refine jcr ?_
  refine jqe (jebl 0 1 zr5 fun p1 => ?_)
  refine jq jrm ?_
  refine seq_nil ?_
  refine jcs ?_
  refine jcr ?_
  refine jq jrm ?_
  refine seq_nil ?_
  refine code_block ?_
  refine l_loop (α := Nat × Option Nat) [2, 3, 4, 5, 6, 7, 20, 21, 22, 23, 24, 25, 26, 27, 28, 29, 30, 31, 32, 33, 34, 35, 36, 37, 38, 39, 40, 41, 42, 43, 44, 45, 46, 47, 48] (fun (k, g) => [(5, .c (.int .i64 (2 * k : Nat))), (4, .os 0 g 0 ((hexB l).take k).length 1)]) (fun (k, g) => [(g, .blk ((hexB l).take k).length (byF ((hexB l).take k)))]) (fun (k, g) => 2 * k ≤ l.length ∧ ∀ j, j < 2 * k → 0 ≤ Lib.indexByte hexL (l.getD j 0)) (fun (k, g) => l.length - 2 * k) ((0, p1)) ?_ (fun _ => rfl) ?_ ?_ ?_
  · exact ⟨Nat.zero_le _, fun j hj => absurd hj (Nat.not_lt_zero j)⟩
  · exact .cons (CEnt.refl _) (.cons (CEnt.refl _) .nil)
  · exact .blk rfl (fun j hj => absurd hj (Nat.not_lt_zero j)) .nil
  · rintro ⟨k, g⟩ ⟨(hi : 2 * k ≤ l.length), he⟩
    have hkl : ((hexB l).take k).length = k := by rw [List.length_take]; omega
    have hx1 := hexB_bd (l.getD (2 * k) 0)
    have hx2 := hexB_bd (l.getD (2 * k + 1) 0)
    refine jcs ?_
    refine jcr ?_
    refine jq jrm ?_
    refine jq jrm ?_
    refine jq jrls ?_
    refine jq jrc ?_
    refine seq_nil ?_
    refine jcc (fun h60 => ?_) fun h60 => ?_
    rotate_left
    · refine code_exit (jte (jte (jbx (jtn ?_))))
      refine jcs ?_
      have hil : 2 * k = l.length := by omega
      have hall : l.all isHx = true := all_hex fun j hj => he j (by omega)
      have hXe : (hexB l).take k = hexB l := List.take_of_length_le (by omega)
      refine jcr ?_
      refine jq jrm ?_
      refine jq jrl ?_
      refine jq jrc ?_
      refine seq_nil ?_
      refine jcc (fun h67 => ?_) fun h67 => ?_
      · refine jcr ?_
        refine jq jrm ?_
        refine jq jrm ?_
        refine seq_nil ?_
        refine code_ret (jtr (jrt (hv := ?_)))
        have hb : hexD l = ([], 3) := by unfold hexD; rw [if_neg (by first | assumption | simpa using h53), if_neg (by rw [hall]; rintro (h | h | h) <;> first | omega | cases h), if_pos (by omega)]
        exact CEnt.tup2 (CEnt.nilS' (by rw [hb]; rfl)) (CEnt.int (by rw [hb]; rfl))
      refine code_skip (jtn ?_)
      refine code_ent (freeze 0 rfl) ?_
      refine code_ent (thaw 4 (fun k => fun _ => byF (hexB l) k) rfl rfl (by omega) (fun a b ha hb => CEnt.of_eq (by rw [Nat.zero_add, hXe]; congr 1; omega))) ?_
      refine jcr ?_
      refine jq jrm ?_
      refine jq jrm ?_
      refine jq jrm ?_
      refine seq_nil ?_
      refine code_ret (jrt (hv := ?_))
      have hb : hexD l = (hexB l, 0) := by unfold hexD; rw [if_neg (by first | assumption | simpa using h53), if_neg (by rw [hall]; rintro (h | h | h) <;> first | omega | cases h), if_neg (by omega)]
      rw [hb]
      exact CEnt.tup2 (CEnt.rs (by rw [hXe]) fun i j hi hj => CEnt.refl _) (CEnt.int rfl)
    refine code_skip (jtn ?_)
    refine jcs ?_
    refine code_block ?_
    refine jcs ?_
    refine jcd (.rd 0 (.rd 1 (.rd 2 (.rd 4 (.rd 5 (.rd 6 (.rd 7 (.one 3 (.one 8 (.rd 9 (.rd 10 .done))))))))))) ?_
    refine jyq jrm ?_
    refine jyq jrm ?_
    refine jyq (jrix (i := (2 * k)) (hz := by first | omega | (simp only [List.length_append, List.length_cons, List.length_nil]; omega))) ?_
    refine jyq jrm ?_
    refine jyq jrm ?_
    refine jyq jra ?_
    refine jyq (jrix (i := (2 * k + 1)) (hz := by first | omega | (simp only [List.length_append, List.length_cons, List.length_nil]; omega))) ?_
    refine jye (jecP (digit_ac (l.getD (2 * k) 0)) ?_)
    refine jye (jecP (digit_ac (l.getD (2 * k + 1) 0)) ?_)
    refine jyq jrm ?_
    refine jyq jrm ?_
    refine jyd ?_
    refine jtn ?_
    refine jcs ?_
    refine jcr ?_
    refine jq jrm ?_
    refine jq jrc ?_
    refine jq jrm ?_
    refine jqsp 37 (fun g62 => ?_) fun g62 => ?_
    · refine jqs ?_
      refine jqs ?_
      refine jq jrpT ?_
      refine seq_nil ?_
      refine jcT ?_
      refine jcr ?_
      refine jq jrm ?_
      refine jq jrm ?_
      refine seq_nil ?_
      refine code_ret (jtr (jbr (jtr (jtr (jbr (jtr (jrt (hv := ?_))))))))
      have hb : hexD l = ([], 4) := by
        unfold hexD
        rw [if_neg (by first | assumption | simpa using h53), if_pos (.inr (.inr (by first | exact no_hex (i := 2 * k) (by omega) (by omega) | exact no_hex (i := 2 * k + 1) (by omega) (by omega))))]
      exact CEnt.tup2 (CEnt.nilS' (by rw [hb]; rfl)) (CEnt.int (by rw [hb]; rfl))
    refine jq jrm ?_
    refine jq jrc ?_
    refine jq jrpF ?_
    refine seq_nil ?_
    refine jcc (fun h62 => ?_) fun h62 => ?_
    · refine jcr ?_
      refine jq jrm ?_
      refine jq jrm ?_
      refine seq_nil ?_
      refine code_ret (jtr (jbr (jtr (jtr (jbr (jtr (jrt (hv := ?_))))))))
      have hb : hexD l = ([], 4) := by
        unfold hexD
        rw [if_neg (by first | assumption | simpa using h53), if_pos (.inr (.inr (by first | exact no_hex (i := 2 * k) (by omega) (by omega) | exact no_hex (i := 2 * k + 1) (by omega) (by omega))))]
      exact CEnt.tup2 (CEnt.nilS' (by rw [hb]; rfl)) (CEnt.int (by rw [hb]; rfl))
    refine code_skip (jtn ?_)
    have hbx := bx_int (a := l.getD (2 * k) 0) (b := l.getD (2 * k + 1) 0) (by omega) (by omega)
    refine jcg ?_
    refine jq jrm ?_
    refine jq jrm ?_
    refine jq jra ?_
    refine jq jrm ?_
    refine jq jra ?_
    first | refine jq (jrv .i64 .u8) ?_ | refine jq (jrvW .i64 .u8) ?_
    refine jqe (jebl 1 1 zr5 fun p2 => ?_)
    refine jqm (m_appendB (l2 := [bx (l.getD (2 * k) 0) (l.getD (2 * k + 1) 0)]) rfl rfl rfl (Nat.le_refl _) (fun _ _ => CEnt.refl _) (src_os rfl (.inl rfl) (by decide)) rfl (hh_bytes (.cons (CEnt.int ((by rw [← hbx.1]))) .nil)) Tryd.underlying46 nu46 sz5 zr5 by5 rfl (by first | omega | (simp; done) | (simp; omega) | (simp at *; omega)) (leaf_fl rfl rfl) rfl rfl (fun p3 => ?_))
    refine jq jrm ?_
    refine seq_nil ?_
    refine jbn (jtn ?_)
    refine jcg ?_
    refine jq jrm ?_
    refine jq jra ?_
    refine jq jrm ?_
    refine seq_nil ?_
    refine jtn ?_
    refine jlend ((k + 1, p3)) ?_ ?_ (h5 := ?_) (h7 := ?_)
    · exact ⟨by omega, fun j hj => by
        by_cases e : j = 2 * k
        · subst e; omega
        · by_cases e2 : j = 2 * k + 1
          · subst e2; omega
          · exact he j (by omega)⟩
    · show l.length - 2 * (k + 1) < l.length - 2 * k; omega
    · exact .cons (CEnt.int (by show _ = ((2 * (k + 1) : Nat) : Int); omega)) (.cons (CEnt.osI (by rw [hexB_take (by omega)]; first | done | simp)) .nil)
    · exact .blk (by rw [hexB_take (by omega)]; first | done | simp) (fun j hj => CEnt.of_eq (by rw [hexB_take (by omega)])) .nil
end Am
end Go.Proofs.YtdfjiodkmhpfkaaDoor

/- Chapter 38: a field from a word. -/
namespace Go.Proofs.YtdfjiodkmhpfkaaDoor
set_option linter.unusedVariables false
namespace Am
variable {gs : List Nat} [OkG gs]
open Go.RowKit
set_option maxRecDepth 100000

def opF (o : Op38) : Nat → CV := fl [.c (.int .i64 o.k), .c (.int .i64 o.n), .c (.int .i64 o.m), .c (.int .u64 (o.bits : Nat)), bsC o.b, .c (.int .i64 o.what), bsC o.cred, .c (.int .i64 o.kd), strC o.sp, strC o.nm, bsC o.mb, .c (.int .i64 o.mn), .c (.int .i64 o.mm), strC o.tx]
def numP (c : UInt8) (g : Option Nat) : CV := match numK c with | some k => .op 0 g k | none => .c (.pointer none)
def txtP (c : UInt8) (g : Option Nat) : CV := match txtK c with | some k => .op 0 g k | none => .c (.pointer none)
theorem u8_of {c d : UInt8} {n : Int} (h : ((c.toNat : Nat) : Int) = n) (hd : (d.toNat : Int) = n) : c = d := UInt8.toNat_inj.1 (by omega)
theorem u8_no {c d : UInt8} {n : Int} (h : ¬ ((c.toNat : Nat) : Int) = n) (hd : (d.toNat : Int) = n) : ¬ c = d := fun e => h (by rw [e]; exact hd)
theorem number_ac {gs : List Nat} (F : Nat → CV) (g : Option Nat) (c : UInt8) : AC gs Tryd.prog 97 [(g, .blk 14 F)] [.op 0 g 0, .c (.int .u8 (c.toNat : Nat))] (fun r H' => r = numP c g ∧ H' = [(g, .blk 14 F)]) := by
  refine ac_of 40 Tryd.func97 rfl rfl rfl (fun al w0 F0 St0 => ?_)
  refine jcr ?_
  refine jq jrm ?_
  refine seq_nil ?_
  refine jcs ?_
  refine jcr ?_
  refine jq jrm ?_
  refine seq_nil ?_
  refine code_block ?_
  refine jcr ?_
  refine jq jrc ?_
  refine jq jrm ?_
  refine seq_nil ?_
  refine jcc (fun h105 => ?_) fun h105 => ?_
  · refine jcr ?_
    refine jq jrm ?_
    refine jq jrnc ?_
    refine jq (jrfa 1 1 false) ?_
    refine jq jrm ?_
    refine seq_nil ?_
    refine code_ret (jbr (jtr ?_))
    obtain rfl : c = 110 := u8_of (by assumption) rfl
    exact end_own (.inl rfl) _ _ [0] (by decide) rfl (res_1 rfl (arv_tmp rfl)) ⟨rfl, rfl⟩
  refine jcr ?_
  refine jq jrc ?_
  refine jq jrm ?_
  refine seq_nil ?_
  refine jcc (fun h107 => ?_) fun h107 => ?_
  · refine jcr ?_
    refine jq jrm ?_
    refine jq jrnc ?_
    refine jq (jrfa 2 1 false) ?_
    refine jq jrm ?_
    refine seq_nil ?_
    refine code_ret (jbr (jtr ?_))
    obtain rfl : c = 109 := u8_of (by assumption) rfl
    exact end_own (.inl rfl) _ _ [0] (by decide) rfl (res_1 rfl (arv_tmp rfl)) ⟨rfl, rfl⟩
  refine jcr ?_
  refine jq jrc ?_
  refine jq jrm ?_
  refine seq_nil ?_
  refine jcc (fun h109 => ?_) fun h109 => ?_
  · refine jcr ?_
    refine jq jrm ?_
    refine jq jrnc ?_
    refine jq (jrfa 5 9 true) ?_
    refine jq (jrfa 0 1 false) ?_
    refine jq jrm ?_
    refine seq_nil ?_
    refine code_ret (jbr (jtr ?_))
    obtain rfl : c = 87 := u8_of (by assumption) rfl
    exact end_own (.inl rfl) _ _ [0] (by decide) rfl (res_1 rfl (arv_tmp rfl)) ⟨rfl, rfl⟩
  refine jcr ?_
  refine jq jrc ?_
  refine jq jrm ?_
  refine seq_nil ?_
  refine jcc (fun h111 => ?_) fun h111 => ?_
  · refine jcr ?_
    refine jq jrm ?_
    refine jq jrnc ?_
    refine jq (jrfa 5 9 true) ?_
    refine jq (jrfa 2 1 false) ?_
    refine jq jrm ?_
    refine seq_nil ?_
    refine code_ret (jbr (jtr ?_))
    obtain rfl : c = 75 := u8_of (by assumption) rfl
    exact end_own (.inl rfl) _ _ [0] (by decide) rfl (res_1 rfl (arv_tmp rfl)) ⟨rfl, rfl⟩
  refine jcr ?_
  refine jq jrc ?_
  refine jq jrm ?_
  refine seq_nil ?_
  refine jcc (fun h113 => ?_) fun h113 => ?_
  · refine jcr ?_
    refine jq jrm ?_
    refine jq jrnc ?_
    refine jq (jrfa 5 9 true) ?_
    refine jq (jrfa 6 1 false) ?_
    refine jq jrm ?_
    refine seq_nil ?_
    refine code_ret (jbr (jtr ?_))
    obtain rfl : c = 78 := u8_of (by assumption) rfl
    exact end_own (.inl rfl) _ _ [0] (by decide) rfl (res_1 rfl (arv_tmp rfl)) ⟨rfl, rfl⟩
  refine jcr ?_
  refine jq jrc ?_
  refine jq jrm ?_
  refine seq_nil ?_
  refine jcc (fun h115 => ?_) fun h115 => ?_
  rotate_left
  · refine code_skip (jbn (jtn ?_))
    refine jcr ?_
    refine jq jrm ?_
    refine seq_nil ?_
    refine code_ret ?_
    have hk : numK c = none := by
      unfold numK
      rw [if_neg (u8_no h105 rfl), if_neg (u8_no h107 rfl), if_neg (u8_no h109 rfl), if_neg (u8_no h111 rfl), if_neg (u8_no h113 rfl), if_neg (u8_no h115 rfl)]
    exact end_own (.inl rfl) _ _ [0] (by decide) rfl (res_1 rfl (arv_tmp rfl)) ⟨by unfold numP; rw [hk]; rfl, rfl⟩
  refine jcr ?_
  refine jq jrm ?_
  refine jq jrnc ?_
  refine jq (jrfa 5 9 true) ?_
  refine jq (jrfa 7 1 false) ?_
  refine jq jrm ?_
  refine seq_nil ?_
  refine code_ret (jbr (jtr ?_))
  obtain rfl : c = 77 := u8_of (by assumption) rfl
  exact end_own (.inl rfl) _ _ [0] (by decide) rfl (res_1 rfl (arv_tmp rfl)) ⟨rfl, rfl⟩
theorem text38_ac {gs : List Nat} (F : Nat → CV) (g : Option Nat) (c : UInt8) : AC gs Tryd.prog 98 [(g, .blk 14 F)] [.op 0 g 0, .c (.int .u8 (c.toNat : Nat))] (fun r H' => r = txtP c g ∧ H' = [(g, .blk 14 F)]) := by
  refine ac_of 24 Tryd.func98 rfl rfl rfl (fun al w0 F0 St0 => ?_)
  refine jcr ?_
  refine jq jrm ?_
  refine seq_nil ?_
  refine jcs ?_
  refine jcr ?_
  refine jq jrm ?_
  refine seq_nil ?_
  refine code_block ?_
  refine jcr ?_
  refine jq jrc ?_
  refine jq jrm ?_
  refine seq_nil ?_
  refine jcc (fun h124 => ?_) fun h124 => ?_
  · refine jcr ?_
    refine jq jrm ?_
    refine jq jrnc ?_
    refine jq (jrfa 5 9 true) ?_
    refine jq (jrfa 3 1 false) ?_
    refine jq jrm ?_
    refine seq_nil ?_
    refine code_ret (jbr (jtr ?_))
    obtain rfl : c = 83 := u8_of (by assumption) rfl
    exact end_own (.inl rfl) _ _ [0] (by decide) rfl (res_1 rfl (arv_tmp rfl)) ⟨rfl, rfl⟩
  refine jcr ?_
  refine jq jrc ?_
  refine jq jrm ?_
  refine seq_nil ?_
  refine jcc (fun h126 => ?_) fun h126 => ?_
  · refine jcr ?_
    refine jq jrm ?_
    refine jq jrnc ?_
    refine jq (jrfa 5 9 true) ?_
    refine jq (jrfa 4 1 false) ?_
    refine jq jrm ?_
    refine seq_nil ?_
    refine code_ret (jbr (jtr ?_))
    obtain rfl : c = 65 := u8_of (by assumption) rfl
    exact end_own (.inl rfl) _ _ [0] (by decide) rfl (res_1 rfl (arv_tmp rfl)) ⟨rfl, rfl⟩
  refine jcr ?_
  refine jq jrc ?_
  refine jq jrm ?_
  refine seq_nil ?_
  refine jcc (fun h128 => ?_) fun h128 => ?_
  rotate_left
  · refine code_skip (jbn (jtn ?_))
    refine jcr ?_
    refine jq jrm ?_
    refine seq_nil ?_
    refine code_ret ?_
    have hk : txtK c = none := by
      unfold txtK
      rw [if_neg (u8_no h124 rfl), if_neg (u8_no h126 rfl), if_neg (u8_no h128 rfl)]
    exact end_own (.inl rfl) _ _ [0] (by decide) rfl (res_1 rfl (arv_tmp rfl)) ⟨by unfold txtP; rw [hk]; rfl, rfl⟩
  refine jcr ?_
  refine jq jrm ?_
  refine jq jrnc ?_
  refine jq (jrfa 5 9 true) ?_
  refine jq (jrfa 8 1 false) ?_
  refine jq jrm ?_
  refine seq_nil ?_
  refine code_ret (jbr (jtr ?_))
  obtain rfl : c = 84 := u8_of (by assumption) rfl
  exact end_own (.inl rfl) _ _ [0] (by decide) rfl (res_1 rfl (arv_tmp rfl)) ⟨rfl, rfl⟩
theorem raw38_ac {gs : List Nat} (F : Nat → CV) (g : Option Nat) (c : UInt8) : AC gs Tryd.prog 99 [(g, .blk 14 F)] [.op 0 g 0, .c (.int .u8 (c.toNat : Nat))] (fun r H' => r = .op 0 g (rawK c) ∧ H' = [(g, .blk 14 F)]) := by
  refine ac_of 14 Tryd.func99 rfl rfl rfl (fun al w0 F0 St0 => ?_)
  refine jcr ?_
  refine jq jrm ?_
  refine seq_nil ?_
  refine jcs ?_
  refine jcr ?_
  refine jq jrm ?_
  refine jq jrc ?_
  refine seq_nil ?_
  refine jcc (fun h136 => ?_) fun h136 => ?_
  · refine jcr ?_
    refine jq jrm ?_
    refine jq jrnc ?_
    refine jq (jrfa 5 9 true) ?_
    refine jq (jrfa 5 1 false) ?_
    refine jq jrm ?_
    refine seq_nil ?_
    refine code_ret (jtr ?_)
    obtain rfl : c = 66 := u8_of (by assumption) rfl
    exact end_own (.inl rfl) _ _ [0] (by decide) rfl (res_1 rfl (arv_tmp rfl)) ⟨rfl, rfl⟩
  refine code_skip (jtn ?_)
  refine jcr ?_
  refine jq jrm ?_
  refine jq jrnc ?_
  refine jq (jrfa 4 1 false) ?_
  refine jq jrm ?_
  refine seq_nil ?_
  refine code_ret ?_
  have hk : rawK c = 4 := by
    unfold rawK
    rw [if_neg (u8_no h136 rfl)]
  exact end_own (.inl rfl) _ _ [0] (by decide) rfl (res_1 rfl (arv_tmp rfl)) ⟨by rw [hk]; rfl, rfl⟩
end Am
end Go.Proofs.YtdfjiodkmhpfkaaDoor

/- Chapter 38: a field from a word: the walk. -/
namespace Go.Proofs.YtdfjiodkmhpfkaaDoor
set_option linter.unusedVariables false
namespace Am
variable {gs : List Nat} [OkG gs]
open Go.RowKit
set_option maxRecDepth 100000

section
variable {P : Program} {G : Gh} {s : AS} {o : Oper} {p q : Operand} {t u : TypeId}
theorem run_ptr_nn {e : TypeId} (ht : P.underlying t = some (.pointer e)) (W : World) : (Op.equal t (.pointer none) (.pointer none)).run P W = .ok true W := by
  show (Op.equalIn 10000 t (.pointer none) (.pointer none)).run P W = _
  rw [show (10000 : Nat) = 9999 + 1 from rfl, Op.equalIn]
  simp only [underlying, Sem.run_bind, run_program, Result.andThen_ok, ht, Sem.run_pure]
  rfl
theorem rd_nePN {e : TypeId} (ho : o.op = .binOp .neq t p q u) (hx : s.eval p = .c (.pointer none)) (hy : s.eval q = .c (.pointer none)) (ht : P.underlying t = some (.pointer e)) : ARd P G o s (.c (.bool false)) := fun St a w h => by
  refine ⟨_, fun W _ => ?_, rfl⟩
  simp only [execOp, ho, evC h hx, evC h hy]
  refine vOk ?_
  simp [eqG_ptr, binOp, run_ptr_nn ht]
theorem rd_eqPN {e : TypeId} (ho : o.op = .binOp .eql t p q u) (hx : s.eval p = .c (.pointer none)) (hy : s.eval q = .c (.pointer none)) (ht : P.underlying t = some (.pointer e)) : ARd P G o s (.c (.bool true)) := fun St a w h => by
  refine ⟨_, fun W _ => ?_, rfl⟩
  simp only [execOp, ho, evC h hx, evC h hy]
  refine vOk ?_
  simp [eqG_ptr, binOp, run_ptr_nn ht]
end
theorem numP_some {c : UInt8} {g : Option Nat} {k : Nat} (h : numK c = some k) : numP c g = .op 0 g k := by unfold numP; rw [h]
theorem numP_none {c : UInt8} {g : Option Nat} (h : numK c = none) : numP c g = .c (.pointer none) := by unfold numP; rw [h]
theorem txtP_some {c : UInt8} {g : Option Nat} {k : Nat} (h : txtK c = some k) : txtP c g = .op 0 g k := by unfold txtP; rw [h]
theorem txtP_none {c : UInt8} {g : Option Nat} (h : txtK c = none) : txtP c g = .c (.pointer none) := by unfold txtP; rw [h]
theorem numK_cases {c : UInt8} {k : Nat} (h : numK c = some k) : (c = 110 ∧ k = 1) ∨ (c = 109 ∧ k = 2) ∨ (c = 87 ∧ k = 5) ∨ (c = 75 ∧ k = 7) ∨ (c = 78 ∧ k = 11) ∨ (c = 77 ∧ k = 12) := by
  unfold numK at h
  by_cases h1 : c = 110
  · rw [if_pos h1] at h; injection h with h; exact .inl ⟨h1, h.symm⟩
  · rw [if_neg h1] at h
    by_cases h2 : c = 109
    · rw [if_pos h2] at h; injection h with h; exact .inr (.inl ⟨h2, h.symm⟩)
    · rw [if_neg h2] at h
      by_cases h3 : c = 87
      · rw [if_pos h3] at h; injection h with h; exact .inr (.inr (.inl ⟨h3, h.symm⟩))
      · rw [if_neg h3] at h
        by_cases h4 : c = 75
        · rw [if_pos h4] at h; injection h with h; exact .inr (.inr (.inr (.inl ⟨h4, h.symm⟩)))
        · rw [if_neg h4] at h
          by_cases h5 : c = 78
          · rw [if_pos h5] at h; injection h with h; exact .inr (.inr (.inr (.inr (.inl ⟨h5, h.symm⟩))))
          · rw [if_neg h5] at h
            by_cases h6 : c = 77
            · rw [if_pos h6] at h; injection h with h; exact .inr (.inr (.inr (.inr (.inr ⟨h6, h.symm⟩))))
            · rw [if_neg h6] at h; cases h
theorem txtK_cases {c : UInt8} {k : Nat} (h : txtK c = some k) : (c = 83 ∧ k = 8) ∨ (c = 65 ∧ k = 9) ∨ (c = 84 ∧ k = 13) := by
  unfold txtK at h
  by_cases h1 : c = 83
  · rw [if_pos h1] at h; injection h with h; exact .inl ⟨h1, h.symm⟩
  · rw [if_neg h1] at h
    by_cases h2 : c = 65
    · rw [if_pos h2] at h; injection h with h; exact .inr (.inl ⟨h2, h.symm⟩)
    · rw [if_neg h2] at h
      by_cases h3 : c = 84
      · rw [if_pos h3] at h; injection h with h; exact .inr (.inr ⟨h3, h.symm⟩)
      · rw [if_neg h3] at h; cases h
theorem numK_bd {c : UInt8} {k : Nat} (h : numK c = some k) : k < 14 := by
  rcases numK_cases h with h | h | h | h | h | h <;> omega
theorem txtK_bd {c : UInt8} {k : Nat} (h : txtK c = some k) : k < 14 := by
  rcases txtK_cases h with h | h | h <;> omega
theorem rawK_bd (c : UInt8) : rawK c < 14 := by unfold rawK; split <;> omega
theorem upd_num {c : UInt8} {k : Nat} {o : Op38} {v : Int} (h : numK c = some k) (j : Nat) (hj : j < 14) : CEnt (updF (opF o) k (List.map CV.c (Value.int .i64 v).cells.toList) j) (opF (setN o c v) j) := by
  rcases numK_cases h with ⟨rfl, rfl⟩ | ⟨rfl, rfl⟩ | ⟨rfl, rfl⟩ | ⟨rfl, rfl⟩ | ⟨rfl, rfl⟩ | ⟨rfl, rfl⟩ <;> rcases j with _ | _ | _ | _ | _ | _ | _ | _ | _ | _ | _ | _ | _ | _ | j <;> first | exact CEnt.refl _ | omega
theorem upd_txt {c : UInt8} {k : Nat} {o : Op38} {v : List UInt8} (h : txtK c = some k) (j : Nat) (hj : j < 14) : CEnt (updF (opF o) k [strC v] j) (opF (setX o c v) j) := by
  rcases txtK_cases h with ⟨rfl, rfl⟩ | ⟨rfl, rfl⟩ | ⟨rfl, rfl⟩ <;> rcases j with _ | _ | _ | _ | _ | _ | _ | _ | _ | _ | _ | _ | _ | _ | j <;> first | exact CEnt.refl _ | omega
theorem setX_raw {c : UInt8} {o : Op38} {v : List UInt8} (h : txtK c = none) : setX o c v = if c = 66 then { o with mb := v } else { o with b := v } := by
  unfold txtK at h
  unfold setX
  by_cases h1 : c = 83
  · rw [if_pos h1] at h; cases h
  · rw [if_neg h1] at h
    by_cases h2 : c = 65
    · rw [if_pos h2] at h; cases h
    · rw [if_neg h2] at h
      by_cases h3 : c = 84
      · rw [if_pos h3] at h; cases h
      · rw [if_neg h1, if_neg h2, if_neg h3]
theorem upd_raw {c : UInt8} {o : Op38} {v : List UInt8} (h : txtK c = none) (j : Nat) (hj : j < 14) : CEnt (updF (opF o) (rawK c) [bsC v] j) (opF (setX o c v) j) := by
  rw [setX_raw h]
  unfold rawK
  by_cases e : c = 66
  · rw [if_pos e, if_pos e]
    rcases j with _ | _ | _ | _ | _ | _ | _ | _ | _ | _ | _ | _ | _ | _ | j <;> first | exact CEnt.refl _ | omega
  · rw [if_neg e, if_neg e]
    rcases j with _ | _ | _ | _ | _ | _ | _ | _ | _ | _ | _ | _ | _ | _ | j <;> first | exact CEnt.refl _ | omega
theorem figM_bd (l : List UInt8) : (figM l).1 < 1000000000000000000 := by
  have e := figM_ref l
  by_cases d : 1 ≤ l.length ∧ l.length ≤ 18 ∧ l.all isFig = true ∧ dec (valD l) = l
  · rw [if_pos d] at e; rw [e]; exact valD_lt18 d.2.2.1 d.2.1
  · rw [if_neg d] at e; rw [e]; decide
def HearQ (o : Op38) (g : Option Nat) (c : UInt8) (w : List UInt8) : CV → List (Option Nat × Res) → Prop := fun r H' => r = .err (hear1 o c w).2 ∧ H' = [(g, .blk 14 (opF (hear1 o c w).1))]
theorem hearQ_of {o o' : Op38} {g : Option Nat} {c : UInt8} {w : List UInt8} {e : Nat} (h : hear1 o c w = (o', e)) : HearQ o g c w (.err e) [(g, .blk 14 (opF o'))] := by
  unfold HearQ; rw [h]; exact ⟨rfl, rfl⟩
set_option maxHeartbeats 1000000 in
theorem hear_u_ac (o : Op38) (g : Option Nat) (w : List UInt8) : AC gs Tryd.prog 74 [(g, .blk 14 (opF o))] [.op 0 g 0, .c (.int .u8 ((117 : UInt8).toNat : Nat)), strC w] (HearQ o g 117 w) := by
  have hbd := figM_bd w
  refine ac_of 64 Tryd.func74 rfl rfl rfl (fun al w0 F0 St0 => ?_)
  refine jcr ?_
  refine jq jrm ?_
  refine seq_nil ?_
  refine jcs ?_
  refine jcr ?_
  refine jq jrm ?_
  refine jq jrc ?_
  refine seq_nil ?_
  refine jcc (fun h168 => ?_) fun h168 => ?_
  rotate_left
  · exfalso; exact absurd rfl h168
  refine jcr ?_
  refine jq jrm ?_
  refine jqe (jecP (wfig_ac w) ?_)
  refine jq jrm ?_
  refine jq jrx ?_
  refine jq jrx ?_
  refine jq jrm ?_
  refine jq jrm ?_
  refine seq_nil ?_
  refine jcr ?_
  refine jq jrm ?_
  refine jq jrm ?_
  first | refine jq (jrv .i64 .u64) ?_ | refine jq (jrvW .i64 .u64) ?_
  refine jq jrnc ?_
  refine jq (jrfa 3 1 false) ?_
  refine jqm (jmstF 1 (opF { o with bits := (figM w).1 }) ?_ ?_)
  · exact (fun j hj => by rcases j with _ | _ | _ | _ | _ | _ | _ | _ | _ | _ | _ | _ | _ | _ | j <;> first | exact CEnt.refl _ | omega)
  refine seq_nil ?_
  refine jcr ?_
  refine jq jrm ?_
  refine jq jrm ?_
  refine seq_nil ?_
  refine code_ret (jtr ?_)
  exact end_own (.inl rfl) _ _ [0] (by decide) rfl (res_1 rfl (arv_tmp rfl)) (hearQ_of (by unfold hear1; rw [if_pos rfl]))
theorem number_some {gs : List Nat} (F : Nat → CV) (g : Option Nat) {c : UInt8} {k : Nat} (h : numK c = some k) : AC gs Tryd.prog 97 [(g, .blk 14 F)] [.op 0 g 0, .c (.int .u8 (c.toNat : Nat))] (fun r H' => r = .op 0 g k ∧ H' = [(g, .blk 14 F)]) := by
  have := number_ac (gs := gs) F g c
  rwa [numP_some h] at this
theorem number_none {gs : List Nat} (F : Nat → CV) (g : Option Nat) {c : UInt8} (h : numK c = none) : AC gs Tryd.prog 97 [(g, .blk 14 F)] [.op 0 g 0, .c (.int .u8 (c.toNat : Nat))] (fun r H' => r = .c (.pointer none) ∧ H' = [(g, .blk 14 F)]) := by
  have := number_ac (gs := gs) F g c
  rwa [numP_none h] at this
theorem text_some {gs : List Nat} (F : Nat → CV) (g : Option Nat) {c : UInt8} {k : Nat} (h : txtK c = some k) : AC gs Tryd.prog 98 [(g, .blk 14 F)] [.op 0 g 0, .c (.int .u8 (c.toNat : Nat))] (fun r H' => r = .op 0 g k ∧ H' = [(g, .blk 14 F)]) := by
  have := text38_ac (gs := gs) F g c
  rwa [txtP_some h] at this
theorem text_none {gs : List Nat} (F : Nat → CV) (g : Option Nat) {c : UInt8} (h : txtK c = none) : AC gs Tryd.prog 98 [(g, .blk 14 F)] [.op 0 g 0, .c (.int .u8 (c.toNat : Nat))] (fun r H' => r = .c (.pointer none) ∧ H' = [(g, .blk 14 F)]) := by
  have := text38_ac (gs := gs) F g c
  rwa [txtP_none h] at this
theorem numK_u {c : UInt8} {k : Nat} (h : numK c = some k) : c ≠ 117 := by
  rcases numK_cases h with h | h | h | h | h | h <;> (rw [h.1]; decide)
set_option maxHeartbeats 1000000 in
theorem hear_n_ac (o : Op38) (g : Option Nat) (c : UInt8) (w : List UInt8) {k : Nat} (h : numK c = some k) : AC gs Tryd.prog 74 [(g, .blk 14 (opF o))] [.op 0 g 0, .c (.int .u8 (c.toNat : Nat)), strC w] (HearQ o g c w) := by
  have hkb := numK_bd h
  have hu := numK_u h
  refine ac_of 64 Tryd.func74 rfl rfl rfl (fun al w0 F0 St0 => ?_)
  refine jcr ?_
  refine jq jrm ?_
  refine seq_nil ?_
  refine jcs ?_
  refine jcr ?_
  refine jq jrm ?_
  refine jq jrc ?_
  refine seq_nil ?_
  refine jcc (fun h168 => ?_) fun h168 => ?_
  · exfalso; exact absurd (u8_of h168 rfl) hu
  refine code_skip (jtn ?_)
  refine jcs ?_
  refine jcr ?_
  refine jq jrm ?_
  refine jq jrm ?_
  refine jqm (jmcH 0 (number_some (opF o) g h) ?_)
  rintro _ _ ⟨rfl, rfl⟩
  refine ⟨_, _, rfl, CEnt.refl _, ?_⟩
  refine jq jrm ?_
  refine seq_nil ?_
  refine jcr ?_
  refine jq jrm ?_
  first | refine jq (rd_neP rfl rfl rfl Tryd.underlying138) ?_ | refine jq (rd_nePR rfl rfl rfl Tryd.underlying138) ?_ | refine jq (rd_nePN rfl rfl rfl Tryd.underlying138) ?_
  refine seq_nil ?_
  refine jcc (fun h173 => ?_) fun h173 => ?_
  rotate_left
  · exfalso; first | exact absurd rfl h173 | (simp at h173; done)
  refine jcr ?_
  refine jq jrm ?_
  refine jqe (jecP (number38_ac w) ?_)
  refine jq jrm ?_
  refine jq jrx ?_
  refine jq jrx ?_
  refine jq jrm ?_
  refine jq jrm ?_
  refine seq_nil ?_
  refine jcr ?_
  refine jq jrm ?_
  refine jq jrm ?_
  refine jq jrnc ?_
  refine jqm (jmstF 1 (opF (setN o c (numD w).1)) ?_ ?_)
  · exact (fun j hj => upd_num h j hj)
  refine seq_nil ?_
  refine jcr ?_
  refine jq jrm ?_
  refine jq jrm ?_
  refine seq_nil ?_
  refine code_ret (jtr ?_)
  exact end_own (.inl rfl) _ _ [0] (by decide) rfl (res_1 rfl (arv_tmp rfl)) (hearQ_of (by unfold hear1; rw [if_neg hu, if_pos (by rw [h]; rfl)]))
set_option maxHeartbeats 1000000 in
theorem hear_t_ac (o : Op38) (g : Option Nat) (c : UInt8) (w : List UInt8) {k : Nat} (hu : c ≠ 117) (hn : numK c = none) (h : txtK c = some k) (hl : w.length ≤ 1000000) : AC gs Tryd.prog 74 [(g, .blk 14 (opF o))] [.op 0 g 0, .c (.int .u8 (c.toNat : Nat)), strC w] (HearQ o g c w) := by
  have hkb := txtK_bd h
  refine ac_of 64 Tryd.func74 rfl rfl rfl (fun al w0 F0 St0 => ?_)
  refine jcr ?_
  refine jq jrm ?_
  refine seq_nil ?_
  refine jcs ?_
  refine jcr ?_
  refine jq jrm ?_
  refine jq jrc ?_
  refine seq_nil ?_
  refine jcc (fun h168 => ?_) fun h168 => ?_
  · exfalso; exact absurd (u8_of h168 rfl) hu
  refine code_skip (jtn ?_)
  refine jcs ?_
  refine jcr ?_
  refine jq jrm ?_
  refine jq jrm ?_
  refine jqm (jmcH 0 (number_none (opF o) g hn) ?_)
  rintro _ _ ⟨rfl, rfl⟩
  refine ⟨_, _, rfl, CEnt.refl _, ?_⟩
  refine jq jrm ?_
  refine seq_nil ?_
  refine jcr ?_
  refine jq jrm ?_
  first | refine jq (rd_neP rfl rfl rfl Tryd.underlying138) ?_ | refine jq (rd_nePR rfl rfl rfl Tryd.underlying138) ?_ | refine jq (rd_nePN rfl rfl rfl Tryd.underlying138) ?_
  refine seq_nil ?_
  refine jcc (fun h173 => ?_) fun h173 => ?_
  · exfalso; (simp at h173; done)
  refine code_skip (jtn ?_)
  refine jcr ?_
  refine jq jrm ?_
  refine jqe (jecP (bytes38_ac w hl) ?_)
  refine jq jrm ?_
  refine jq jrx ?_
  refine jq jrx ?_
  refine jq jrm ?_
  refine jq jrm ?_
  refine seq_nil ?_
  refine jcs ?_
  refine jcr ?_
  refine jq jrm ?_
  refine jq jre ?_
  refine seq_nil ?_
  refine jcc (fun h179 => ?_) fun h179 => ?_
  · refine jcr ?_
    refine jq jrm ?_
    refine jq jrm ?_
    refine seq_nil ?_
    refine code_ret (jtr ?_)
    exact end_own (.inl rfl) _ _ [0] (by decide) rfl (res_1 rfl (arv_tmp rfl)) (hearQ_of (by unfold hear1; rw [if_neg hu, if_neg (by rw [hn]; exact Bool.noConfusion), if_pos h179]))
  refine code_skip (jtn ?_)
  refine jcs ?_
  refine jcr ?_
  refine jq jrm ?_
  refine jq jrm ?_
  refine jqm (jmcH 0 (text_some (opF o) g h) ?_)
  rintro _ _ ⟨rfl, rfl⟩
  refine ⟨_, _, rfl, CEnt.refl _, ?_⟩
  refine jq jrm ?_
  refine seq_nil ?_
  refine jcr ?_
  refine jq jrm ?_
  first | refine jq (rd_neP rfl rfl rfl Tryd.underlying140) ?_ | refine jq (rd_nePR rfl rfl rfl Tryd.underlying140) ?_ | refine jq (rd_nePN rfl rfl rfl Tryd.underlying140) ?_
  refine seq_nil ?_
  refine jcc (fun h182 => ?_) fun h182 => ?_
  rotate_left
  · exfalso; first | exact absurd rfl h182 | (simp at h182; done)
  refine jcr ?_
  refine jq jrm ?_
  refine jq jrm ?_
  first | refine jq jrbs ?_ | refine jqo jrbo ?_ | refine jq jrbn ?_
  refine jq jrnc ?_
  refine jqm (jmstF 1 (opF (setX o c (hexD w).1)) ?_ ?_)
  · exact (fun j hj => upd_txt h j hj)
  refine seq_nil ?_
  refine jcr ?_
  refine jq jrm ?_
  refine seq_nil ?_
  refine code_ret (jtr ?_)
  refine end_own (.inl rfl) _ _ [0] (by decide) rfl (ARes.ent (v := .c .nilIface) (res_1 rfl (arv_tmp rfl)) CEnt.nil) (hearQ_of (by unfold hear1; rw [if_neg hu, if_neg (by rw [hn]; exact Bool.noConfusion), if_neg h179]))
set_option maxHeartbeats 1000000 in
theorem hear_r_ac (o : Op38) (g : Option Nat) (c : UInt8) (w : List UInt8) (hu : c ≠ 117) (hn : numK c = none) (h : txtK c = none) (hl : w.length ≤ 1000000) : AC gs Tryd.prog 74 [(g, .blk 14 (opF o))] [.op 0 g 0, .c (.int .u8 (c.toNat : Nat)), strC w] (HearQ o g c w) := by
  have hkb := rawK_bd c
  refine ac_of 64 Tryd.func74 rfl rfl rfl (fun al w0 F0 St0 => ?_)
  refine jcr ?_
  refine jq jrm ?_
  refine seq_nil ?_
  refine jcs ?_
  refine jcr ?_
  refine jq jrm ?_
  refine jq jrc ?_
  refine seq_nil ?_
  refine jcc (fun h168 => ?_) fun h168 => ?_
  · exfalso; exact absurd (u8_of h168 rfl) hu
  refine code_skip (jtn ?_)
  refine jcs ?_
  refine jcr ?_
  refine jq jrm ?_
  refine jq jrm ?_
  refine jqm (jmcH 0 (number_none (opF o) g hn) ?_)
  rintro _ _ ⟨rfl, rfl⟩
  refine ⟨_, _, rfl, CEnt.refl _, ?_⟩
  refine jq jrm ?_
  refine seq_nil ?_
  refine jcr ?_
  refine jq jrm ?_
  first | refine jq (rd_neP rfl rfl rfl Tryd.underlying138) ?_ | refine jq (rd_nePR rfl rfl rfl Tryd.underlying138) ?_ | refine jq (rd_nePN rfl rfl rfl Tryd.underlying138) ?_
  refine seq_nil ?_
  refine jcc (fun h173 => ?_) fun h173 => ?_
  · exfalso; (simp at h173; done)
  refine code_skip (jtn ?_)
  refine jcr ?_
  refine jq jrm ?_
  refine jqe (jecP (bytes38_ac w hl) ?_)
  refine jq jrm ?_
  refine jq jrx ?_
  refine jq jrx ?_
  refine jq jrm ?_
  refine jq jrm ?_
  refine seq_nil ?_
  refine jcs ?_
  refine jcr ?_
  refine jq jrm ?_
  refine jq jre ?_
  refine seq_nil ?_
  refine jcc (fun h179 => ?_) fun h179 => ?_
  · refine jcr ?_
    refine jq jrm ?_
    refine jq jrm ?_
    refine seq_nil ?_
    refine code_ret (jtr ?_)
    exact end_own (.inl rfl) _ _ [0] (by decide) rfl (res_1 rfl (arv_tmp rfl)) (hearQ_of (by unfold hear1; rw [if_neg hu, if_neg (by rw [hn]; exact Bool.noConfusion), if_pos h179]))
  refine code_skip (jtn ?_)
  refine jcs ?_
  refine jcr ?_
  refine jq jrm ?_
  refine jq jrm ?_
  refine jqm (jmcH 0 (text_none (opF o) g h) ?_)
  rintro _ _ ⟨rfl, rfl⟩
  refine ⟨_, _, rfl, CEnt.refl _, ?_⟩
  refine jq jrm ?_
  refine seq_nil ?_
  refine jcr ?_
  refine jq jrm ?_
  first | refine jq (rd_neP rfl rfl rfl Tryd.underlying140) ?_ | refine jq (rd_nePR rfl rfl rfl Tryd.underlying140) ?_ | refine jq (rd_nePN rfl rfl rfl Tryd.underlying140) ?_
  refine seq_nil ?_
  refine jcc (fun h182 => ?_) fun h182 => ?_
  · exfalso; (simp at h182; done)
  refine code_skip (jtn ?_)
  refine jcr ?_
  refine jq jrm ?_
  refine jq jrm ?_
  refine jqm (jmcH 0 (raw38_ac (opF o) g c) ?_)
  rintro _ _ ⟨rfl, rfl⟩
  refine ⟨_, _, rfl, CEnt.refl _, ?_⟩
  refine jq jrm ?_
  refine jq jrnc ?_
  refine jqm (jmstF 1 (opF (setX o c (hexD w).1)) ?_ ?_)
  · exact (fun j hj => upd_raw h j hj)
  refine seq_nil ?_
  refine jcr ?_
  refine jq jrm ?_
  refine seq_nil ?_
  refine code_ret ?_
  refine end_own (.inl rfl) _ _ [0] (by decide) rfl (ARes.ent (v := .c .nilIface) (res_1 rfl (arv_tmp rfl)) CEnt.nil) (hearQ_of (by unfold hear1; rw [if_neg hu, if_neg (by rw [hn]; exact Bool.noConfusion), if_neg h179]))
theorem hear_ac (o : Op38) (g : Option Nat) (c : UInt8) (w : List UInt8) (hl : w.length ≤ 1000000) : AC gs Tryd.prog 74 [(g, .blk 14 (opF o))] [.op 0 g 0, .c (.int .u8 (c.toNat : Nat)), strC w] (HearQ o g c w) := by
  by_cases hu : c = 117
  · subst hu; exact hear_u_ac o g w
  · cases hn : numK c with
    | some k => exact hear_n_ac o g c w hn
    | none =>
      cases h : txtK c with
      | some k => exact hear_t_ac o g c w hu hn h hl
      | none => exact hear_r_ac o g c w hu hn h hl
end Am
end Go.Proofs.YtdfjiodkmhpfkaaDoor

/- Chapter 5: identifiers: right, septets, number, the iterators, Parse. -/
namespace Go.Proofs.YtdfjiodkmhpfkaaDoor
set_option linter.unusedVariables false
namespace Am
variable {gs : List Nat} [Ok2 gs]
open Go.RowKit
set_option maxRecDepth 100000

def outA (n : Int) : Bool := decide (n < 0) || decide (2147483647 < n)
theorem right_out (l : List Int) : (!l.any outA) = l.all (fun n => decide (0 ≤ n) && decide (n ≤ 2147483647)) := by
  rw [← all_not_any]
  congr 2
  funext n
  unfold outA
  by_cases h1 : n < 0 <;> by_cases h2 : 2147483647 < n <;> simp [h1, h2] <;> omega
end Am
end Go.Proofs.YtdfjiodkmhpfkaaDoor

/- Chapter 5: septets, number; the parts of a text, one by one; Parse. -/
namespace Go.Proofs.YtdfjiodkmhpfkaaDoor
set_option linter.unusedVariables false
namespace Am
variable {gs : List Nat} [Ok2 gs]
open Go.RowKit
set_option maxRecDepth 100000

/-! ### numbers of seven bits a byte -/
theorem sep_int (n : Nat) : (((UInt8.ofNat (n % 128)).toNat : Nat) : Int) = (n : Int) % 128 := by
  rw [UInt8.toNat_ofNat']; omega
theorem sep_int2 (n : Nat) : (((UInt8.ofNat (n % 128 + 128)).toNat : Nat) : Int) = (n : Int) % 128 + 128 := by
  rw [UInt8.toNat_ofNat']; omega
theorem snoc7 {l : List UInt8} {i : Nat} (h : i < l.length) : valS (l.take (i + 1)) = valS (l.take i) * 128 + (l.getD i 0).toNat % 128 := by
  rw [List.take_succ_eq_append_getElem h, valS_snoc]
  simp [List.getD, h]
theorem valS_le {l : List UInt8} (i : Nat) : valS (l.take i) ≤ valS l := by
  have key : ∀ (r : List UInt8) (a : List UInt8), valS a ≤ valS (a ++ r) := by
    intro r
    induction r with
    | nil => simp
    | cons c r ih =>
      intro a
      have h1 := ih (a ++ [c])
      rw [valS_snoc] at h1
      rw [show a ++ c :: r = a ++ [c] ++ r by simp]
      have : valS a ≤ valS a * 128 := by omega
      omega
  have := key (l.drop i) (l.take i)
  rwa [List.take_append_drop] at this
theorem numM_pos {r : List UInt8} {most : Nat} {x : Nat × Nat} (h : numM r most = x) : (numM r most).1 = x.1 ∧ (numM r most).2 = x.2 := by rw [h]; exact ⟨rfl, rfl⟩
/-! ### the parts of a text -/
theorem index1_ac {gs : List Nat} (a : List UInt8) (c : UInt8) : ACp gs Tryd.prog 120 [strC a, strC [c]] (.c (.int .i64 (Lib.indexByte a c))) :=
  ac_old fun al w St vals hs hv hr => by
    rw [vals2 hv, show vals.getD 0 undef = .string ⟨a.toArray⟩ from hr 0, show vals.getD 1 undef = .string ⟨#[c]⟩ from hr 1]
    exact (Tryd.strings_Index_one _ _ w).mono (by rintro e w' ⟨rfl, rfl⟩; exact ⟨by simp, Below.refl _ _⟩)
theorem idx_cut (c : UInt8) : ∀ l : List UInt8, (Lib.indexByte l c < 0 ∧ splitC c l = [l]) ∨ ∃ p r, l = p ++ c :: r ∧ Lib.indexByte l c = (p.length : Nat) ∧ splitC c l = p :: splitC c r
  | [] => .inl ⟨by simp [Lib.indexByte], rfl⟩
  | x :: l => by
    by_cases hx : x = c
    · subst hx
      refine .inr ⟨[], l, rfl, ?_, ?_⟩
      · simp [Lib.indexByte]
      · simp [splitC]
    · rcases idx_cut c l with ⟨h1, h2⟩ | ⟨p, r, h1, h2, h3⟩
      · refine .inl ⟨?_, ?_⟩
        · have := Lib.indexByte_ge l c
          have e : Lib.indexByte l c = -1 := by omega
          simp [Lib.indexByte, hx, e]
        · rw [splitC, if_neg hx, h2]; rfl
      · refine .inr ⟨x :: p, r, by rw [h1]; rfl, ?_, ?_⟩
        · have e : ¬ Lib.indexByte l c = -1 := by omega
          simp [Lib.indexByte, hx, h2]; try omega
        · rw [splitC, if_neg hx, h3]; rfl
/-- what strings.splitSeq hands out: the closure, and the box of what is left -/
def seqF (f : FuncId) (c : UInt8) (g : Option Nat) : CV := .fn f 3 (fl [.rp 1 fun _ => strC [c], .op 0 g 0, .rp 1 fun _ => .c (.int .i64 0)])
theorem parts_drop {c : UInt8} {s rest : List UInt8} {k : Nat} (h : (splitC c s).drop k = splitC c rest) : k < (splitC c s).length := by
  have := splitC_ne c rest
  rw [← h] at this
  apply Classical.byContradiction
  intro hn
  exact this (List.drop_eq_nil_of_le (by omega))
theorem drop_getD {α : Type} {l : List α} {k : Nat} {d x : α} {r : List α} (h : l.drop k = x :: r) : l.getD k d = x ∧ l.drop (k + 1) = r := by
  have h1 : l[k]? = some x := by
    have := congrArg (fun m => m[0]?) h
    simpa using this
  exact ⟨by simp [List.getD, h1], by rw [← List.drop_drop, h]; rfl⟩
end Am
end Go.Proofs.YtdfjiodkmhpfkaaDoor

/- Chapter 38: the forms of ops; the words of a line. -/
namespace Go.Proofs.YtdfjiodkmhpfkaaDoor
set_option linter.unusedVariables false
namespace Am
variable {gs : List Nat} [OkG gs]
open Go.RowKit
set_option maxRecDepth 100000

abbrev F38 := List UInt8 × Int × List UInt8
def foF (z : F38) : Nat → CV := fl [strC z.1, .c (.int .i64 z.2.1), strC z.2.2]
def foC (l : List F38) : CV := .rs 3 l.length fun i => foF (l.getD i f38)
set_option maxHeartbeats 1000000 in
theorem forms_ac {gs : List Nat} : ACp gs Tryd.prog 71 [] (foC formsL) := by
  refine ac_of 15 Tryd.func71 rfl rfl rfl (fun al w0 F0 St0 => ?_)
  refine jcr ?_
  refine jq jrm ?_
  refine seq_nil ?_
  refine jcr ?_
  refine jq (rd_build (n := 3) rfl zr110 pl110 rfl rfl) ?_
  refine jq (rd_build (n := 3) rfl zr110 pl110 rfl rfl) ?_
  refine jq (rd_build (n := 3) rfl zr110 pl110 rfl rfl) ?_
  refine jq (rd_build (n := 3) rfl zr110 pl110 rfl rfl) ?_
  refine jq (rd_build (n := 3) rfl zr110 pl110 rfl rfl) ?_
  refine jq (rd_build (n := 3) rfl zr110 pl110 rfl rfl) ?_
  refine jq (rd_build (n := 3) rfl zr110 pl110 rfl rfl) ?_
  refine jq (rd_build (n := 3) rfl zr110 pl110 rfl rfl) ?_
  refine jq (rd_build (n := 3) rfl zr110 pl110 rfl rfl) ?_
  refine jq (rd_build (n := 3) rfl zr110 pl110 rfl rfl) ?_
  refine jq (rd_build (n := 3) rfl zr110 pl110 rfl rfl) ?_
  refine jq (rd_build (n := 3) rfl zr110 pl110 rfl rfl) ?_
  refine jq (rd_build (n := 3) rfl zr110 pl110 rfl rfl) ?_
  refine jqe (jebl 39 3 zr110 fun p1 => ?_)
  refine jq jrm ?_
  refine seq_nil ?_
  refine code_ent (freeze 0 rfl) ?_
  refine code_ent (thaw 0 (fun i => foF (formsL.getD i f38)) rfl rfl (by decide) (fun a b ha hb => by rcases a with _ | _ | _ | _ | _ | _ | _ | _ | _ | _ | _ | _ | _ | a <;> (first | (rcases b with _ | _ | _ | b <;> first | exact CEnt.refl _ | omega) | omega))) ?_
  refine code_ret (jrt (hv := CEnt.refl _))
theorem fidx_ac {gs : List Nat} {g : FuncId} {n : Nat} {fv : Nat → CV} (hc : calleeB Tryd.prog g = true) (l : List F38) (p : F38 → Bool) (hp : ∀ r, ACp gs Tryd.prog g (.agg 3 (foF r) :: (List.range n).map fv) (.c (.bool (p r)))) :
    ACp gs Tryd.prog 72 [foC l, .fn g n fv] (.c (.int .i64 (firstI p l))) := by
  refine ac_len 0 rfl fun hlen => ?_
  refine ac_of 19 Tryd.func72 rfl rfl rfl (fun al w0 F0 St0 => ?_)
  refine jcr ?_
  refine jq jrm ?_
  refine seq_nil ?_
  refine jcs ?_
  refine jcr ?_
  refine jq jrm ?_
  refine jq jrl ?_
  refine jq jrm ?_
  refine seq_nil ?_
  refine code_block ?_
  refine l_loop (α := Nat) [4, 5, 8, 9, 10, 11, 12, 13, 14, 15, 16, 17, 18] (fun i => [(8, .c (.int .i64 (i : Nat)))]) (fun _ => []) (fun i => i ≤ l.length ∧ ∀ j (hj : j < l.length), j < i → p l[j] = false) (fun i => l.length - i) (0) ?_ (fun _ => rfl) ?_ ?_ ?_
  · exact ⟨by omega, fun j _ hj => absurd hj (Nat.not_lt_zero j)⟩
  · (repeat (first | exact EntE.nil | refine EntE.cons (CEnt.refl _) ?_ | refine EntE.cons (CEnt.int (by omega)) ?_))
  · (repeat (first | exact HEnt.nil | refine HEnt.same ?_ | refine HEnt.blk rfl (fun j hj => by rcases j with _|_|_|_|_|_|_|_|j <;> first | exact CEnt.refl _ | exact CEnt.int (by omega) | omega) ?_))
  · rintro i ⟨hi, he⟩
    refine jcr ?_
    refine jq jrc ?_
    refine seq_nil ?_
    refine jcs ?_
    refine jcc (fun h108 => ?_) fun h108 => ?_
    rotate_left
    · refine code_exit (jte (jte (jbx (jtn ?_))))
      refine jcr ?_
      refine jq jrm ?_
      refine seq_nil ?_
      refine code_ret (jrt (hv := ?_))
      refine CEnt.int ?_
      exact (firstI_none fun j hj => he j hj (by omega)).symm
    refine code_skip (jtn ?_)
    refine jcs ?_
    refine code_block ?_
    refine jcr ?_
    refine jq jrm ?_
    refine jq jrm ?_
    refine seq_nil ?_
    refine jcr ?_
    refine jq jrm ?_
    refine jq jrm ?_
    refine jq jrm ?_
    refine jq jri ?_
    first | refine jqo (jrdoA 3) ?_ | refine jq (jrdrA 3) ?_
    refine seq_ex (wanted_none rfl) (e_callV rfl rfl (by first | assumption | kernel_rfl) (hp (l.getD i f38)) (entL_fn (CEnt.refl _) _) rfl rfl ?_)
    rintro _ _ ⟨rfl, rfl⟩
    refine seq_nil ?_
    refine jcc (fun h109 => ?_) fun h109 => ?_
    · refine jcr ?_
      refine jq jrm ?_
      refine jq jrm ?_
      refine seq_nil ?_
      refine code_ret (jbr (jtr (jtr (jbr (jtr (jrt (hv := ?_)))))))
      refine CEnt.int ?_
      have hlt : i < l.length := by omega
      exact (firstI_at i hlt (by simpa [List.getD, hlt] using h109) (fun j hj => he j (by omega) hj)).symm
    refine code_skip (jbn (jtn ?_))
    refine jcg ?_
    refine jq jra ?_
    refine jq jrm ?_
    refine seq_nil ?_
    refine jtn ?_
    refine jlend (i + 1) ?_ ?_
    · exact ⟨by omega, fun j hj hj1 => by
        by_cases e : j = i
        · subst e
          simpa [List.getD, hj] using h109
        · exact he j hj (by omega)⟩
    · omega
theorem word0_ac {gs : List Nat} (ws : List (List UInt8)) (hw : 0 < ws.length) (z : F38) : ACp gs Tryd.prog 73 (.agg 3 (foF z) :: (List.range 1).map (fl [.rp 1 fun _ => lsC ws])) (.c (.bool (decide (z.1 = ws.getD 0 [])))) := by
  refine ac_of 10 Tryd.func73 rfl rfl rfl (fun al w0 F0 St0 => ?_)
  refine jcr ?_
  refine jqe (jebx 3 fun p1 => ?_)
  refine jq jrm ?_
  refine seq_nil ?_
  refine jcs ?_
  refine jcd (.rd 0 (.rd 1 (.rd 2 (.rd 3 (.rd 4 (.rd 5 (.rd 6 .done))))))) ?_
  refine jyq (jrfa 0 1 false) ?_
  first | refine jyo jrdo ?_ | refine jyq jrdr ?_
  first | refine jyo jrdo ?_ | refine jyq jrdr ?_
  refine jyq (jri (i := 0)) ?_
  first | refine jyo jrdo ?_ | refine jyq jrdr ?_
  refine jyq jrcs ?_
  refine jyq jrm ?_
  refine jyd ?_
  refine jtn ?_
  refine code_ret (jrt (hv := CEnt.bool rfl))
/-! ### the words of a line -/
theorem split_count (c : UInt8) : ∀ l : List UInt8, (splitC c l).length = l.count c + 1
  | [] => rfl
  | x :: l => by
    have ih := split_count c l
    rw [splitC]
    by_cases h : x = c
    · rw [if_pos h, List.length_cons, ih, h, List.count_cons_self]
    · rw [if_neg h, List.count_cons_of_ne h]
      cases e : splitC c l with
      | nil => exact absurd e (splitC_ne c l)
      | cons p r => rw [e] at ih; simpa [consHead] using ih
theorem count1_ac {gs : List Nat} (a : List UInt8) (c : UInt8) : ACp gs Tryd.prog 119 [strC a, strC [c]] (.c (.int .i64 (a.count c : Nat))) :=
  ac_old fun al w St vals hs hv hr => by
    rw [vals2 hv, show vals.getD 0 undef = .string ⟨a.toArray⟩ from hr 0, show vals.getD 1 undef = .string ⟨#[c]⟩ from hr 1]
    exact (Tryd.strings_Count_one _ _ w).mono (by rintro e w' ⟨rfl, rfl⟩; exact ⟨rfl, Below.refl _ _⟩)
/-- a row of texts under way: X holds, of the parts of s, the first i; l is what is left -/
def SplS (c : UInt8) (s l : List UInt8) (X : List (List UInt8)) (i : Nat) : Prop :=
  X.length = s.count c + 1 ∧ splitC c s = X.take i ++ splitC c l ∧ l.length ≤ s.length ∧ i ≤ s.count c
theorem SplS.some {c : UInt8} {s l : List UInt8} {X : List (List UInt8)} {i : Nat} (h : SplS c s l X i) (hi : i < s.count c) : 0 ≤ Lib.indexByte l c ∧ Lib.indexByte l c < l.length := by
  obtain ⟨h1, h2, h3, h4⟩ := h
  have hc := split_count c s
  rcases idx_cut c l with ⟨e1, e2⟩ | ⟨p, r, e1, e2, e3⟩
  · have := congrArg List.length h2
    rw [hc, List.length_append, List.length_take, e2] at this
    simp at this
    omega
  · refine ⟨by rw [e2]; omega, ?_⟩
    rw [e2, e1]; simp; omega
theorem SplS.step {c : UInt8} {s l : List UInt8} {X : List (List UInt8)} {i : Nat} (h : SplS c s l X i) (hi : i < s.count c) : SplS c s (l.drop ((Lib.indexByte l c).toNat + 1)) (X.set i (l.take (Lib.indexByte l c).toNat)) (i + 1) := by
  have hs := h.some hi
  obtain ⟨h1, h2, h3, h4⟩ := h
  rcases idx_cut c l with ⟨e1, e2⟩ | ⟨p, r, e1, e2, e3⟩
  · omega
  · rw [e2, Int.toNat_natCast, e1]
    have d1 : (p ++ c :: r).drop (p.length + 1) = r := by rw [← List.drop_drop, List.drop_left]; rfl
    have d2 : (p ++ c :: r).take p.length = p := List.take_left
    rw [d1, d2]
    refine ⟨by rw [List.length_set, h1], ?_, by rw [e1] at h3; simp at h3; omega, by omega⟩
    rw [h2, e3, List.take_succ_eq_append_getElem (by rw [List.length_set]; omega), List.take_set_of_le (Nat.le_refl i), List.getElem_set_self]
    simp
theorem SplS.done {c : UInt8} {s l : List UInt8} {X : List (List UInt8)} {i : Nat} (h : SplS c s l X i) (hi : i = s.count c) : (X.set i l) = splitC c s := by
  obtain ⟨h1, h2, h3, h4⟩ := h
  have hc := split_count c s
  have hl : splitC c l = [l] := by
    rcases idx_cut c l with ⟨e1, e2⟩ | ⟨p, r, e1, e2, e3⟩
    · exact e2
    · have := congrArg List.length h2
      rw [hc, List.length_append, List.length_take, e3, List.length_cons, split_count] at this
      omega
  rw [h2, hl]
  have e : X.set i l = (X.set i l).take i ++ [(X.set i l)[i]'(by rw [List.length_set]; omega)] := by
    rw [← List.take_succ_eq_append_getElem (by rw [List.length_set]; omega)]
    exact (List.take_of_length_le (by rw [List.length_set]; omega)).symm
  rw [e, List.take_set_of_le (Nat.le_refl i), List.getElem_set_self]
theorem zero_txt (n j : Nat) : CEnt (.c (.string ByteArray.empty)) (lsF (List.replicate n []) j) := CEnt.of_eq (by
  have : (List.replicate n ([] : List UInt8)).getD j [] = [] := by rw [List.getD_eq_getElem?_getD, List.getElem?_replicate]; split <;> rfl
  unfold lsF
  rw [this]; rfl)
theorem zero_scell (j : Nat) : (Value.string ByteArray.empty).cells[j % (Value.string ByteArray.empty).cells.size]! = .string ByteArray.empty := by
  have : j % (Value.string ByteArray.empty).cells.size = 0 := Nat.mod_one j
  rw [this]; rfl
set_option maxHeartbeats 1000000 in
theorem genSplit_ac {gs : List Nat} (s : List UInt8) (c : UInt8) (hs : s.length ≤ 1000000) : ACp gs Tryd.prog 96 [strC s, strC [c], .c (.int .i64 0), .c (.int .i64 (-1))] (lsC (splitC c s)) := by
  have hcl : s.count c ≤ s.length := List.count_le_length
  refine ac_of 66 Tryd.func96 rfl rfl rfl (fun al w0 F0 St0 => ?_)
  refine jcr ?_
  refine jq jrm ?_
  refine seq_nil ?_
  refine jcs ?_
  refine jcr ?_
  refine jq jrm ?_
  refine jq jrc ?_
  refine seq_nil ?_
  refine jcc (fun h275 => ?_) fun h275 => ?_
  · exfalso; omega
  refine code_skip (jtn ?_)
  refine jcs ?_
  refine jcr ?_
  refine jq jrm ?_
  refine jq jrcs ?_
  refine seq_nil ?_
  refine jcc (fun h278 => ?_) fun h278 => ?_
  · exfalso; simp at h278
  refine code_skip (jtn ?_)
  refine jcs ?_
  refine jcr ?_
  refine jq jrm ?_
  refine jq jrc ?_
  refine seq_nil ?_
  refine jcc (fun h281 => ?_) fun h281 => ?_
  rotate_left
  · exfalso; omega
  refine jcg ?_
  refine jq jrm ?_
  refine jq jrm ?_
  refine jqe (jecP (count1_ac s c) ?_)
  refine jq jra ?_
  refine jq jrm ?_
  refine seq_nil ?_
  refine jtn ?_
  refine jcr ?_
  refine jq jrm ?_
  refine jq jrm ?_
  refine jq jrls ?_
  refine jq jra ?_
  refine jq (rd_min2 rfl rfl rfl) ?_
  refine seq_ent (weaken 29 (.c (.int .i64 ((s.count c + 1 : Nat) : Int))) (CEnt.int (by rw [Int.min_eq_left (by omega)]; omega))) ?_
  refine jq jrm ?_
  refine seq_nil ?_
  refine jcr ?_
  refine jq jrm ?_
  refine jqe (e_make (F := lsF (List.replicate (s.count c + 1) [])) rfl rfl rfl (by first | exact rfl | exact natI (by omega)) (by first | exact rfl | exact natI (by omega)) (by (first | omega | decide | (dsimp only at *; omega))) Tryd.underlying32 sz9 zr9 by9 (by (first | omega | decide | (dsimp only at *; omega))) (by (first | omega | decide | (dsimp only at *; omega))) (fun j hj => by rw [zero_scell j]; exact zero_txt _ j) rfl rfl (fun p1 => ?_))
  refine seq_ent (weaken 31 (.os 0 p1 0 (s.count c + 1) 1) (CEnt.osI (by omega))) ?_
  refine jq jrm ?_
  refine seq_nil ?_
  refine jcr ?_
  refine jq jrm ?_
  refine jq jra ?_
  refine jq jrm ?_
  refine seq_nil ?_
  refine jcr ?_
  refine jq jrm ?_
  refine seq_nil ?_
  refine jcs ?_
  refine code_block ?_
  refine l_loop (α := Nat × List UInt8 × List (List UInt8)) [0, 10, 11, 34, 35, 36, 37, 38, 39, 40, 41, 42, 43, 44, 45, 46, 47, 48, 49, 50, 51, 52, 53, 54, 55, 56, 57] (fun (i, l, X) => [(10, .c (.int .i64 (i : Nat))), (0, strC l)]) (fun (i, l, X) => [(p1, .blk (s.count c + 1) (lsF X))]) (fun (i, l, X) => SplS c s l X i) (fun (i, l, X) => s.count c + 1 - i) ((0, s, List.replicate (s.count c + 1) [])) ?_ (fun _ => rfl) ?_ ?_ ?_
  · exact ⟨List.length_replicate, rfl, Nat.le_refl _, Nat.zero_le _⟩
  · exact .cons (CEnt.refl _) (.cons (CEnt.refl _) .nil)
  · exact .blk (by omega) (fun j hj => CEnt.refl _) .nil
  · rintro ⟨i, l, X⟩ (hS : SplS c s l X i)
    have hXl := hS.1
    have hll := hS.2.2.1
    have hil := hS.2.2.2
    refine jcs ?_
    refine jcr ?_
    refine jq jrm ?_
    refine jq jrm ?_
    refine jq jrc ?_
    refine seq_nil ?_
    refine jcc (fun h289 => ?_) fun h289 => ?_
    rotate_left
    · refine code_exit (jte (jte (jbx (jtn ?_))))
      refine jcr ?_
      refine jq jrm ?_
      refine jq jrm ?_
      refine jq jrm ?_
      refine jq (jri (i := i) (hz := by first | omega | (simp only [List.length_append, List.length_cons, List.length_nil]; omega))) ?_
      refine jqm (jmstF 1 (lsF (X.set i l)) ?_ ?_)
      · exact (fun j hj => upd_str (X := X) (o := i) (by omega) j)
      refine seq_nil ?_
      refine jcr ?_
      refine jq jrm ?_
      refine jq jrm ?_
      refine jq jra ?_
      refine seq_ent (freeze 0 rfl) ?_
      refine seq_ent (thaw 62 (fun a _ => lsF (X.set i l) a) rfl rfl (by omega) (fun a b ha hb => CEnt.of_eq (by rw [Nat.zero_add]; congr 1; omega))) ?_
      first | refine jq jrsr ?_ | refine jq jrso ?_
      refine jq jrm ?_
      refine seq_nil ?_
      refine code_ret (jrt (hv := ?_))
      have hd := hS.done (by omega)
      have hlen := split_count c s
      refine CEnt.rs (by show i + 1 = _; omega) fun a b ha hb => CEnt.of_eq ?_
      rw [← hd, Nat.zero_add]; rfl
    refine code_skip (jtn ?_)
    refine code_block ?_
    first | (have hp := hS.some (show i < s.count c by omega)) | skip
    refine jcr ?_
    refine jq jrm ?_
    refine jq jrm ?_
    refine jqe (jecP (index1_ac l c) ?_)
    refine jq jrm ?_
    refine seq_nil ?_
    refine jcs ?_
    refine jcr ?_
    refine jq jrm ?_
    refine jq jrc ?_
    refine seq_nil ?_
    refine jcc (fun h291 => ?_) fun h291 => ?_
    · exfalso; omega
    refine code_skip (jtn ?_)
    refine jcr ?_
    refine jq jrm ?_
    refine jq jrm ?_
    refine jq jrm ?_
    refine jq jrm ?_
    refine jq jrm ?_
    refine jq (jra (hS := by show _ ∧ _; (first | omega | (simp only [List.length_cons, List.length_nil]; omega)))) ?_
    refine jq (rd_sliceLT rfl rfl Tryd.underlying9 rfl (by first | exact rfl | exact natI (by omega)) (by (first | omega | (simp only [List.length_cons, List.length_nil]; omega)))) ?_
    refine jq (jri (i := i) (hz := by first | omega | (simp only [List.length_append, List.length_cons, List.length_nil]; omega)) (hS := by (first | omega | (simp only [List.length_cons, List.length_nil]; omega)))) ?_
    refine jqm (jmstF 1 (lsF (X.set i (l.take (Lib.indexByte l c).toNat))) ?_ ?_ (hn := by (first | omega | (simp only [List.length_cons, List.length_nil]; omega))))
    · exact (fun j hj => by
        have e : (Lib.indexByte l c + 0).toNat = (Lib.indexByte l c).toNat := by omega
        rw [← e]
        exact upd_str (X := X) (o := i) (by omega) j)
    refine seq_nil ?_
    refine jcr ?_
    refine jq jrm ?_
    refine jq jrm ?_
    refine jq jrm ?_
    refine jq jrls ?_
    refine jq (jra (hS := by show _ ∧ _; (first | omega | (have e1 : ([c] : List UInt8).length = 1 := rfl; omega)))) ?_
    refine jq (rd_sliceLF rfl rfl Tryd.underlying9 rfl (by first | exact rfl | exact natI (by omega)) (by (first | omega | (have e1 : ([c] : List UInt8).length = 1 := rfl; omega)))) ?_
    refine jq jrm ?_
    refine seq_nil ?_
    refine jcg ?_
    refine jq jrm ?_
    refine jq jra ?_
    refine jq jrm ?_
    refine seq_nil ?_
    refine jbn (jtn ?_)
    refine jlend ((i + 1, l.drop ((Lib.indexByte l c).toNat + 1), X.set i (l.take (Lib.indexByte l c).toNat))) ?_ ?_ (h5 := ?_) (h7 := ?_)
    · exact hS.step (by omega)
    · show s.count c + 1 - (i + 1) < s.count c + 1 - i; omega
    · exact .cons (CEnt.int (by omega)) (.cons (CEnt.strL (congrArg (fun k => l.drop k) (by simp only [List.length_cons, List.length_nil]; omega))) .nil)
    · exact .same .nil
theorem ssplit_ac {gs : List Nat} (s : List UInt8) (c : UInt8) (hs : s.length ≤ 1000000) : ACp gs Tryd.prog 70 [strC s, strC [c]] (lsC (splitC c s)) := by
  refine ac_of 8 Tryd.func70 rfl rfl rfl (fun al w0 F0 St0 => ?_)
  refine jcr ?_
  refine jq jrm ?_
  refine seq_nil ?_
  refine jcr ?_
  refine jq jrm ?_
  refine jq jrm ?_
  refine jqe (jecP (genSplit_ac s c hs) ?_)
  refine jq jrm ?_
  refine seq_nil ?_
  refine code_ret (jrt (hv := CEnt.refl _))
end Am
end Go.Proofs.YtdfjiodkmhpfkaaDoor

/- Chapter 38: an op from a line. -/
namespace Go.Proofs.YtdfjiodkmhpfkaaDoor
set_option linter.unusedVariables false
namespace Am
variable {gs : List Nat} [OkG gs]
open Go.RowKit
set_option maxRecDepth 100000

def opC (o : Op38) : CV := .agg 14 (opF o)
def formI (w : List UInt8) : Int := firstI (fun z : F38 => decide (z.1 = w)) formsL
def parseL (line : List UInt8) : Op38 × Nat :=
  if 40000 < line.length then (op0, 4) else
  if formI ((splitC 32 line).getD 0 []) < 0 then (op0, 9) else
  if (splitC 32 line).length - 1 < (formAt (formI ((splitC 32 line).getD 0 [])).toNat).2.2.length then (op0, 2) else
  if (formAt (formI ((splitC 32 line).getD 0 [])).toNat).2.2.length < (splitC 32 line).length - 1 then (op0, 3) else
  hearAll { op0 with k := (formAt (formI ((splitC 32 line).getD 0 [])).toNat).2.1 } (formAt (formI ((splitC 32 line).getD 0 [])).toNat).2.2 ((splitC 32 line).drop 1)
theorem seg_len {c : UInt8} : ∀ {l p : List UInt8}, p ∈ splitC c l → p.length ≤ l.length
  | [], p, h => by simp [splitC] at h; simp [h]
  | x :: l, p, h => by
    rw [splitC] at h
    split at h
    · rcases List.mem_cons.1 h with rfl | h
      · simp
      · have := seg_len h; simp; omega
    · cases hs : splitC c l with
      | nil => exact absurd hs (splitC_ne c l)
      | cons q r =>
        rw [hs, consHead] at h
        rcases List.mem_cons.1 h with rfl | h
        · have := seg_len (c := c) (l := l) (p := q) (by rw [hs]; exact List.mem_cons_self ..)
          simp; omega
        · have := seg_len (c := c) (l := l) (p := p) (by rw [hs]; exact List.mem_cons_of_mem _ h)
          simp; omega
theorem seg_at {c : UInt8} {l : List UInt8} (i : Nat) : ((splitC c l).getD i []).length ≤ l.length := by
  by_cases h : i < (splitC c l).length
  · exact seg_len (c := c) (by simp [List.getD, h])
  · simp [List.getD, List.getElem?_eq_none (Nat.le_of_not_lt h)]
theorem hearAll_step {o : Op38} {L : List UInt8} {W : List (List UInt8)} {k : Nat} (hk : k < L.length) : hearAll o (L.drop k) (W.drop k) = if (hear1 o (L.getD k 0) (W.getD k [])).2 ≠ 0 then (op0, (hear1 o (L.getD k 0) (W.getD k [])).2) else hearAll (hear1 o (L.getD k 0) (W.getD k [])).1 (L.drop (k + 1)) (W.drop (k + 1)) := by
  rw [List.drop_eq_getElem_cons hk, show L[k] = L.getD k 0 by simp [List.getD, hk]]
  have e1 : (W.drop k).headD [] = W.getD k [] := by simp [List.head?_drop, List.getD]
  have e2 : (W.drop k).tail = W.drop (k + 1) := by simp [List.tail_drop]
  rw [hearAll, e1, e2]
theorem hearAll_done {o : Op38} {L : List UInt8} {W : List (List UInt8)} {k : Nat} (hk : L.length ≤ k) : hearAll o (L.drop k) W = (o, 0) := by
  rw [List.drop_eq_nil_iff.2 hk]; rfl
theorem op_zero (j : Nat) (hj : j < 14) : CEnt (fl [.c (.int .i64 0), .c (.int .i64 0), .c (.int .i64 0), .c (.int .u64 0), .c (.slice none 0 0), .c (.int .i64 0), .c (.slice none 0 0), .c (.int .i64 0), .c (.string ByteArray.empty), .c (.string ByteArray.empty), .c (.slice none 0 0), .c (.int .i64 0), .c (.int .i64 0), .c (.string ByteArray.empty)] j) (opF op0 j) := by
  rcases j with _ | _ | _ | _ | _ | _ | _ | _ | _ | _ | _ | _ | _ | _ | j <;> first | exact CEnt.refl _ | exact CEnt.nilS' rfl | omega
set_option maxHeartbeats 2000000 in
theorem parse38_ac (line : List UInt8) (hs : line.length ≤ 1000000) : ACp gs Tryd.prog 39 [strC line] (.tup 2 (fl [opC (parseL line).1, .err (parseL line).2])) := by
  obtain ⟨ws, hws⟩ : ∃ ws, ws = splitC 32 line := ⟨_, rfl⟩
  have hsp := ssplit_ac (gs := gs) line 32 hs
  rw [← hws] at hsp
  have hw0 : 0 < ws.length := by rw [hws]; exact List.length_pos_iff.2 (splitC_ne 32 line)
  have hwl : ws.length ≤ line.length + 1 := by rw [hws, split_count]; have := List.count_le_length (a := (32 : UInt8)) (l := line); omega
  have hseg : ∀ i, (ws.getD i []).length ≤ line.length := fun i => by rw [hws]; exact seg_at i
  have hfb := firstI_bd (fun z : F38 => decide (z.1 = ws.getD 0 [])) formsL
  have hfi : formI ((splitC 32 line).getD 0 []) = firstI (fun z : F38 => decide (z.1 = ws.getD 0 [])) formsL := by rw [← hws]; rfl
  have hfl : formsL.length = 13 := rfl
  obtain ⟨iF, hiF⟩ : ∃ k, k = (firstI (fun z : F38 => decide (z.1 = ws.getD 0 [])) formsL).toNat := ⟨_, rfl⟩
  have hfa : formAt (formI ((splitC 32 line).getD 0 [])).toNat = formsL.getD iF f38 := by rw [hfi, ← hiF]; rfl
  refine ac_of 84 Tryd.func39 rfl rfl rfl (fun al w0 F0 St0 => ?_)
  refine jcr ?_
  refine jqe (jeal (n := 14) zr68 rfl fun p1 => ?_)
  refine jq jrm ?_
  refine seq_nil ?_
  refine jcs ?_
  refine jcr ?_
  refine jq jrm ?_
  refine jq jrls ?_
  refine jq jrc ?_
  refine seq_nil ?_
  refine jcc (fun h192 => ?_) fun h192 => ?_
  · refine jcs ?_
    refine jcdZ (.rd 0 (.rd 1 (.one 2 (.rd 3 .done)))) ?_
    refine jzq (rd_build (n := 14) rfl zr68 pl68 rfl rfl) ?_
    refine jzq (jrde 3) ?_
    refine jzm (jmstF 14 (opF op0) ?_ ?_)
    · exact (fun j hj => by rcases j with _ | _ | _ | _ | _ | _ | _ | _ | _ | _ | _ | _ | _ | _ | j <;> first | exact CEnt.refl _ | exact CEnt.nilS' rfl | omega)
    refine jzq jrm ?_
    refine jzd ?_
    refine jtn ?_
    refine code_ret (jtr (jrt (hres := res_2 rfl (javA 14) javt) (hv := ?_)))
    have hb : parseL line = (op0, 4) := by unfold parseL; rw [if_pos (by omega)]
    rw [hb]
    exact CEnt.tup2 (CEnt.agg rfl fun m hm => CEnt.of_eq (by rw [Nat.zero_add])) (CEnt.errN rfl)
  refine code_skip (jtn ?_)
  refine jcr ?_
  refine jq jrm ?_
  refine jqe (jecP hsp ?_)
  refine jqe (jeal (n := 1) zr32 rfl fun p2 => ?_)
  refine jqm (jmst 1 ?_)
  refine seq_nil ?_
  refine jcr ?_
  refine jqe (jecP forms_ac ?_)
  refine jq jrm ?_
  refine seq_nil ?_
  refine code_ent (freeze 1 rfl) ?_
  refine code_ent (thawP 4 (m := 1) rfl rfl (by decide)) ?_
  refine code_ent (pick_ent (H' := [_]) [0] (by decide) rfl) ?_
  refine jcr ?_
  refine jq jrm ?_
  refine jq jrmf ?_
  refine jqe (jecP (fidx_ac (by kernel_rfl) formsL (fun z => decide (z.1 = ws.getD 0 [])) (fun r => word0_ac ws hw0 r)) ?_ (ho := rfl) (he := (.cons (se rfl (CEnt.refl _)) (.cons (by exact se rfl (CEnt.fn1 (CEnt.rp fun j hj => by obtain rfl : j = 0 := (by omega); exact CEnt.refl _))) .nil))))
  refine jq jrm ?_
  refine seq_nil ?_
  refine jcs ?_
  refine code_block ?_
  refine jcr ?_
  refine jq jrm ?_
  refine jq jrc ?_
  refine jq jrm ?_
  refine seq_nil ?_
  refine jcc (fun h199 => ?_) fun h199 => ?_
  · refine jcs ?_
    refine jcdZ (.rd 0 (.rd 1 (.one 2 (.rd 3 .done)))) ?_
    refine jzq (rd_build (n := 14) rfl zr68 pl68 rfl rfl) ?_
    refine jzq (jrde 8) ?_
    refine jzm (jmstF 14 (opF op0) ?_ ?_)
    · exact (fun j hj => by rcases j with _ | _ | _ | _ | _ | _ | _ | _ | _ | _ | _ | _ | _ | _ | j <;> first | exact CEnt.refl _ | exact CEnt.nilS' rfl | omega)
    refine jzq jrm ?_
    refine jzd ?_
    refine jtn ?_
    refine code_ret (jbr (jtr (jrt (hres := res_2 rfl (javA 14) javt) (hv := ?_))))
    have hb : parseL line = (op0, 9) := by unfold parseL; rw [if_neg (by omega), if_pos (by rw [hfi]; omega)]
    rw [hb]
    exact CEnt.tup2 (CEnt.agg rfl fun m hm => CEnt.of_eq (by rw [Nat.zero_add])) (CEnt.errN rfl)
  refine jcs ?_
  refine jcd (.rd 0 (.rd 1 (.rd 2 (.rd 3 (.rd 4 (.rd 5 (.rd 6 (.rd 7 (.rd 8 (.rd 9 (.rd 10 .done))))))))))) ?_
  first | refine jyo jrdo ?_ | refine jyq jrdr ?_
  refine jyq jrl ?_
  refine jyq jra ?_
  refine jyq jrm ?_
  refine jyq jrm ?_
  refine jyq (jri (i := iF) (hz := by first | omega | (simp only [List.length_append, List.length_cons, List.length_nil]; omega))) ?_
  refine jyq (jrfa 2 1 false) ?_
  first | refine jyo jrdo ?_ | refine jyq jrdr ?_
  refine jyq jrls ?_
  refine jyq jrc ?_
  refine jyq jrm ?_
  refine jyd ?_
  refine jtn ?_
  refine jcc (fun h201 => ?_) fun h201 => ?_
  · refine jcs ?_
    refine jcdZ (.rd 0 (.rd 1 (.one 2 (.rd 3 .done)))) ?_
    refine jzq (rd_build (n := 14) rfl zr68 pl68 rfl rfl) ?_
    refine jzq (jrde 1) ?_
    refine jzm (jmstF 14 (opF op0) ?_ ?_)
    · exact (fun j hj => by rcases j with _ | _ | _ | _ | _ | _ | _ | _ | _ | _ | _ | _ | _ | _ | j <;> first | exact CEnt.refl _ | exact CEnt.nilS' rfl | omega)
    refine jzq jrm ?_
    refine jzd ?_
    refine jtn ?_
    refine code_ret (jbr (jtr (jrt (hres := res_2 rfl (javA 14) javt) (hv := ?_))))
    have hb : parseL line = (op0, 2) := by unfold parseL; rw [if_neg (by omega), if_neg (by rw [hfi]; omega), if_pos (by rw [hfa, ← hws]; omega)]
    rw [hb]
    exact CEnt.tup2 (CEnt.agg rfl fun m hm => CEnt.of_eq (by rw [Nat.zero_add])) (CEnt.errN rfl)
  refine jcs ?_
  refine jcd (.rd 0 (.rd 1 (.rd 2 (.rd 3 (.rd 4 (.rd 5 (.rd 6 (.rd 7 (.rd 8 (.rd 9 (.rd 10 .done))))))))))) ?_
  first | refine jyo jrdo ?_ | refine jyq jrdr ?_
  refine jyq jrl ?_
  refine jyq jra ?_
  refine jyq jrm ?_
  refine jyq jrm ?_
  refine jyq (jri (i := iF) (hz := by first | omega | (simp only [List.length_append, List.length_cons, List.length_nil]; omega))) ?_
  refine jyq (jrfa 2 1 false) ?_
  first | refine jyo jrdo ?_ | refine jyq jrdr ?_
  refine jyq jrls ?_
  refine jyq jrc ?_
  refine jyq jrm ?_
  refine jyd ?_
  refine jtn ?_
  refine jcc (fun h203 => ?_) fun h203 => ?_
  · refine jcs ?_
    refine jcdZ (.rd 0 (.rd 1 (.one 2 (.rd 3 .done)))) ?_
    refine jzq (rd_build (n := 14) rfl zr68 pl68 rfl rfl) ?_
    refine jzq (jrde 2) ?_
    refine jzm (jmstF 14 (opF op0) ?_ ?_)
    · exact (fun j hj => by rcases j with _ | _ | _ | _ | _ | _ | _ | _ | _ | _ | _ | _ | _ | _ | j <;> first | exact CEnt.refl _ | exact CEnt.nilS' rfl | omega)
    refine jzq jrm ?_
    refine jzd ?_
    refine jtn ?_
    refine code_ret (jbr (jtr (jrt (hres := res_2 rfl (javA 14) javt) (hv := ?_))))
    have hb : parseL line = (op0, 3) := by unfold parseL; rw [if_neg (by omega), if_neg (by rw [hfi]; omega), if_neg (by rw [hfa, ← hws]; omega), if_pos (by rw [hfa, ← hws]; omega)]
    rw [hb]
    exact CEnt.tup2 (CEnt.agg rfl fun m hm => CEnt.of_eq (by rw [Nat.zero_add])) (CEnt.errN rfl)
  refine code_skip (jbn (jtn ?_))
  refine jcr ?_
  refine jq jrm ?_
  refine jq jrm ?_
  refine jq (jri (i := iF) (hz := by first | omega | (simp only [List.length_append, List.length_cons, List.length_nil]; omega))) ?_
  refine jq (jrfa 1 1 false) ?_
  first | refine jqo jrdo ?_ | refine jq jrdr ?_
  refine jq (rd_build (n := 14) rfl zr68 pl68 rfl rfl) ?_
  refine jqe (jeal (n := 14) zr68 rfl fun p3 => ?_)
  refine jqm (jmstF 14 (opF { op0 with k := (formsL.getD iF f38).2.1 }) ?_ ?_)
  · exact (fun j hj => by rcases j with _ | _ | _ | _ | _ | _ | _ | _ | _ | _ | _ | _ | _ | _ | j <;> first | exact CEnt.refl _ | exact CEnt.nilS' rfl | omega)
  refine seq_nil ?_
  refine jcs ?_
  refine jcr ?_
  refine jq jrm ?_
  refine jq jrm ?_
  refine jq (jri (i := iF) (hz := by first | omega | (simp only [List.length_append, List.length_cons, List.length_nil]; omega))) ?_
  refine jq (jrfa 2 1 false) ?_
  first | refine jqo jrdo ?_ | refine jq jrdr ?_
  refine jqe (jecv ?_)
  refine jq jrl ?_
  refine jq jrm ?_
  refine seq_nil ?_
  refine code_block ?_
  refine l_loop (α := Nat × Op38) [3, 8, 9, 10, 66, 67, 68, 69, 70, 71, 72, 73, 74, 75, 76, 77, 78, 79, 80, 81, 82] (fun (k, o) => [(66, .c (.int .i64 (k : Nat)))]) (fun (k, o) => [(p1, .blk 14 (opF op0)), (p3, .blk 14 (opF o))]) (fun (k, o) => k ≤ (formsL.getD iF f38).2.2.length ∧ hearAll { op0 with k := (formsL.getD iF f38).2.1 } (formsL.getD iF f38).2.2 (ws.drop 1) = hearAll o ((formsL.getD iF f38).2.2.drop k) ((ws.drop 1).drop k)) (fun (k, o) => (formsL.getD iF f38).2.2.length - k) ((0, { op0 with k := (formsL.getD iF f38).2.1 })) ?_ (fun _ => rfl) ?_ ?_ ?_
  · exact ⟨Nat.zero_le _, rfl⟩
  · exact .cons (CEnt.refl _) .nil
  · exact .blk rfl (fun j hj => by rcases j with _ | _ | _ | _ | _ | _ | _ | _ | _ | _ | _ | _ | _ | _ | j <;> first | exact CEnt.refl _ | exact CEnt.nilS' rfl | omega) (.same .nil)
  · rintro ⟨k, o⟩ ⟨(hk : k ≤ (formsL.getD iF f38).2.2.length), hH⟩
    have hd1 : (ws.drop 1).getD k [] = ws.getD (k + 1) [] := by simp [List.getD, Nat.add_comm]
    refine jcr ?_
    refine jq jrc ?_
    refine seq_nil ?_
    refine jcs ?_
    refine jcc (fun h207 => ?_) fun h207 => ?_
    rotate_left
    · refine code_exit (jte (jte (jbx (jtn ?_))))
      refine jcr ?_
      first | refine jqo (jrdoA 14) ?_ | refine jq (jrdrA 14) ?_
      refine jqm (jmstF 14 (opF o) ?_ ?_)
      · exact (fun j hj => by rcases j with _ | _ | _ | _ | _ | _ | _ | _ | _ | _ | _ | _ | _ | _ | j <;> first | exact CEnt.refl _ | omega)
      refine jq jrm ?_
      refine seq_nil ?_
      refine code_ret (jrt (hres := res_2 rfl (javA 14) javt) (hv := ?_))
      have hb : parseL line = (o, 0) := by
        unfold parseL
        rw [if_neg (by omega), if_neg (by rw [hfi]; omega), if_neg (by rw [hfa, ← hws]; omega), if_neg (by rw [hfa, ← hws]; omega), hfa, ← hws, hH, hearAll_done (by omega)]
      rw [hb]
      exact CEnt.tup2 (CEnt.agg rfl fun m hm => CEnt.of_eq (by rw [Nat.zero_add])) (CEnt.nilE rfl)
    refine code_skip (jtn ?_)
    refine jcs ?_
    refine code_block ?_
    refine jcr ?_
    refine jq jrm ?_
    refine jq (jri (i := k) (hz := by first | omega | (simp only [List.length_append, List.length_cons, List.length_nil]; omega))) ?_
    first | refine jqo jrdo ?_ | refine jq jrdr ?_
    refine jq jrm ?_
    refine jq jrm ?_
    refine seq_nil ?_
    refine jcr ?_
    refine jq jrm ?_
    first | refine jqo jrdo ?_ | refine jq jrdr ?_
    refine jq jrm ?_
    refine jq jra ?_
    refine jq (jri (i := (k + 1)) (hz := by first | omega | (simp only [List.length_append, List.length_cons, List.length_nil]; omega))) ?_
    first | refine jqo jrdo ?_ | refine jq jrdr ?_
    refine jqm (jmcH 1 (hear_ac o p3 ((formsL.getD iF f38).2.2.getD k 0) ((ws.drop 1).getD k []) (by rw [hd1]; have := hseg (k + 1); omega)) ?_ (ho := rfl) (he := (.cons (se rfl CEnt.opI) (.cons (se rfl (CEnt.refl _)) (.cons (se rfl (CEnt.strL hd1.symm)) .nil)))))
    rintro _ _ ⟨rfl, rfl⟩
    refine ⟨_, _, rfl, CEnt.refl _, ?_⟩
    refine jq jrm ?_
    refine seq_nil ?_
    refine jcr ?_
    refine jq jrm ?_
    refine jq jre ?_
    refine seq_nil ?_
    refine jcc (fun h208 => ?_) fun h208 => ?_
    rotate_left
    · refine code_skip (jbn (jtn ?_))
      refine jcg ?_
      refine jq jra ?_
      refine jq jrm ?_
      refine seq_nil ?_
      refine jtn ?_
      refine jlend ((k + 1, (hear1 o ((formsL.getD iF f38).2.2.getD k 0) ((ws.drop 1).getD k [])).1)) ?_ ?_ (h5 := ?_) (h7 := ?_)
      · exact ⟨by omega, by rw [hH, hearAll_step (by omega), if_neg (by simpa using h208)]⟩
      · show (formsL.getD iF f38).2.2.length - (k + 1) < (formsL.getD iF f38).2.2.length - k; omega
      · exact .cons (CEnt.int (by omega)) .nil
      · exact .same (.same .nil)
    refine jcr ?_
    refine jq (rd_build (n := 14) rfl zr68 pl68 rfl rfl) ?_
    refine jq jrm ?_
    refine jqm (jmstF 14 (opF op0) ?_ ?_)
    · exact (fun j hj => by rcases j with _ | _ | _ | _ | _ | _ | _ | _ | _ | _ | _ | _ | _ | _ | j <;> first | exact CEnt.refl _ | exact CEnt.nilS' rfl | omega)
    refine jq jrm ?_
    refine seq_nil ?_
    refine code_ret (jbr (jtr (jtr (jbr (jtr (jrt (hres := res_2 rfl (javA 14) javt) (hv := ?_)))))))
    have hb : parseL line = (op0, (hear1 o ((formsL.getD iF f38).2.2.getD k 0) ((ws.drop 1).getD k [])).2) := by
      unfold parseL
      rw [if_neg (by omega), if_neg (by rw [hfi]; omega), if_neg (by rw [hfa, ← hws]; omega), if_neg (by rw [hfa, ← hws]; omega), hfa, ← hws, hH, hearAll_step (by omega), if_pos (by simpa using h208)]
    rw [hb]
    exact CEnt.tup2 (CEnt.agg rfl fun m hm => CEnt.of_eq (by rw [Nat.zero_add])) (CEnt.refl _)
end Am
end Go.Proofs.YtdfjiodkmhpfkaaDoor

/- Chapter 38, plain: what is told of an op is heard, and what is heard is told. -/
namespace Go.Proofs.YtdfjiodkmhpfkaaDoor
set_option linter.unusedVariables false
namespace Am
set_option maxRecDepth 100000

def fid (c : UInt8) : Nat := if c = 117 then 3 else match numK c with | some k => k | none => match txtK c with | some k => k | none => rawK c
def getF (o : Op38) (k : Nat) : Int × List UInt8 :=
  match k with
  | 0 => (o.k, []) | 1 => (o.n, []) | 2 => (o.m, []) | 3 => ((o.bits : Nat), []) | 4 => (0, o.b) | 5 => (o.what, []) | 6 => (0, o.cred) | 7 => (o.kd, [])
  | 8 => (0, o.sp) | 9 => (0, o.nm) | 10 => (0, o.mb) | 11 => (o.mn, []) | 12 => (o.mm, []) | 13 => (0, o.tx) | _ => (0, [])
theorem op_ext {o p : Op38} (h : ∀ k, k < 14 → getF o k = getF p k) : o = p := by
  have h0 := congrArg Prod.fst (h 0 (by omega)); have h1 := congrArg Prod.fst (h 1 (by omega)); have h2 := congrArg Prod.fst (h 2 (by omega)); have h3 := congrArg Prod.fst (h 3 (by omega))
  have h4 := congrArg Prod.snd (h 4 (by omega)); have h5 := congrArg Prod.fst (h 5 (by omega)); have h6 := congrArg Prod.snd (h 6 (by omega)); have h7 := congrArg Prod.fst (h 7 (by omega))
  have h8 := congrArg Prod.snd (h 8 (by omega)); have h9 := congrArg Prod.snd (h 9 (by omega)); have h10 := congrArg Prod.snd (h 10 (by omega)); have h11 := congrArg Prod.fst (h 11 (by omega))
  have h12 := congrArg Prod.fst (h 12 (by omega)); have h13 := congrArg Prod.snd (h 13 (by omega))
  cases o; cases p
  simp only [getF] at h0 h1 h2 h3 h4 h5 h6 h7 h8 h9 h10 h11 h12 h13
  have h3' := Int.ofNat_inj.1 h3
  subst h0 h1 h2 h3' h4 h5 h6 h7 h8 h9 h10 h11 h12 h13
  rfl
def sameO (o p : Op38) : Bool := (List.range 14).all fun k => decide (getF o k = getF p k)
theorem sameO_iff {o p : Op38} : sameO o p = true ↔ o = p := by
  unfold sameO
  rw [List.all_eq_true]
  constructor
  · intro h
    exact op_ext fun k hk => of_decide_eq_true (h k (List.mem_range.2 hk))
  · rintro rfl k _
    exact decide_eq_true rfl
/-- what a word tells to a letter, and the error -/
def valW (c : UInt8) (w : List UInt8) : (Int × List UInt8) × Nat :=
  if c = 117 then (((((figM w).1 : Nat) : Int), []), (figM w).2) else if (numK c).isSome then (((numD w).1, []), (numD w).2) else ((0, (hexD w).1), (hexD w).2)
theorem hear1_err (o : Op38) (c : UInt8) (w : List UInt8) : (hear1 o c w).2 = (valW c w).2 := by
  unfold hear1 valW
  split
  · rfl
  · split
    · rfl
    · split
      · rfl
      · rename_i h; exact (Classical.not_not.1 h).symm
theorem fid_cases (c : UInt8) : (c = 117 ∧ fid c = 3) ∨ (c ≠ 117 ∧ ∃ k, numK c = some k ∧ fid c = k) ∨ (c ≠ 117 ∧ numK c = none ∧ ∃ k, txtK c = some k ∧ fid c = k) ∨ (c ≠ 117 ∧ numK c = none ∧ txtK c = none ∧ fid c = rawK c) := by
  by_cases h : c = 117
  · exact .inl ⟨h, by unfold fid; rw [if_pos h]⟩
  · have e : fid c = match numK c with | some k => k | none => match txtK c with | some k => k | none => rawK c := by unfold fid; rw [if_neg h]
    cases h1 : numK c with
    | some k => exact .inr (.inl ⟨h, k, rfl, by rw [e, h1]⟩)
    | none =>
      cases h2 : txtK c with
      | some k => exact .inr (.inr (.inl ⟨h, rfl, k, rfl, by rw [e, h1, h2]⟩))
      | none => exact .inr (.inr (.inr ⟨h, rfl, rfl, by rw [e, h1, h2]⟩))
theorem hear1_get {o : Op38} {c : UInt8} {w : List UInt8} (h : (valW c w).2 = 0) (j : Nat) : getF (hear1 o c w).1 j = if j = fid c then (valW c w).1 else getF o j := by
  rcases fid_cases c with ⟨rfl, hf⟩ | ⟨hu, k, hk, hf⟩ | ⟨hu, hn, k, hk, hf⟩ | ⟨hu, hn, ht, hf⟩
  · rw [hf]
    unfold hear1 valW
    rw [if_pos rfl, if_pos rfl]
    by_cases hj : j = 3
    · subst hj; rfl
    · rw [if_neg hj]
      rcases j with _ | _ | _ | _ | _ | _ | _ | _ | _ | _ | _ | _ | _ | _ | j <;> first | rfl | exact absurd rfl hj
  · rw [hf]
    have e1 : (hear1 o c w).1 = setN o c (numD w).1 := by unfold hear1; rw [if_neg hu, if_pos (by rw [hk]; rfl)]
    have e2 : (valW c w).1 = ((numD w).1, []) := by unfold valW; rw [if_neg hu, if_pos (by rw [hk]; rfl)]
    rw [e1, e2]
    rcases numK_cases hk with ⟨rfl, rfl⟩ | ⟨rfl, rfl⟩ | ⟨rfl, rfl⟩ | ⟨rfl, rfl⟩ | ⟨rfl, rfl⟩ | ⟨rfl, rfl⟩ <;>
      (rcases j with _ | _ | _ | _ | _ | _ | _ | _ | _ | _ | _ | _ | _ | _ | j <;> first | rfl | (rw [if_neg (by omega)]; rfl))
  · rw [hf]
    have h0 : (hexD w).2 = 0 := by unfold valW at h; rw [if_neg hu, if_neg (by rw [hn]; exact Bool.noConfusion)] at h; exact h
    have e1 : (hear1 o c w).1 = setX o c (hexD w).1 := by unfold hear1; rw [if_neg hu, if_neg (by rw [hn]; exact Bool.noConfusion), if_neg (fun e => e h0)]
    have e2 : (valW c w).1 = (0, (hexD w).1) := by unfold valW; rw [if_neg hu, if_neg (by rw [hn]; exact Bool.noConfusion)]
    rw [e1, e2]
    rcases txtK_cases hk with ⟨rfl, rfl⟩ | ⟨rfl, rfl⟩ | ⟨rfl, rfl⟩ <;>
      (rcases j with _ | _ | _ | _ | _ | _ | _ | _ | _ | _ | _ | _ | _ | _ | j <;> first | rfl | (rw [if_neg (by omega)]; rfl))
  · rw [hf]
    have h0 : (hexD w).2 = 0 := by unfold valW at h; rw [if_neg hu, if_neg (by rw [hn]; exact Bool.noConfusion)] at h; exact h
    have e1 : (hear1 o c w).1 = setX o c (hexD w).1 := by unfold hear1; rw [if_neg hu, if_neg (by rw [hn]; exact Bool.noConfusion), if_neg (fun e => e h0)]
    have e2 : (valW c w).1 = (0, (hexD w).1) := by unfold valW; rw [if_neg hu, if_neg (by rw [hn]; exact Bool.noConfusion)]
    rw [e1, e2, setX_raw ht]
    unfold rawK
    by_cases e : c = 66
    · rw [if_pos e, if_pos e]
      rcases j with _ | _ | _ | _ | _ | _ | _ | _ | _ | _ | _ | _ | _ | _ | j <;> first | rfl | (rw [if_neg (by omega)]; rfl)
    · rw [if_neg e, if_neg e]
      rcases j with _ | _ | _ | _ | _ | _ | _ | _ | _ | _ | _ | _ | _ | _ | j <;> first | rfl | (rw [if_neg (by omega)]; rfl)
/-- a field as a word, and the error -/
def toldV (c : UInt8) (v : Int × List UInt8) : List UInt8 × Nat :=
  if c = 117 then (if 1000000000000000000 ≤ v.1 then ([], 4) else (dec v.1.toNat, 0))
  else if (numK c).isSome then (if 1000000000000000000 ≤ v.1 ∨ v.1 ≤ -1000000000000000000 then ([], 4) else (numE v.1, 0))
  else (if 8192 < v.2.length then ([], 4) else (hexE v.2, 0))
def toldM (o : Op38) (c : UInt8) : List UInt8 × Nat := toldV c (getF o (fid c))
theorem told_val {c : UInt8} {w : List UInt8} {v : Int × List UInt8} (h : valW c w = (v, 0)) : toldV c v = (w, 0) := by
  unfold valW at h
  unfold toldV
  by_cases hu : c = 117
  · rw [if_pos hu] at h ⊢
    injection h with h1 h2
    subst h1
    have hb := figM_bd w
    rw [if_neg (by show ¬ 1000000000000000000 ≤ (((figM w).1 : Nat) : Int); omega)]
    show (dec (((figM w).1 : Nat) : Int).toNat, 0) = (w, 0)
    rw [Int.toNat_natCast, figM_back h2]
  · rw [if_neg hu] at h ⊢
    by_cases hn : (numK c).isSome = true
    · rw [if_pos hn] at h ⊢
      injection h with h1 h2
      subst h1
      have hd := numE_D (s := w) (n := (numD w).1) (by rw [← h2])
      rw [if_neg (by show ¬ (1000000000000000000 ≤ (numD w).1 ∨ (numD w).1 ≤ -1000000000000000000); omega)]
      show (numE (numD w).1, 0) = (w, 0)
      rw [hd.1]
    · rw [if_neg hn] at h ⊢
      injection h with h1 h2
      subst h1
      have hd := hexE_D (s := w) (x := (hexD w).1) (by rw [← h2])
      rw [if_neg (by show ¬ 8192 < (hexD w).1.length; omega)]
      show (hexE (hexD w).1, 0) = (w, 0)
      rw [hd.1]
/-- the shape of a letter's field -/
def canF (c : UInt8) (v : Int × List UInt8) : Prop := if c = 117 then 0 ≤ v.1 ∧ v.2 = [] else if (numK c).isSome then v.2 = [] else v.1 = 0
theorem canF_get (o : Op38) (c : UInt8) : canF c (getF o (fid c)) := by
  unfold canF
  rcases fid_cases c with ⟨rfl, hf⟩ | ⟨hu, k, hk, hf⟩ | ⟨hu, hn, k, hk, hf⟩ | ⟨hu, hn, ht, hf⟩
  · rw [if_pos rfl, hf]; exact ⟨by show 0 ≤ ((o.bits : Nat) : Int); omega, rfl⟩
  · rw [if_neg hu, if_pos (by rw [hk]; rfl), hf]
    rcases numK_cases hk with ⟨_, rfl⟩ | ⟨_, rfl⟩ | ⟨_, rfl⟩ | ⟨_, rfl⟩ | ⟨_, rfl⟩ | ⟨_, rfl⟩ <;> rfl
  · rw [if_neg hu, if_neg (by rw [hn]; exact Bool.noConfusion), hf]
    rcases txtK_cases hk with ⟨_, rfl⟩ | ⟨_, rfl⟩ | ⟨_, rfl⟩ <;> rfl
  · rw [if_neg hu, if_neg (by rw [hn]; exact Bool.noConfusion), hf]
    unfold rawK
    split <;> rfl
theorem val_told {c : UInt8} {w : List UInt8} {v : Int × List UInt8} (hc : canF c v) (h : toldV c v = (w, 0)) : valW c w = (v, 0) := by
  obtain ⟨x, y⟩ := v
  unfold canF at hc
  unfold toldV at h
  unfold valW
  by_cases hu : c = 117
  · rw [if_pos hu] at h hc ⊢
    obtain ⟨h1, h2⟩ := hc
    dsimp only at h h1 h2
    subst h2
    by_cases e : 1000000000000000000 ≤ x
    · rw [if_pos e] at h; injection h with _ h; cases h
    · rw [if_neg e] at h
      injection h with h _
      subst h
      rw [figM_dec (by omega)]
      show ((((x.toNat : Nat) : Int), ([] : List UInt8)), 0) = _
      rw [Int.toNat_of_nonneg h1]
  · rw [if_neg hu] at h hc ⊢
    by_cases hn : (numK c).isSome = true
    · rw [if_pos hn] at h hc ⊢
      dsimp only at h hc
      subst hc
      by_cases e : 1000000000000000000 ≤ x ∨ x ≤ -1000000000000000000
      · rw [if_pos e] at h; injection h with _ h; cases h
      · rw [if_neg e] at h
        injection h with h _
        subst h
        rw [numD_E (by omega) (by omega)]
    · rw [if_neg hn] at h hc ⊢
      dsimp only at h hc
      subst hc
      by_cases e : 8192 < y.length
      · rw [if_pos e] at h; injection h with _ h; cases h
      · rw [if_neg e] at h
        injection h with h _
        subst h
        rw [hexD_E (by omega)]
/-! ### rows of letters -/
theorem hearAll_pres : ∀ (L : List UInt8) (W : List (List UInt8)) {o p : Op38} {j : Nat}, hearAll o L W = (p, 0) → (∀ c ∈ L, fid c ≠ j) → getF p j = getF o j
  | [], W, o, p, j, h, _ => by
    have e : (o, 0) = (p, 0) := h
    injection e with e _; rw [e]
  | c :: cs, W, o, p, j, h, hj => by
    rw [hearAll] at h
    by_cases e : (hear1 o c (W.headD [])).2 ≠ 0
    · rw [if_pos e] at h; injection h with _ h; exact absurd h e
    · rw [if_neg e] at h
      have ih := hearAll_pres cs W.tail h (fun d hd => hj d (List.mem_cons_of_mem _ hd))
      have e2 := Classical.not_not.1 e
      rw [hear1_err] at e2
      rw [ih, hear1_get e2, if_neg (Ne.symm (hj c (List.mem_cons_self ..)))]
/-- what was heard is told as it was -/
theorem hearAll_told : ∀ (L : List UInt8) (W : List (List UInt8)) {o p : Op38}, hearAll o L W = (p, 0) → (L.map fid).Nodup → L.length = W.length → (L.any fun c => decide ((toldM p c).2 ≠ 0)) = false ∧ (L.map fun c => (toldM p c).1) = W
  | [], W, o, p, h, _, hl => ⟨rfl, by have : W = [] := List.eq_nil_of_length_eq_zero hl.symm; rw [this]; rfl⟩
  | c :: cs, W, o, p, h, hd, hl => by
    rw [hearAll] at h
    by_cases e : (hear1 o c (W.headD [])).2 ≠ 0
    · rw [if_pos e] at h; injection h with _ h; exact absurd h e
    · rw [if_neg e] at h
      rw [List.map_cons, List.nodup_cons] at hd
      cases W with
      | nil => simp at hl
      | cons w W =>
        have ih := hearAll_told cs W (by exact h) hd.2 (by simpa using hl)
        have e2 := Classical.not_not.1 e
        rw [hear1_err] at e2
        have e2 : (valW c w).2 = 0 := e2
        have h3 : getF p (fid c) = (valW c w).1 := by
          rw [hearAll_pres cs W (j := fid c) h (fun d hd2 he => hd.1 (he ▸ List.mem_map_of_mem hd2))]
          have := hear1_get (o := o) e2 (fid c)
          rw [if_pos rfl] at this
          exact this
        have h4 : toldM p c = (w, 0) := by
          unfold toldM
          rw [h3]
          exact told_val (by rw [← e2])
        exact ⟨by rw [List.any_cons, ih.1, h4]; rfl, by rw [List.map_cons, ih.2, h4]⟩
/-- what is told is heard -/
theorem told_hears (p : Op38) : ∀ (L : List UInt8) (o : Op38), (L.any fun c => decide ((toldM p c).2 ≠ 0)) = false → (hearAll o L (L.map fun c => (toldM p c).1)).2 = 0
  | [], o, _ => rfl
  | c :: cs, o, h => by
    rw [List.any_cons, Bool.or_eq_false_iff] at h
    have h1 : (toldM p c).2 = 0 := Classical.byContradiction fun e => by rw [decide_eq_true e] at h; exact absurd h.1 Bool.noConfusion
    have h2 := val_told (c := c) (w := (toldM p c).1) (canF_get p c) (by show toldM p c = _; rw [← h1])
    rw [List.map_cons, hearAll]
    have e : (hear1 o c (((toldM p c).1 :: cs.map fun c => (toldM p c).1).headD [])).2 = 0 := by rw [hear1_err]; show (valW c (toldM p c).1).2 = 0; rw [h2]
    rw [if_neg (fun x => x e)]
    exact told_hears p cs _ h.2
theorem dec_no {n : Nat} {d : UInt8} (h : isFig d = false) : d ∉ dec n := fun hm => by
  have := List.all_eq_true.1 (dec_figs n) d hm
  rw [h] at this; cases this
theorem told_free {c : UInt8} {w : List UInt8} {v : Int × List UInt8} (h : toldV c v = (w, 0)) : (32 : UInt8) ∉ w := by
  have hN : ∀ n : Int, (32 : UInt8) ∉ numE n := fun n => by
    unfold numE
    split
    · exact dec_no (by decide)
    · intro hm
      rcases List.mem_cons.1 hm with e | e
      · exact absurd e (by decide)
      · exact dec_no (by decide) e
  have hX : ∀ b : List UInt8, (32 : UInt8) ∉ hexE b := fun b => by
    unfold hexE
    split
    · decide
    · intro hm
      have := List.all_eq_true.1 (flatX_hex b) 32 hm
      revert this; decide
  unfold toldV at h
  split at h
  · split at h
    · injection h with _ h; cases h
    · injection h with h _; subst h; exact dec_no (by decide)
  · split at h
    · split at h
      · injection h with _ h; cases h
      · injection h with h _; subst h; exact hN _
    · split at h
      · injection h with _ h; cases h
      · injection h with h _; subst h; exact hX _
/-! ### the forms -/
def kI (k : Int) : Int := firstI (fun z : F38 => decide (z.2.1 = k)) formsL
theorem form_word : ∀ i : Fin 13, formI (formAt i.val).1 = (i.val : Int) ∧ kI (formAt i.val).2.1 = (i.val : Int) ∧ (32 : UInt8) ∉ (formAt i.val).1 ∧ ((formAt i.val).2.2.map fid).Nodup ∧ (∀ c ∈ (formAt i.val).2.2, fid c ≠ 0) ∧ (formAt i.val).2.2.length ≤ 8 := by decide +kernel
theorem firstI_true {α : Type} {p : α → Bool} : ∀ {l : List α} (d : α), 0 ≤ firstI p l → p (l.getD (firstI p l).toNat d) = true
  | [], d, h => absurd h (by simp [firstI])
  | x :: l, d, h => by
    rw [firstI] at h ⊢
    by_cases hx : p x = true
    · rw [if_pos hx]; exact hx
    · rw [if_neg hx] at h ⊢
      by_cases hn : firstI p l < 0
      · rw [if_pos hn] at h; omega
      · rw [if_neg hn] at h ⊢
        have ih := firstI_true (p := p) (l := l) d (by omega)
        rw [show (firstI p l + 1).toNat = (firstI p l).toNat + 1 by omega]
        exact ih
theorem formI_at {w : List UInt8} (h : ¬ formI w < 0) : (formAt (formI w).toNat).1 = w ∧ (formI w).toNat < 13 := by
  have h1 := firstI_true (p := fun z : F38 => decide (z.1 = w)) (l := formsL) f38 (by unfold formI at h; omega)
  have h2 := (firstI_bd (fun z : F38 => decide (z.1 = w)) formsL).2
  refine ⟨of_decide_eq_true h1, ?_⟩
  have : formsL.length = 13 := rfl
  unfold formI at h ⊢
  omega
theorem kI_at {k : Int} (h : ¬ kI k < 0) : (formAt (kI k).toNat).2.1 = k ∧ (kI k).toNat < 13 := by
  have h1 := firstI_true (p := fun z : F38 => decide (z.2.1 = k)) (l := formsL) f38 (by unfold kI at h; omega)
  have h2 := (firstI_bd (fun z : F38 => decide (z.2.1 = k)) formsL).2
  refine ⟨of_decide_eq_true h1, ?_⟩
  have : formsL.length = 13 := rfl
  unfold kI at h ⊢
  omega
/-! ### an op's line -/
def wordsO (o : Op38) : List (List UInt8) := (formAt (kI o.k).toNat).1 :: (formAt (kI o.k).toNat).2.2.map fun c => (toldM o c).1
def bareO (o : Op38) : Op38 := (hearAll { op0 with k := o.k } (formAt (kI o.k).toNat).2.2 ((formAt (kI o.k).toNat).2.2.map fun c => (toldM o c).1)).1
def lineM (o : Op38) : List UInt8 × Nat :=
  if kI o.k < 0 then ([], 1) else
  if ((formAt (kI o.k).toNat).2.2.any fun c => decide ((toldM o c).2 ≠ 0)) = true then ([], 4) else
  if sameO o (bareO o) = false ∨ 40000 < (joinC 32 (wordsO o)).length then ([], 4) else (joinC 32 (wordsO o), 0)
/-- a line that is an op's is told by it -/
theorem line_parse {l : List UInt8} {o : Op38} (h : parseL l = (o, 0)) : lineM o = (l, 0) := by
  unfold parseL at h
  by_cases h1 : 40000 < l.length
  · rw [if_pos h1] at h; injection h with _ h; cases h
  rw [if_neg h1] at h
  by_cases h2 : formI ((splitC 32 l).getD 0 []) < 0
  · rw [if_pos h2] at h; injection h with _ h; cases h
  rw [if_neg h2] at h
  by_cases h3 : (splitC 32 l).length - 1 < (formAt (formI ((splitC 32 l).getD 0 [])).toNat).2.2.length
  · rw [if_pos h3] at h; injection h with _ h; cases h
  rw [if_neg h3] at h
  by_cases h4 : (formAt (formI ((splitC 32 l).getD 0 [])).toNat).2.2.length < (splitC 32 l).length - 1
  · rw [if_pos h4] at h; injection h with _ h; cases h
  rw [if_neg h4] at h
  obtain ⟨f1, f2⟩ := formI_at h2
  generalize hi : (formI ((splitC 32 l).getD 0 [])).toNat = i at *
  obtain ⟨g1, g2, g3, g4, g5, g6⟩ := form_word ⟨i, f2⟩
  dsimp only at g1 g2 g3 g4 g5 g6
  have hne := List.length_pos_iff.2 (splitC_ne 32 l)
  have hk : o.k = (formAt i).2.1 := by
    have := hearAll_pres _ _ (j := 0) h g5
    exact congrArg Prod.fst this
  have hki : (kI o.k).toNat = i := by rw [hk, g2]; rfl
  have hkn : ¬ kI o.k < 0 := by rw [hk, g2]; omega
  obtain ⟨t1, t2⟩ := hearAll_told _ _ h g4 (by rw [List.length_drop]; omega)
  have hw : wordsO o = splitC 32 l := by
    unfold wordsO
    rw [hki, t2, f1]
    cases e : splitC 32 l with
    | nil => exact absurd e (splitC_ne 32 l)
    | cons p r => rfl
  have hb : bareO o = o := by
    unfold bareO
    rw [hki, t2, hk, h]
  unfold lineM
  rw [if_neg hkn, hki, if_neg (by rw [t1]; exact Bool.noConfusion), hw, hb, join_split, if_neg]
  rintro (x | x)
  · rw [sameO_iff.2 rfl] at x; cases x
  · exact h1 x
/-- an op's line is read as the op -/
theorem parse_line {o : Op38} {l : List UInt8} (h : lineM o = (l, 0)) : parseL l = (o, 0) := by
  unfold lineM at h
  by_cases h1 : kI o.k < 0
  · rw [if_pos h1] at h; injection h with _ h; cases h
  rw [if_neg h1] at h
  by_cases h2 : ((formAt (kI o.k).toNat).2.2.any fun c => decide ((toldM o c).2 ≠ 0)) = true
  · rw [if_pos h2] at h; injection h with _ h; cases h
  rw [if_neg h2] at h
  by_cases h3 : sameO o (bareO o) = false ∨ 40000 < (joinC 32 (wordsO o)).length
  · rw [if_pos h3] at h; injection h with _ h; cases h
  rw [if_neg h3] at h
  injection h with h _
  have h4 : ¬ 40000 < l.length := fun e => h3 (.inr (by rw [h]; exact e))
  have h5 : o = bareO o := by
    cases e : sameO o (bareO o) with
    | true => exact sameO_iff.1 e
    | false => exact absurd (.inl e) h3
  have hany : ((formAt (kI o.k).toNat).2.2.any fun c => decide ((toldM o c).2 ≠ 0)) = false := by
    cases e : ((formAt (kI o.k).toNat).2.2.any fun c => decide ((toldM o c).2 ≠ 0)) with
    | true => exact absurd e h2
    | false => rfl
  obtain ⟨f1, f2⟩ := kI_at h1
  obtain ⟨g1, g2, g3, g4, g5, g6⟩ := form_word ⟨(kI o.k).toNat, f2⟩
  dsimp only at g1 g2 g3 g4 g5 g6
  have hfree : ∀ p ∈ wordsO o, (32 : UInt8) ∉ p := fun p hp => by
    unfold wordsO at hp
    rcases List.mem_cons.1 hp with rfl | hp
    · exact g3
    · obtain ⟨c, hc, rfl⟩ := List.mem_map.1 hp
      have h6 : (toldM o c).2 = 0 := Classical.byContradiction fun e => by
        have : ((formAt (kI o.k).toNat).2.2.any fun c => decide ((toldM o c).2 ≠ 0)) = true := List.any_eq_true.2 ⟨c, hc, decide_eq_true e⟩
        rw [hany] at this; cases this
      exact told_free (c := c) (v := getF o (fid c)) (by show toldM o c = _; rw [← h6])
  have hsp : splitC 32 l = wordsO o := by rw [← h]; exact split_join (by unfold wordsO; exact List.cons_ne_nil _ _) hfree
  have hw0 : (wordsO o).getD 0 [] = (formAt (kI o.k).toNat).1 := rfl
  have hlen : (wordsO o).length - 1 = (formAt (kI o.k).toNat).2.2.length := by unfold wordsO; simp
  unfold parseL
  rw [if_neg h4, hsp, hw0, g1, if_neg (by omega), Int.toNat_natCast, if_neg (by omega), if_neg (by omega), f1]
  have e2 := told_hears o (formAt (kI o.k).toNat).2.2 { op0 with k := o.k } hany
  have e1 : (hearAll { op0 with k := o.k } (formAt (kI o.k).toNat).2.2 ((wordsO o).drop 1)).1 = o := h5.symm
  have e3 : (hearAll { op0 with k := o.k } (formAt (kI o.k).toNat).2.2 ((wordsO o).drop 1)).2 = 0 := e2
  exact Prod.ext e1 e3
end Am
end Go.Proofs.YtdfjiodkmhpfkaaDoor

/- Chapter 38: numbers and bytes as words by the reference. -/
namespace Go.Proofs.YtdfjiodkmhpfkaaDoor
set_option linter.unusedVariables false
namespace Am
variable {gs : List Nat} [OkG gs]
open Go.RowKit
set_option maxRecDepth 100000

theorem rneg_ac {gs : List Nat} (N : Nat) : 1 ≤ N → N ≤ 9223372036854775808 → ACp gs Tryd.prog 32 [.c (.int .i64 (-(N : Int)))] (strC (45 :: dec N)) := by
  induction N using dec_ind with
  | h0 N h =>
    intro h1 h2
    refine ac_of 21 Tryd.func32 rfl rfl rfl (fun al w0 F0 St0 => ?_)
    refine jcr ?_
    refine jq jrm ?_
    refine seq_nil ?_
    refine jcs ?_
    refine jcr ?_
    refine jq jrm ?_
    refine jq jrc ?_
    refine seq_nil ?_
    refine jcc (fun h14 => ?_) fun h14 => ?_
    · exfalso; omega
    refine code_skip (jtn ?_)
    refine jcs ?_
    refine jcr ?_
    refine jq jrm ?_
    refine jq jrc ?_
    refine seq_nil ?_
    refine jcc (fun h17 => ?_) fun h17 => ?_
    rotate_left
    · exfalso; omega
    refine jcr ?_
    refine jq jrm ?_
    first | refine jq (rd_neg rfl rfl _ (wrap_id (k := .i64) (by show _ ∧ _; (first | omega | (rw [dec_small h]; simp))))) ?_ | refine jq (rd_neg rfl rfl _ rfl) ?_
    refine jqe (jecP (rser_ac N (by omega)) ?_ (ho := rfl) (he := (.cons (se rfl (CEnt.int (by omega))) .nil)))
    refine jq (jras (hS := by (first | omega | (rw [dec_small h]; simp)))) ?_
    refine jq jrm ?_
    refine seq_nil ?_
    refine code_ret (jtr (jrt (hv := CEnt.refl _)))
  | h1 N h ih =>
    intro h1 h2
    have hdl := dec_len 18 (N / 10) (by omega)
    have h3 : dec (N % 10) = [fig (N % 10)] := dec_small (by omega)
    have hNb : N ≤ 9223372036854775808 := h2
    refine ac_of 21 Tryd.func32 rfl rfl rfl (fun al w0 F0 St0 => ?_)
    refine jcr ?_
    refine jq jrm ?_
    refine seq_nil ?_
    refine jcs ?_
    refine jcr ?_
    refine jq jrm ?_
    refine jq jrc ?_
    refine seq_nil ?_
    refine jcc (fun h14 => ?_) fun h14 => ?_
    · exfalso; omega
    refine code_skip (jtn ?_)
    refine jcs ?_
    refine jcr ?_
    refine jq jrm ?_
    refine jq jrc ?_
    refine seq_nil ?_
    refine jcc (fun h17 => ?_) fun h17 => ?_
    · exfalso; omega
    refine code_skip (jtn ?_)
    refine jcr ?_
    refine jq jrm ?_
    refine jq (rd_quoN' rfl rfl rfl hNb) ?_
    refine jqe (jecP (ih (by omega) (by omega)) ?_)
    refine jq jrm ?_
    refine jq (rd_remN rfl rfl rfl) ?_
    first | refine jq (rd_neg rfl rfl _ (wrap_id (k := .i64) (by show _ ∧ _; (first | omega | (rw [h3]; simp only [List.length_cons, List.length_nil]; omega))))) ?_ | refine jq (rd_neg rfl rfl _ rfl) ?_
    refine jqe (jecP (rser_ac (N % 10) (by omega)) ?_ (ho := rfl) (he := (.cons (se rfl (CEnt.int (by omega))) .nil)))
    refine jq (jras (hS := by (first | omega | (rw [h3]; simp only [List.length_cons, List.length_nil]; omega)))) ?_
    refine jq jrm ?_
    refine seq_nil ?_
    refine code_ret (jrt (hv := ?_))
    refine CEnt.strL ?_
    rw [dec_big h, h3]; rfl
theorem rnumeral_ac {gs : List Nat} (n : Int) (h1 : -9223372036854775808 ≤ n) (h2 : n ≤ 9223372036854775807) : ACp gs Tryd.prog 32 [.c (.int .i64 n)] (strC (numE n)) := by
  by_cases hn : 0 ≤ n
  · obtain ⟨N, rfl⟩ : ∃ N : Nat, n = (N : Int) := ⟨n.toNat, by omega⟩
    have e : numE (N : Int) = dec N := by unfold numE; rw [if_pos hn]; simp
    rw [e]
    refine ac_of 21 Tryd.func32 rfl rfl rfl (fun al w0 F0 St0 => ?_)
    refine jcr ?_
    refine jq jrm ?_
    refine seq_nil ?_
    refine jcs ?_
    refine jcr ?_
    refine jq jrm ?_
    refine jq jrc ?_
    refine seq_nil ?_
    refine jcc (fun h14 => ?_) fun h14 => ?_
    rotate_left
    · exfalso; omega
    refine jcr ?_
    refine jq jrm ?_
    refine jqe (jecP (rser_ac N (by omega)) ?_)
    refine jq jrm ?_
    refine seq_nil ?_
    refine code_ret (jtr (jrt (hv := CEnt.refl _)))
  · obtain ⟨N, rfl⟩ : ∃ N : Nat, n = -(N : Int) := ⟨(-n).toNat, by omega⟩
    have e : numE (-(N : Int)) = 45 :: dec N := by unfold numE; rw [if_neg hn]; simp
    rw [e]
    exact rneg_ac N (by omega) (by omega)
theorem u8_45 {c : UInt8} (h : ((c.toNat : Nat) : Int) = 45) : c = 45 := UInt8.toNat_inj.1 (show c.toNat = 45 by omega)
def numR (s : List UInt8) : Int × Bool := ((numD s).1, decide ((numD s).2 = 0))
theorem numR_neg {s : List UInt8} (h : s.getD 0 0 = 45) : (-((figR (s.drop 1)).1 : Int), (figR (s.drop 1)).2 && decide (0 < ((figR (s.drop 1)).1 : Int))) = numR s := by
  unfold numR numD figR
  rw [if_pos h]
  have e := figM_ref (s.drop 1)
  by_cases c : (figM (s.drop 1)).2 = 0
  · rw [if_pos c]
    by_cases z : (figM (s.drop 1)).1 = 0
    · rw [if_pos (.inr z), z]; rfl
    · rw [if_neg (by rintro (x | x) <;> contradiction)]
      have hp : 0 < ((figM (s.drop 1)).1 : Int) := by omega
      show (_, true && decide (0 < ((figM (s.drop 1)).1 : Int))) = _
      rw [decide_eq_true hp]; rfl
  · rw [if_neg c, if_pos (.inl c)]; rfl
theorem numR_pos {s : List UInt8} (h : s.getD 0 0 ≠ 45) : (((figR s).1 : Int), (figR s).2) = numR s := by
  unfold numR numD figR
  rw [if_neg h]
  by_cases c : (figM s).2 = 0
  · rw [if_pos c]; simp [c]
  · rw [if_neg c]
    have e := figM_ref s
    by_cases d : 1 ≤ s.length ∧ s.length ≤ 18 ∧ s.all isFig = true ∧ dec (valD s) = s
    · rw [if_pos d] at e; rw [e] at c; exact absurd rfl c
    · rw [if_neg d] at e; rw [e]; rfl
theorem figR_bd (s : List UInt8) : (figR s).1 < 1000000000000000000 := by
  unfold figR
  have e := figM_ref s
  by_cases d : 1 ≤ s.length ∧ s.length ≤ 18 ∧ s.all isFig = true ∧ dec (valD s) = s
  · rw [if_pos d] at e; rw [e]; exact valD_lt18 d.2.2.1 d.2.1
  · rw [if_neg d] at e; rw [e]; decide
set_option maxHeartbeats 1000000 in
theorem rnumber_ac {gs : List Nat} (s : List UInt8) (hl : s.length ≤ 1000000) : ACp gs Tryd.prog 36 [strC s] (.tup 2 (fl [.c (.int .i64 (numR s).1), .c (.bool (numR s).2)])) := by
  have hb1 := figR_bd s
  have hb2 := figR_bd (s.drop 1)
  refine ac_of 31 Tryd.func36 rfl rfl rfl (fun al w0 F0 St0 => ?_)
  refine jcr ?_
  refine jq jrm ?_
  refine jq jrm ?_
  refine seq_nil ?_
  refine jcs ?_
  refine jcr ?_
  refine jq jrm ?_
  refine jq jrls ?_
  refine jq jrc ?_
  refine jq jrm ?_
  refine jqsp 9 (fun g25 => ?_) fun g25 => ?_
  rotate_left
  · refine jqs ?_
    refine jqs ?_
    refine jqs ?_
    refine jq jrpF ?_
    refine seq_nil ?_
    refine jcF ?_
    refine code_skip (jtn ?_)
    refine jcr ?_
    refine jq jrm ?_
    refine jqe (jecP (rfig_ac s) ?_)
    refine jq jrx ?_
    refine jq jrx ?_
    refine jq jrm ?_
    refine jq jrm ?_
    refine seq_nil ?_
    refine code_ret (jrt (hv := ?_))
    have h45 : s.getD 0 0 ≠ 45 := fun e => by first | exact h25 (by rw [e]; rfl) | (have e2 : s = [] := List.eq_nil_of_length_eq_zero (by omega); subst e2; cases e)
    rw [← numR_pos h45]
    exact CEnt.refl _
  refine jq jrm ?_
  refine jq (jrix (i := 0)) ?_
  refine jq jrc ?_
  refine jq jrpT ?_
  refine seq_nil ?_
  refine jcc (fun h25 => ?_) fun h25 => ?_
  rotate_left
  · refine code_skip (jtn ?_)
    refine jcr ?_
    refine jq jrm ?_
    refine jqe (jecP (rfig_ac s) ?_)
    refine jq jrx ?_
    refine jq jrx ?_
    refine jq jrm ?_
    refine jq jrm ?_
    refine seq_nil ?_
    refine code_ret (jrt (hv := ?_))
    have h45 : s.getD 0 0 ≠ 45 := fun e => by first | exact h25 (by rw [e]; rfl) | (have e2 : s = [] := List.eq_nil_of_length_eq_zero (by omega); subst e2; cases e)
    rw [← numR_pos h45]
    exact CEnt.refl _
  refine jcr ?_
  refine jq jrm ?_
  refine jq (rd_sliceLF rfl rfl Tryd.underlying9 rfl (show (1 : Int) = ((1 : Nat) : Int) from rfl) (by (first | omega | decide | (dsimp only at *; omega)))) ?_
  refine jqe (jecP (rfig_ac (s.drop 1)) ?_)
  refine jq jrm ?_
  refine jq jrx ?_
  refine jq jrx ?_
  refine jq jrm ?_
  refine jq jrm ?_
  refine seq_nil ?_
  refine jcr ?_
  refine jq jrm ?_
  first | refine jq (rd_neg rfl rfl _ (wrap_id (k := .i64) (by show _ ∧ _; (first | omega | decide | (dsimp only at *; omega))))) ?_ | refine jq (rd_neg rfl rfl _ rfl) ?_
  refine jq jrm ?_
  refine jq jrm ?_
  refine jqsp 23 (fun g27 => ?_) fun g27 => ?_
  · refine jq jrm ?_
    refine jq jrc ?_
    refine jq jrpT ?_
    refine jq jrm ?_
    refine jq jrm ?_
    refine seq_nil ?_
    refine code_ret (jtr (jrt (hv := ?_)))
    have h45 : s.getD 0 0 = 45 := u8_45 h25
    rw [← numR_neg h45]
    exact CEnt.tup2 (CEnt.int (by simp)) (CEnt.bool (by first | rfl | (simp_all; done)))
  refine jqs ?_
  refine jqs ?_
  refine jq jrpF ?_
  refine jq jrm ?_
  refine jq jrm ?_
  refine seq_nil ?_
  refine code_ret (jtr (jrt (hv := ?_)))
  have h45 : s.getD 0 0 = 45 := u8_45 h25
  rw [← numR_neg h45]
  exact CEnt.tup2 (CEnt.int (by simp)) (CEnt.bool (by first | rfl | (simp_all; done)))
/-! ### figures of bytes -/
theorem hx_lo {n : Nat} (h : n < 10) : ((hx n).toNat : Int) = 48 + (n : Int) := by
  have : ∀ k : Fin 10, (hx k.val).toNat = 48 + k.val := by decide
  have h2 : (hx n).toNat = 48 + n := this ⟨n, h⟩
  omega
theorem hx_hi {n : Nat} (h : ¬ n < 10) (h2 : n < 16) : ((hx n).toNat : Int) = 97 + (n : Int) - 10 := by
  have : ∀ k : Fin 16, ¬ k.val < 10 → (hx k.val).toNat = 87 + k.val := by decide
  have h3 : (hx n).toNat = 87 + n := this ⟨n, h2⟩ h
  omega
set_option maxHeartbeats 1000000 in
theorem rtext01_ac {gs : List Nat} (b : List UInt8) (hb : b.length ≤ 1000000) : ACp gs Tryd.prog 64 [bsC b] (strC (flatX b)) := by
  refine ac_of 42 Tryd.func64 rfl rfl rfl (fun al w0 F0 St0 => ?_)
  refine jcr ?_
  refine jq jrm ?_
  refine seq_nil ?_
  refine jcr ?_
  refine jqe (jebl 0 1 zr5 fun p1 => ?_)
  refine jq jrm ?_
  refine seq_nil ?_
  refine jcs ?_
  refine jcr ?_
  refine jq jrm ?_
  refine jq jrl ?_
  refine jq jrm ?_
  refine seq_nil ?_
  refine code_block ?_
  refine l_loop (α := Nat × List UInt8 × Option Nat) [3, 5, 7, 11, 12, 13, 14, 15, 16, 17, 18, 19, 20, 21, 22, 23, 24, 25, 26, 27, 28, 29, 30, 31, 32, 33, 34, 35, 36, 37, 38, 39] (fun (i, X, g) => [(11, .c (.int .i64 (i : Nat))), (3, .os 0 g 0 X.length 1)]) (fun (i, X, g) => [(g, .blk X.length (byF X))]) (fun (i, X, g) => i ≤ b.length ∧ X = flatX (b.take i)) (fun (i, X, g) => b.length - i) ((0, [], p1)) ?_ (fun _ => rfl) ?_ ?_ ?_
  · exact ⟨Nat.zero_le _, rfl⟩
  · exact .cons (CEnt.refl _) (.cons (CEnt.refl _) .nil)
  · exact .blk rfl (fun j hj => absurd hj (Nat.not_lt_zero j)) .nil
  · rintro ⟨i, X, g⟩ ⟨(hi : i ≤ b.length), hX⟩
    have hXl : X.length = 2 * i := by rw [hX, flatX_len, List.length_take]; omega
    have hc := (b.getD i 0).toNat_lt
    refine jcr ?_
    refine jq jrc ?_
    refine seq_nil ?_
    refine jcs ?_
    refine jcc (fun h134 => ?_) fun h134 => ?_
    rotate_left
    · refine code_exit (jte (jte (jbx (jtn ?_))))
      refine jcr ?_
      refine jq jrm ?_
      first | refine jq jrbs ?_ | refine jqo jrbo ?_ | refine jq jrbn ?_
      refine jq jrm ?_
      refine seq_nil ?_
      refine code_ret (jrt (hv := ?_))
      refine CEnt.strL ?_
      rw [hX, show i = b.length by omega, List.take_length]
    refine code_skip (jtn ?_)
    refine jcs ?_
    refine code_block ?_
    refine jcr ?_
    refine jq jri ?_
    first | refine jqo jrdo ?_ | refine jq jrdr ?_
    refine jq jrm ?_
    refine seq_nil ?_
    refine jcr ?_
    refine jq jrm ?_
    first | refine jq jrq ?_ | refine jq (rd_quoT rfl rfl rfl (by (first | omega | decide | (dsimp only at *; omega))) _ rfl) ?_
    refine jq jrm ?_
    first | refine jq jrr ?_ | refine jq (rd_remT rfl rfl rfl (by (first | omega | decide | (dsimp only at *; omega)))) ?_
    refine jqe (jebl 2 1 zr5 fun p2 => ?_)
    refine jq jrl ?_
    refine jq jrm ?_
    refine seq_nil ?_
    refine code_block ?_
    refine l_loop (α := Nat × List UInt8 × Option Nat) [3, 7, 21, 22, 23, 24, 25, 26, 27, 28, 29, 30, 31, 32, 33, 34, 35, 36, 37, 38] (fun (k, Y, g2) => [(21, .c (.int .i64 (k : Nat))), (3, .os 0 g2 0 Y.length 1)]) (fun (k, Y, g2) => [(g2, .blk Y.length (byF Y)), (p2, .blk 2 (byF [UInt8.ofNat ((b.getD i 0).toNat / 16), UInt8.ofNat ((b.getD i 0).toNat % 16)]))]) (fun (k, Y, g2) => k ≤ 2 ∧ Y = X ++ [hx ((b.getD i 0).toNat / 16), hx ((b.getD i 0).toNat % 16)].take k) (fun (k, Y, g2) => 2 - k) ((0, X, g)) ?_ (fun _ => rfl) ?_ ?_ ?_
    · exact ⟨Nat.zero_le _, by simp⟩
    · exact .cons (CEnt.refl _) (.cons (CEnt.refl _) .nil)
    · exact .same (.blk rfl (fun j hj => fl_by (l2 := [UInt8.ofNat ((b.getD i 0).toNat / 16), UInt8.ofNat ((b.getD i 0).toNat % 16)]) (.cons (CEnt.int (by rw [UInt8.toNat_ofNat']; omega)) (.cons (CEnt.int (by rw [UInt8.toNat_ofNat']; omega)) .nil)) j hj) .nil)
    · rintro ⟨k, Y, g2⟩ ⟨(hk : k ≤ 2), hY⟩
      have hYl : Y.length = 2 * i + k := by rw [hY, List.length_append, hXl, List.length_take]; simp; omega
      refine jcr ?_
      refine jq jrc ?_
      refine seq_nil ?_
      refine jcs ?_
      refine jcc (fun h135 => ?_) fun h135 => ?_
      rotate_left
      · refine code_exit (jte (jte (jbx (jbn (jtn ?_)))))
        refine jcg ?_
        refine jq jra ?_
        refine jq jrm ?_
        refine seq_nil ?_
        refine jtn ?_
        refine jlend ((i + 1, Y, g2)) ?_ ?_ (h5 := ?_) (h7 := ?_)
        · exact ⟨by omega, by rw [hY, show k = 2 by omega, hX]; exact (flatX_take (by omega)).symm⟩
        · show b.length - (i + 1) < b.length - i; omega
        · exact .cons (CEnt.int (by omega)) (.cons (CEnt.refl _) .nil)
        · exact .same .nil
      refine code_skip (jtn ?_)
      refine jcs ?_
      refine code_block ?_
      refine jcr ?_
      refine jq jri ?_
      first | refine jqo jrdo ?_ | refine jq jrdr ?_
      refine jq jrm ?_
      refine seq_nil ?_
      have hq : (([UInt8.ofNat ((b.getD i 0).toNat / 16), UInt8.ofNat ((b.getD i 0).toNat % 16)].getD k 0).toNat) = [(b.getD i 0).toNat / 16, (b.getD i 0).toNat % 16].getD k 0 ∧ [(b.getD i 0).toNat / 16, (b.getD i 0).toNat % 16].getD k 0 < 16 := by
        rcases k with _ | _ | k
        · show (UInt8.ofNat _).toNat = _ ∧ _ < 16
          rw [UInt8.toNat_ofNat']
          show _ = (b.getD i 0).toNat / 16 ∧ (b.getD i 0).toNat / 16 < 16
          omega
        · show (UInt8.ofNat _).toNat = _ ∧ _ < 16
          rw [UInt8.toNat_ofNat']
          show _ = (b.getD i 0).toNat % 16 ∧ (b.getD i 0).toNat % 16 < 16
          omega
        · omega
      refine jcr ?_
      refine jq jrm ?_
      refine jq jrc ?_
      refine seq_nil ?_
      refine jcc (fun h136 => ?_) fun h136 => ?_
      · refine jcg ?_
        refine jq jrm ?_
        refine jq jrm ?_
        refine jq jra ?_
        refine jqe (jebl 1 1 zr5 fun p3 => ?_)
        refine jqm (m_appendB (l2 := [hx ([(b.getD i 0).toNat / 16, (b.getD i 0).toNat % 16].getD k 0)]) rfl rfl rfl (Nat.le_refl _) (fun _ _ => CEnt.refl _) (src_os rfl (.inl rfl) (by decide)) rfl (hh_bytes (.cons (CEnt.int ((by rw [hx_lo (by omega)]; omega))) .nil)) Tryd.underlying46 nu46 sz5 zr5 by5 rfl (by first | omega | (simp; done) | (simp; omega) | (simp at *; omega)) (leaf_fl rfl rfl) rfl rfl (fun p4 => ?_))
        refine jq jrm ?_
        refine seq_nil ?_
        refine jbn (jtn ?_)
        refine jcg ?_
        refine jq jra ?_
        refine jq jrm ?_
        refine seq_nil ?_
        refine jtn ?_
        refine jlend ((k + 1, Y ++ [hx ([(b.getD i 0).toNat / 16, (b.getD i 0).toNat % 16].getD k 0)], p4)) ?_ ?_ (h5 := ?_) (h7 := ?_)
        · exact ⟨by omega, by rw [hY]; rcases k with _ | _ | k <;> first | (simp; done) | omega⟩
        · show 2 - (k + 1) < 2 - k; omega
        · exact .cons (CEnt.int (by omega)) (.cons (CEnt.refl _) .nil)
        · exact .same (.same .nil)
      refine jcg ?_
      refine jq jrm ?_
      refine jq jrm ?_
      refine jq jra ?_
      refine jq jra ?_
      refine jqe (jebl 1 1 zr5 fun p3 => ?_)
      refine jqm (m_appendB (l2 := [hx ([(b.getD i 0).toNat / 16, (b.getD i 0).toNat % 16].getD k 0)]) rfl rfl rfl (Nat.le_refl _) (fun _ _ => CEnt.refl _) (src_os rfl (.inl rfl) (by decide)) rfl (hh_bytes (.cons (CEnt.int ((by rw [hx_hi (by omega) hq.2]; omega))) .nil)) Tryd.underlying46 nu46 sz5 zr5 by5 rfl (by first | omega | (simp; done) | (simp; omega) | (simp at *; omega)) (leaf_fl rfl rfl) rfl rfl (fun p4 => ?_))
      refine jq jrm ?_
      refine seq_nil ?_
      refine jbn (jtn ?_)
      refine jcg ?_
      refine jq jra ?_
      refine jq jrm ?_
      refine seq_nil ?_
      refine jtn ?_
      refine jlend ((k + 1, Y ++ [hx ([(b.getD i 0).toNat / 16, (b.getD i 0).toNat % 16].getD k 0)], p4)) ?_ ?_ (h5 := ?_) (h7 := ?_)
      · exact ⟨by omega, by rw [hY]; rcases k with _ | _ | k <;> first | (simp; done) | omega⟩
      · show 2 - (k + 1) < 2 - k; omega
      · exact .cons (CEnt.int (by omega)) (.cons (CEnt.refl _) .nil)
      · exact .same (.same .nil)
theorem rhex_ac {gs : List Nat} (b : List UInt8) (hb : b.length ≤ 1000000) : ACp gs Tryd.prog 34 [bsC b] (strC (hexE b)) := by
  refine ac_of 8 Tryd.func34 rfl rfl rfl (fun al w0 F0 St0 => ?_)
  refine jcr ?_
  refine jq jrm ?_
  refine seq_nil ?_
  refine jcs ?_
  refine jcr ?_
  refine jq jrm ?_
  refine jq jrl ?_
  refine jq jrc ?_
  refine seq_nil ?_
  refine jcc (fun h34 => ?_) fun h34 => ?_
  · refine jcr ?_
    refine jq jrm ?_
    refine seq_nil ?_
    refine code_ret (jtr (jrt (hv := ?_)))
    refine CEnt.strL ?_
    have : b = [] := List.eq_nil_of_length_eq_zero (by omega)
    subst this; rfl
  refine code_skip (jtn ?_)
  refine jcr ?_
  refine jq jrm ?_
  refine jqe (jecP (rtext01_ac b hb) ?_)
  refine jq jrm ?_
  refine seq_nil ?_
  refine code_ret (jrt (hv := ?_))
  refine CEnt.strL ?_
  have hbn : b ≠ [] := fun e => by subst e; exact h34 rfl
  unfold hexE
  rw [if_neg hbn]
end Am
end Go.Proofs.YtdfjiodkmhpfkaaDoor

/- Chapter 38: an op's fields as words; ops that are the same: the walks. -/
namespace Go.Proofs.YtdfjiodkmhpfkaaDoor
set_option linter.unusedVariables false
namespace Am
variable {gs : List Nat} [OkG gs]
open Go.RowKit
set_option maxRecDepth 100000

theorem numE_len {n : Int} (h1 : -9223372036854775808 ≤ n) (h2 : n ≤ 9223372036854775807) : (numE n).length ≤ 20 := by
  unfold numE
  split
  · have := dec_len 18 n.toNat (by omega); omega
  · have := dec_len 18 (-n).toNat (by omega); rw [List.length_cons]; omega
theorem hexE_len (b : List UInt8) : (hexE b).length ≤ 2 * b.length + 1 := by
  unfold hexE
  split
  · simp
  · rw [flatX_len]; omega
theorem opF_num {c : UInt8} {k : Nat} (o : Op38) (h : numK c = some k) : opF o k = .c (.int .i64 (getF o k).1) := by
  rcases numK_cases h with ⟨_, rfl⟩ | ⟨_, rfl⟩ | ⟨_, rfl⟩ | ⟨_, rfl⟩ | ⟨_, rfl⟩ | ⟨_, rfl⟩ <;> rfl
theorem opF_txt {c : UInt8} {k : Nat} (o : Op38) (h : txtK c = some k) : opF o k = strC (getF o k).2 := by
  rcases txtK_cases h with ⟨_, rfl⟩ | ⟨_, rfl⟩ | ⟨_, rfl⟩ <;> rfl
theorem opF_raw (o : Op38) (c : UInt8) : opF o (rawK c) = bsC (getF o (rawK c)).2 := by unfold rawK; split <;> rfl
theorem toldM_num {c : UInt8} {k : Nat} (o : Op38) (hk : numK c = some k) : toldM o c = if 1000000000000000000 ≤ (getF o k).1 ∨ (getF o k).1 ≤ -1000000000000000000 then ([], 4) else (numE (getF o k).1, 0) := by
  have hu := numK_u hk
  have hf : fid c = k := by unfold fid; rw [if_neg hu, hk]
  unfold toldM toldV
  rw [if_neg hu, if_pos (by rw [hk]; rfl), hf]
theorem toldM_rest {c : UInt8} (o : Op38) (hu : c ≠ 117) (hn : numK c = none) : toldM o c = if 8192 < (getF o (fid c)).2.length then ([], 4) else (hexE (getF o (fid c)).2, 0) := by
  unfold toldM toldV
  rw [if_neg hu, if_neg (by rw [hn]; exact Bool.noConfusion)]
/-- the cells of an op in a box of one's own -/
theorem op_box {o : Op38} {f : Nat → CV} (h : ∀ j, j < 14 → f j = opF o j) : ∀ j, j < 14 → CEnt (f j) (opF o j) := fun j hj => CEnt.of_eq (h j hj)
theorem opI (o : Op38) (j : Nat) (hj : j < 14) : CEnt (fl [.c (.int .i64 o.k), .c (.int .i64 o.n), .c (.int .i64 o.m), .c (.int .u64 (o.bits : Nat)), bsC o.b, .c (.int .i64 o.what), bsC o.cred, .c (.int .i64 o.kd), strC o.sp, strC o.nm, bsC o.mb, .c (.int .i64 o.mn), .c (.int .i64 o.mm), strC o.tx] j) (opF o j) := CEnt.refl _
set_option maxHeartbeats 1000000 in
theorem told_u_ac {gs : List Nat} [OkG gs] (o : Op38) : ACp gs Tryd.prog 80 [opC o, .c (.int .u8 ((117 : UInt8).toNat : Nat))] (.tup 2 (fl [strC (toldM o 117).1, .err (toldM o 117).2])) := by
  have hb : toldM o 117 = if 1000000000000000000 ≤ ((o.bits : Nat) : Int) then ([], 4) else (dec o.bits, 0) := by
    unfold toldM toldV; rw [if_pos rfl]; rfl
  refine ac_of 56 Tryd.func80 rfl rfl rfl (fun al w0 F0 St0 => ?_)
  refine jcr ?_
  refine jqe (jebx 14 fun p1 => ?_)
  refine jq jrm ?_
  refine jq jrm ?_
  refine seq_nil ?_
  refine jcs ?_
  refine jcr ?_
  refine jq jrm ?_
  refine jq jrc ?_
  refine seq_nil ?_
  refine jcc (fun h144 => ?_) fun h144 => ?_
  rotate_left
  · exfalso; exact absurd rfl h144
  refine jcs ?_
  refine jcr ?_
  refine jq (jrfa 3 1 false) ?_
  first | refine jqo jrdo ?_ | refine jq jrdr ?_
  refine jq jrc ?_
  refine seq_nil ?_
  refine jcc (fun h145 => ?_) fun h145 => ?_
  · refine jcs ?_
    refine jcd (.rd 0 (.rd 1 (.rd 2 .done))) ?_
    refine jyq (jrde 3) ?_
    refine jyq jrm ?_
    refine jyq jrm ?_
    refine jyd ?_
    refine jtn ?_
    refine code_ret (jtr (jtr (jrt (hv := ?_))))
    rw [hb, if_pos (by omega)]; exact CEnt.refl _
  refine code_skip (jtn ?_)
  refine jcr ?_
  refine jq (jrfa 3 1 false) ?_
  first | refine jqo jrdo ?_ | refine jq jrdr ?_
  first | refine jq (jrv .u64 .i64) ?_ | refine jq (jrvW .u64 .i64) ?_
  refine jqe (jecP (wser_ac o.bits (by omega)) ?_)
  refine jq jrm ?_
  refine jq jrm ?_
  refine seq_nil ?_
  refine code_ret (jtr (jrt (hv := ?_)))
  rw [hb, if_neg (by omega)]; exact CEnt.tup2 (CEnt.refl _) (CEnt.nilE rfl)
set_option maxHeartbeats 1000000 in
theorem told_n_ac {gs : List Nat} [OkG gs] (o : Op38) {c : UInt8} {k : Nat} (h : numK c = some k) : ACp gs Tryd.prog 80 [opC o, .c (.int .u8 (c.toNat : Nat))] (.tup 2 (fl [strC (toldM o c).1, .err (toldM o c).2])) := by
  have hb := toldM_num o h
  have hkb := numK_bd h
  have hu := numK_u h
  refine ac_of 56 Tryd.func80 rfl rfl rfl (fun al w0 F0 St0 => ?_)
  refine jcr ?_
  refine jqe (jebx 14 fun p1 => ?_)
  refine jq jrm ?_
  refine jq jrm ?_
  refine seq_nil ?_
  refine jcs ?_
  refine jcr ?_
  refine jq jrm ?_
  refine jq jrc ?_
  refine seq_nil ?_
  refine jcc (fun h144 => ?_) fun h144 => ?_
  · exfalso; exact absurd (u8_of h144 rfl) hu
  refine code_skip (jtn ?_)
  refine jcs ?_
  refine code_ent (blk_ent 0 (m := 14) (F := opF o) rfl (Nat.le_refl _) (fun _ => rfl) (fun j hj => by rcases j with _ | _ | _ | _ | _ | _ | _ | _ | _ | _ | _ | _ | _ | _ | j <;> first | exact CEnt.refl _ | omega)) ?_
  refine jcr ?_
  refine jq jrm ?_
  refine jqm (jmcH 0 (number_some (opF o) p1 h) ?_)
  rintro _ _ ⟨rfl, rfl⟩
  refine ⟨_, _, rfl, CEnt.refl _, ?_⟩
  refine jq jrm ?_
  refine seq_nil ?_
  refine code_ent (blk_ent 0 (m := 14) (F := opF o) rfl (Nat.le_refl _) (fun _ => rfl) (fun j hj => by rcases j with _ | _ | _ | _ | _ | _ | _ | _ | _ | _ | _ | _ | _ | _ | j <;> first | exact CEnt.refl _ | omega)) ?_
  refine jcr ?_
  refine jq jrm ?_
  first | refine jq (rd_neP rfl rfl rfl Tryd.underlying138) ?_ | refine jq (rd_nePR rfl rfl rfl Tryd.underlying138) ?_ | refine jq (rd_nePN rfl rfl rfl Tryd.underlying138) ?_
  refine seq_nil ?_
  refine jcc (fun h150 => ?_) fun h150 => ?_
  rotate_left
  · exfalso; first | exact absurd rfl h150 | (simp at h150; done)
  refine jcs ?_
  refine jcr ?_
  refine jq jrm ?_
  refine jq jrnc ?_
  refine jqo (jrdo (hv := opF_num o h)) ?_
  refine jq jrc ?_
  refine jq jrm ?_
  refine jqsp 27 (fun g151 => ?_) fun g151 => ?_
  · refine jqs ?_
    refine jqs ?_
    refine jqs ?_
    refine jqs ?_
    refine jq jrpT ?_
    refine seq_nil ?_
    refine jcT ?_
    refine jcs ?_
    refine jcd (.rd 0 (.rd 1 (.rd 2 .done))) ?_
    refine jyq (jrde 3) ?_
    refine jyq jrm ?_
    refine jyq jrm ?_
    refine jyd ?_
    refine jtn ?_
    refine code_ret (jtr (jtr (jrt (hv := ?_))))
    rw [hb, if_pos (by first | omega | grind)]; exact CEnt.refl _
  refine jq jrm ?_
  refine jq jrnc ?_
  refine jqo (jrdo (hv := opF_num o h)) ?_
  refine jq jrc ?_
  refine jq jrpF ?_
  refine seq_nil ?_
  refine jcc (fun h151 => ?_) fun h151 => ?_
  · refine jcs ?_
    refine jcd (.rd 0 (.rd 1 (.rd 2 .done))) ?_
    refine jyq (jrde 3) ?_
    refine jyq jrm ?_
    refine jyq jrm ?_
    refine jyd ?_
    refine jtn ?_
    refine code_ret (jtr (jtr (jrt (hv := ?_))))
    rw [hb, if_pos (by first | omega | grind)]; exact CEnt.refl _
  refine code_skip (jtn ?_)
  refine jcr ?_
  refine jq jrm ?_
  refine jq jrnc ?_
  refine jqo (jrdo (hv := opF_num o h)) ?_
  refine jqe (jecP (numeral_ac (getF o k).1 (by omega) (by omega)) ?_)
  refine jq jrm ?_
  refine jq jrm ?_
  refine seq_nil ?_
  refine code_ret (jtr (jrt (hv := ?_)))
  rw [hb, if_neg (by first | omega | grind)]; exact CEnt.tup2 (CEnt.refl _) (CEnt.nilE rfl)
set_option maxHeartbeats 1000000 in
theorem told_t_ac {gs : List Nat} [OkG gs] (o : Op38) {c : UInt8} {k : Nat} (hu : c ≠ 117) (hn : numK c = none) (h : txtK c = some k) (hl : (getF o k).2.length ≤ 9223372036854775807) : ACp gs Tryd.prog 80 [opC o, .c (.int .u8 (c.toNat : Nat))] (.tup 2 (fl [strC (toldM o c).1, .err (toldM o c).2])) := by
  have hf : fid c = k := by unfold fid; rw [if_neg hu, hn, h]
  have hb := toldM_rest o hu hn
  rw [hf] at hb
  have hkb := txtK_bd h
  have hrb := rawK_bd c
  refine ac_of 56 Tryd.func80 rfl rfl rfl (fun al w0 F0 St0 => ?_)
  refine jcr ?_
  refine jqe (jebx 14 fun p1 => ?_)
  refine jq jrm ?_
  refine jq jrm ?_
  refine seq_nil ?_
  refine jcs ?_
  refine jcr ?_
  refine jq jrm ?_
  refine jq jrc ?_
  refine seq_nil ?_
  refine jcc (fun h144 => ?_) fun h144 => ?_
  · exfalso; exact absurd (u8_of h144 rfl) hu
  refine code_skip (jtn ?_)
  refine jcs ?_
  refine code_ent (blk_ent 0 (m := 14) (F := opF o) rfl (Nat.le_refl _) (fun _ => rfl) (fun j hj => by rcases j with _ | _ | _ | _ | _ | _ | _ | _ | _ | _ | _ | _ | _ | _ | j <;> first | exact CEnt.refl _ | omega)) ?_
  refine jcr ?_
  refine jq jrm ?_
  refine jqm (jmcH 0 (number_none (opF o) p1 hn) ?_)
  rintro _ _ ⟨rfl, rfl⟩
  refine ⟨_, _, rfl, CEnt.refl _, ?_⟩
  refine jq jrm ?_
  refine seq_nil ?_
  refine code_ent (blk_ent 0 (m := 14) (F := opF o) rfl (Nat.le_refl _) (fun _ => rfl) (fun j hj => by rcases j with _ | _ | _ | _ | _ | _ | _ | _ | _ | _ | _ | _ | _ | _ | j <;> first | exact CEnt.refl _ | omega)) ?_
  refine jcr ?_
  refine jq jrm ?_
  first | refine jq (rd_neP rfl rfl rfl Tryd.underlying138) ?_ | refine jq (rd_nePR rfl rfl rfl Tryd.underlying138) ?_ | refine jq (rd_nePN rfl rfl rfl Tryd.underlying138) ?_
  refine seq_nil ?_
  refine jcc (fun h150 => ?_) fun h150 => ?_
  · exfalso; (simp at h150; done)
  refine code_skip (jtn ?_)
  refine jcr ?_
  refine jq jrm ?_
  refine jqm (jmcH 0 (raw38_ac (opF o) p1 c) ?_)
  rintro _ _ ⟨rfl, rfl⟩
  refine ⟨_, _, rfl, CEnt.refl _, ?_⟩
  refine jq jrnc ?_
  refine jqo (jrdo (hv := opF_raw o c)) ?_
  refine jq jrm ?_
  refine seq_nil ?_
  refine jcs ?_
  refine jcr ?_
  refine jq jrm ?_
  refine jqm (jmcH 0 (text_some (opF o) p1 h) ?_)
  rintro _ _ ⟨rfl, rfl⟩
  refine ⟨_, _, rfl, CEnt.refl _, ?_⟩
  refine jq jrm ?_
  refine seq_nil ?_
  refine jcr ?_
  refine jq jrm ?_
  first | refine jq (rd_neP rfl rfl rfl Tryd.underlying140) ?_ | refine jq (rd_nePR rfl rfl rfl Tryd.underlying140) ?_ | refine jq (rd_nePN rfl rfl rfl Tryd.underlying140) ?_
  refine seq_nil ?_
  refine jcc (fun h157 => ?_) fun h157 => ?_
  rotate_left
  · exfalso; first | exact absurd rfl h157 | (simp at h157; done)
  refine jcg ?_
  refine jq jrm ?_
  refine jq jrnc ?_
  refine jqo (jrdo (hv := opF_txt o h)) ?_
  refine jqe (jecv ?_)
  refine jq jrm ?_
  refine seq_nil ?_
  refine jtn ?_
  refine jcs ?_
  refine jcr ?_
  refine jq jrm ?_
  refine jq jrl ?_
  refine jq jrc ?_
  refine seq_nil ?_
  refine jcc (fun h160 => ?_) fun h160 => ?_
  · refine jcs ?_
    refine jcd (.rd 0 (.rd 1 (.rd 2 .done))) ?_
    refine jyq (jrde 3) ?_
    refine jyq jrm ?_
    refine jyq jrm ?_
    refine jyd ?_
    refine jtn ?_
    refine code_ret (jtr (jrt (hv := ?_)))
    rw [hb, if_pos (by first | omega | grind)]; exact CEnt.refl _
  refine code_skip (jtn ?_)
  refine jcr ?_
  refine jq jrm ?_
  refine jqe (jecP (hex38_ac (getF o k).2 (by omega)) ?_)
  refine jq jrm ?_
  refine jq jrm ?_
  refine seq_nil ?_
  refine code_ret (jrt (hv := ?_))
  rw [hb, if_neg (by first | omega | grind)]; exact CEnt.tup2 (CEnt.refl _) (CEnt.nilE rfl)
set_option maxHeartbeats 1000000 in
theorem told_r_ac {gs : List Nat} [OkG gs] (o : Op38) {c : UInt8} (hu : c ≠ 117) (hn : numK c = none) (h : txtK c = none) : ACp gs Tryd.prog 80 [opC o, .c (.int .u8 (c.toNat : Nat))] (.tup 2 (fl [strC (toldM o c).1, .err (toldM o c).2])) := by
  have hf : fid c = rawK c := by unfold fid; rw [if_neg hu, hn, h]
  have hb := toldM_rest o hu hn
  rw [hf] at hb
  have hrb := rawK_bd c
  refine ac_of 56 Tryd.func80 rfl rfl rfl (fun al w0 F0 St0 => ?_)
  refine jcr ?_
  refine jqe (jebx 14 fun p1 => ?_)
  refine jq jrm ?_
  refine jq jrm ?_
  refine seq_nil ?_
  refine jcs ?_
  refine jcr ?_
  refine jq jrm ?_
  refine jq jrc ?_
  refine seq_nil ?_
  refine jcc (fun h144 => ?_) fun h144 => ?_
  · exfalso; exact absurd (u8_of h144 rfl) hu
  refine code_skip (jtn ?_)
  refine jcs ?_
  refine code_ent (blk_ent 0 (m := 14) (F := opF o) rfl (Nat.le_refl _) (fun _ => rfl) (fun j hj => by rcases j with _ | _ | _ | _ | _ | _ | _ | _ | _ | _ | _ | _ | _ | _ | j <;> first | exact CEnt.refl _ | omega)) ?_
  refine jcr ?_
  refine jq jrm ?_
  refine jqm (jmcH 0 (number_none (opF o) p1 hn) ?_)
  rintro _ _ ⟨rfl, rfl⟩
  refine ⟨_, _, rfl, CEnt.refl _, ?_⟩
  refine jq jrm ?_
  refine seq_nil ?_
  refine code_ent (blk_ent 0 (m := 14) (F := opF o) rfl (Nat.le_refl _) (fun _ => rfl) (fun j hj => by rcases j with _ | _ | _ | _ | _ | _ | _ | _ | _ | _ | _ | _ | _ | _ | j <;> first | exact CEnt.refl _ | omega)) ?_
  refine jcr ?_
  refine jq jrm ?_
  first | refine jq (rd_neP rfl rfl rfl Tryd.underlying138) ?_ | refine jq (rd_nePR rfl rfl rfl Tryd.underlying138) ?_ | refine jq (rd_nePN rfl rfl rfl Tryd.underlying138) ?_
  refine seq_nil ?_
  refine jcc (fun h150 => ?_) fun h150 => ?_
  · exfalso; (simp at h150; done)
  refine code_skip (jtn ?_)
  refine jcr ?_
  refine jq jrm ?_
  refine jqm (jmcH 0 (raw38_ac (opF o) p1 c) ?_)
  rintro _ _ ⟨rfl, rfl⟩
  refine ⟨_, _, rfl, CEnt.refl _, ?_⟩
  refine jq jrnc ?_
  refine jqo (jrdo (hv := opF_raw o c)) ?_
  refine jq jrm ?_
  refine seq_nil ?_
  refine jcs ?_
  refine jcr ?_
  refine jq jrm ?_
  refine jqm (jmcH 0 (text_none (opF o) p1 h) ?_)
  rintro _ _ ⟨rfl, rfl⟩
  refine ⟨_, _, rfl, CEnt.refl _, ?_⟩
  refine jq jrm ?_
  refine seq_nil ?_
  refine jcr ?_
  refine jq jrm ?_
  first | refine jq (rd_neP rfl rfl rfl Tryd.underlying140) ?_ | refine jq (rd_nePR rfl rfl rfl Tryd.underlying140) ?_ | refine jq (rd_nePN rfl rfl rfl Tryd.underlying140) ?_
  refine seq_nil ?_
  refine jcc (fun h157 => ?_) fun h157 => ?_
  · exfalso; (simp at h157; done)
  refine code_skip (jtn ?_)
  refine jcs ?_
  refine jcr ?_
  refine jq jrm ?_
  refine jq jrl ?_
  refine jq jrc ?_
  refine seq_nil ?_
  refine jcc (fun h160 => ?_) fun h160 => ?_
  · refine jcs ?_
    refine jcd (.rd 0 (.rd 1 (.rd 2 .done))) ?_
    refine jyq (jrde 3) ?_
    refine jyq jrm ?_
    refine jyq jrm ?_
    refine jyd ?_
    refine jtn ?_
    refine code_ret (jtr (jrt (hv := ?_)))
    rw [hb, if_pos (by first | omega | grind)]; exact CEnt.refl _
  refine code_skip (jtn ?_)
  refine jcr ?_
  refine jq jrm ?_
  refine jqe (jecP (hex38_ac (getF o (rawK c)).2 (by omega)) ?_)
  refine jq jrm ?_
  refine jq jrm ?_
  refine seq_nil ?_
  refine code_ret (jrt (hv := ?_))
  rw [hb, if_neg (by first | omega | grind)]; exact CEnt.tup2 (CEnt.refl _) (CEnt.nilE rfl)
/-- an op's texts and bytes are at most so long -/
def OpLe (o : Op38) (m : Nat) : Prop := ∀ k, (getF o k).2.length ≤ m
theorem told_ac {gs : List Nat} [OkG gs] (o : Op38) (c : UInt8) (ho : OpLe o 9223372036854775807) : ACp gs Tryd.prog 80 [opC o, .c (.int .u8 (c.toNat : Nat))] (.tup 2 (fl [strC (toldM o c).1, .err (toldM o c).2])) := by
  by_cases hu : c = 117
  · subst hu; exact told_u_ac o
  · cases hn : numK c with
    | some k => exact told_n_ac o hn
    | none =>
      cases h : txtK c with
      | some k => exact told_t_ac o hu hn h (ho k)
      | none => exact told_r_ac o hu hn h
end Am
end Go.Proofs.YtdfjiodkmhpfkaaDoor
