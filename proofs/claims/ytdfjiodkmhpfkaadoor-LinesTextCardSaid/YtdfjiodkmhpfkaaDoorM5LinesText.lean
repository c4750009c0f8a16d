/- What the law leans on, part 5: P05b, SsJ, W38i, W38k, W38l, W38j, W38m, L38, L38b, Laid, Tab, Open, Open2 -/
import Derived.Test.YtdfjiodkmhpfkaaDoorM4LinesText
import Derived.Lib.Join
import Derived.Test.YtdfjiodkmhpfkaaDoorRows
import Derived.LaidLaws
import Derived.MakeChecks
import Derived.Lib.LaidU8T
import Derived.ChangeArms
import Derived.ChangeOld
import Derived.OpenShut

/- Chapter 5, plain: a body's runs, one by one; a text's answer out of a body. -/
namespace Go.Proofs.YtdfjiodkmhpfkaaDoor
namespace Am
open Go.RowKit
set_option linter.unusedVariables false

/-- a body's runs -/
def runsL (b : List UInt8) : List (List UInt8) := if h : b = [] then [] else b.take (runLen b) :: runsL (b.drop (runLen b))
termination_by b.length
decreasing_by
  have := runLen_pos h
  have := List.length_pos_iff.2 h
  simp; omega
theorem runsL_nil : runsL [] = [] := by rw [runsL]; simp
theorem runsL_cons {b : List UInt8} (h : b ≠ []) : runsL b = b.take (runLen b) :: runsL (b.drop (runLen b)) := by rw [runsL, dif_neg h]
theorem runs_pos : ∀ (n : Nat) (b : List UInt8), b.length ≤ n → ∀ r ∈ runsL b, 0 < r.length := by
  intro n
  induction n with
  | zero =>
    intro b hb r hr
    have : b = [] := List.length_eq_zero_iff.1 (by omega)
    subst this
    rw [runsL_nil] at hr; cases hr
  | succ n ih =>
    intro b hb r hr
    by_cases h : b = []
    · subst h; rw [runsL_nil] at hr; cases hr
    · rw [runsL_cons h] at hr
      have h1 := runLen_pos h
      have h2 := runLen_le b
      rcases List.mem_cons.1 hr with rfl | hr
      · rw [List.length_take]; omega
      · exact ih _ (by rw [List.length_drop]; omega) r hr
theorem runs_len : ∀ (n : Nat) (b : List UInt8), b.length ≤ n → (runsL b).length ≤ b.length := by
  intro n
  induction n with
  | zero =>
    intro b hb
    have : b = [] := List.length_eq_zero_iff.1 (by omega)
    subst this
    rw [runsL_nil]; exact Nat.le_refl _
  | succ n ih =>
    intro b hb
    by_cases h : b = []
    · subst h; rw [runsL_nil]; exact Nat.le_refl _
    · rw [runsL_cons h]
      have h1 := runLen_pos h
      have h2 := runLen_le b
      have := ih (b.drop (runLen b)) (by rw [List.length_drop]; omega)
      rw [List.length_drop] at this
      simp only [List.length_cons]; omega
/-- each run's number, the first one's most apart -/
def resL (most : Nat) : List (List UInt8) → List (Nat × Nat)
  | [] => []
  | r :: t => numM r most :: resL 2147483647 t
theorem resL_len : ∀ (most : Nat) (l : List (List UInt8)), (resL most l).length = l.length
  | _, [] => rfl
  | most, r :: t => by rw [resL, List.length_cons, resL_len, List.length_cons]
theorem resL_get : ∀ (most : Nat) (l : List (List UInt8)) (k : Nat), k < l.length → (resL most l).getD k (0, 0) = numM (l.getD k []) (if k = 0 then most else 2147483647)
  | _, [], k, h => absurd h (Nat.not_lt_zero k)
  | most, r :: t, 0, _ => rfl
  | most, r :: t, k + 1, h => by
    have := resL_get 2147483647 t k (by simpa using h)
    rw [resL, List.getD_cons_succ, List.getD_cons_succ, this, if_neg (Nat.succ_ne_zero k)]
    split <;> rfl
/-- the first error -/
def errL : List (Nat × Nat) → Nat
  | [] => 0
  | x :: t => if x.2 = 0 then errL t else x.2
theorem errL_app {l r : List (Nat × Nat)} (h : errL l = 0) : errL (l ++ r) = errL r := by
  induction l with
  | nil => rfl
  | cons x t ih =>
    rw [errL] at h
    split at h
    · rename_i hx
      rw [List.cons_append, errL, if_pos hx, ih h]
    · rename_i hx; exact absurd h hx
theorem errL_one {l : List (Nat × Nat)} {k : Nat} (hk : k < l.length) (h : errL (l.take k) = 0) : errL (l.take (k + 1)) = (l.getD k (0, 0)).2 := by
  rw [List.take_succ_eq_append_getElem hk, errL_app h]
  simp only [errL, List.getD, List.getElem?_eq_getElem hk, Option.getD_some]
  split <;> simp_all
theorem errL_bad {l : List (Nat × Nat)} {k : Nat} (hk : k < l.length) (h : errL (l.take k) = 0) (h2 : (l.getD k (0, 0)).2 ≠ 0) : errL l = (l.getD k (0, 0)).2 := by
  have e : errL (l.take k ++ l.drop k) = errL (l.drop k) := errL_app h
  rw [List.take_append_drop] at e
  rw [e, List.drop_eq_getElem_cons hk, errL]
  simp only [List.getD, List.getElem?_eq_getElem hk, Option.getD_some] at h2 ⊢
  rw [if_neg h2]
theorem nums_res : ∀ (n : Nat) (b : List UInt8) (most : Nat), b.length ≤ n → numsM most b = if errL (resL most (runsL b)) = 0 then ((resL most (runsL b)).map (·.1), 0) else ([], errL (resL most (runsL b))) := by
  intro n
  induction n with
  | zero =>
    intro b most hb
    have : b = [] := List.length_eq_zero_iff.1 (by omega)
    subst this
    rw [numsM, runsL_nil]; rfl
  | succ n ih =>
    intro b most hb
    by_cases h : b = []
    · subst h; rw [numsM, runsL_nil]; rfl
    · have h1 := runLen_pos h
      have h2 := runLen_le b
      have hi := ih (b.drop (runLen b)) 2147483647 (by rw [List.length_drop]; omega)
      rw [numsM, dif_neg h, hi, runsL_cons h, resL, errL]
      by_cases e : (numM (b.take (runLen b)) most).2 = 0
      · rw [if_neg (by simp [e]), if_pos e]
        by_cases e2 : errL (resL 2147483647 (runsL (b.drop (runLen b)))) = 0
        · rw [if_pos e2, if_pos e2, if_neg (by simp), List.map_cons]
        · rw [if_neg e2, if_neg e2, if_pos e2]
      · rw [if_pos e, if_neg e, if_neg e]
theorem arcs_snoc {l : List Nat} (n : Nat) (h : l ≠ []) : arcsOf (l ++ [n]) = arcsOf l ++ [(n : Int)] := by
  cases l with
  | nil => exact absurd rfl h
  | cons a r => simp [arcsOf]
theorem arcs_len (l : List Nat) : (arcsOf l).length ≤ l.length + 1 ∧ (l ≠ [] → 2 ≤ (arcsOf l).length) := by
  cases l with
  | nil => exact ⟨by simp [arcsOf], fun h => absurd rfl h⟩
  | cons a r => simp [arcsOf]
/-- a body's numbers and their first error -/
def resB (b : List UInt8) : List (Nat × Nat) := resL 2147483727 (runsL b)
theorem resB_len (b : List UInt8) : (resB b).length = (runsL b).length := resL_len _ _
theorem nums_resB (b : List UInt8) : numsM 2147483727 b = if errL (resB b) = 0 then ((resB b).map (·.1), 0) else ([], errL (resB b)) := nums_res b.length b 2147483727 (Nat.le_refl _)
theorem getA_nil : getA [] = ([], 2) := by unfold getA; rw [if_pos rfl]
theorem getA_bad {b : List UInt8} (hb : b ≠ []) (h : errL (resB b) ≠ 0) : getA b = ([], errL (resB b)) := by
  unfold getA
  have := nums_resB b
  rw [if_neg h] at this
  rw [if_neg hb, this, if_pos h]
theorem getA_good {b : List UInt8} (hb : b ≠ []) (h : errL (resB b) = 0) : getA b = if rightA (arcsOf ((resB b).map (·.1))) = false then ([], 1) else (arcsOf ((resB b).map (·.1)), 0) := by
  unfold getA
  have := nums_resB b
  rw [if_pos h] at this
  rw [if_neg hb, this, if_neg (by simp)]
/-- the text of arcs, where they are an identifier's; the error's number -/
def textM (l : List Int) : List UInt8 × Nat := if rightA l = true then (textL l, 0) else ([], 1)
/-- a body's text; the error's number -/
def getM (b : List UInt8) : List UInt8 × Nat := if (getA b).2 = 0 then (textL (getA b).1, 0) else ([], (getA b).2)
theorem get_text {b : List UInt8} (hb : b ≠ []) (h : errL (resB b) = 0) : getM b = textM (arcsOf ((resB b).map (·.1))) := by
  unfold getM textM
  rw [getA_good hb h]
  cases rightA (arcsOf ((resB b).map (·.1))) <;> simp
theorem get_err {b : List UInt8} (hb : b ≠ []) (h : errL (resB b) ≠ 0) : getM b = ([], errL (resB b)) := by
  unfold getM
  rw [getA_bad hb h, if_neg h]
theorem get_nil : getM [] = ([], 2) := by unfold getM; rw [getA_nil, if_neg (by decide)]
theorem join_lib (c : UInt8) : ∀ ls : List (List UInt8), Lib.join ls [c] = joinC c ls
  | [] => rfl
  | [p] => Lib.join_one p [c]
  | p :: q :: r => by
    have ih := join_lib c (q :: r)
    rw [Lib.join_cons] at ih ⊢
    rw [joinC, ← ih]
    simp [Lib.joinTail]
theorem join_len {c : UInt8} {m : Nat} : ∀ {ls : List (List UInt8)}, (∀ p ∈ ls, p.length ≤ m) → (joinC c ls).length ≤ (m + 1) * ls.length
  | [], _ => Nat.zero_le _
  | [p], h => by have := h p (by simp); simp [joinC]; omega
  | p :: q :: r, h => by
    have h1 := h p (by simp)
    have ih := join_len (c := c) (m := m) (ls := q :: r) fun x hx => h x (by simp at hx ⊢; exact .inr hx)
    rw [joinC, List.length_append, List.length_cons, List.length_cons, Nat.mul_succ]
    omega
theorem low_run (l : List UInt8) (p : UInt8 → Bool) (hp : ∀ c, p c = decide (c.toNat < 128)) : (runLen l : Int) = if firstI p l < 0 then (l.length : Int) else firstI p l + 1 := by
  induction l with
  | nil => simp [runLen, firstI]
  | cons c l ih =>
    have hb := firstI_bd p l
    rw [runLen, firstI, hp]
    by_cases hc : c.toNat < 128
    · simp [hc]
    · simp only [hc, decide_false, if_false, Bool.false_eq_true]
      by_cases hn : firstI p l < 0
      · rw [if_pos hn] at ih
        rw [if_pos hn, if_pos (by decide)]
        simp only [List.length_cons]; omega
      · rw [if_neg hn] at ih
        rw [if_neg hn, if_neg (by omega)]
        omega
/-- what comes out of a body that was put of a right text -/
theorem get_of_put {s : List UInt8} (h : (parseM s).2 = 0) : getM (putA (parseM s).1) = (s, 0) := by
  have hr := (parse_right (s := s) (l := (parseM s).1) (by rw [← h])).1
  have ht := text_parse (s := s) (l := (parseM s).1) (by rw [← h])
  unfold getM
  rw [get_put hr, if_pos rfl, ht]
end Am
end Go.Proofs.YtdfjiodkmhpfkaaDoor

/- Texts in a row; texts joined. -/
namespace Go.Proofs.YtdfjiodkmhpfkaaDoor
set_option linter.unusedVariables false
namespace Am
open Go.RowKit
set_option maxRecDepth 100000

/-! ### texts in a row -/
def ssF (ls : List (List UInt8)) (j : Nat) : CV := strC (ls.getD j [])
def ssC (ls : List (List UInt8)) : CV := .rs 1 ls.length fun i _ => strC (ls.getD i [])
theorem rowC_ss : RowC 1 ssF := fun l l2 j hj => by
  simp only [ssF, List.getD_eq_getElem?_getD]
  split
  · rw [List.getElem?_append_left (by omega)]
  · rw [List.getElem?_append_right (by omega), Nat.mul_one]
theorem ss_thaw {ls : List (List UInt8)} : ∀ a b, a < ls.length → b < 1 → CEnt (ssF ls (0 + (a * 1 + b))) (strC (ls.getD a [])) := fun a b ha hb => CEnt.of_eq (by rw [show 0 + (a * 1 + b) = a by omega]; rfl)

theorem join_ac {gs : List Nat} (ls : List (List UInt8)) (sep : List UInt8) (h1 : ls.length ≤ 1000000000) (h2 : (Lib.join ls sep).length ≤ 100000000000) : ACp gs Tryd.prog 81 [ssC ls, strC sep] (strC (Lib.join ls sep)) :=
  ac_old fun al w St vals hs hv hr => by
    obtain ⟨ao, cap, k1, k2, k3, k4, k5⟩ := hr 0
    rw [vals2 hv, show vals.getD 0 undef = .slice ao ls.length cap from k1, show vals.getD 1 undef = .string ⟨sep.toArray⟩ from hr 1]
    by_cases hn : ls = []
    · subst hn
      exact (Tryd.strings_Join_none ao cap _ w).mono (by rintro e w' ⟨rfl, rfl⟩; exact ⟨rfl, Below.refl _ _⟩)
    · have hp : 0 < ls.length := List.length_pos_iff.2 hn
      obtain ⟨a, rfl⟩ : ∃ a, ao = some a := by
        cases ao with
        | none => have := k4 rfl; omega
        | some a => exact ⟨a, rfl⟩
      obtain ⟨e1, e2, e3⟩ := k5 a rfl hp
      obtain ⟨bk, o, sp⟩ := a
      obtain rfl : sp = none := e1
      have hm : (ls.map fun l => (⟨l.toArray⟩ : ByteArray)).map (·.data.toList) = ls := by
        rw [List.map_map]
        exact (List.map_congr_left fun x _ => by simp).trans (List.map_id ls)
      have hc : ∀ (j : Nat) x, (ls.map fun l => (⟨l.toArray⟩ : ByteArray))[j]? = some x → w.cell? ⟨bk, o + j, none⟩ = some (.string x) := fun j x hx => by
        rw [List.getElem?_map] at hx
        obtain ⟨y, hy, rfl⟩ := Option.map_eq_some_iff.1 hx
        have hj : j < ls.length := (List.getElem?_eq_some_iff.1 hy).1
        obtain ⟨v, hv1, hv2⟩ := e3 j 0 hj (by omega)
        rw [show o + (j * 1 + 0) = o + j by omega] at hv1
        rw [hv1]
        have : v = .string ⟨(ls.getD j []).toArray⟩ := hv2
        rw [this, List.getD_eq_getElem?_getD, hy]; rfl
      have hb : bk < w.heap.size := by
        obtain ⟨v, hv1, hv2⟩ := e3 0 0 hp (by omega)
        exact World.block_lt_of_cell? w _ hv1
      have hj := Tryd.strings_Join bk o cap (ls.map fun l => (⟨l.toArray⟩ : ByteArray)) ⟨sep.toArray⟩ w hc hb (by rw [List.length_map]; omega) (by rw [List.length_map]; exact k2) (by rw [hm]; show (Lib.join ls sep).length ≤ _; omega)
      rw [hm, List.length_map] at hj
      exact hj

end Am
end Go.Proofs.YtdfjiodkmhpfkaaDoor

/- Chapter 38: ops that are the same; an op's line: the walks. -/
namespace Go.Proofs.YtdfjiodkmhpfkaaDoor
set_option linter.unusedVariables false
namespace Am
variable {gs : List Nat} [OkG gs]
open Go.RowKit
set_option maxRecDepth 100000

theorem u8_getD {l : List UInt8} {i : Nat} (h : i < l.length) : l.getD i 0 = l[i] := by simp [List.getD, h]
theorem equal8_ac {gs : List Nat} (l r : List UInt8) : ACp gs Tryd.prog 103 [bsC l, bsC r] (.c (.bool (decide (l = r)))) := by
  refine ac_len 0 rfl fun hlen => ?_
  refine ac_of 26 Tryd.func103 rfl rfl rfl (fun al w0 F0 St0 => ?_)
  refine jcr ?_
  refine jq jrm ?_
  refine seq_nil ?_
  refine jcs ?_
  refine jcr ?_
  refine jq jrm ?_
  refine jq jrl ?_
  refine jq jrm ?_
  refine jq jrl ?_
  refine jq jrc ?_
  refine seq_nil ?_
  refine jcc (fun h21 => ?_) fun h21 => ?_
  · refine jcr ?_
    refine jq jrm ?_
    refine seq_nil ?_
    refine code_ret (jtr (jrt (hv := ?_)))
    refine CEnt.bool ?_
    refine (decide_eq_false fun h => ?_).symm
    rw [h] at h21; omega
  refine code_skip (jtn ?_)
  refine jcs ?_
  refine jcr ?_
  refine jq jrm ?_
  refine jq jrl ?_
  refine jq jrm ?_
  refine seq_nil ?_
  refine code_block ?_
  refine l_loop (α := Nat) [4, 5, 13, 14, 15, 16, 17, 18, 19, 20, 21, 22, 23, 24, 25] (fun i => [(13, .c (.int .i64 (i : Nat)))]) (fun _ => []) (fun i => i ≤ l.length ∧ l.take i = r.take i) (fun i => l.length - i) (0) ?_ (fun _ => rfl) ?_ ?_ ?_
  · exact ⟨by omega, by simp⟩
  · (repeat (first | exact EntE.nil | refine EntE.cons (CEnt.refl _) ?_ | refine EntE.cons (CEnt.int (by omega)) ?_))
  · (repeat (first | exact HEnt.nil | refine HEnt.same ?_ | refine HEnt.blk rfl (fun j hj => by rcases j with _|_|_|_|_|_|_|_|j <;> first | exact CEnt.refl _ | exact CEnt.int (by omega) | omega) ?_))
  · rintro i ⟨hi, he⟩
    refine jcr ?_
    refine jq jrc ?_
    refine seq_nil ?_
    refine jcs ?_
    refine jcc (fun h24 => ?_) fun h24 => ?_
    rotate_left
    · refine code_exit (jte (jte (jbx (jtn ?_))))
      refine jcr ?_
      refine jq jrm ?_
      refine seq_nil ?_
      refine code_ret (jrt (hv := ?_))
      refine CEnt.bool ?_
      refine (decide_eq_true ?_).symm
      have e1 : l.take i = l := List.take_of_length_le (by omega)
      have e2 : r.take i = r := List.take_of_length_le (by omega)
      rw [← e1, he, e2]
    refine code_skip (jtn ?_)
    refine jcs ?_
    refine code_block ?_
    refine jcr ?_
    refine jq jrm ?_
    refine jq jrm ?_
    refine seq_nil ?_
    refine jcs ?_
    refine jcd (.rd 0 (.rd 1 (.rd 2 (.rd 3 (.rd 4 (.rd 5 (.rd 6 (.rd 7 (.rd 8 .done))))))))) ?_
    refine jyq jrm ?_
    refine jyq jrm ?_
    refine jyq jri ?_
    first | refine jyo jrdo ?_ | refine jyq jrdr ?_
    refine jyq jrm ?_
    refine jyq jrm ?_
    refine jyq jri ?_
    first | refine jyo jrdo ?_ | refine jyq jrdr ?_
    refine jyq jrc ?_
    refine jyd ?_
    refine jtn ?_
    refine jcc (fun h25 => ?_) fun h25 => ?_
    · refine jcr ?_
      refine jq jrm ?_
      refine seq_nil ?_
      refine code_ret (jbr (jtr (jtr (jbr (jtr (jrt (hv := ?_)))))))
      refine CEnt.bool ?_
      refine (decide_eq_false fun h => ?_).symm
      rw [h] at h25; omega
    refine code_skip (jbn (jtn ?_))
    refine jcg ?_
    refine jq jra ?_
    refine jq jrm ?_
    refine seq_nil ?_
    refine jtn ?_
    refine jlend (i + 1) ?_ ?_
    · exact ⟨by omega, by rw [List.take_succ_eq_append_getElem (show i < l.length by omega), List.take_succ_eq_append_getElem (show i < r.length by omega), he, ← u8_getD, ← u8_getD, show l.getD i 0 = r.getD i 0 from UInt8.toNat_inj.1 (by omega)]⟩
    · omega
/-- an op's message -/
def msgF (o : Op38) (j : Nat) : CV := opF o (5 + j)
def msgSame (o p : Op38) : Bool := decide ((o.sp = p.sp ∧ o.nm = p.nm ∧ o.tx = p.tx) ∧ (o.cred = p.cred ∧ o.mb = p.mb) ∧ o.what = p.what ∧ o.kd = p.kd ∧ o.mn = p.mn ∧ o.mm = p.mm)
theorem same38_ac {gs : List Nat} (o p : Op38) : ACp gs Tryd.prog 104 [.agg 9 (msgF o), .agg 9 (msgF p)] (.c (.bool (msgSame o p))) := by
  refine ac_of 70 Tryd.func104 rfl rfl rfl (fun al w0 F0 St0 => ?_)
  refine jcr ?_
  refine jqe (jebx 9 fun p1 => ?_)
  refine jqe (jebx 9 fun p2 => ?_)
  refine jq jrm ?_
  refine seq_nil ?_
  refine code_ent (freeze 0 rfl) ?_
  refine code_ent (freeze 1 rfl) ?_
  refine code_ent (thawP 2 (m := 9) rfl rfl (by decide)) ?_
  refine code_ent (thawP 3 (m := 9) rfl rfl (by decide)) ?_
  refine code_ent (pick_ent (H' := []) [] (by decide) rfl) ?_
  refine code_join (α := Bool) [5, 7, 8, 9, 10, 11, 12, 13, 14, 15, 16, 17, 18, 19, 20, 21, 22, 23, 24, 25] (fun b => [(5, .c (.bool b))]) (fun _ => []) (fun b => b = decide (o.sp = p.sp ∧ o.nm = p.nm ∧ o.tx = p.tx)) (fun _ => rfl) ?_ ?_
  · refine jcg ?_
    refine jq (jrfa 3 1 false) ?_
    first | refine jqo jrdo ?_ | refine jq jrdr ?_
    refine jq (jrfa 3 1 false) ?_
    first | refine jqo jrdo ?_ | refine jq jrdr ?_
    refine jq jrcs ?_
    refine jq jrm ?_
    refine jqsp 12 (fun g217 => ?_) fun g217 => ?_
    rotate_left
    · refine jqs ?_
      refine jqs ?_
      refine jqs ?_
      refine jqs ?_
      refine jqs ?_
      refine jq jrpF ?_
      refine jq jrm ?_
      refine jqs ?_
      refine jqs ?_
      refine jqs ?_
      refine jqs ?_
      refine jqs ?_
      refine jq jrpF ?_
      refine jq jrm ?_
      refine seq_nil ?_
      refine jtn ?_
      refine jjend (_) ?_
      · first | (simp_all; done) | grind
    refine jq (jrfa 4 1 false) ?_
    first | refine jqo jrdo ?_ | refine jq jrdr ?_
    refine jq (jrfa 4 1 false) ?_
    first | refine jqo jrdo ?_ | refine jq jrdr ?_
    refine jq jrcs ?_
    refine jq jrpT ?_
    refine jq jrm ?_
    refine jqsp 19 (fun g217_2 => ?_) fun g217_2 => ?_
    · refine jq (jrfa 8 1 false) ?_
      first | refine jqo jrdo ?_ | refine jq jrdr ?_
      refine jq (jrfa 8 1 false) ?_
      first | refine jqo jrdo ?_ | refine jq jrdr ?_
      refine jq jrcs ?_
      refine jq jrpT ?_
      refine jq jrm ?_
      refine seq_nil ?_
      refine jtn ?_
      refine jjend (_) ?_
      · first | (simp_all; done) | grind
    refine jqs ?_
    refine jqs ?_
    refine jqs ?_
    refine jqs ?_
    refine jqs ?_
    refine jq jrpF ?_
    refine jq jrm ?_
    refine seq_nil ?_
    refine jtn ?_
    refine jjend (_) ?_
    · first | (simp_all; done) | grind
  · rintro b1 hb1
    refine code_join (α := Bool) [6, 26, 27, 28, 29, 30, 31, 32, 33, 34, 35, 36, 37] (fun b => [(6, .c (.bool b))]) (fun _ => []) (fun b => b = decide (o.cred = p.cred ∧ o.mb = p.mb)) (fun _ => rfl) ?_ ?_
    · refine jcg ?_
      refine jq (jrfa 1 1 false) ?_
      first | refine jqo jrdo ?_ | refine jq jrdr ?_
      refine jq (jrfa 1 1 false) ?_
      first | refine jqo jrdo ?_ | refine jq jrdr ?_
      refine jqe (jecP (equal8_ac o.cred p.cred) ?_)
      refine jq jrm ?_
      refine jqsp 31 (fun g218 => ?_) fun g218 => ?_
      · refine jq (jrfa 5 1 false) ?_
        first | refine jqo jrdo ?_ | refine jq jrdr ?_
        refine jq (jrfa 5 1 false) ?_
        first | refine jqo jrdo ?_ | refine jq jrdr ?_
        refine jqe (jecP (equal8_ac o.mb p.mb) ?_)
        refine jq jrpT ?_
        refine jq jrm ?_
        refine seq_nil ?_
        refine jtn ?_
        refine jjend (_) ?_
        · first | (simp_all; done) | grind
      refine jqs ?_
      refine jqs ?_
      refine jqs ?_
      refine jqs ?_
      refine jqs ?_
      refine jq jrpF ?_
      refine jq jrm ?_
      refine seq_nil ?_
      refine jtn ?_
      refine jjend (_) ?_
      · first | (simp_all; done) | grind
    · rintro b2 hb2
      refine jcr ?_
      refine jq jrm ?_
      refine jq jrm ?_
      refine jqsp 39 (fun g219 => ?_) fun g219 => ?_
      rotate_left
      · refine jqs ?_
        refine jq jrpF ?_
        refine jq jrm ?_
        refine jqs ?_
        refine jqs ?_
        refine jqs ?_
        refine jqs ?_
        refine jqs ?_
        refine jq jrpF ?_
        refine jq jrm ?_
        refine jqs ?_
        refine jqs ?_
        refine jqs ?_
        refine jqs ?_
        refine jqs ?_
        refine jq jrpF ?_
        refine jq jrm ?_
        refine jqs ?_
        refine jqs ?_
        refine jqs ?_
        refine jqs ?_
        refine jqs ?_
        refine jq jrpF ?_
        refine jq jrm ?_
        refine jqs ?_
        refine jqs ?_
        refine jqs ?_
        refine jqs ?_
        refine jqs ?_
        refine jq jrpF ?_
        refine jq jrm ?_
        refine seq_nil ?_
        refine code_ret (jrt (hv := ?_))
        refine CEnt.bool ?_
        unfold msgSame
        first | (simp_all; done) | grind
      refine jq jrm ?_
      refine jq jrpT ?_
      refine jq jrm ?_
      refine jqsp 42 (fun g219_2 => ?_) fun g219_2 => ?_
      rotate_left
      · refine jqs ?_
        refine jqs ?_
        refine jqs ?_
        refine jqs ?_
        refine jqs ?_
        refine jq jrpF ?_
        refine jq jrm ?_
        refine jqs ?_
        refine jqs ?_
        refine jqs ?_
        refine jqs ?_
        refine jqs ?_
        refine jq jrpF ?_
        refine jq jrm ?_
        refine jqs ?_
        refine jqs ?_
        refine jqs ?_
        refine jqs ?_
        refine jqs ?_
        refine jq jrpF ?_
        refine jq jrm ?_
        refine jqs ?_
        refine jqs ?_
        refine jqs ?_
        refine jqs ?_
        refine jqs ?_
        refine jq jrpF ?_
        refine jq jrm ?_
        refine seq_nil ?_
        refine code_ret (jrt (hv := ?_))
        refine CEnt.bool ?_
        unfold msgSame
        first | (simp_all; done) | grind
      refine jq (jrfa 0 1 false) ?_
      first | refine jqo jrdo ?_ | refine jq jrdr ?_
      refine jq (jrfa 0 1 false) ?_
      first | refine jqo jrdo ?_ | refine jq jrdr ?_
      refine jq jrc ?_
      refine jq jrpT ?_
      refine jq jrm ?_
      refine jqsp 49 (fun g219_3 => ?_) fun g219_3 => ?_
      rotate_left
      · refine jqs ?_
        refine jqs ?_
        refine jqs ?_
        refine jqs ?_
        refine jqs ?_
        refine jq jrpF ?_
        refine jq jrm ?_
        refine jqs ?_
        refine jqs ?_
        refine jqs ?_
        refine jqs ?_
        refine jqs ?_
        refine jq jrpF ?_
        refine jq jrm ?_
        refine jqs ?_
        refine jqs ?_
        refine jqs ?_
        refine jqs ?_
        refine jqs ?_
        refine jq jrpF ?_
        refine jq jrm ?_
        refine seq_nil ?_
        refine code_ret (jrt (hv := ?_))
        refine CEnt.bool ?_
        unfold msgSame
        first | (simp_all; done) | grind
      refine jq (jrfa 2 1 false) ?_
      first | refine jqo jrdo ?_ | refine jq jrdr ?_
      refine jq (jrfa 2 1 false) ?_
      first | refine jqo jrdo ?_ | refine jq jrdr ?_
      refine jq jrc ?_
      refine jq jrpT ?_
      refine jq jrm ?_
      refine jqsp 56 (fun g219_4 => ?_) fun g219_4 => ?_
      rotate_left
      · refine jqs ?_
        refine jqs ?_
        refine jqs ?_
        refine jqs ?_
        refine jqs ?_
        refine jq jrpF ?_
        refine jq jrm ?_
        refine jqs ?_
        refine jqs ?_
        refine jqs ?_
        refine jqs ?_
        refine jqs ?_
        refine jq jrpF ?_
        refine jq jrm ?_
        refine seq_nil ?_
        refine code_ret (jrt (hv := ?_))
        refine CEnt.bool ?_
        unfold msgSame
        first | (simp_all; done) | grind
      refine jq (jrfa 6 1 false) ?_
      first | refine jqo jrdo ?_ | refine jq jrdr ?_
      refine jq (jrfa 6 1 false) ?_
      first | refine jqo jrdo ?_ | refine jq jrdr ?_
      refine jq jrc ?_
      refine jq jrpT ?_
      refine jq jrm ?_
      refine jqsp 63 (fun g219_5 => ?_) fun g219_5 => ?_
      · refine jq (jrfa 7 1 false) ?_
        first | refine jqo jrdo ?_ | refine jq jrdr ?_
        refine jq (jrfa 7 1 false) ?_
        first | refine jqo jrdo ?_ | refine jq jrdr ?_
        refine jq jrc ?_
        refine jq jrpT ?_
        refine jq jrm ?_
        refine seq_nil ?_
        refine code_ret (jrt (hv := ?_))
        refine CEnt.bool ?_
        unfold msgSame
        first | (simp_all; done) | grind
      refine jqs ?_
      refine jqs ?_
      refine jqs ?_
      refine jqs ?_
      refine jqs ?_
      refine jq jrpF ?_
      refine jq jrm ?_
      refine seq_nil ?_
      refine code_ret (jrt (hv := ?_))
      refine CEnt.bool ?_
      unfold msgSame
      first | (simp_all; done) | grind
theorem same_getF (o p : Op38) : sameO o p = (decide (o.k = p.k ∧ o.n = p.n ∧ o.m = p.m ∧ o.bits = p.bits ∧ o.b = p.b) && msgSame o p) := by
  rw [Bool.eq_iff_iff, sameO_iff]
  unfold msgSame
  simp only [Bool.and_eq_true, decide_eq_true_eq]
  constructor
  · rintro rfl; simp
  · rintro ⟨⟨a1, a2, a3, a4, a5⟩, ⟨a6, a7, a8⟩, ⟨a9, a10⟩, a11, a12, a13, a14⟩
    cases o; cases p
    simp_all
theorem equal38_ac {gs : List Nat} (o p : Op38) : ACp gs Tryd.prog 82 [opC o, opC p] (.c (.bool (sameO o p))) := by
  rw [same_getF]
  refine ac_of 47 Tryd.func82 rfl rfl rfl (fun al w0 F0 St0 => ?_)
  refine jcr ?_
  refine jqe (jebx 14 fun p1 => ?_)
  refine jqe (jebx 14 fun p2 => ?_)
  refine jq jrm ?_
  refine seq_nil ?_
  refine code_ent (freeze 0 rfl) ?_
  refine code_ent (freeze 1 rfl) ?_
  refine code_ent (thawP 2 (m := 14) rfl rfl (by decide)) ?_
  refine code_ent (thawP 3 (m := 14) rfl rfl (by decide)) ?_
  refine code_ent (pick_ent (H' := []) [] (by decide) rfl) ?_
  refine code_join (α := Bool) [5, 6, 7, 8, 9, 10, 11, 12, 13, 14, 15, 16, 17, 18, 19, 20, 21, 22, 23, 24, 25, 26, 27, 28, 29, 30, 31] (fun b => [(5, .c (.bool b))]) (fun _ => []) (fun b => b = decide (o.k = p.k ∧ o.n = p.n ∧ o.m = p.m ∧ o.bits = p.bits)) (fun _ => rfl) ?_ ?_
  · refine jcg ?_
    refine jq (jrfa 0 1 false) ?_
    first | refine jqo jrdo ?_ | refine jq jrdr ?_
    refine jq (jrfa 0 1 false) ?_
    first | refine jqo jrdo ?_ | refine jq jrdr ?_
    refine jq jrc ?_
    refine jq jrm ?_
    refine jqsp 11 (fun g224 => ?_) fun g224 => ?_
    rotate_left
    · refine jqs ?_
      refine jqs ?_
      refine jqs ?_
      refine jqs ?_
      refine jqs ?_
      refine jq jrpF ?_
      refine jq jrm ?_
      refine jqs ?_
      refine jqs ?_
      refine jqs ?_
      refine jqs ?_
      refine jqs ?_
      refine jq jrpF ?_
      refine jq jrm ?_
      refine jqs ?_
      refine jqs ?_
      refine jqs ?_
      refine jqs ?_
      refine jqs ?_
      refine jq jrpF ?_
      refine jq jrm ?_
      refine seq_nil ?_
      refine jtn ?_
      refine jjend (_) ?_
      · first | (simp_all; done) | grind
    refine jq (jrfa 1 1 false) ?_
    first | refine jqo jrdo ?_ | refine jq jrdr ?_
    refine jq (jrfa 1 1 false) ?_
    first | refine jqo jrdo ?_ | refine jq jrdr ?_
    refine jq jrc ?_
    refine jq jrpT ?_
    refine jq jrm ?_
    refine jqsp 18 (fun g224_2 => ?_) fun g224_2 => ?_
    rotate_left
    · refine jqs ?_
      refine jqs ?_
      refine jqs ?_
      refine jqs ?_
      refine jqs ?_
      refine jq jrpF ?_
      refine jq jrm ?_
      refine jqs ?_
      refine jqs ?_
      refine jqs ?_
      refine jqs ?_
      refine jqs ?_
      refine jq jrpF ?_
      refine jq jrm ?_
      refine seq_nil ?_
      refine jtn ?_
      refine jjend (_) ?_
      · first | (simp_all; done) | grind
    refine jq (jrfa 2 1 false) ?_
    first | refine jqo jrdo ?_ | refine jq jrdr ?_
    refine jq (jrfa 2 1 false) ?_
    first | refine jqo jrdo ?_ | refine jq jrdr ?_
    refine jq jrc ?_
    refine jq jrpT ?_
    refine jq jrm ?_
    refine jqsp 25 (fun g224_3 => ?_) fun g224_3 => ?_
    · refine jq (jrfa 3 1 false) ?_
      first | refine jqo jrdo ?_ | refine jq jrdr ?_
      refine jq (jrfa 3 1 false) ?_
      first | refine jqo jrdo ?_ | refine jq jrdr ?_
      refine jq jrc ?_
      refine jq jrpT ?_
      refine jq jrm ?_
      refine seq_nil ?_
      refine jtn ?_
      refine jjend (_) ?_
      · first | (simp_all; done) | grind
    refine jqs ?_
    refine jqs ?_
    refine jqs ?_
    refine jqs ?_
    refine jqs ?_
    refine jq jrpF ?_
    refine jq jrm ?_
    refine seq_nil ?_
    refine jtn ?_
    refine jjend (_) ?_
    · first | (simp_all; done) | grind
  · rintro b1 hb1
    refine jcr ?_
    refine jq jrm ?_
    refine jq jrm ?_
    refine jqsp 33 (fun g225 => ?_) fun g225 => ?_
    rotate_left
    · refine jqs ?_
      refine jqs ?_
      refine jqs ?_
      refine jqs ?_
      refine jqs ?_
      refine jq jrpF ?_
      refine jq jrm ?_
      refine jqs ?_
      refine jqs ?_
      refine jqs ?_
      refine jqs ?_
      refine jqs ?_
      refine jq jrpF ?_
      refine jq jrm ?_
      refine seq_nil ?_
      refine code_ret (jrt (hv := ?_))
      refine CEnt.bool ?_
      first | (simp_all; done) | grind
    refine jq (jrfa 4 1 false) ?_
    first | refine jqo jrdo ?_ | refine jq jrdr ?_
    refine jq (jrfa 4 1 false) ?_
    first | refine jqo jrdo ?_ | refine jq jrdr ?_
    refine jqe (jecP (equal8_ac o.b p.b) ?_)
    refine jq jrpT ?_
    refine jq jrm ?_
    refine jqsp 40 (fun g225_2 => ?_) fun g225_2 => ?_
    · refine jq (jrfa 5 9 true) ?_
      first | refine jqo (jrdoA 9) ?_ | refine jq (jrdrA 9) ?_
      refine jq (jrfa 5 9 true) ?_
      first | refine jqo (jrdoA 9) ?_ | refine jq (jrdrA 9) ?_
      refine jqe (jecP (same38_ac o p) ?_ (ho := rfl) (he := (.cons (se rfl (CEnt.agg rfl fun j hj => by rcases j with _ | _ | _ | _ | _ | _ | _ | _ | _ | j <;> first | exact CEnt.refl _ | omega)) (.cons (se rfl (CEnt.agg rfl fun j hj => by rcases j with _ | _ | _ | _ | _ | _ | _ | _ | _ | j <;> first | exact CEnt.refl _ | omega)) .nil))))
      refine jq jrpT ?_
      refine jq jrm ?_
      refine seq_nil ?_
      refine code_ret (jrt (hv := ?_))
      refine CEnt.bool ?_
      first | (simp_all; done) | grind
    refine jqs ?_
    refine jqs ?_
    refine jqs ?_
    refine jqs ?_
    refine jqs ?_
    refine jq jrpF ?_
    refine jq jrm ?_
    refine seq_nil ?_
    refine code_ret (jrt (hv := ?_))
    refine CEnt.bool ?_
    first | (simp_all; done) | grind
end Am
end Go.Proofs.YtdfjiodkmhpfkaaDoor

/- Chapter 38: an op from a line, by the reference: the walks. -/
namespace Go.Proofs.YtdfjiodkmhpfkaaDoor
set_option linter.unusedVariables false
namespace Am
variable {gs : List Nat} [OkG gs]
open Go.RowKit
set_option maxRecDepth 100000

/-- words and letters, by kind -/
def kindsL : List (List UInt8 × List UInt8) :=
  [([116, 105, 99, 107], [110]), ([115, 101, 110, 100], [110]), ([115, 101, 114, 118, 101], [110]), ([104, 101, 97, 114], [110]), ([108, 111, 115, 101], [110, 109]), ([116, 117, 114, 110], [110, 109]), ([116, 119, 105, 99, 101], [110, 109]), ([115, 116, 101, 112], [110, 98]), ([114, 97, 119], [98]), ([97, 100, 109, 105, 110], [87, 75, 83, 65, 66, 78, 77, 84]), ([97, 114, 109], [110]), ([99, 114, 97, 115, 104], [110, 117, 109]), ([99, 111, 109, 112, 97, 99, 116], [])]
def wdR (k : Int) : List UInt8 × List UInt8 := if 1 ≤ k ∧ k ≤ 13 then kindsL.getD (k - 1).toNat ([], []) else ([], [])
theorem kind_form : ∀ i : Fin 13, formI (wdR ((i.val : Int) + 1)).1 = kI ((i.val : Int) + 1) ∧ formAt (kI ((i.val : Int) + 1)).toNat = ((wdR ((i.val : Int) + 1)).1, (i.val : Int) + 1, (wdR ((i.val : Int) + 1)).2) ∧ 0 ≤ kI ((i.val : Int) + 1) ∧ (wdR ((i.val : Int) + 1)).2.length ≤ 8 ∧ (wdR ((i.val : Int) + 1)).1 ≠ [] := by decide +kernel
theorem form_kind : ∀ i : Fin 13, 1 ≤ (formAt i.val).2.1 ∧ (formAt i.val).2.1 ≤ 13 ∧ wdR (formAt i.val).2.1 = ((formAt i.val).1, (formAt i.val).2.2) := by decide +kernel
set_option maxHeartbeats 1000000 in
theorem rword_ac {gs : List Nat} (k : Int) : ACp gs Tryd.prog 76 [.c (.int .i64 k)] (.tup 2 (fl [strC (wdR k).1, strC (wdR k).2])) := by
  refine ac_of 24 Tryd.func76 rfl rfl rfl (fun al w0 F0 St0 => ?_)
  refine jcr ?_
  refine jq jrm ?_
  refine jq jrm ?_
  refine seq_nil ?_
  refine jcs ?_
  refine jcr ?_
  refine jq jrm ?_
  refine jq jrc ?_
  refine jq jrm ?_
  refine jqsp 8 (fun g75 => ?_) fun g75 => ?_
  · refine jqs ?_
    refine jqs ?_
    refine jq jrpT ?_
    refine seq_nil ?_
    refine jcT ?_
    refine jcr ?_
    refine jq jrm ?_
    refine jq jrm ?_
    refine seq_nil ?_
    refine code_ret (jtr (jrt (hv := ?_)))
    refine CEnt.tup2 (CEnt.strL ?_) (CEnt.strL ?_) <;> (unfold wdR; rw [if_neg (by first | omega | (simp_all; omega))])
  refine jq jrm ?_
  refine jq jrc ?_
  refine jq jrpF ?_
  refine seq_nil ?_
  refine jcc (fun h75 => ?_) fun h75 => ?_
  · refine jcr ?_
    refine jq jrm ?_
    refine jq jrm ?_
    refine seq_nil ?_
    refine code_ret (jtr (jrt (hv := ?_)))
    refine CEnt.tup2 (CEnt.strL ?_) (CEnt.strL ?_) <;> (unfold wdR; rw [if_neg (by first | omega | (simp_all; omega))])
  refine code_skip (jtn ?_)
  refine jcr ?_
  refine jqe (jebl 13 1 zr9 fun p1 => ?_)
  refine jq jrm ?_
  refine seq_nil ?_
  refine jcr ?_
  refine jqe (jebl 13 1 zr9 fun p2 => ?_)
  refine jq jrm ?_
  refine seq_nil ?_
  refine jcs ?_
  obtain ⟨i, hi, hik⟩ : ∃ i : Nat, i < 13 ∧ k = (i : Int) + 1 := ⟨(k - 1).toNat, by first | omega | (simp_all; omega), by first | omega | (simp_all; omega)⟩
  have hw : wdR k = kindsL.getD i ([], []) := by unfold wdR; rw [if_pos (by omega), show (k - 1).toNat = i by omega]
  refine jcd (.rd 0 (.rd 1 (.rd 2 (.rd 3 (.rd 4 (.rd 5 (.rd 6 (.rd 7 (.rd 8 (.rd 9 (.rd 10 (.rd 11 .done)))))))))))) ?_
  refine jyq jrm ?_
  refine jyq jrm ?_
  refine jyq jra ?_
  refine jyq (jri (i := i) (hz := by first | omega | (simp only [List.length_append, List.length_cons, List.length_nil]; omega))) ?_
  refine jyo (jrdo (v := strC (kindsL.getD i ([], [])).1) (hv := by rcases i with _ | _ | _ | _ | _ | _ | _ | _ | _ | _ | _ | _ | _ | i <;> first | rfl | omega)) ?_
  refine jyq jrm ?_
  refine jyq jrm ?_
  refine jyq jra ?_
  refine jyq (jri (i := i) (hz := by first | omega | (simp only [List.length_append, List.length_cons, List.length_nil]; omega))) ?_
  refine jyo (jrdo (v := strC (kindsL.getD i ([], [])).2) (hv := by rcases i with _ | _ | _ | _ | _ | _ | _ | _ | _ | _ | _ | _ | _ | i <;> first | rfl | omega)) ?_
  refine jyq jrm ?_
  refine jyq jrm ?_
  refine jyd ?_
  refine jtn ?_
  refine code_ret (jrt (hv := ?_))
  rw [hw]; exact CEnt.refl _
theorem split_step {c : UInt8} {s : List UInt8} {a i : Nat} (hai : a ≤ i) (hi : i < s.length) (hno : c ∉ (s.take i).drop a) (hc : s.getD i 0 = c) : splitC c (s.drop a) = (s.take i).drop a :: splitC c (s.drop (i + 1)) := by
  have e : s.drop a = (s.take i).drop a ++ c :: s.drop (i + 1) := by
    have h1 : s = s.take i ++ s.drop i := (List.take_append_drop i s).symm
    have h2 : s.drop i = c :: s.drop (i + 1) := by
      rw [List.drop_eq_getElem_cons hi, ← hc]
      simp [List.getD, hi]
    conv => lhs; rw [h1, List.drop_append_of_le_length (by rw [List.length_take]; omega), h2]
  rw [e, splitC_at _ hno]
theorem notin_step {c : UInt8} {s : List UInt8} {a i : Nat} (hai : a ≤ i) (hi : i < s.length) (hno : c ∉ (s.take i).drop a) (hc : s.getD i 0 ≠ c) : c ∉ (s.take (i + 1)).drop a := by
  rw [List.take_succ_eq_append_getElem hi, List.drop_append_of_le_length (by rw [List.length_take]; omega)]
  intro h
  rcases List.mem_append.1 h with h | h
  · exact hno h
  · exact hc (by rw [List.mem_singleton.1 h]; simp [List.getD, hi])
theorem u8_eq {c d : UInt8} (h : (c.toNat : Int) = d.toNat) : c = d := UInt8.toNat_inj.1 (by omega)
theorem rsplit38_ac {gs : List Nat} (s : List UInt8) (hs : s.length ≤ 1000000000) : ACp gs Tryd.prog 75 [strC s, .c (.int .u8 ((32 : UInt8).toNat : Nat))] (ssC (splitC 32 s)) := by
  have hpl : (splitC 32 s).length ≤ s.length + 1 := by rw [split_count]; have := List.count_le_length (a := (32 : UInt8)) (l := s); omega
  refine ac_of 35 Tryd.func75 rfl rfl rfl (fun al w0 F0 St0 => ?_)
  refine jcr ?_
  refine jq jrm ?_
  refine seq_nil ?_
  refine jcr ?_
  refine jqe (jebl 0 1 zr9 fun p1 => ?_)
  refine jq jrm ?_
  refine jq jrm ?_
  refine seq_nil ?_
  refine jcs ?_
  refine jcr ?_
  refine jq jrm ?_
  refine seq_nil ?_
  refine code_block ?_
  refine l_loop (α := Nat × Nat × List (List UInt8) × Option Nat) [5, 6, 7, 9, 10, 11, 12, 13, 14, 15, 16, 17, 18, 19, 20, 21, 22, 23, 24, 25, 26, 27, 28] (fun (i, a, X, g) => [(7, .c (.int .i64 (i : Nat))), (6, .c (.int .i64 (a : Nat))), (5, .os 0 g 0 X.length 1)]) (fun (i, a, X, g) => [(g, .blk (X.length * 1) (ssF X))]) (fun (i, a, X, g) => i ≤ s.length ∧ a ≤ i ∧ X.length ≤ i ∧ splitC 32 s = X ++ splitC 32 (s.drop a) ∧ (32 : UInt8) ∉ (s.take i).drop a) (fun (i, a, X, g) => s.length - i) ((0, 0, [], p1)) ?_ (fun _ => rfl) ?_ ?_ ?_
  · exact ⟨Nat.zero_le _, Nat.le_refl _, Nat.le_refl _, by simp, by simp⟩
  · exact .cons (CEnt.refl _) (.cons (CEnt.refl _) (.cons (CEnt.refl _) .nil))
  · exact .blk rfl (fun j hj => absurd hj (Nat.not_lt_zero j)) .nil
  · rintro ⟨i, a, X, g⟩ ⟨(hi : i ≤ s.length), (ha : a ≤ i), (hX : X.length ≤ i), hsp, hno⟩
    refine jcs ?_
    refine jcr ?_
    refine jq jrm ?_
    refine jq jrm ?_
    refine jq jrls ?_
    refine jq jrc ?_
    refine seq_nil ?_
    refine jcc (fun h86 => ?_) fun h86 => ?_
    rotate_left
    · refine code_exit (jte (jte (jbx (jtn ?_))))
      refine jcr ?_
      refine jq jrm ?_
      refine jq jrm ?_
      refine jq jrm ?_
      refine jq (rd_sliceLF rfl rfl Tryd.underlying9 rfl (show _ = ((a : Nat) : Int) by first | omega | (simp only [List.length_append, List.length_cons, List.length_nil]; omega)) (by (first | omega | decide | (dsimp only at *; omega)))) ?_
      refine jqe (jebl 1 1 zr9 fun p2 => ?_)
      refine jqm (m_appendC (rowC_ss) (l2 := [s.drop a]) rfl rfl rfl rfl (by first | exact Nat.le_refl _ | omega) (fun _ _ => CEnt.refl _) (src_os rfl (.inl rfl) (by decide)) rfl (fun j hj => by rcases j with _|j <;> first | exact CEnt.refl _ | exact CEnt.int (by omega) | (exfalso; simp at hj <;> omega)) Tryd.underlying32 nu32 sz9 zr9 by9 rfl (by first | omega | (simp; done) | (simp; omega) | (simp at *; omega)) (by first | omega | (simp; done) | (simp; omega) | (simp at *; omega)) (leaf_flk rfl rfl) rfl rfl rfl (fun p3 => ?_))
      refine jq jrm ?_
      refine seq_nil ?_
      have hi2 : i = s.length := by omega
      rw [hi2, List.take_length] at hno
      rw [splitC_none hno] at hsp
      refine code_ent (freeze 0 rfl) ?_
      refine code_ent (thaw 4 (fun b _ => strC ((X ++ [s.drop a]).getD b [])) rfl rfl (by omega) ss_thaw) ?_
      refine code_ret (jrt (hv := ?_))
      rw [hsp]
      exact CEnt.refl _
    refine code_skip (jtn ?_)
    refine jcs ?_
    refine code_block ?_
    refine jcr ?_
    refine jq jrm ?_
    refine jq jrm ?_
    refine jq jrix ?_
    refine jq jrm ?_
    refine jq jrc ?_
    refine seq_nil ?_
    refine jcc (fun h87 => ?_) fun h87 => ?_
    rotate_left
    · refine code_skip (jbn (jtn ?_))
      refine jcg ?_
      refine jq jrm ?_
      refine jq jra ?_
      refine jq jrm ?_
      refine seq_nil ?_
      refine jtn ?_
      refine jlend ((i + 1, a, X, g)) ?_ ?_ (h5 := ?_) (h7 := ?_)
      · exact ⟨by omega, by omega, by omega, hsp, notin_step ha (by omega) hno (fun e => h87 (by rw [e]))⟩
      · show s.length - (i + 1) < s.length - i; omega
      · exact .cons (CEnt.int (by omega)) (.cons (CEnt.refl _) (.cons (CEnt.refl _) .nil))
      · exact .same .nil
    refine jcr ?_
    refine jq jrm ?_
    refine jq jrm ?_
    refine jq jrm ?_
    refine jq jrm ?_
    refine jq (rd_sliceL rfl rfl Tryd.underlying9 (bd_some rfl (show _ = ((a : Nat) : Int) by first | omega | (simp only [List.length_append, List.length_cons, List.length_nil]; omega))) (bd_some rfl (show _ = ((i : Nat) : Int) by first | omega | (simp only [List.length_append, List.length_cons, List.length_nil]; omega))) (by (first | omega | decide | (dsimp only at *; omega))) (by (first | omega | decide | (dsimp only at *; omega)))) ?_
    refine jqe (jebl 1 1 zr9 fun p2 => ?_)
    refine jqm (m_appendC (rowC_ss) (l2 := [(s.take i).drop a]) rfl rfl rfl rfl (by first | exact Nat.le_refl _ | omega) (fun _ _ => CEnt.refl _) (src_os rfl (.inl rfl) (by decide)) rfl (fun j hj => by rcases j with _|j <;> first | exact CEnt.refl _ | exact CEnt.int (by omega) | (exfalso; simp at hj <;> omega)) Tryd.underlying32 nu32 sz9 zr9 by9 rfl (by first | omega | (simp; done) | (simp; omega) | (simp at *; omega)) (by first | omega | (simp; done) | (simp; omega) | (simp at *; omega)) (leaf_flk rfl rfl) rfl rfl rfl (fun p3 => ?_))
    refine jq jrm ?_
    refine seq_nil ?_
    refine jcg ?_
    refine jq jrm ?_
    refine jq jra ?_
    refine jq jrm ?_
    refine seq_nil ?_
    refine jbn (jtn ?_)
    refine jcg ?_
    refine jq jrm ?_
    refine jq jra ?_
    refine jq jrm ?_
    refine seq_nil ?_
    refine jtn ?_
    refine jlend ((i + 1, i + 1, X ++ [(s.take i).drop a], p3)) ?_ ?_ (h5 := ?_) (h7 := ?_)
    · exact ⟨by omega, by omega, by simp; omega, by rw [hsp, split_step ha (by omega) hno (u8_eq (d := 32) h87)]; simp, by rw [List.drop_eq_nil_of_le (by simp only [List.length_take]; omega)]; exact List.not_mem_nil⟩
    · show s.length - (i + 1) < s.length - i; omega
    · exact .cons (CEnt.int (by omega)) (.cons (CEnt.int (by omega)) (.cons (CEnt.refl _) .nil))
    · exact .same .nil
/-- an op with a field from a word, by the reference -/
def fieldR (o : Op38) (c : UInt8) (w : List UInt8) : Op38 × Nat :=
  if (numK c).isSome then (if (numD w).2 ≠ 0 then (o, 4) else (setN o c (numD w).1, 0))
  else if c = 117 then (if (figM w).2 ≠ 0 then (o, 4) else ({ o with bits := (figM w).1 }, 0))
  else (setX o c (hexD w).1, (hexD w).2)
theorem fig_err (l : List UInt8) : (figM l).2 = 0 ∨ figM l = (0, 4) := by
  have e := figM_ref l
  by_cases d : 1 ≤ l.length ∧ l.length ≤ 18 ∧ l.all isFig = true ∧ dec (valD l) = l
  · rw [if_pos d] at e; rw [e]; exact .inl rfl
  · rw [if_neg d] at e; exact .inr e
theorem num_err (s : List UInt8) : (numD s).2 = 0 ∨ (numD s).2 = 4 := by
  unfold numD
  split
  · split
    · exact .inr rfl
    · exact .inl rfl
  · rcases fig_err s with h | h
    · exact .inl h
    · rw [h]; exact .inr rfl
theorem field_hear (o : Op38) (c : UInt8) (w : List UInt8) : (fieldR o c w).2 = (hear1 o c w).2 ∧ ((hear1 o c w).2 = 0 → (fieldR o c w).1 = (hear1 o c w).1) := by
  unfold fieldR hear1
  by_cases hu : c = 117
  · have hn : (numK c).isSome = false := by rw [hu]; rfl
    rw [if_neg (by rw [hn]; exact Bool.noConfusion), if_pos hu, if_pos hu]
    rcases fig_err w with h | h
    · rw [if_neg (by omega)]; exact ⟨h.symm, fun _ => rfl⟩
    · rw [h]; exact ⟨rfl, fun e => by cases e⟩
  · rw [if_neg hu, if_neg hu]
    by_cases hn : (numK c).isSome = true
    · rw [if_pos hn, if_pos hn]
      rcases num_err w with h | h
      · rw [if_neg (by omega)]; exact ⟨h.symm, fun _ => rfl⟩
      · rw [if_pos (by omega)]; exact ⟨h.symm, fun e => by simp only at e; omega⟩
    · rw [if_neg hn, if_neg hn]
      by_cases h : (hexD w).2 = 0
      · rw [if_neg (fun e => e h)]; exact ⟨h, fun _ => rfl⟩
      · rw [if_pos h]; exact ⟨rfl, fun e => absurd e h⟩
theorem numK_not {c : UInt8} (h1 : ¬ c = 110) (h2 : ¬ c = 109) (h3 : ¬ c = 87) (h4 : ¬ c = 75) (h5 : ¬ c = 78) (h6 : ¬ c = 77) : numK c = none := by
  unfold numK; rw [if_neg h1, if_neg h2, if_neg h3, if_neg h4, if_neg h5, if_neg h6]
theorem txtK_not {c : UInt8} (h1 : ¬ c = 83) (h2 : ¬ c = 65) (h3 : ¬ c = 84) : txtK c = none := by
  unfold txtK; rw [if_neg h1, if_neg h2, if_neg h3]
theorem isN_last {c : UInt8} (h1 : ¬ ((c.toNat : Nat) : Int) = 110) (h2 : ¬ ((c.toNat : Nat) : Int) = 109) (h3 : ¬ ((c.toNat : Nat) : Int) = 87) (h4 : ¬ ((c.toNat : Nat) : Int) = 75) (h5 : ¬ ((c.toNat : Nat) : Int) = 78) : decide (((c.toNat : Nat) : Int) = 77) = (numK c).isSome := by
  by_cases e : ((c.toNat : Nat) : Int) = 77
  · obtain rfl : c = 77 := u8_of e rfl
    rfl
  · rw [numK_not (u8_no h1 rfl) (u8_no h2 rfl) (u8_no h3 rfl) (u8_no h4 rfl) (u8_no h5 rfl) (u8_no e rfl), decide_eq_false e]; rfl
theorem numK_77 {c : UInt8} {k : Nat} (hk : numK c = some k) (h1 : ¬ ((c.toNat : Nat) : Int) = 110) (h2 : ¬ ((c.toNat : Nat) : Int) = 109) (h3 : ¬ ((c.toNat : Nat) : Int) = 87) (h4 : ¬ ((c.toNat : Nat) : Int) = 75) (h5 : ¬ ((c.toNat : Nat) : Int) = 78) : c = 77 := by
  rcases numK_cases hk with ⟨h, _⟩ | ⟨h, _⟩ | ⟨h, _⟩ | ⟨h, _⟩ | ⟨h, _⟩ | ⟨h, _⟩
  · exact absurd h (u8_no h1 rfl)
  · exact absurd h (u8_no h2 rfl)
  · exact absurd h (u8_no h3 rfl)
  · exact absurd h (u8_no h4 rfl)
  · exact absurd h (u8_no h5 rfl)
  · exact h
theorem upd_raw4 {c : UInt8} {o : Op38} {v : List UInt8} (h1 : ¬ ((c.toNat : Nat) : Int) = 83) (h2 : ¬ ((c.toNat : Nat) : Int) = 65) (h3 : ¬ ((c.toNat : Nat) : Int) = 84) (h4 : ¬ ((c.toNat : Nat) : Int) = 66) (j : Nat) (hj : j < 14) : CEnt (updF (opF o) 4 [bsC v] j) (opF (setX o c v) j) := by
  have := upd_raw (c := c) (o := o) (v := v) (txtK_not (u8_no h1 rfl) (u8_no h2 rfl) (u8_no h3 rfl)) j hj
  rwa [show rawK c = 4 by unfold rawK; rw [if_neg (u8_no h4 rfl)]] at this
theorem figR_ok {w : List UInt8} (h : (figR w).2 = true) : (figM w).2 = 0 ∧ (figR w).1 = (figM w).1 := by
  unfold figR at h ⊢
  by_cases e : (figM w).2 = 0
  · rw [if_pos e]; exact ⟨e, rfl⟩
  · rw [if_neg e] at h; cases h
theorem figR_no {w : List UInt8} (h : (figR w).2 = false) : (figM w).2 ≠ 0 := by
  unfold figR at h
  by_cases e : (figM w).2 = 0
  · rw [if_pos e] at h; cases h
  · exact e
def tupF (x : Op38 × Nat) : CV := .tup 2 (fl [opC x.1, .c (.int .i64 (x.2 : Nat))])
theorem tupF_of {x : Op38 × Nat} {o : Op38} {n : Nat} {z : Int} (h : x = (o, n)) (hz : z = (n : Int)) : CEnt (.tup 2 (fl [.agg 14 (fun j => opF o (0 + j)), .c (.int .i64 z)])) (tupF x) := by
  subst h hz
  exact CEnt.tup2 (CEnt.agg rfl fun m hm => CEnt.of_eq (by rw [Nat.zero_add])) (CEnt.refl _)
set_option maxHeartbeats 2000000 in
theorem rfield_ac {gs : List Nat} [OkG gs] (o : Op38) (c : UInt8) (w : List UInt8) (hl : w.length ≤ 1000000) : ACp gs Tryd.prog 77 [opC o, .c (.int .u8 (c.toNat : Nat)), strC w] (tupF (fieldR o c w)) := by
  have hbd := figM_bd w
  refine ac_of 105 Tryd.func77 rfl rfl rfl (fun al w0 F0 St0 => ?_)
  refine jcr ?_
  refine jqe (jebx 14 fun p1 => ?_)
  refine jqe (jeal (n := 14) zr73 rfl fun p2 => ?_)
  refine jq jrm ?_
  refine seq_nil ?_
  refine jcs ?_
  refine jcr ?_
  refine jq jrm ?_
  refine seq_nil ?_
  refine code_block ?_
  refine code_ent (blk_ent 0 (m := 14) (F := opF o) rfl (Nat.le_refl _) (fun _ => rfl) (fun j hj => by rcases j with _ | _ | _ | _ | _ | _ | _ | _ | _ | _ | _ | _ | _ | _ | j <;> first | exact CEnt.refl _ | omega)) ?_
  refine code_ent (blk_ent 1 (m := 14) (F := opF op0) rfl (Nat.le_refl _) (fun _ => rfl) (fun j hj => by rcases j with _ | _ | _ | _ | _ | _ | _ | _ | _ | _ | _ | _ | _ | _ | j <;> first | exact CEnt.refl _ | exact CEnt.nilS' rfl | omega)) ?_
  refine code_join (α := Bool) [15, 16, 17, 18, 19, 20, 21] (fun b => [(15, .c (.bool b))]) (fun b => [(p1, .blk 14 (opF o)), (p2, .blk 14 (opF op0))]) (fun b => b = (numK c).isSome) (fun _ => rfl) ?_ ?_
  · refine jcr ?_
    refine jq jrc ?_
    refine jq jrm ?_
    refine seq_nil ?_
    refine jcc (fun h98 => ?_) fun h98 => ?_
    · refine code_skip (jtn ?_)
      refine jjend (_) ?_ (h7 := ?_)
      · obtain rfl : c = 110 := u8_of h98 rfl
        rfl
      · exact .same (.same .nil)
    refine jcr ?_
    refine jq jrc ?_
    refine jq jrm ?_
    refine seq_nil ?_
    refine jcc (fun h98_2 => ?_) fun h98_2 => ?_
    · refine code_skip (jtn ?_)
      refine jjend (_) ?_ (h7 := ?_)
      · obtain rfl : c = 109 := u8_of h98_2 rfl
        rfl
      · exact .same (.same .nil)
    refine jcr ?_
    refine jq jrc ?_
    refine jq jrm ?_
    refine seq_nil ?_
    refine jcc (fun h98_3 => ?_) fun h98_3 => ?_
    · refine code_skip (jtn ?_)
      refine jjend (_) ?_ (h7 := ?_)
      · obtain rfl : c = 87 := u8_of h98_3 rfl
        rfl
      · exact .same (.same .nil)
    refine jcr ?_
    refine jq jrc ?_
    refine jq jrm ?_
    refine seq_nil ?_
    refine jcc (fun h98_4 => ?_) fun h98_4 => ?_
    · refine code_skip (jtn ?_)
      refine jjend (_) ?_ (h7 := ?_)
      · obtain rfl : c = 75 := u8_of h98_4 rfl
        rfl
      · exact .same (.same .nil)
    refine jcr ?_
    refine jq jrc ?_
    refine jq jrm ?_
    refine seq_nil ?_
    refine jcc (fun h98_5 => ?_) fun h98_5 => ?_
    · refine code_skip (jtn ?_)
      refine jjend (_) ?_ (h7 := ?_)
      · obtain rfl : c = 78 := u8_of h98_5 rfl
        rfl
      · exact .same (.same .nil)
    refine jcg ?_
    refine jq jrc ?_
    refine jq jrm ?_
    refine seq_nil ?_
    refine jtn ?_
    refine jjend (_) ?_ (h7 := ?_)
    · exact isN_last h98 h98_2 h98_3 h98_4 h98_5
    · exact .same (.same .nil)
  · rintro b1 hb1
    refine jcc (fun h97 => ?_) fun h97 => ?_
    · obtain ⟨kN, hkN⟩ : ∃ k, numK c = some k := Option.isSome_iff_exists.1 (hb1.symm.trans (by assumption))
      refine jcr ?_
      refine jq jrm ?_
      refine jqe (jecP (rnumber_ac w hl) ?_)
      refine jq jrm ?_
      refine jq jrx ?_
      refine jq jrx ?_
      refine jq jrm ?_
      refine jq jrm ?_
      refine seq_nil ?_
      refine jcs ?_
      refine jcr ?_
      refine jq jrm ?_
      refine jq jrn ?_
      refine seq_nil ?_
      refine jcc (fun h100 => ?_) fun h100 => ?_
      · refine jcr ?_
        first | refine jqo (jrdoA 14) ?_ | refine jq (jrdrA 14) ?_
        refine jqm (jmstF 14 (opF o) ?_ ?_)
        · exact (fun j hj => by rcases j with _ | _ | _ | _ | _ | _ | _ | _ | _ | _ | _ | _ | _ | _ | j <;> first | exact CEnt.refl _ | omega)
        refine jq jrm ?_
        refine seq_nil ?_
        refine code_ret (jtr (jbr (jtr (jrt (hres := res_2 rfl (javA 14) javt) (hv := ?_)))))
        refine tupF_of (n := 4) ?_ rfl
        unfold fieldR
        rw [if_pos (by rw [hkN]; rfl), if_pos (by first | (simp_all; done) | grind)]
      refine code_skip (jtn ?_)
      refine code_join (α := Unit) [30, 31, 32, 33, 34, 35, 36, 37, 38, 39, 40, 41, 42, 43, 44, 45, 46, 47, 48, 49, 50, 51, 52, 53, 54, 55, 56] (fun _ => []) (fun b => [(p1, .blk 14 (opF (setN o c (numD w).1))), (p2, .blk 14 (opF op0))]) (fun _ => True) (fun _ => rfl) ?_ ?_
      · refine jcr ?_
        refine jq jrm ?_
        refine seq_nil ?_
        refine code_block ?_
        refine jcr ?_
        refine jq jrc ?_
        refine jq jrm ?_
        refine seq_nil ?_
        refine jcc (fun h104 => ?_) fun h104 => ?_
        · refine jcg ?_
          refine jq jrm ?_
          refine jq (jrfa 1 1 false) ?_
          refine jqm (jmst 1 ?_)
          refine seq_nil ?_
          refine jbn (jtn ?_)
          refine jjend (()) ?_ (h7 := ?_)
          · trivial
          · obtain rfl : c = 110 := u8_of h104 rfl
            exact .blk rfl (fun j hj => upd_num (k := 1) rfl j hj) (.same .nil)
        refine jcr ?_
        refine jq jrc ?_
        refine jq jrm ?_
        refine seq_nil ?_
        refine jcc (fun h106 => ?_) fun h106 => ?_
        · refine jcg ?_
          refine jq jrm ?_
          refine jq (jrfa 2 1 false) ?_
          refine jqm (jmst 1 ?_)
          refine seq_nil ?_
          refine jbn (jtn ?_)
          refine jjend (()) ?_ (h7 := ?_)
          · trivial
          · obtain rfl : c = 109 := u8_of h106 rfl
            exact .blk rfl (fun j hj => upd_num (k := 2) rfl j hj) (.same .nil)
        refine jcr ?_
        refine jq jrc ?_
        refine jq jrm ?_
        refine seq_nil ?_
        refine jcc (fun h108 => ?_) fun h108 => ?_
        · refine jcg ?_
          refine jq jrm ?_
          refine jq (jrfa 5 9 true) ?_
          refine jq (jrfa 0 1 false) ?_
          refine jqm (jmst 1 ?_)
          refine seq_nil ?_
          refine jbn (jtn ?_)
          refine jjend (()) ?_ (h7 := ?_)
          · trivial
          · obtain rfl : c = 87 := u8_of h108 rfl
            exact .blk rfl (fun j hj => upd_num (k := 5) rfl j hj) (.same .nil)
        refine jcr ?_
        refine jq jrc ?_
        refine jq jrm ?_
        refine seq_nil ?_
        refine jcc (fun h110 => ?_) fun h110 => ?_
        · refine jcg ?_
          refine jq jrm ?_
          refine jq (jrfa 5 9 true) ?_
          refine jq (jrfa 2 1 false) ?_
          refine jqm (jmst 1 ?_)
          refine seq_nil ?_
          refine jbn (jtn ?_)
          refine jjend (()) ?_ (h7 := ?_)
          · trivial
          · obtain rfl : c = 75 := u8_of h110 rfl
            exact .blk rfl (fun j hj => upd_num (k := 7) rfl j hj) (.same .nil)
        refine jcr ?_
        refine jq jrc ?_
        refine jq jrm ?_
        refine seq_nil ?_
        refine jcc (fun h112 => ?_) fun h112 => ?_
        · refine jcg ?_
          refine jq jrm ?_
          refine jq (jrfa 5 9 true) ?_
          refine jq (jrfa 6 1 false) ?_
          refine jqm (jmst 1 ?_)
          refine seq_nil ?_
          refine jbn (jtn ?_)
          refine jjend (()) ?_ (h7 := ?_)
          · trivial
          · obtain rfl : c = 78 := u8_of h112 rfl
            exact .blk rfl (fun j hj => upd_num (k := 11) rfl j hj) (.same .nil)
        refine jcg ?_
        refine jq jrm ?_
        refine jq (jrfa 5 9 true) ?_
        refine jq (jrfa 7 1 false) ?_
        refine jqm (jmst 1 ?_)
        refine seq_nil ?_
        refine jbn (jtn ?_)
        refine jjend (()) ?_ (h7 := ?_)
        · trivial
        · obtain rfl : c = 77 := numK_77 hkN h104 h106 h108 h110 h112
          exact .blk rfl (fun j hj => upd_num (k := 12) rfl j hj) (.same .nil)
      · rintro ⟨⟩ -
        refine jcr ?_
        first | refine jqo (jrdoA 14) ?_ | refine jq (jrdrA 14) ?_
        refine jqm (jmstF 14 (opF (setN o c (numD w).1)) ?_ ?_)
        · exact (fun j hj => by rcases j with _ | _ | _ | _ | _ | _ | _ | _ | _ | _ | _ | _ | _ | _ | j <;> first | exact CEnt.refl _ | omega)
        refine jq jrm ?_
        refine seq_nil ?_
        refine code_ret (jbr (jtr (jrt (hres := res_2 rfl (javA 14) javt) (hv := ?_))))
        refine tupF_of (n := 0) ?_ rfl
        unfold fieldR
        rw [if_pos (by rw [hkN]; rfl), if_neg (by first | (simp_all; done) | grind)]
    have hn : numK c = none := by cases h : numK c with | none => rfl | some k => rw [h] at hb1; simp_all
    refine jcr ?_
    refine jq jrc ?_
    refine jq jrm ?_
    refine seq_nil ?_
    refine jcc (fun h118 => ?_) fun h118 => ?_
    · refine jcr ?_
      refine jq jrm ?_
      refine jqe (jecP (rfig_ac w) ?_)
      refine jq jrm ?_
      refine jq jrx ?_
      refine jq jrx ?_
      refine jq jrm ?_
      refine jq jrm ?_
      refine seq_nil ?_
      refine jcs ?_
      refine jcr ?_
      refine jq jrm ?_
      refine jq jrn ?_
      refine seq_nil ?_
      refine jcc (fun h120 => ?_) fun h120 => ?_
      · refine jcr ?_
        first | refine jqo (jrdoA 14) ?_ | refine jq (jrdrA 14) ?_
        refine jqm (jmstF 14 (opF o) ?_ ?_)
        · exact (fun j hj => by rcases j with _ | _ | _ | _ | _ | _ | _ | _ | _ | _ | _ | _ | _ | _ | j <;> first | exact CEnt.refl _ | omega)
        refine jq jrm ?_
        refine seq_nil ?_
        refine code_ret (jtr (jbr (jtr (jrt (hres := res_2 rfl (javA 14) javt) (hv := ?_)))))
        refine tupF_of (n := 4) ?_ rfl
        unfold fieldR
        rw [if_neg (by rw [hn]; exact Bool.noConfusion), if_pos (u8_of h118 rfl), if_pos (figR_no (by simpa using h120))]
      refine code_skip (jtn ?_)
      obtain ⟨hf1, hf2⟩ := figR_ok (w := w) (by simpa using h120)
      refine jcr ?_
      refine jq jrm ?_
      first | refine jq (jrv .i64 .u64) ?_ | refine jq (jrvW .i64 .u64) ?_
      refine jq (jrfa 3 1 false) ?_
      refine jqm (jmstF 1 (opF { o with bits := (figM w).1 }) ?_ ?_)
      · exact (fun j hj => by rcases j with _ | _ | _ | _ | _ | _ | _ | _ | _ | _ | _ | _ | _ | _ | j <;> first | exact CEnt.refl _ | (exact CEnt.int (by rw [hf2])) | omega)
      refine seq_nil ?_
      refine jcr ?_
      first | refine jqo (jrdoA 14) ?_ | refine jq (jrdrA 14) ?_
      refine jqm (jmstF 14 (opF { o with bits := (figM w).1 }) ?_ ?_)
      · exact (fun j hj => by rcases j with _ | _ | _ | _ | _ | _ | _ | _ | _ | _ | _ | _ | _ | _ | j <;> first | exact CEnt.refl _ | omega)
      refine jq jrm ?_
      refine seq_nil ?_
      refine code_ret (jbr (jtr (jrt (hres := res_2 rfl (javA 14) javt) (hv := ?_))))
      refine tupF_of (n := 0) ?_ rfl
      unfold fieldR
      rw [if_neg (by rw [hn]; exact Bool.noConfusion), if_pos (u8_of h118 rfl), if_neg (fun e => e hf1)]
    refine code_skip (jbn (jtn ?_))
    refine jcr ?_
    refine jq jrm ?_
    refine jqe (jecP (rbytes38_ac w hl) ?_)
    refine jq jrm ?_
    refine jq jrx ?_
    refine jq jrx ?_
    refine jq jrm ?_
    refine jq jrm ?_
    refine seq_nil ?_
    refine code_join (α := Unit) [77, 78, 79, 80, 81, 82, 83, 84, 85, 86, 87, 88, 89, 90, 91, 92, 93, 94, 95, 96, 97, 98, 99, 100, 101, 102] (fun _ => []) (fun b => [(p1, .blk 14 (opF (setX o c (hexD w).1))), (p2, .blk 14 (opF op0))]) (fun _ => True) (fun _ => rfl) ?_ ?_
    · refine jcr ?_
      refine jq jrm ?_
      refine seq_nil ?_
      refine code_block ?_
      refine jcr ?_
      refine jq jrc ?_
      refine jq jrm ?_
      refine seq_nil ?_
      refine jcc (fun h128 => ?_) fun h128 => ?_
      · refine jcg ?_
        refine jq jrm ?_
        first | refine jq jrbs ?_ | refine jqo jrbo ?_ | refine jq jrbn ?_
        refine jq (jrfa 5 9 true) ?_
        refine jq (jrfa 3 1 false) ?_
        refine jqm (jmst 1 ?_)
        refine seq_nil ?_
        refine jbn (jtn ?_)
        refine jjend (()) ?_ (h7 := ?_)
        · trivial
        · obtain rfl : c = 83 := u8_of h128 rfl
          exact .blk rfl (fun j hj => upd_txt (k := 8) rfl j hj) (.same .nil)
      refine jcr ?_
      refine jq jrc ?_
      refine jq jrm ?_
      refine seq_nil ?_
      refine jcc (fun h130 => ?_) fun h130 => ?_
      · refine jcg ?_
        refine jq jrm ?_
        first | refine jq jrbs ?_ | refine jqo jrbo ?_ | refine jq jrbn ?_
        refine jq (jrfa 5 9 true) ?_
        refine jq (jrfa 4 1 false) ?_
        refine jqm (jmst 1 ?_)
        refine seq_nil ?_
        refine jbn (jtn ?_)
        refine jjend (()) ?_ (h7 := ?_)
        · trivial
        · obtain rfl : c = 65 := u8_of h130 rfl
          exact .blk rfl (fun j hj => upd_txt (k := 9) rfl j hj) (.same .nil)
      refine jcr ?_
      refine jq jrc ?_
      refine jq jrm ?_
      refine seq_nil ?_
      refine jcc (fun h132 => ?_) fun h132 => ?_
      · refine jcg ?_
        refine jq jrm ?_
        first | refine jq jrbs ?_ | refine jqo jrbo ?_ | refine jq jrbn ?_
        refine jq (jrfa 5 9 true) ?_
        refine jq (jrfa 8 1 false) ?_
        refine jqm (jmst 1 ?_)
        refine seq_nil ?_
        refine jbn (jtn ?_)
        refine jjend (()) ?_ (h7 := ?_)
        · trivial
        · obtain rfl : c = 84 := u8_of h132 rfl
          exact .blk rfl (fun j hj => upd_txt (k := 13) rfl j hj) (.same .nil)
      refine jcr ?_
      refine jq jrc ?_
      refine jq jrm ?_
      refine seq_nil ?_
      refine jcc (fun h134 => ?_) fun h134 => ?_
      rotate_left
      · refine jcg ?_
        refine jq jrm ?_
        refine jq (jrfa 4 1 false) ?_
        refine jqm (jmst 1 ?_)
        refine seq_nil ?_
        refine jbn (jtn ?_)
        refine jjend (()) ?_ (h7 := ?_)
        · trivial
        · exact .blk rfl (fun j hj => upd_raw4 h128 h130 h132 h134 j hj) (.same .nil)
      refine jcg ?_
      refine jq jrm ?_
      refine jq (jrfa 5 9 true) ?_
      refine jq (jrfa 5 1 false) ?_
      refine jqm (jmst 1 ?_)
      refine seq_nil ?_
      refine jbn (jtn ?_)
      refine jjend (()) ?_ (h7 := ?_)
      · trivial
      · obtain rfl : c = 66 := u8_of h134 rfl
        exact .blk rfl (fun j hj => upd_raw (c := 66) rfl j hj) (.same .nil)
    · rintro ⟨⟩ -
      refine jcr ?_
      first | refine jqo (jrdoA 14) ?_ | refine jq (jrdrA 14) ?_
      refine jq jrm ?_
      refine jqm (jmstF 14 (opF (setX o c (hexD w).1)) ?_ ?_)
      · exact (fun j hj => by rcases j with _ | _ | _ | _ | _ | _ | _ | _ | _ | _ | _ | _ | _ | _ | j <;> first | exact CEnt.refl _ | omega)
      refine jq jrm ?_
      refine seq_nil ?_
      refine code_ret (jrt (hres := res_2 rfl (javA 14) javt) (hv := ?_))
      refine tupF_of (n := (hexD w).2) ?_ rfl
      unfold fieldR
      rw [if_neg (by rw [hn]; exact Bool.noConfusion), if_neg (u8_no h118 rfl)]
end Am
end Go.Proofs.YtdfjiodkmhpfkaaDoor

/- Chapter 38: an op from a line, by the reference; ops that are the same. -/
namespace Go.Proofs.YtdfjiodkmhpfkaaDoor
set_option linter.unusedVariables false
namespace Am
variable {gs : List Nat} [OkG gs]
open Go.RowKit
set_option maxRecDepth 100000

theorem parse_kind {line : List UInt8} {k : Nat} (h1 : 1 ≤ k) (h2 : k ≤ 13) (hl : line.length ≤ 40000) (hw : (wdR (k : Int)).1 = (splitC 32 line).getD 0 []) :
    parseL line = if (splitC 32 line).length - 1 < (wdR (k : Int)).2.length then (op0, 2) else if (wdR (k : Int)).2.length < (splitC 32 line).length - 1 then (op0, 3) else hearAll { op0 with k := (k : Int) } (wdR (k : Int)).2 ((splitC 32 line).drop 1) := by
  obtain ⟨i, rfl⟩ : ∃ i, k = i + 1 := ⟨k - 1, by omega⟩
  obtain ⟨e1, e2, e3, _, _⟩ := kind_form ⟨i, by omega⟩
  have ek : ((i + 1 : Nat) : Int) = (i : Int) + 1 := by omega
  rw [ek] at hw ⊢
  dsimp only at e1 e2 e3
  rw [hw] at e1
  unfold parseL
  rw [if_neg (by omega), e1, if_neg (by omega), e2]
theorem parse_none {line : List UInt8} (hl : line.length ≤ 40000) (h : ∀ j : Nat, 1 ≤ j → j < 14 → (wdR (j : Int)).1 ≠ (splitC 32 line).getD 0 []) : parseL line = (op0, 9) := by
  unfold parseL
  rw [if_neg (by omega), if_pos]
  refine Classical.byContradiction fun hn => ?_
  obtain ⟨f1, f2⟩ := formI_at hn
  obtain ⟨g1, g2, g3⟩ := form_kind ⟨_, f2⟩
  dsimp only at g1 g2 g3
  refine h (formAt (formI ((splitC 32 line).getD 0 [])).toNat).2.1.toNat (by omega) (by omega) ?_
  rw [Int.toNat_of_nonneg (by omega), g3, f1]
theorem wdR_len {k : Nat} (h1 : 1 ≤ k) (h2 : k ≤ 13) : (wdR (k : Int)).2.length ≤ 8 := by
  obtain ⟨i, rfl⟩ : ∃ i, k = i + 1 := ⟨k - 1, by omega⟩
  have := (kind_form ⟨i, by omega⟩).2.2.2.1
  rwa [show ((i + 1 : Nat) : Int) = (i : Int) + 1 by omega]
set_option maxHeartbeats 2000000 in
theorem rparse38_ac (line : List UInt8) (hs : line.length ≤ 1000000) : ACp gs Tryd.prog 40 [strC line] (tupF (parseL line)) := by
  obtain ⟨ws, hws⟩ : ∃ ws, ws = splitC 32 line := ⟨_, rfl⟩
  have hsp := rsplit38_ac (gs := gs) line (by omega)
  rw [← hws] at hsp
  have hw0 : 0 < ws.length := by rw [hws]; exact List.length_pos_iff.2 (splitC_ne 32 line)
  have hwl : ws.length ≤ line.length + 1 := by rw [hws, split_count]; have := List.count_le_length (a := (32 : UInt8)) (l := line); omega
  have hseg : ∀ i, (ws.getD i []).length ≤ line.length := fun i => by rw [hws]; exact seg_at i
  refine ac_of 72 Tryd.func40 rfl rfl rfl (fun al w0 F0 St0 => ?_)
  refine jcr ?_
  refine jqe (jeal (n := 14) zr73 rfl fun p1 => ?_)
  refine jq jrm ?_
  refine seq_nil ?_
  refine jcs ?_
  refine jcr ?_
  refine jq jrm ?_
  refine jq jrls ?_
  refine jq jrc ?_
  refine seq_nil ?_
  refine jcc (fun h144 => ?_) fun h144 => ?_
  · refine jcr ?_
    refine jq (rd_build (n := 14) rfl zr73 pl73 rfl rfl) ?_
    refine jqm (jmstF 14 (opF op0) ?_ ?_)
    · exact (fun j hj => by rcases j with _ | _ | _ | _ | _ | _ | _ | _ | _ | _ | _ | _ | _ | _ | j <;> first | exact CEnt.refl _ | exact CEnt.nilS' rfl | omega)
    refine jq jrm ?_
    refine seq_nil ?_
    refine code_ret (jtr (jrt (hres := res_2 rfl (javA 14) javt) (hv := tupF_of (n := 4) (by unfold parseL; rw [if_pos (by omega)]) rfl)))
  refine code_skip (jtn ?_)
  refine jcr ?_
  refine jq jrm ?_
  refine jqe (jecP hsp ?_)
  refine jq jrm ?_
  refine seq_nil ?_
  refine jcs ?_
  refine jcr ?_
  refine jq jrm ?_
  refine seq_nil ?_
  refine code_block ?_
  refine code_ent (blk_ent 0 (m := 14) (F := opF op0) rfl (Nat.le_refl _) (fun _ => rfl) (fun j hj => by rcases j with _ | _ | _ | _ | _ | _ | _ | _ | _ | _ | _ | _ | _ | _ | j <;> first | exact CEnt.refl _ | exact CEnt.nilS' rfl | omega)) ?_
  refine l_loop (α := Nat) [3, 5, 6, 7, 8, 9, 10, 17, 18, 19, 20, 21, 22, 23, 24, 25, 26, 27, 28, 29, 30, 31, 32, 33, 34, 35, 36, 37, 38, 39, 40, 41, 42, 43, 44, 45, 46, 47, 48, 49, 50, 51, 52, 53, 54, 55, 56, 57, 58, 59, 60, 61, 62, 63, 64, 65, 66, 67, 68, 69, 70] (fun k => [(5, .c (.int .i64 (k : Nat)))]) (fun k => [(p1, .blk 14 (opF op0))]) (fun k => 1 ≤ k ∧ k ≤ 14 ∧ ∀ j : Nat, 1 ≤ j → j < k → (wdR (j : Int)).1 ≠ ws.getD 0 []) (fun k => 14 - k) (1) ?_ (fun _ => rfl) ?_ ?_ ?_
  · exact ⟨by omega, by omega, fun j h1 h2 => by omega⟩
  · exact .cons (CEnt.refl _) .nil
  · exact .same .nil
  · rintro k ⟨hk1, hk2, hno⟩
    refine jcs ?_
    refine jcr ?_
    refine jq jrm ?_
    refine jq jrc ?_
    refine seq_nil ?_
    refine jcc (fun h148 => ?_) fun h148 => ?_
    rotate_left
    · refine code_exit (jte (jte (jbx (jtn ?_))))
      refine jcr ?_
      refine jq (rd_build (n := 14) rfl zr73 pl73 rfl rfl) ?_
      refine jqm (jmstF 14 (opF op0) ?_ ?_)
      · exact (fun j hj => by rcases j with _ | _ | _ | _ | _ | _ | _ | _ | _ | _ | _ | _ | _ | _ | j <;> first | exact CEnt.refl _ | exact CEnt.nilS' rfl | omega)
      refine jq jrm ?_
      refine seq_nil ?_
      refine code_ret (jrt (hres := res_2 rfl (javA 14) javt) (hv := ?_))
      refine tupF_of (n := 9) ?_ rfl
      exact parse_none (by omega) (fun j h1 h2 => by rw [← hws]; exact hno j h1 (by omega))
    refine code_skip (jtn ?_)
    refine jcs ?_
    refine code_block ?_
    refine jcr ?_
    refine jq jrm ?_
    refine jqe (jecP (rword_ac (k : Nat)) ?_)
    refine jq jrm ?_
    refine jq jrx ?_
    refine jq jrx ?_
    refine jq jrm ?_
    refine jq jrm ?_
    refine seq_nil ?_
    refine jcs ?_
    refine jcr ?_
    refine jq jrm ?_
    refine jq jrm ?_
    refine jq (jri (i := 0)) ?_
    first | refine jqo jrdo ?_ | refine jq jrdr ?_
    refine jq jrcs ?_
    refine seq_nil ?_
    refine jcc (fun h150 => ?_) fun h150 => ?_
    · refine code_exit (jte (jbx (jtn ?_)))
      refine jcg ?_
      refine jq jrm ?_
      refine jq jra ?_
      refine jq jrm ?_
      refine seq_nil ?_
      refine jtn ?_
      refine jlend (k + 1) ?_ ?_ (h5 := ?_) (h7 := ?_)
      · exact ⟨by omega, by omega, fun j h1 h2 => by
          by_cases e : j = k
          · subst e; simpa using h150
          · exact hno j h1 (by omega)⟩
      · show 14 - (k + 1) < 14 - k; omega
      · exact .cons (CEnt.int (by omega)) .nil
      · exact .same .nil
    refine code_skip (jtn ?_)
    refine jcs ?_
    have hp := parse_kind (line := line) (k := k) hk1 (by omega) (by omega) (by rw [← hws]; simpa using h150)
    have hwr := wdR_len hk1 (show k ≤ 13 by omega)
    rw [← hws] at hp
    refine jcr ?_
    refine jq jrm ?_
    refine jq jrl ?_
    refine jq jra ?_
    refine jq jrm ?_
    refine jq jrls ?_
    refine jq jrc ?_
    refine seq_nil ?_
    refine jcc (fun h153 => ?_) fun h153 => ?_
    · refine jcr ?_
      refine jq (rd_build (n := 14) rfl zr73 pl73 rfl rfl) ?_
      refine jqm (jmstF 14 (opF op0) ?_ ?_)
      · exact (fun j hj => by rcases j with _ | _ | _ | _ | _ | _ | _ | _ | _ | _ | _ | _ | _ | _ | j <;> first | exact CEnt.refl _ | exact CEnt.nilS' rfl | omega)
      refine jq jrm ?_
      refine seq_nil ?_
      refine code_ret (jtr (jbr (jtr (jtr (jbr (jtr (jrt (hres := res_2 rfl (javA 14) javt) (hv := tupF_of (n := 2) (by rw [hp, if_pos (by omega)]) rfl))))))))
    refine code_skip (jtn ?_)
    refine jcs ?_
    refine jcr ?_
    refine jq jrm ?_
    refine jq jrl ?_
    refine jq jra ?_
    refine jq jrm ?_
    refine jq jrls ?_
    refine jq jrc ?_
    refine seq_nil ?_
    refine jcc (fun h156 => ?_) fun h156 => ?_
    · refine jcr ?_
      refine jq (rd_build (n := 14) rfl zr73 pl73 rfl rfl) ?_
      refine jqm (jmstF 14 (opF op0) ?_ ?_)
      · exact (fun j hj => by rcases j with _ | _ | _ | _ | _ | _ | _ | _ | _ | _ | _ | _ | _ | _ | j <;> first | exact CEnt.refl _ | exact CEnt.nilS' rfl | omega)
      refine jq jrm ?_
      refine seq_nil ?_
      refine code_ret (jtr (jbr (jtr (jtr (jbr (jtr (jrt (hres := res_2 rfl (javA 14) javt) (hv := tupF_of (n := 3) (by rw [hp, if_neg (by omega), if_pos (by omega)]) rfl))))))))
    refine code_skip (jtn ?_)
    refine jcr ?_
    refine jq jrm ?_
    refine jq (rd_build (n := 14) rfl zr73 pl73 rfl rfl) ?_
    refine jqe (jeal (n := 14) zr73 rfl fun p2 => ?_)
    refine jqm (jmstF 14 (opF { op0 with k := (k : Int) }) ?_ ?_)
    · exact (fun j hj => by rcases j with _ | _ | _ | _ | _ | _ | _ | _ | _ | _ | _ | _ | _ | _ | j <;> first | exact CEnt.refl _ | exact CEnt.nilS' rfl | omega)
    refine jq jrm ?_
    refine seq_nil ?_
    refine jcs ?_
    first | (have hfe := field_hear q ((wdR (k : Int)).2.getD i 0) (ws.getD (i + 1) []); have herr : (hear1 q ((wdR (k : Int)).2.getD i 0) (ws.getD (i + 1) [])).2 = 0 := by rw [← hfe.1]; simpa using h161) | skip
    refine jcr ?_
    refine jq jrm ?_
    refine seq_nil ?_
    refine code_block ?_
    rw [if_neg (by omega), if_neg (by omega)] at hp
    refine l_loop (α := Nat × Op38) [3, 9, 10, 47, 48, 49, 50, 51, 52, 53, 54, 55, 56, 57, 58, 59, 60, 61, 62, 63, 64, 65, 66, 67, 68, 69] (fun (i, q) => [(10, .c (.int .i64 (i : Nat)))]) (fun (i, q) => [(p1, .blk 14 (opF op0)), (p2, .blk 14 (opF q))]) (fun (i, q) => i ≤ (wdR (k : Int)).2.length ∧ hearAll { op0 with k := (k : Int) } (wdR (k : Int)).2 (ws.drop 1) = hearAll q ((wdR (k : Int)).2.drop i) ((ws.drop 1).drop i)) (fun (i, q) => (wdR (k : Int)).2.length - i) ((0, { op0 with k := (k : Int) })) ?_ (fun _ => rfl) ?_ ?_ ?_
    · exact ⟨Nat.zero_le _, rfl⟩
    · exact .cons (CEnt.refl _) .nil
    · exact .same (.same .nil)
    · rintro ⟨i, q⟩ ⟨(hi : i ≤ (wdR (k : Int)).2.length), hH⟩
      have hd1 : (ws.drop 1).getD i [] = ws.getD (i + 1) [] := by simp [List.getD, Nat.add_comm]
      refine jcs ?_
      first | (have hfe := field_hear q ((wdR (k : Int)).2.getD i 0) (ws.getD (i + 1) []); have herr : (hear1 q ((wdR (k : Int)).2.getD i 0) (ws.getD (i + 1) [])).2 = 0 := by rw [← hfe.1]; simpa using h161) | skip
      refine jcr ?_
      refine jq jrm ?_
      refine jq jrm ?_
      refine jq jrls ?_
      refine jq jrc ?_
      refine seq_nil ?_
      refine jcc (fun h160 => ?_) fun h160 => ?_
      rotate_left
      · refine code_exit (jte (jte (jbx (jtn ?_))))
        refine jcr ?_
        first | refine jqo (jrdoA 14) ?_ | refine jq (jrdrA 14) ?_
        refine jqm (jmstF 14 (opF q) ?_ ?_)
        · exact (fun j hj => by rcases j with _ | _ | _ | _ | _ | _ | _ | _ | _ | _ | _ | _ | _ | _ | j <;> first | exact CEnt.refl _ | omega)
        refine jq jrm ?_
        refine seq_nil ?_
        refine code_ret (jbr (jtr (jtr (jbr (jtr (jrt (hres := res_2 rfl (javA 14) javt) (hv := ?_)))))))
        refine tupF_of (n := 0) ?_ rfl
        rw [hp, hH, hearAll_done (by omega)]
      refine code_skip (jtn ?_)
      refine jcs ?_
      refine code_block ?_
      refine jcs ?_
      refine jcdC 10 (.rd 0 (.rd 1 (.rd 2 (.rd 3 (.rd 4 (.rd 5 (.rd 6 (.rd 7 (.rd 8 (.one 9 .done)))))))))) (.rd 10 (.rd 11 (.rd 12 (.one 13 (.rd 14 .done))))) ?_
      first | refine jyo (jrdoA 14) ?_ | refine jyq (jrdrA 14) ?_
      refine jyq jrm ?_
      refine jyq jrm ?_
      refine jyq (jrix (i := i) (hz := by first | omega | (simp only [List.length_append, List.length_cons, List.length_nil]; omega))) ?_
      refine jyq jrm ?_
      refine jyq jrm ?_
      refine jyq jra ?_
      refine jyq (jri (i := (i + 1)) (hz := by first | omega | (simp only [List.length_append, List.length_cons, List.length_nil]; omega))) ?_
      first | refine jyo jrdo ?_ | refine jyq jrdr ?_
      refine jye (jecP (rfield_ac q ((wdR (k : Int)).2.getD i 0) (ws.getD (i + 1) []) (by have := hseg (i + 1); omega)) ?_ (ho := rfl) (he := (.cons (se rfl (CEnt.agg rfl fun j hj => CEnt.of_eq (by rw [Nat.zero_add]))) (.cons (se rfl (CEnt.refl _)) (.cons (se rfl (CEnt.refl _)) .nil)))))
      refine jyd ?_
      show AZ _ _ _ _ _ _
      refine jzq jrm ?_
      refine jzq jrx ?_
      refine jzq jrx ?_
      refine jzm (jmstF 14 (opF (fieldR q ((wdR (k : Int)).2.getD i 0) (ws.getD (i + 1) [])).1) ?_ ?_)
      · exact (fun j hj => by rcases j with _ | _ | _ | _ | _ | _ | _ | _ | _ | _ | _ | _ | _ | _ | j <;> first | exact CEnt.refl _ | omega)
      refine jzq jrm ?_
      refine jzd ?_
      refine jtn ?_
      refine jcr ?_
      refine jq jrm ?_
      refine jq jrc ?_
      refine seq_nil ?_
      refine jcc (fun h161 => ?_) fun h161 => ?_
      · have hfe := field_hear q ((wdR (k : Int)).2.getD i 0) (ws.getD (i + 1) [])
        refine jcr ?_
        refine jq (rd_build (n := 14) rfl zr73 pl73 rfl rfl) ?_
        refine jq jrm ?_
        refine jqm (jmstF 14 (opF op0) ?_ ?_)
        · exact (fun j hj => by rcases j with _ | _ | _ | _ | _ | _ | _ | _ | _ | _ | _ | _ | _ | _ | j <;> first | exact CEnt.refl _ | exact CEnt.nilS' rfl | omega)
        refine jq jrm ?_
        refine seq_nil ?_
        refine code_ret (jbr (jtr (jtr (jbr (jtr (jbr (jtr (jtr (jbr (jtr (jrt (hres := res_2 rfl (javA 14) javt) (hv := ?_))))))))))))
        refine tupF_of (n := (fieldR q ((wdR (k : Int)).2.getD i 0) (ws.getD (i + 1) [])).2) ?_ rfl
        rw [hp, hH, hearAll_step (by omega), hd1, ← hfe.1, if_pos (by simpa using h161)]
      refine code_skip (jbn (jtn ?_))
      first | (have hfe := field_hear q ((wdR (k : Int)).2.getD i 0) (ws.getD (i + 1) []); have herr : (hear1 q ((wdR (k : Int)).2.getD i 0) (ws.getD (i + 1) [])).2 = 0 := by rw [← hfe.1]; simpa using h161) | skip
      refine jcg ?_
      refine jq jrm ?_
      refine jq jra ?_
      refine jq jrm ?_
      refine seq_nil ?_
      refine jtn ?_
      refine jlend ((i + 1, (hear1 q ((wdR (k : Int)).2.getD i 0) ((ws.drop 1).getD i [])).1)) ?_ ?_ (h5 := ?_) (h7 := ?_)
      · exact ⟨by omega, by rw [hH, hearAll_step (by omega), if_neg (by rw [hd1]; simpa using herr)]⟩
      · show (wdR (k : Int)).2.length - (i + 1) < (wdR (k : Int)).2.length - i; omega
      · exact .cons (CEnt.int (by omega)) .nil
      · exact .same (.blk rfl (fun j hj => CEnt.of_eq (by rw [hd1, ← hfe.2 herr])) .nil)
set_option maxHeartbeats 4000000 in
/-- ops that are the same, by the reference -/
theorem rsame25_ac {gs : List Nat} (o p : Op38) : ACp gs Tryd.prog 78 [.agg 9 (msgF o), .agg 9 (msgF p)] (.c (.bool (msgSame o p))) := by
  refine ac_of 70 Tryd.func78 rfl rfl rfl (fun al w0 F0 St0 => ?_)
  refine jcr ?_
  refine jqe (jebx 9 fun p1 => ?_)
  refine jqe (jebx 9 fun p2 => ?_)
  refine jq jrm ?_
  refine seq_nil ?_
  refine jcr ?_
  refine jq (jrfa 0 1 false) ?_
  first | refine jqo jrdo ?_ | refine jq jrdr ?_
  refine jq (jrfa 0 1 false) ?_
  first | refine jqo jrdo ?_ | refine jq jrdr ?_
  refine jq jrc ?_
  refine jq jrm ?_
  refine jqsp 10 (fun g130 => ?_) fun g130 => ?_
  rotate_left
  · refine jqs ?_
    refine jqs ?_
    refine jqs ?_
    refine jqs ?_
    refine jqs ?_
    refine jqs ?_
    refine jqs ?_
    refine jq jrpF ?_
    refine jq jrm ?_
    refine jqs ?_
    refine jqs ?_
    refine jqs ?_
    refine jqs ?_
    refine jqs ?_
    refine jq jrpF ?_
    refine jq jrm ?_
    refine jqs ?_
    refine jqs ?_
    refine jqs ?_
    refine jqs ?_
    refine jqs ?_
    refine jq jrpF ?_
    refine jq jrm ?_
    refine jqs ?_
    refine jqs ?_
    refine jqs ?_
    refine jqs ?_
    refine jqs ?_
    refine jq jrpF ?_
    refine jq jrm ?_
    refine jqs ?_
    refine jqs ?_
    refine jqs ?_
    refine jqs ?_
    refine jqs ?_
    refine jqs ?_
    refine jqs ?_
    refine jq jrpF ?_
    refine jq jrm ?_
    refine jqs ?_
    refine jqs ?_
    refine jqs ?_
    refine jqs ?_
    refine jqs ?_
    refine jq jrpF ?_
    refine jq jrm ?_
    refine jqs ?_
    refine jqs ?_
    refine jqs ?_
    refine jqs ?_
    refine jqs ?_
    refine jq jrpF ?_
    refine jq jrm ?_
    refine jqs ?_
    refine jqs ?_
    refine jqs ?_
    refine jqs ?_
    refine jqs ?_
    refine jq jrpF ?_
    refine jq jrm ?_
    refine seq_nil ?_
    refine code_ret (jrt (hv := ?_))
    refine CEnt.bool ?_
    unfold msgSame
    first | (simp_all; done) | grind
  refine jq (jrfa 1 1 false) ?_
  first | refine jqo jrdo ?_ | refine jq jrdr ?_
  first | refine jq jrbs ?_ | refine jqo jrbo ?_ | refine jq jrbn ?_
  refine jq (jrfa 1 1 false) ?_
  first | refine jqo jrdo ?_ | refine jq jrdr ?_
  first | refine jq jrbs ?_ | refine jqo jrbo ?_ | refine jq jrbn ?_
  refine jq jrcs ?_
  refine jq jrpT ?_
  refine jq jrm ?_
  refine jqsp 19 (fun g130_2 => ?_) fun g130_2 => ?_
  rotate_left
  · refine jqs ?_
    refine jqs ?_
    refine jqs ?_
    refine jqs ?_
    refine jqs ?_
    refine jq jrpF ?_
    refine jq jrm ?_
    refine jqs ?_
    refine jqs ?_
    refine jqs ?_
    refine jqs ?_
    refine jqs ?_
    refine jq jrpF ?_
    refine jq jrm ?_
    refine jqs ?_
    refine jqs ?_
    refine jqs ?_
    refine jqs ?_
    refine jqs ?_
    refine jq jrpF ?_
    refine jq jrm ?_
    refine jqs ?_
    refine jqs ?_
    refine jqs ?_
    refine jqs ?_
    refine jqs ?_
    refine jqs ?_
    refine jqs ?_
    refine jq jrpF ?_
    refine jq jrm ?_
    refine jqs ?_
    refine jqs ?_
    refine jqs ?_
    refine jqs ?_
    refine jqs ?_
    refine jq jrpF ?_
    refine jq jrm ?_
    refine jqs ?_
    refine jqs ?_
    refine jqs ?_
    refine jqs ?_
    refine jqs ?_
    refine jq jrpF ?_
    refine jq jrm ?_
    refine jqs ?_
    refine jqs ?_
    refine jqs ?_
    refine jqs ?_
    refine jqs ?_
    refine jq jrpF ?_
    refine jq jrm ?_
    refine seq_nil ?_
    refine code_ret (jrt (hv := ?_))
    refine CEnt.bool ?_
    unfold msgSame
    first | (simp_all; done) | grind
  refine jq (jrfa 2 1 false) ?_
  first | refine jqo jrdo ?_ | refine jq jrdr ?_
  refine jq (jrfa 2 1 false) ?_
  first | refine jqo jrdo ?_ | refine jq jrdr ?_
  refine jq jrc ?_
  refine jq jrpT ?_
  refine jq jrm ?_
  refine jqsp 26 (fun g130_3 => ?_) fun g130_3 => ?_
  rotate_left
  · refine jqs ?_
    refine jqs ?_
    refine jqs ?_
    refine jqs ?_
    refine jqs ?_
    refine jq jrpF ?_
    refine jq jrm ?_
    refine jqs ?_
    refine jqs ?_
    refine jqs ?_
    refine jqs ?_
    refine jqs ?_
    refine jq jrpF ?_
    refine jq jrm ?_
    refine jqs ?_
    refine jqs ?_
    refine jqs ?_
    refine jqs ?_
    refine jqs ?_
    refine jqs ?_
    refine jqs ?_
    refine jq jrpF ?_
    refine jq jrm ?_
    refine jqs ?_
    refine jqs ?_
    refine jqs ?_
    refine jqs ?_
    refine jqs ?_
    refine jq jrpF ?_
    refine jq jrm ?_
    refine jqs ?_
    refine jqs ?_
    refine jqs ?_
    refine jqs ?_
    refine jqs ?_
    refine jq jrpF ?_
    refine jq jrm ?_
    refine jqs ?_
    refine jqs ?_
    refine jqs ?_
    refine jqs ?_
    refine jqs ?_
    refine jq jrpF ?_
    refine jq jrm ?_
    refine seq_nil ?_
    refine code_ret (jrt (hv := ?_))
    refine CEnt.bool ?_
    unfold msgSame
    first | (simp_all; done) | grind
  refine jq (jrfa 3 1 false) ?_
  first | refine jqo jrdo ?_ | refine jq jrdr ?_
  refine jq (jrfa 3 1 false) ?_
  first | refine jqo jrdo ?_ | refine jq jrdr ?_
  refine jq jrcs ?_
  refine jq jrpT ?_
  refine jq jrm ?_
  refine jqsp 33 (fun g130_4 => ?_) fun g130_4 => ?_
  rotate_left
  · refine jqs ?_
    refine jqs ?_
    refine jqs ?_
    refine jqs ?_
    refine jqs ?_
    refine jq jrpF ?_
    refine jq jrm ?_
    refine jqs ?_
    refine jqs ?_
    refine jqs ?_
    refine jqs ?_
    refine jqs ?_
    refine jqs ?_
    refine jqs ?_
    refine jq jrpF ?_
    refine jq jrm ?_
    refine jqs ?_
    refine jqs ?_
    refine jqs ?_
    refine jqs ?_
    refine jqs ?_
    refine jq jrpF ?_
    refine jq jrm ?_
    refine jqs ?_
    refine jqs ?_
    refine jqs ?_
    refine jqs ?_
    refine jqs ?_
    refine jq jrpF ?_
    refine jq jrm ?_
    refine jqs ?_
    refine jqs ?_
    refine jqs ?_
    refine jqs ?_
    refine jqs ?_
    refine jq jrpF ?_
    refine jq jrm ?_
    refine seq_nil ?_
    refine code_ret (jrt (hv := ?_))
    refine CEnt.bool ?_
    unfold msgSame
    first | (simp_all; done) | grind
  refine jq (jrfa 4 1 false) ?_
  first | refine jqo jrdo ?_ | refine jq jrdr ?_
  refine jq (jrfa 4 1 false) ?_
  first | refine jqo jrdo ?_ | refine jq jrdr ?_
  refine jq jrcs ?_
  refine jq jrpT ?_
  refine jq jrm ?_
  refine jqsp 40 (fun g130_5 => ?_) fun g130_5 => ?_
  rotate_left
  · refine jqs ?_
    refine jqs ?_
    refine jqs ?_
    refine jqs ?_
    refine jqs ?_
    refine jqs ?_
    refine jqs ?_
    refine jq jrpF ?_
    refine jq jrm ?_
    refine jqs ?_
    refine jqs ?_
    refine jqs ?_
    refine jqs ?_
    refine jqs ?_
    refine jq jrpF ?_
    refine jq jrm ?_
    refine jqs ?_
    refine jqs ?_
    refine jqs ?_
    refine jqs ?_
    refine jqs ?_
    refine jq jrpF ?_
    refine jq jrm ?_
    refine jqs ?_
    refine jqs ?_
    refine jqs ?_
    refine jqs ?_
    refine jqs ?_
    refine jq jrpF ?_
    refine jq jrm ?_
    refine seq_nil ?_
    refine code_ret (jrt (hv := ?_))
    refine CEnt.bool ?_
    unfold msgSame
    first | (simp_all; done) | grind
  refine jq (jrfa 5 1 false) ?_
  first | refine jqo jrdo ?_ | refine jq jrdr ?_
  first | refine jq jrbs ?_ | refine jqo jrbo ?_ | refine jq jrbn ?_
  refine jq (jrfa 5 1 false) ?_
  first | refine jqo jrdo ?_ | refine jq jrdr ?_
  first | refine jq jrbs ?_ | refine jqo jrbo ?_ | refine jq jrbn ?_
  refine jq jrcs ?_
  refine jq jrpT ?_
  refine jq jrm ?_
  refine jqsp 49 (fun g130_6 => ?_) fun g130_6 => ?_
  rotate_left
  · refine jqs ?_
    refine jqs ?_
    refine jqs ?_
    refine jqs ?_
    refine jqs ?_
    refine jq jrpF ?_
    refine jq jrm ?_
    refine jqs ?_
    refine jqs ?_
    refine jqs ?_
    refine jqs ?_
    refine jqs ?_
    refine jq jrpF ?_
    refine jq jrm ?_
    refine jqs ?_
    refine jqs ?_
    refine jqs ?_
    refine jqs ?_
    refine jqs ?_
    refine jq jrpF ?_
    refine jq jrm ?_
    refine seq_nil ?_
    refine code_ret (jrt (hv := ?_))
    refine CEnt.bool ?_
    unfold msgSame
    first | (simp_all; done) | grind
  refine jq (jrfa 6 1 false) ?_
  first | refine jqo jrdo ?_ | refine jq jrdr ?_
  refine jq (jrfa 6 1 false) ?_
  first | refine jqo jrdo ?_ | refine jq jrdr ?_
  refine jq jrc ?_
  refine jq jrpT ?_
  refine jq jrm ?_
  refine jqsp 56 (fun g130_7 => ?_) fun g130_7 => ?_
  rotate_left
  · refine jqs ?_
    refine jqs ?_
    refine jqs ?_
    refine jqs ?_
    refine jqs ?_
    refine jq jrpF ?_
    refine jq jrm ?_
    refine jqs ?_
    refine jqs ?_
    refine jqs ?_
    refine jqs ?_
    refine jqs ?_
    refine jq jrpF ?_
    refine jq jrm ?_
    refine seq_nil ?_
    refine code_ret (jrt (hv := ?_))
    refine CEnt.bool ?_
    unfold msgSame
    first | (simp_all; done) | grind
  refine jq (jrfa 7 1 false) ?_
  first | refine jqo jrdo ?_ | refine jq jrdr ?_
  refine jq (jrfa 7 1 false) ?_
  first | refine jqo jrdo ?_ | refine jq jrdr ?_
  refine jq jrc ?_
  refine jq jrpT ?_
  refine jq jrm ?_
  refine jqsp 63 (fun g130_8 => ?_) fun g130_8 => ?_
  · refine jq (jrfa 8 1 false) ?_
    first | refine jqo jrdo ?_ | refine jq jrdr ?_
    refine jq (jrfa 8 1 false) ?_
    first | refine jqo jrdo ?_ | refine jq jrdr ?_
    refine jq jrcs ?_
    refine jq jrpT ?_
    refine jq jrm ?_
    refine seq_nil ?_
    refine code_ret (jrt (hv := ?_))
    refine CEnt.bool ?_
    unfold msgSame
    first | (simp_all; done) | grind
  refine jqs ?_
  refine jqs ?_
  refine jqs ?_
  refine jqs ?_
  refine jqs ?_
  refine jq jrpF ?_
  refine jq jrm ?_
  refine seq_nil ?_
  refine code_ret (jrt (hv := ?_))
  refine CEnt.bool ?_
  unfold msgSame
  first | (simp_all; done) | grind
set_option maxHeartbeats 4000000 in
theorem rsame38_ac {gs : List Nat} (o p : Op38) : ACp gs Tryd.prog 41 [opC o, opC p] (.c (.bool (sameO o p))) := by
  rw [same_getF]
  refine ac_of 47 Tryd.func41 rfl rfl rfl (fun al w0 F0 St0 => ?_)
  refine jcr ?_
  refine jqe (jebx 14 fun p1 => ?_)
  refine jqe (jebx 14 fun p2 => ?_)
  refine jq jrm ?_
  refine seq_nil ?_
  refine jcr ?_
  refine jq (jrfa 0 1 false) ?_
  first | refine jqo jrdo ?_ | refine jq jrdr ?_
  refine jq (jrfa 0 1 false) ?_
  first | refine jqo jrdo ?_ | refine jq jrdr ?_
  refine jq jrc ?_
  refine jq jrm ?_
  refine jqsp 10 (fun g172 => ?_) fun g172 => ?_
  rotate_left
  · refine jqs ?_
    refine jqs ?_
    refine jqs ?_
    refine jqs ?_
    refine jqs ?_
    refine jq jrpF ?_
    refine jq jrm ?_
    refine jqs ?_
    refine jqs ?_
    refine jqs ?_
    refine jqs ?_
    refine jqs ?_
    refine jq jrpF ?_
    refine jq jrm ?_
    refine jqs ?_
    refine jqs ?_
    refine jqs ?_
    refine jqs ?_
    refine jqs ?_
    refine jq jrpF ?_
    refine jq jrm ?_
    refine jqs ?_
    refine jqs ?_
    refine jqs ?_
    refine jqs ?_
    refine jqs ?_
    refine jqs ?_
    refine jqs ?_
    refine jq jrpF ?_
    refine jq jrm ?_
    refine jqs ?_
    refine jqs ?_
    refine jqs ?_
    refine jqs ?_
    refine jqs ?_
    refine jq jrpF ?_
    refine jq jrm ?_
    refine seq_nil ?_
    refine code_ret (jrt (hv := ?_))
    refine CEnt.bool ?_
    first | (simp_all; done) | grind
  refine jq (jrfa 1 1 false) ?_
  first | refine jqo jrdo ?_ | refine jq jrdr ?_
  refine jq (jrfa 1 1 false) ?_
  first | refine jqo jrdo ?_ | refine jq jrdr ?_
  refine jq jrc ?_
  refine jq jrpT ?_
  refine jq jrm ?_
  refine jqsp 17 (fun g172_2 => ?_) fun g172_2 => ?_
  rotate_left
  · refine jqs ?_
    refine jqs ?_
    refine jqs ?_
    refine jqs ?_
    refine jqs ?_
    refine jq jrpF ?_
    refine jq jrm ?_
    refine jqs ?_
    refine jqs ?_
    refine jqs ?_
    refine jqs ?_
    refine jqs ?_
    refine jq jrpF ?_
    refine jq jrm ?_
    refine jqs ?_
    refine jqs ?_
    refine jqs ?_
    refine jqs ?_
    refine jqs ?_
    refine jqs ?_
    refine jqs ?_
    refine jq jrpF ?_
    refine jq jrm ?_
    refine jqs ?_
    refine jqs ?_
    refine jqs ?_
    refine jqs ?_
    refine jqs ?_
    refine jq jrpF ?_
    refine jq jrm ?_
    refine seq_nil ?_
    refine code_ret (jrt (hv := ?_))
    refine CEnt.bool ?_
    first | (simp_all; done) | grind
  refine jq (jrfa 2 1 false) ?_
  first | refine jqo jrdo ?_ | refine jq jrdr ?_
  refine jq (jrfa 2 1 false) ?_
  first | refine jqo jrdo ?_ | refine jq jrdr ?_
  refine jq jrc ?_
  refine jq jrpT ?_
  refine jq jrm ?_
  refine jqsp 24 (fun g172_3 => ?_) fun g172_3 => ?_
  rotate_left
  · refine jqs ?_
    refine jqs ?_
    refine jqs ?_
    refine jqs ?_
    refine jqs ?_
    refine jq jrpF ?_
    refine jq jrm ?_
    refine jqs ?_
    refine jqs ?_
    refine jqs ?_
    refine jqs ?_
    refine jqs ?_
    refine jqs ?_
    refine jqs ?_
    refine jq jrpF ?_
    refine jq jrm ?_
    refine jqs ?_
    refine jqs ?_
    refine jqs ?_
    refine jqs ?_
    refine jqs ?_
    refine jq jrpF ?_
    refine jq jrm ?_
    refine seq_nil ?_
    refine code_ret (jrt (hv := ?_))
    refine CEnt.bool ?_
    first | (simp_all; done) | grind
  refine jq (jrfa 3 1 false) ?_
  first | refine jqo jrdo ?_ | refine jq jrdr ?_
  refine jq (jrfa 3 1 false) ?_
  first | refine jqo jrdo ?_ | refine jq jrdr ?_
  refine jq jrc ?_
  refine jq jrpT ?_
  refine jq jrm ?_
  refine jqsp 31 (fun g172_4 => ?_) fun g172_4 => ?_
  rotate_left
  · refine jqs ?_
    refine jqs ?_
    refine jqs ?_
    refine jqs ?_
    refine jqs ?_
    refine jqs ?_
    refine jqs ?_
    refine jq jrpF ?_
    refine jq jrm ?_
    refine jqs ?_
    refine jqs ?_
    refine jqs ?_
    refine jqs ?_
    refine jqs ?_
    refine jq jrpF ?_
    refine jq jrm ?_
    refine seq_nil ?_
    refine code_ret (jrt (hv := ?_))
    refine CEnt.bool ?_
    first | (simp_all; done) | grind
  refine jq (jrfa 4 1 false) ?_
  first | refine jqo jrdo ?_ | refine jq jrdr ?_
  first | refine jq jrbs ?_ | refine jqo jrbo ?_ | refine jq jrbn ?_
  refine jq (jrfa 4 1 false) ?_
  first | refine jqo jrdo ?_ | refine jq jrdr ?_
  first | refine jq jrbs ?_ | refine jqo jrbo ?_ | refine jq jrbn ?_
  refine jq jrcs ?_
  refine jq jrpT ?_
  refine jq jrm ?_
  refine jqsp 40 (fun g172_5 => ?_) fun g172_5 => ?_
  · refine jq (jrfa 5 9 true) ?_
    first | refine jqo (jrdoA 9) ?_ | refine jq (jrdrA 9) ?_
    refine jq (jrfa 5 9 true) ?_
    first | refine jqo (jrdoA 9) ?_ | refine jq (jrdrA 9) ?_
    refine jqe (jecP (rsame25_ac o p) ?_ (ho := rfl) (he := (.cons (se rfl (CEnt.agg rfl fun j hj => by rcases j with _ | _ | _ | _ | _ | _ | _ | _ | _ | j <;> first | exact CEnt.refl _ | omega)) (.cons (se rfl (CEnt.agg rfl fun j hj => by rcases j with _ | _ | _ | _ | _ | _ | _ | _ | _ | j <;> first | exact CEnt.refl _ | omega)) .nil))))
    refine jq jrpT ?_
    refine jq jrm ?_
    refine seq_nil ?_
    refine code_ret (jrt (hv := ?_))
    refine CEnt.bool ?_
    first | (simp_all; done) | grind
  refine jqs ?_
  refine jqs ?_
  refine jqs ?_
  refine jqs ?_
  refine jqs ?_
  refine jq jrpF ?_
  refine jq jrm ?_
  refine seq_nil ?_
  refine code_ret (jrt (hv := ?_))
  refine CEnt.bool ?_
  first | (simp_all; done) | grind
set_option maxHeartbeats 2000000 in
theorem of38_ac {gs : List Nat} (o : Op38) : ACp gs Tryd.prog 42 [opC o] (opC o) := by
  refine ac_of 16 Tryd.func42 rfl rfl rfl (fun al w0 F0 St0 => ?_)
  refine jcr ?_
  refine jqe (jebx 14 fun p1 => ?_)
  refine jqe (jeal (n := 14) zr73 rfl fun p2 => ?_)
  refine seq_nil ?_
  refine code_ent (blk_ent 0 (m := 14) (F := opF o) rfl (Nat.le_refl _) (fun _ => rfl) (fun j hj => by rcases j with _ | _ | _ | _ | _ | _ | _ | _ | _ | _ | _ | _ | _ | _ | j <;> first | exact CEnt.refl _ | omega)) ?_
  refine jcr ?_
  refine jq (jrfa 0 1 false) ?_
  first | refine jqo jrdo ?_ | refine jq jrdr ?_
  refine jq (jrfa 1 1 false) ?_
  first | refine jqo jrdo ?_ | refine jq jrdr ?_
  refine jq (jrfa 2 1 false) ?_
  first | refine jqo jrdo ?_ | refine jq jrdr ?_
  refine jq (jrfa 3 1 false) ?_
  first | refine jqo jrdo ?_ | refine jq jrdr ?_
  refine jq (jrfa 4 1 false) ?_
  first | refine jqo jrdo ?_ | refine jq jrdr ?_
  refine jq (jrfa 5 9 true) ?_
  first | refine jqo (jrdoA 9) ?_ | refine jq (jrdrA 9) ?_
  refine jq (rd_build (l := [opF o 0, opF o 1, opF o 2, opF o 3, opF o 4, opF o 5, opF o 6, opF o 7, opF o 8, opF o 9, opF o 10, opF o 11, opF o 12, opF o 13]) (n := 14) rfl zr73 pl73 (by kernel_rfl) rfl) ?_
  refine jqm (jmstF 14 (opF o) ?_ ?_)
  · exact (fun j hj => by rcases j with _ | _ | _ | _ | _ | _ | _ | _ | _ | _ | _ | _ | _ | _ | j <;> first | exact CEnt.refl _ | omega)
  refine seq_nil ?_
  refine code_ret (jrt (hres := res_1 rfl (javA 14)) (hv := CEnt.agg rfl fun m hm => CEnt.of_eq (by rw [Nat.zero_add])))
end Am
end Go.Proofs.YtdfjiodkmhpfkaaDoor

/- Chapter 38: an op's line: the walk. -/
namespace Go.Proofs.YtdfjiodkmhpfkaaDoor
set_option linter.unusedVariables false
namespace Am
variable {gs : List Nat} [OkG gs]
open Go.RowKit
set_option maxRecDepth 100000

theorem kword_ac {gs : List Nat} (o : Op38) (z : F38) : ACp gs Tryd.prog 79 (.agg 3 (foF z) :: (List.range 1).map (fl [.rp 14 (opF o)])) (.c (.bool (decide (z.2.1 = o.k)))) := by
  refine ac_of 9 Tryd.func79 rfl rfl rfl (fun al w0 F0 St0 => ?_)
  refine jcr ?_
  refine jqe (jebx 3 fun p1 => ?_)
  refine jq jrm ?_
  refine seq_nil ?_
  refine jcr ?_
  refine jq (jrfa 1 1 false) ?_
  first | refine jqo jrdo ?_ | refine jq jrdr ?_
  refine jq (jrfa 0 1 false) ?_
  first | refine jqo jrdo ?_ | refine jq jrdr ?_
  refine jq jrc ?_
  refine jq jrm ?_
  refine seq_nil ?_
  refine code_ret (jrt (hv := CEnt.bool rfl))
theorem toldM_err (o : Op38) (c : UInt8) : (toldM o c).2 = 0 ∨ toldM o c = ([], 4) := by
  unfold toldM toldV
  split
  · split
    · exact .inr rfl
    · exact .inl rfl
  · split
    · split
      · exact .inr rfl
      · exact .inl rfl
    · split
      · exact .inr rfl
      · exact .inl rfl
theorem toldM_len (o : Op38) (c : UInt8) : (toldM o c).1.length ≤ 20000 := by
  unfold toldM toldV
  split
  · split
    · simp
    · rename_i h
      have := dec_len 18 (getF o (fid c)).1.toNat (by omega)
      show (dec _).length ≤ _
      omega
  · split
    · split
      · simp
      · rename_i h
        show (numE _).length ≤ _
        unfold numE
        split
        · have := dec_len 18 (getF o (fid c)).1.toNat (by omega); omega
        · have := dec_len 18 (-(getF o (fid c)).1).toNat (by omega); rw [List.length_cons]; omega
    · split
      · simp
      · rename_i h
        show (hexE _).length ≤ _
        unfold hexE
        split
        · simp
        · rw [flatX_len]; omega
theorem hear_told {o p : Op38} {c : UInt8} (h : (toldM o c).2 = 0) : (hear1 p c (toldM o c).1).2 = 0 := by
  have h2 := val_told (c := c) (w := (toldM o c).1) (canF_get o c) (by show toldM o c = _; rw [← h])
  rw [hear1_err, h2]
theorem tk_get {α : Type} {l : List α} {k : Nat} (d : α) (h : k < l.length) : l.take (k + 1) = l.take k ++ [l.getD k d] := by
  rw [List.take_succ_eq_append_getElem h]
  simp [List.getD, h]
theorem any_take {α : Type} {p : α → Bool} {l : List α} {k : Nat} (d : α) (h : k < l.length) : (l.take (k + 1)).any p = ((l.take k).any p || p (l.getD k d)) := by
  rw [tk_get d h, List.any_append]; simp
theorem form_lines : ∀ i : Fin 13, (formAt i.val).2.2.length ≤ 8 ∧ (formAt i.val).1.length ≤ 8 := by decide +kernel
set_option maxHeartbeats 2000000 in
theorem text_ac (o : Op38) (ho : OpLe o 9223372036854775807) : ACp gs Tryd.prog 43 [opC o] (.tup 2 (fl [strC (lineM o).1, .err (lineM o).2])) := by
  have hfb := firstI_bd (fun z : F38 => decide (z.2.1 = o.k)) formsL
  have hki : kI o.k = firstI (fun z : F38 => decide (z.2.1 = o.k)) formsL := rfl
  have hfl : formsL.length = 13 := rfl
  obtain ⟨iK, hiK⟩ : ∃ k, k = (firstI (fun z : F38 => decide (z.2.1 = o.k)) formsL).toNat := ⟨_, rfl⟩
  have hfa : formAt (kI o.k).toNat = formsL.getD iK f38 := by rw [hki, ← hiK]; rfl
  obtain ⟨wd, hwd⟩ : ∃ w, w = (formsL.getD iK f38).1 := ⟨_, rfl⟩
  obtain ⟨L, hL⟩ : ∃ l, l = (formsL.getD iK f38).2.2 := ⟨_, rfl⟩
  obtain ⟨W, hW⟩ : ∃ w, w = L.map fun c => (toldM o c).1 := ⟨_, rfl⟩
  have hlm : lineM o = if kI o.k < 0 then ([], 1) else if (L.any fun c => decide ((toldM o c).2 ≠ 0)) = true then ([], 4) else if sameO o (hearAll { op0 with k := o.k } L W).1 = false ∨ 40000 < (joinC 32 (wd :: W)).length then ([], 4) else (joinC 32 (wd :: W), 0) := by
    unfold lineM bareO wordsO
    rw [hfa, ← hwd, ← hL, ← hW]
  have hWk : ∀ k, k < L.length → W.getD k [] = (toldM o (L.getD k 0)).1 := fun k hk => by
    rw [hW]; simp [List.getD, hk]
  have hLl : iK < 13 → L.length ≤ 8 ∧ wd.length ≤ 8 := fun h => by rw [hL, hwd]; exact form_lines ⟨iK, h⟩
  refine ac_of 74 Tryd.func43 rfl rfl rfl (fun al w0 F0 St0 => ?_)
  refine jcr ?_
  refine jqe (jebx 14 fun p1 => ?_)
  refine jq jrm ?_
  refine jq jrm ?_
  refine seq_nil ?_
  refine jcr ?_
  refine jqe (jecP forms_ac ?_)
  refine jq jrm ?_
  refine seq_nil ?_
  refine code_ent (freeze 0 rfl) ?_
  refine code_ent (thawP 1 (m := 14) rfl rfl (by decide)) ?_
  refine code_ent (pick_ent (H' := []) [] (by decide) rfl) ?_
  refine code_ent (weaken 1 (.rp 14 (opF o)) (CEnt.rp fun j hj => by rcases j with _ | _ | _ | _ | _ | _ | _ | _ | _ | _ | _ | _ | _ | _ | j <;> first | exact CEnt.refl _ | omega)) ?_
  refine jcr ?_
  refine jq jrm ?_
  refine jq jrmf ?_
  refine jqe (jecP (fidx_ac (by kernel_rfl) formsL (fun z => decide (z.2.1 = o.k)) (fun r => kword_ac o r)) ?_ (ho := rfl) (he := (.cons (se rfl (CEnt.refl _)) (.cons (by exact se rfl (CEnt.fn1 (CEnt.refl _))) .nil))))
  refine jq jrm ?_
  refine seq_nil ?_
  refine jcs ?_
  refine jcr ?_
  refine jq jrm ?_
  refine jq jrc ?_
  refine seq_nil ?_
  refine jcc (fun h232 => ?_) fun h232 => ?_
  · refine jcs ?_
    refine jcd (.rd 0 (.rd 1 (.rd 2 .done))) ?_
    refine jyq (jrde 0) ?_
    refine jyq jrm ?_
    refine jyq jrm ?_
    refine jyd ?_
    refine jtn ?_
    refine code_ret (jtr (jrt (hv := ?_)))
    rw [hlm, if_pos (by rw [hki]; omega)]
    exact CEnt.refl _
  refine code_skip (jtn ?_)
  obtain ⟨hL8, hw8⟩ := hLl (by omega)
  have hLx : (formsL.getD iK f38).2.2.length ≤ 8 := by rw [← hL]; exact hL8
  refine jcr ?_
  refine jq jrm ?_
  refine jq jrm ?_
  refine jq (jri (i := iK) (hz := by first | omega | (simp only [List.length_append, List.length_cons, List.length_nil]; omega))) ?_
  refine jq (jrfa 0 1 false) ?_
  first | refine jqo jrdo ?_ | refine jq jrdr ?_
  refine jqe (jebl 1 1 zr9 fun p2 => ?_)
  refine jq jrm ?_
  refine seq_nil ?_
  refine jcr ?_
  refine jq (jrfa 0 1 false) ?_
  first | refine jqo jrdo ?_ | refine jq jrdr ?_
  refine jq (rd_build (n := 14) rfl zr68 pl68 rfl rfl) ?_
  refine jqe (jeal (n := 14) zr68 rfl fun p3 => ?_)
  refine jqm (jmstF 14 (opF { op0 with k := o.k }) ?_ ?_)
  · exact (fun j hj => by rcases j with _ | _ | _ | _ | _ | _ | _ | _ | _ | _ | _ | _ | _ | _ | j <;> first | exact CEnt.refl _ | exact CEnt.nilS' rfl | omega)
  refine seq_nil ?_
  refine jcs ?_
  refine jcr ?_
  refine jq jrm ?_
  refine jq jrm ?_
  refine jq (jri (i := iK) (hz := by first | omega | (simp only [List.length_append, List.length_cons, List.length_nil]; omega))) ?_
  refine jq (jrfa 2 1 false) ?_
  first | refine jqo jrdo ?_ | refine jq jrdr ?_
  refine jqe (jecv ?_)
  refine jq jrl ?_
  refine jq jrm ?_
  refine seq_nil ?_
  refine code_block ?_
  refine code_ent (weaken 35 (bsC L) (CEnt.bs hL.symm)) ?_
  refine code_ent (weaken 36 (.c (.int .i64 (L.length : Nat))) (CEnt.int (by rw [hL]))) ?_
  refine l_loop (α := Nat × List (List UInt8) × Option Nat × Op38) [2, 3, 6, 9, 10, 11, 12, 37, 38, 39, 40, 41, 42, 43, 44, 45, 46, 47, 48, 49, 50, 51, 52, 53, 54, 55, 56, 57, 58, 59, 60] (fun (k, X, g, b) => [(37, .c (.int .i64 (k : Nat))), (6, .os 0 g 0 X.length 1)]) (fun (k, X, g, b) => [(g, .blk (X.length * 1) (ssF X)), (p3, .blk 14 (opF b))]) (fun (k, X, g, b) => k ≤ L.length ∧ X = wd :: W.take k ∧ (L.take k).any (fun c => decide ((toldM o c).2 ≠ 0)) = false ∧ hearAll { op0 with k := o.k } L W = hearAll b (L.drop k) (W.drop k)) (fun (k, X, g, b) => L.length - k) ((0, [wd], p2, { op0 with k := o.k })) ?_ (fun _ => rfl) ?_ ?_ ?_
  · exact ⟨Nat.zero_le _, rfl, rfl, rfl⟩
  · exact .cons (CEnt.refl _) (.cons (CEnt.refl _) .nil)
  · exact .blk rfl (fun j hj => by obtain rfl : j = 0 := (by simp at hj; omega); rw [hwd]; exact CEnt.refl _) (.same .nil)
  · rintro ⟨k, X, g, b⟩ ⟨(hk : k ≤ L.length), hX, hA, hH⟩
    have hWl : W.length = L.length := by rw [hW, List.length_map]
    have hXl : X.length = k + 1 := by rw [hX, List.length_cons, List.length_take]; omega
    refine jcr ?_
    refine jq jrc ?_
    refine seq_nil ?_
    refine jcs ?_
    refine jcc (fun h237 => ?_) fun h237 => ?_
    · refine code_skip (jtn ?_)
      refine jcs ?_
      refine code_block ?_
      refine jcr ?_
      refine jq (jri (i := k) (hz := by first | omega | (simp only [List.length_append, List.length_cons, List.length_nil]; omega))) ?_
      first | refine jqo jrdo ?_ | refine jq jrdr ?_
      refine jq jrm ?_
      refine seq_nil ?_
      refine jcr ?_
      first | refine jqo (jrdoA 14) ?_ | refine jq (jrdrA 14) ?_
      refine jq jrm ?_
      refine jqe (jecP (told_ac o (L.getD k 0) ho) ?_)
      refine jq jrm ?_
      refine jq jrx ?_
      refine jq jrx ?_
      refine jq jrm ?_
      refine jq jrm ?_
      refine seq_nil ?_
      refine jcs ?_
      refine jcr ?_
      refine jq jrm ?_
      refine jq jre ?_
      refine seq_nil ?_
      refine jcc (fun h239 => ?_) fun h239 => ?_
      · refine jcr ?_
        refine jq jrm ?_
        refine jq jrm ?_
        refine jq jrm ?_
        refine seq_nil ?_
        refine code_ret (jtr (jbr (jtr (jtr (jbr (jtr (jrt (hv := ?_))))))))
        have hany : (L.any fun c => decide ((toldM o c).2 ≠ 0)) = true := List.any_eq_true.2 ⟨L.getD k 0, by simp [List.getD, show k < L.length by omega], by simpa using h239⟩
        have he := (toldM_err o (L.getD k 0)).resolve_left (by simpa using h239)
        rw [hlm, if_neg (by rw [hki]; omega), if_pos hany, he]
        exact CEnt.refl _
      refine code_skip (jtn ?_)
      refine jcs ?_
      refine jcr ?_
      refine jq jrm ?_
      refine jq jrm ?_
      refine jqm (jmcH 1 (hear_ac b p3 (L.getD k 0) (toldM o (L.getD k 0)).1 (by have := toldM_len o (L.getD k 0); omega)) ?_)
      rintro _ _ ⟨rfl, rfl⟩
      refine ⟨_, _, rfl, CEnt.refl _, ?_⟩
      refine jq jrm ?_
      refine seq_nil ?_
      refine jcr ?_
      refine jq jrm ?_
      refine jq jre ?_
      refine seq_nil ?_
      refine jcc (fun h242 => ?_) fun h242 => ?_
      · exfalso; exact h242 (hear_told (by simpa using h239))
      refine code_skip (jtn ?_)
      refine jcg ?_
      refine jq jrm ?_
      refine jq jrm ?_
      refine jqe (jebl 1 1 zr9 fun p5 => ?_)
      refine jqm (m_appendC (rowC_ss) (l2 := [(toldM o (L.getD k 0)).1]) rfl rfl rfl rfl (by first | exact Nat.le_refl _ | omega) (fun _ _ => CEnt.refl _) (src_os rfl (.inl rfl) (by decide)) rfl (fun j hj => by rcases j with _|j <;> first | exact CEnt.refl _ | exact CEnt.int (by omega) | (exfalso; simp at hj <;> omega)) Tryd.underlying32 nu32 sz9 zr9 by9 rfl (by first | omega | (simp; done) | (simp; omega) | (simp at *; omega)) (by first | omega | (simp; done) | (simp; omega) | (simp at *; omega)) (leaf_flk rfl rfl) rfl rfl rfl (fun p6 => ?_))
      refine jq jrm ?_
      refine seq_nil ?_
      refine jbn (jtn ?_)
      refine jcg ?_
      refine jq jra ?_
      refine jq jrm ?_
      refine seq_nil ?_
      refine jtn ?_
      refine jlend ((k + 1, X ++ [(toldM o (L.getD k 0)).1], p6, (hear1 b (L.getD k 0) (toldM o (L.getD k 0)).1).1)) ?_ ?_ (h5 := ?_) (h7 := ?_)
      · exact ⟨by omega, by rw [hX, List.cons_append, ← hWk k (by omega), ← tk_get [] (by rw [hW, List.length_map]; omega)], by rw [any_take 0 (by omega), hA]; simpa using h239, by rw [hH, hearAll_step (by omega), hWk k (by omega), if_neg (by simpa using h242)]⟩
      · show L.length - (k + 1) < L.length - k; omega
      · exact .cons (CEnt.int (by omega)) (.cons (CEnt.refl _) .nil)
      · exact .same (.same .nil)
    refine code_exit (jte (jte (jbx (jtn ?_))))
    have hkL : k = L.length := by omega
    rw [hkL, List.take_length] at hA
    rw [hkL, List.take_of_length_le (by rw [hW, List.length_map]; omega)] at hX
    rw [hearAll_done (by omega)] at hH
    have hjl := join_len (c := 32) (m := 20000) (ls := X) (fun p hp => by
      rw [hX, hW] at hp
      rcases List.mem_cons.1 hp with rfl | hp
      · omega
      · obtain ⟨c, hc, rfl⟩ := List.mem_map.1 hp
        exact toldM_len o c)
    have hjo := join_lib 32 X
    refine code_ent (freeze 0 rfl) ?_
    refine code_ent (thaw 6 (fun b _ => strC (X.getD b [])) rfl rfl (by omega) ss_thaw) ?_
    refine jcr ?_
    refine jq jrm ?_
    refine jqe (jecP (join_ac X [32] (by omega) (by rw [hjo]; omega)) ?_)
    refine jq jrm ?_
    refine seq_nil ?_
    refine jcs ?_
    refine jcr ?_
    first | refine jqo (jrdoA 14) ?_ | refine jq (jrdrA 14) ?_
    first | refine jqo (jrdoA 14) ?_ | refine jq (jrdrA 14) ?_
    refine jqe (jecP (equal38_ac o b) ?_ (ho := rfl) (he := (.cons (se rfl (CEnt.refl _)) (.cons (se rfl (CEnt.agg rfl fun j hj => CEnt.of_eq (by rw [Nat.zero_add]))) .nil))))
    refine jq jrn ?_
    refine jq jrm ?_
    refine jqsp 67 (fun g248 => ?_) fun g248 => ?_
    · refine jqs ?_
      refine jqs ?_
      refine jqs ?_
      refine jq jrpT ?_
      refine seq_nil ?_
      refine jcT ?_
      refine jcs ?_
      refine jcd (.rd 0 (.rd 1 (.rd 2 .done))) ?_
      refine jyq (jrde 3) ?_
      refine jyq jrm ?_
      refine jyq jrm ?_
      refine jyd ?_
      refine jtn ?_
      refine code_ret (jtr (jrt (hv := ?_)))
      rw [hlm, if_neg (by rw [hki]; omega), if_neg (by rw [hA]; exact Bool.noConfusion), if_pos (by rw [hH, ← hX, ← hjo]; first | (simp_all; done) | grind)]
      exact CEnt.refl _
    refine jq jrm ?_
    refine jq jrls ?_
    refine jq jrc ?_
    refine jq jrpF ?_
    refine seq_nil ?_
    refine jcc (fun h248 => ?_) fun h248 => ?_
    rotate_left
    · refine code_skip (jtn ?_)
      refine jcr ?_
      refine jq jrm ?_
      refine jq jrm ?_
      refine jq jrm ?_
      refine seq_nil ?_
      refine code_ret (jrt (hv := ?_))
      rw [hlm, if_neg (by rw [hki]; omega), if_neg (by rw [hA]; exact Bool.noConfusion), if_neg (by rw [hH, ← hX, ← hjo]; first | (simp_all; done) | grind), ← hX, ← hjo]
      exact CEnt.tup2 (CEnt.refl _) (CEnt.nilE rfl)
    refine jcs ?_
    refine jcd (.rd 0 (.rd 1 (.rd 2 .done))) ?_
    refine jyq (jrde 3) ?_
    refine jyq jrm ?_
    refine jyq jrm ?_
    refine jyd ?_
    refine jtn ?_
    refine code_ret (jtr (jrt (hv := ?_)))
    rw [hlm, if_neg (by rw [hki]; omega), if_neg (by rw [hA]; exact Bool.noConfusion), if_pos (by rw [hH, ← hX, ← hjo]; first | (simp_all; done) | grind)]
    exact CEnt.refl _
end Am
end Go.Proofs.YtdfjiodkmhpfkaaDoor

/- Chapter 38: an op's line, by the reference: plain and the walk. -/
namespace Go.Proofs.YtdfjiodkmhpfkaaDoor
set_option linter.unusedVariables false
namespace Am
variable {gs : List Nat} [OkG gs]
open Go.RowKit
set_option maxRecDepth 100000

def smallN (n : Int) : Bool := decide (n < 1000000000000000000 ∧ -1000000000000000000 < n)
/-- an op whose numbers and texts are not too great for a line -/
def OpSmall (o : Op38) : Prop := (smallN o.n = true ∧ smallN o.m = true ∧ o.bits < 1000000000000000000 ∧ smallN o.what = true ∧ smallN o.kd = true ∧ smallN o.mn = true ∧ smallN o.mm = true) ∧ o.b.length ≤ 8192 ∧ o.mb.length ≤ 8192 ∧ o.sp.length ≤ 8192 ∧ o.nm.length ≤ 8192 ∧ o.tx.length ≤ 8192
theorem small_get {o : Op38} (h : OpSmall o) (c : UInt8) : -1000000000000000000 < (getF o (fid c)).1 ∧ (getF o (fid c)).1 < 1000000000000000000 ∧ (getF o (fid c)).2.length ≤ 8192 := by
  obtain ⟨⟨a1, a2, a3, a4, a5, a6, a7⟩, b1, b2, b3, b4, b5⟩ := h
  simp only [smallN, decide_eq_true_eq] at a1 a2 a4 a5 a6 a7
  rcases fid_cases c with ⟨_, hf⟩ | ⟨hu, k, hk, hf⟩ | ⟨hu, hn, k, hk, hf⟩ | ⟨hu, hn, ht, hf⟩
  · rw [hf]; exact ⟨by show _ < ((o.bits : Nat) : Int); omega, by show ((o.bits : Nat) : Int) < _; omega, Nat.zero_le _⟩
  · rw [hf]
    rcases numK_cases hk with ⟨_, rfl⟩ | ⟨_, rfl⟩ | ⟨_, rfl⟩ | ⟨_, rfl⟩ | ⟨_, rfl⟩ | ⟨_, rfl⟩ <;> exact ⟨by simp only [getF]; omega, by simp only [getF]; omega, Nat.zero_le _⟩
  · rw [hf]
    rcases txtK_cases hk with ⟨_, rfl⟩ | ⟨_, rfl⟩ | ⟨_, rfl⟩ <;> exact ⟨by show (-1000000000000000000 : Int) < 0; decide, by show (0 : Int) < _; decide, by assumption⟩
  · rw [hf]
    unfold rawK
    split <;> exact ⟨by show (-1000000000000000000 : Int) < 0; decide, by show (0 : Int) < _; decide, by assumption⟩
def encR (o : Op38) (c : UInt8) : List UInt8 := if c = 117 then dec o.bits else if (numK c).isSome then numE (getF o (fid c)).1 else hexE (getF o (fid c)).2
theorem told_small {o : Op38} (h : OpSmall o) (c : UInt8) : toldM o c = (encR o c, 0) := by
  obtain ⟨h1, h2, h3⟩ := small_get h c
  unfold toldM toldV encR
  by_cases hu : c = 117
  · rw [if_pos hu, if_pos hu, if_neg (by omega)]
    subst hu
    rfl
  · rw [if_neg hu, if_neg hu]
    by_cases hn : (numK c).isSome = true
    · rw [if_pos hn, if_pos hn, if_neg (by omega)]
    · rw [if_neg hn, if_neg hn, if_neg (by omega)]
/-- what a word tells is not too great -/
theorem val_small {c : UInt8} {w : List UInt8} (h : (valW c w).2 = 0) : -1000000000000000000 < (valW c w).1.1 ∧ (valW c w).1.1 < 1000000000000000000 ∧ (valW c w).1.2.length ≤ 8192 := by
  unfold valW at h ⊢
  by_cases hu : c = 117
  · rw [if_pos hu]
    have := figM_bd w
    exact ⟨by show _ < (((figM w).1 : Nat) : Int); omega, by show (((figM w).1 : Nat) : Int) < _; omega, Nat.zero_le _⟩
  · rw [if_neg hu] at h ⊢
    by_cases hn : (numK c).isSome = true
    · rw [if_pos hn] at h ⊢
      have hd := numE_D (s := w) (n := (numD w).1) (by rw [← (h : (numD w).2 = 0)])
      exact ⟨hd.2.1, hd.2.2, Nat.zero_le _⟩
    · rw [if_neg hn] at h ⊢
      have hd := hexE_D (s := w) (x := (hexD w).1) (by rw [← (h : (hexD w).2 = 0)])
      exact ⟨by show (-1000000000000000000 : Int) < 0; decide, by show (0 : Int) < _; decide, hd.2⟩
/-- the bounds of an op's fields -/
def OpBd (o : Op38) : Prop := ∀ j, j ≠ 0 → -1000000000000000000 < (getF o j).1 ∧ (getF o j).1 < 1000000000000000000 ∧ (getF o j).2.length ≤ 8192
theorem bd_small {o : Op38} (h : OpBd o) : OpSmall o := by
  have g := fun j hj => h j hj
  have g1 := h 1 (by omega); have g2 := h 2 (by omega); have g3 := h 3 (by omega); have g4 := h 4 (by omega); have g5 := h 5 (by omega); have g7 := h 7 (by omega)
  have g8 := h 8 (by omega); have g9 := h 9 (by omega); have g10 := h 10 (by omega); have g11 := h 11 (by omega); have g12 := h 12 (by omega); have g13 := h 13 (by omega)
  simp only [getF] at g1 g2 g3 g4 g5 g7 g8 g9 g10 g11 g12 g13
  unfold OpSmall smallN
  simp only [decide_eq_true_eq]
  exact ⟨⟨⟨g1.2.1, g1.1⟩, ⟨g2.2.1, g2.1⟩, by omega, ⟨g5.2.1, g5.1⟩, ⟨g7.2.1, g7.1⟩, ⟨g11.2.1, g11.1⟩, ⟨g12.2.1, g12.1⟩⟩, g4.2.2, g10.2.2, g8.2.2, g9.2.2, g13.2.2⟩
theorem bd_op0 (k : Int) : OpBd { op0 with k := k } := fun j hj => by
  rcases j with _ | _ | _ | _ | _ | _ | _ | _ | _ | _ | _ | _ | _ | _ | j <;> first | exact absurd rfl hj | exact ⟨by decide, by decide, by decide⟩ | exact ⟨by show (-1000000000000000000 : Int) < 0; decide, by show (0 : Int) < _; decide, Nat.zero_le _⟩
theorem hear_bd : ∀ (L : List UInt8) (W : List (List UInt8)) {o p : Op38}, OpBd o → hearAll o L W = (p, 0) → OpBd p
  | [], W, o, p, h, e => by
    have e : (o, 0) = (p, 0) := e
    injection e with e _; rw [← e]; exact h
  | c :: cs, W, o, p, h, e => by
    rw [hearAll] at e
    by_cases e2 : (hear1 o c (W.headD [])).2 ≠ 0
    · rw [if_pos e2] at e; injection e with _ e; exact absurd e e2
    · rw [if_neg e2] at e
      have e3 := Classical.not_not.1 e2
      rw [hear1_err] at e3
      refine hear_bd cs W.tail (fun j hj => ?_) e
      rw [hear1_get e3]
      by_cases hj2 : j = fid c
      · rw [if_pos hj2]; exact val_small e3
      · rw [if_neg hj2]; exact h j hj
theorem parse38_bd {l : List UInt8} {o : Op38} (h : parseL l = (o, 0)) : OpBd o := by
  unfold parseL at h
  by_cases h1 : 40000 < l.length
  · rw [if_pos h1] at h; injection h with _ h; cases h
  rw [if_neg h1] at h
  by_cases h2 : formI ((splitC 32 l).getD 0 []) < 0
  · rw [if_pos h2] at h; injection h with _ h; cases h
  rw [if_neg h2] at h
  by_cases h3 : (splitC 32 l).length - 1 < (formAt (formI ((splitC 32 l).getD 0 [])).toNat).2.2.length
  · rw [if_pos h3] at h; injection h with _ h; cases h
  rw [if_neg h3] at h
  by_cases h4 : (formAt (formI ((splitC 32 l).getD 0 [])).toNat).2.2.length < (splitC 32 l).length - 1
  · rw [if_pos h4] at h; injection h with _ h; cases h
  rw [if_neg h4] at h
  exact hear_bd _ _ (bd_op0 _) h
theorem bd_le {o : Op38} (h : OpBd o) : OpLe o 9223372036854775807 := fun k => by
  by_cases e : k = 0
  · subst e; exact Nat.zero_le _
  · have := (h k e).2.2; omega
theorem bd_err {l : List UInt8} : OpBd (parseL l).1 := by
  cases e : (parseL l).2 with
  | zero => exact parse38_bd (Prod.ext rfl e)
  | succ n =>
    have hz : ∀ (L : List UInt8) (W : List (List UInt8)) (o : Op38), (hearAll o L W).2 ≠ 0 → (hearAll o L W).1 = op0 := fun L => by
      induction L with
      | nil => intro W o h; exact absurd rfl h
      | cons c cs ih =>
        intro W o h
        rw [hearAll] at h ⊢
        split
        · rfl
        · rename_i h2; rw [if_neg h2] at h; exact ih _ _ h
    have : (parseL l).1 = op0 := by
      unfold parseL at e ⊢
      split
      · rfl
      · rename_i h1; rw [if_neg h1] at e
        split
        · rfl
        · rename_i h2; rw [if_neg h2] at e
          split
          · rfl
          · rename_i h3; rw [if_neg h3] at e
            split
            · rfl
            · rename_i h4; rw [if_neg h4] at e
              exact hz _ _ _ (by rw [e]; omega)
    rw [this]; exact bd_op0 0
theorem lineM_cases (o : Op38) (hk : ¬ kI o.k < 0) : lineM o = ([], 4) ∨ lineM o = (joinC 32 (wordsO o), 0) := by
  unfold lineM
  rw [if_neg hk]
  split
  · exact .inl rfl
  · split
    · exact .inl rfl
    · exact .inr rfl
theorem line_big {o : Op38} (hk : ¬ kI o.k < 0) (h : ¬ OpSmall o) : lineM o = ([], 4) := by
  rcases lineM_cases o hk with e | e
  · exact e
  · exact absurd (bd_small (parse38_bd (parse_line e))) h
theorem line_ref {o : Op38} (hk : ¬ kI o.k < 0) {l : List UInt8} (hl : l = joinC 32 (wordsO o)) : lineM o = if (parseL l).2 ≠ 0 ∨ sameO (parseL l).1 o = false then ([], 4) else (l, 0) := by
  subst hl
  by_cases h : (parseL (joinC 32 (wordsO o))).2 ≠ 0 ∨ sameO (parseL (joinC 32 (wordsO o))).1 o = false
  · rw [if_pos h]
    rcases lineM_cases o hk with e | e
    · exact e
    · have := parse_line e
      rw [this] at h
      rcases h with h | h
      · exact absurd rfl h
      · rw [sameO_iff.2 rfl] at h; cases h
  · rw [if_neg h]
    have h1 : (parseL (joinC 32 (wordsO o))).2 = 0 := Classical.byContradiction fun e => h (.inl e)
    have h2 : sameO (parseL (joinC 32 (wordsO o))).1 o = true := by
      cases e : sameO (parseL (joinC 32 (wordsO o))).1 o with
      | true => rfl
      | false => exact absurd (.inr e) h
    have e : parseL (joinC 32 (wordsO o)) = (o, 0) := Prod.ext (sameO_iff.1 h2) h1
    exact line_parse e
theorem form_ne : ∀ i : Fin 13, (formAt i.val).1 ≠ [] := by decide +kernel
theorem kind_no {k : Int} (h : (wdR k).1 = []) : kI k < 0 := by
  refine Classical.byContradiction fun hn => ?_
  obtain ⟨f1, f2⟩ := kI_at hn
  have g := (form_kind ⟨_, f2⟩).2.2
  dsimp only at g
  rw [f1] at g
  rw [g] at h
  exact form_ne ⟨_, f2⟩ h
theorem kind_yes {k : Int} (h : (wdR k).1 ≠ []) : ¬ kI k < 0 ∧ formAt (kI k).toNat = ((wdR k).1, k, (wdR k).2) ∧ (wdR k).2.length ≤ 8 := by
  have hk : 1 ≤ k ∧ k ≤ 13 := Classical.byContradiction fun e => h (by unfold wdR; rw [if_neg e])
  obtain ⟨i, rfl⟩ : ∃ i : Nat, k = (i : Int) + 1 := ⟨(k - 1).toNat, by omega⟩
  obtain ⟨_, e2, e3, e4, _⟩ := kind_form ⟨i, by omega⟩
  exact ⟨by dsimp only at e3; omega, e2, e4⟩
theorem join_snoc (c : UInt8) (x : List UInt8) : ∀ {ls : List (List UInt8)}, ls ≠ [] → joinC c (ls ++ [x]) = joinC c ls ++ c :: x
  | [p], _ => rfl
  | p :: q :: r, _ => by
    show p ++ c :: joinC c (q :: r ++ [x]) = (p ++ c :: joinC c (q :: r)) ++ c :: x
    rw [join_snoc c x (List.cons_ne_nil q r)]
    simp
theorem enc_u (o : Op38) : encR o 117 = numE ((o.bits : Nat) : Int) := by
  unfold encR numE
  rw [if_pos rfl, if_pos (by omega), Int.toNat_natCast]
theorem enc_rest {o : Op38} {c : UInt8} (hu : c ≠ 117) (hn : numK c = none) (ht : txtK c = none) (hb : ¬ c = 66) : encR o c = hexE o.b := by
  have hf : fid c = 4 := by unfold fid; rw [if_neg hu, hn, ht]; unfold rawK; rw [if_neg hb]
  unfold encR
  rw [if_neg hu, if_neg (by rw [hn]; exact Bool.noConfusion), hf]; rfl
theorem enc_len {o : Op38} (hs : OpSmall o) (c : UInt8) : (encR o c).length ≤ 20000 := by
  have := toldM_len o c
  rw [told_small hs c] at this
  exact this
theorem small38_ac {gs : List Nat} (n : Int) : ACp gs Tryd.prog 83 [.c (.int .i64 n)] (.c (.bool (smallN n))) := by
  refine ac_of 9 Tryd.func83 rfl rfl rfl (fun al w0 F0 St0 => ?_)
  refine jcr ?_
  refine jq jrm ?_
  refine seq_nil ?_
  refine jcr ?_
  refine jq jrm ?_
  refine jq jrc ?_
  refine jq jrm ?_
  refine jqsp 5 (fun g176 => ?_) fun g176 => ?_
  · refine jq jrm ?_
    refine jq jrc ?_
    refine jq jrpT ?_
    refine jq jrm ?_
    refine seq_nil ?_
    refine code_ret (jrt (hv := ?_))
    refine CEnt.bool ?_
    unfold smallN
    first | (simp_all; done) | (simp_all; omega) | grind
  refine jqs ?_
  refine jqs ?_
  refine jq jrpF ?_
  refine jq jrm ?_
  refine seq_nil ?_
  refine code_ret (jrt (hv := ?_))
  refine CEnt.bool ?_
  unfold smallN
  first | (simp_all; done) | (simp_all; omega) | grind
set_option maxHeartbeats 4000000 in
theorem rtext_ac (o : Op38) (ho : OpLe o 1000000) : ACp gs Tryd.prog 44 [opC o] (.tup 2 (fl [strC (lineM o).1, .c (.int .i64 ((lineM o).2 : Nat))])) := by
  obtain ⟨wd, hwd⟩ : ∃ w, w = (wdR o.k).1 := ⟨_, rfl⟩
  obtain ⟨L, hL⟩ : ∃ l, l = (wdR o.k).2 := ⟨_, rfl⟩
  refine ac_of 198 Tryd.func44 rfl rfl rfl (fun al w0 F0 St0 => ?_)
  refine jcr ?_
  refine jqe (jebx 14 fun p1 => ?_)
  refine jq jrm ?_
  refine jq jrm ?_
  refine seq_nil ?_
  refine code_ent (freeze 0 rfl) ?_
  refine code_ent (thawP 1 (m := 14) rfl rfl (by decide)) ?_
  refine code_ent (pick_ent (H' := []) [] (by decide) rfl) ?_
  refine code_ent (weaken 1 (.rp 14 (opF o)) (CEnt.rp fun j hj => by rcases j with _ | _ | _ | _ | _ | _ | _ | _ | _ | _ | _ | _ | _ | _ | j <;> first | exact CEnt.refl _ | omega)) ?_
  refine jcr ?_
  refine jq (jrfa 0 1 false) ?_
  first | refine jqo jrdo ?_ | refine jq jrdr ?_
  refine jqe (jecP (rword_ac o.k) ?_)
  refine jq jrm ?_
  refine jq jrx ?_
  refine jq jrx ?_
  refine jq jrm ?_
  refine jq jrm ?_
  refine seq_nil ?_
  refine jcs ?_
  refine jcr ?_
  refine jq jrm ?_
  refine jq jrcs ?_
  refine seq_nil ?_
  refine jcc (fun h181 => ?_) fun h181 => ?_
  · refine jcr ?_
    refine jq jrm ?_
    refine jq jrm ?_
    refine seq_nil ?_
    refine code_ret (jtr (jrt (hv := ?_)))
    have hn := kind_no (k := o.k) (by simpa using h181)
    have hb : lineM o = ([], 1) := by unfold lineM; rw [if_pos hn]
    rw [hb]; exact CEnt.refl _
  refine code_skip (jtn ?_)
  obtain ⟨hk, hfk, hl8⟩ := kind_yes (k := o.k) (by simpa using h181)
  refine jcr ?_
  refine jq (jrfa 5 9 true) ?_
  first | refine jqo (jrdoA 9) ?_ | refine jq (jrdrA 9) ?_
  refine jqe (jeal (n := 9) zr71 rfl fun p2 => ?_)
  refine jqm (jmstF 9 (msgF o) ?_ ?_)
  · exact (fun j hj => by rcases j with _ | _ | _ | _ | _ | _ | _ | _ | _ | j <;> first | exact CEnt.refl _ | omega)
  refine seq_nil ?_
  refine jcs ?_
  refine code_ent (freeze 0 rfl) ?_
  refine code_ent (thawP 6 (m := 9) rfl rfl (by decide)) ?_
  refine code_ent (pick_ent (H' := []) [] (by decide) rfl) ?_
  refine code_ent (weaken 6 (.rp 9 (msgF o)) (CEnt.rp fun j hj => by rcases j with _ | _ | _ | _ | _ | _ | _ | _ | _ | j <;> first | exact CEnt.refl _ | omega)) ?_
  refine jcr ?_
  refine jq (jrfa 1 1 false) ?_
  first | refine jqo jrdo ?_ | refine jq jrdr ?_
  refine jqe (jecP (small38_ac o.n) ?_)
  refine jq jrn ?_
  refine jq jrm ?_
  refine jqsp 24 (fun g185 => ?_) fun g185 => ?_
  · refine jqs ?_
    refine jqs ?_
    refine jqs ?_
    refine jqs ?_
    refine jq jrpT ?_
    refine jq jrm ?_
    refine jqs ?_
    refine jqs ?_
    refine jqs ?_
    refine jq jrpT ?_
    refine jq jrm ?_
    refine jqs ?_
    refine jqs ?_
    refine jqs ?_
    refine jqs ?_
    refine jq jrpT ?_
    refine jq jrm ?_
    refine jqs ?_
    refine jqs ?_
    refine jqs ?_
    refine jqs ?_
    refine jq jrpT ?_
    refine jq jrm ?_
    refine jqs ?_
    refine jqs ?_
    refine jqs ?_
    refine jqs ?_
    refine jq jrpT ?_
    refine jq jrm ?_
    refine jqs ?_
    refine jqs ?_
    refine jqs ?_
    refine jqs ?_
    refine jq jrpT ?_
    refine seq_nil ?_
    refine jcT ?_
    refine jcr ?_
    refine jq jrm ?_
    refine jq jrm ?_
    refine seq_nil ?_
    refine code_ret (jtr (jrt (hv := ?_)))
    rw [line_big hk (fun hs => by obtain ⟨⟨a1, a2, a3, a4, a5, a6, a7⟩, b1, b2, b3, b4, b5⟩ := hs; simp only [smallN, decide_eq_true_eq] at a1 a2 a4 a5 a6 a7; first | omega | (simp_all; done) | (simp_all; omega) | grind)]
    exact CEnt.refl _
  refine jq (jrfa 2 1 false) ?_
  first | refine jqo jrdo ?_ | refine jq jrdr ?_
  refine jqe (jecP (small38_ac o.m) ?_)
  refine jq jrn ?_
  refine jq jrpF ?_
  refine jq jrm ?_
  refine jqsp 30 (fun g185_2 => ?_) fun g185_2 => ?_
  · refine jqs ?_
    refine jqs ?_
    refine jqs ?_
    refine jq jrpT ?_
    refine jq jrm ?_
    refine jqs ?_
    refine jqs ?_
    refine jqs ?_
    refine jqs ?_
    refine jq jrpT ?_
    refine jq jrm ?_
    refine jqs ?_
    refine jqs ?_
    refine jqs ?_
    refine jqs ?_
    refine jq jrpT ?_
    refine jq jrm ?_
    refine jqs ?_
    refine jqs ?_
    refine jqs ?_
    refine jqs ?_
    refine jq jrpT ?_
    refine jq jrm ?_
    refine jqs ?_
    refine jqs ?_
    refine jqs ?_
    refine jqs ?_
    refine jq jrpT ?_
    refine seq_nil ?_
    refine jcT ?_
    refine jcr ?_
    refine jq jrm ?_
    refine jq jrm ?_
    refine seq_nil ?_
    refine code_ret (jtr (jrt (hv := ?_)))
    rw [line_big hk (fun hs => by obtain ⟨⟨a1, a2, a3, a4, a5, a6, a7⟩, b1, b2, b3, b4, b5⟩ := hs; simp only [smallN, decide_eq_true_eq] at a1 a2 a4 a5 a6 a7; first | omega | (simp_all; done) | (simp_all; omega) | grind)]
    exact CEnt.refl _
  refine jq (jrfa 3 1 false) ?_
  first | refine jqo jrdo ?_ | refine jq jrdr ?_
  refine jq jrc ?_
  refine jq jrpF ?_
  refine jq jrm ?_
  refine jqsp 35 (fun g185_3 => ?_) fun g185_3 => ?_
  · refine jqs ?_
    refine jqs ?_
    refine jqs ?_
    refine jqs ?_
    refine jq jrpT ?_
    refine jq jrm ?_
    refine jqs ?_
    refine jqs ?_
    refine jqs ?_
    refine jqs ?_
    refine jq jrpT ?_
    refine jq jrm ?_
    refine jqs ?_
    refine jqs ?_
    refine jqs ?_
    refine jqs ?_
    refine jq jrpT ?_
    refine jq jrm ?_
    refine jqs ?_
    refine jqs ?_
    refine jqs ?_
    refine jqs ?_
    refine jq jrpT ?_
    refine seq_nil ?_
    refine jcT ?_
    refine jcr ?_
    refine jq jrm ?_
    refine jq jrm ?_
    refine seq_nil ?_
    refine code_ret (jtr (jrt (hv := ?_)))
    rw [line_big hk (fun hs => by obtain ⟨⟨a1, a2, a3, a4, a5, a6, a7⟩, b1, b2, b3, b4, b5⟩ := hs; simp only [smallN, decide_eq_true_eq] at a1 a2 a4 a5 a6 a7; first | omega | (simp_all; done) | (simp_all; omega) | grind)]
    exact CEnt.refl _
  refine jq (jrfa 0 1 false) ?_
  first | refine jqo jrdo ?_ | refine jq jrdr ?_
  refine jqe (jecP (small38_ac o.what) ?_)
  refine jq jrn ?_
  refine jq jrpF ?_
  refine jq jrm ?_
  refine jqsp 41 (fun g185_4 => ?_) fun g185_4 => ?_
  · refine jqs ?_
    refine jqs ?_
    refine jqs ?_
    refine jqs ?_
    refine jq jrpT ?_
    refine jq jrm ?_
    refine jqs ?_
    refine jqs ?_
    refine jqs ?_
    refine jqs ?_
    refine jq jrpT ?_
    refine jq jrm ?_
    refine jqs ?_
    refine jqs ?_
    refine jqs ?_
    refine jqs ?_
    refine jq jrpT ?_
    refine seq_nil ?_
    refine jcT ?_
    refine jcr ?_
    refine jq jrm ?_
    refine jq jrm ?_
    refine seq_nil ?_
    refine code_ret (jtr (jrt (hv := ?_)))
    rw [line_big hk (fun hs => by obtain ⟨⟨a1, a2, a3, a4, a5, a6, a7⟩, b1, b2, b3, b4, b5⟩ := hs; simp only [smallN, decide_eq_true_eq] at a1 a2 a4 a5 a6 a7; first | omega | (simp_all; done) | (simp_all; omega) | grind)]
    exact CEnt.refl _
  refine jq (jrfa 2 1 false) ?_
  first | refine jqo jrdo ?_ | refine jq jrdr ?_
  refine jqe (jecP (small38_ac o.kd) ?_)
  refine jq jrn ?_
  refine jq jrpF ?_
  refine jq jrm ?_
  refine jqsp 47 (fun g185_5 => ?_) fun g185_5 => ?_
  · refine jqs ?_
    refine jqs ?_
    refine jqs ?_
    refine jqs ?_
    refine jq jrpT ?_
    refine jq jrm ?_
    refine jqs ?_
    refine jqs ?_
    refine jqs ?_
    refine jqs ?_
    refine jq jrpT ?_
    refine seq_nil ?_
    refine jcT ?_
    refine jcr ?_
    refine jq jrm ?_
    refine jq jrm ?_
    refine seq_nil ?_
    refine code_ret (jtr (jrt (hv := ?_)))
    rw [line_big hk (fun hs => by obtain ⟨⟨a1, a2, a3, a4, a5, a6, a7⟩, b1, b2, b3, b4, b5⟩ := hs; simp only [smallN, decide_eq_true_eq] at a1 a2 a4 a5 a6 a7; first | omega | (simp_all; done) | (simp_all; omega) | grind)]
    exact CEnt.refl _
  refine jq (jrfa 6 1 false) ?_
  first | refine jqo jrdo ?_ | refine jq jrdr ?_
  refine jqe (jecP (small38_ac o.mn) ?_)
  refine jq jrn ?_
  refine jq jrpF ?_
  refine jq jrm ?_
  refine jqsp 53 (fun g185_6 => ?_) fun g185_6 => ?_
  · refine jqs ?_
    refine jqs ?_
    refine jqs ?_
    refine jqs ?_
    refine jq jrpT ?_
    refine seq_nil ?_
    refine jcT ?_
    refine jcr ?_
    refine jq jrm ?_
    refine jq jrm ?_
    refine seq_nil ?_
    refine code_ret (jtr (jrt (hv := ?_)))
    rw [line_big hk (fun hs => by obtain ⟨⟨a1, a2, a3, a4, a5, a6, a7⟩, b1, b2, b3, b4, b5⟩ := hs; simp only [smallN, decide_eq_true_eq] at a1 a2 a4 a5 a6 a7; first | omega | (simp_all; done) | (simp_all; omega) | grind)]
    exact CEnt.refl _
  refine jq (jrfa 7 1 false) ?_
  first | refine jqo jrdo ?_ | refine jq jrdr ?_
  refine jqe (jecP (small38_ac o.mm) ?_)
  refine jq jrn ?_
  refine jq jrpF ?_
  refine seq_nil ?_
  refine jcc (fun h185 => ?_) fun h185 => ?_
  · refine jcr ?_
    refine jq jrm ?_
    refine jq jrm ?_
    refine seq_nil ?_
    refine code_ret (jtr (jrt (hv := ?_)))
    rw [line_big hk (fun hs => by obtain ⟨⟨a1, a2, a3, a4, a5, a6, a7⟩, b1, b2, b3, b4, b5⟩ := hs; simp only [smallN, decide_eq_true_eq] at a1 a2 a4 a5 a6 a7; first | omega | (simp_all; done) | (simp_all; omega) | grind)]
    exact CEnt.refl _
  refine code_skip (jtn ?_)
  refine jcs ?_
  refine jcr ?_
  refine jq (jrfa 4 1 false) ?_
  first | refine jqo jrdo ?_ | refine jq jrdr ?_
  refine jq jrl ?_
  refine jq jrc ?_
  refine jq jrm ?_
  refine jqsp 63 (fun g188 => ?_) fun g188 => ?_
  · refine jqs ?_
    refine jqs ?_
    refine jqs ?_
    refine jqs ?_
    refine jq jrpT ?_
    refine jq jrm ?_
    refine jqs ?_
    refine jqs ?_
    refine jqs ?_
    refine jqs ?_
    refine jq jrpT ?_
    refine jq jrm ?_
    refine jqs ?_
    refine jqs ?_
    refine jqs ?_
    refine jqs ?_
    refine jq jrpT ?_
    refine jq jrm ?_
    refine jqs ?_
    refine jqs ?_
    refine jqs ?_
    refine jqs ?_
    refine jq jrpT ?_
    refine seq_nil ?_
    refine jcT ?_
    refine jcr ?_
    refine jq jrm ?_
    refine jq jrm ?_
    refine seq_nil ?_
    refine code_ret (jtr (jrt (hv := ?_)))
    rw [line_big hk (fun hs => by obtain ⟨⟨a1, a2, a3, a4, a5, a6, a7⟩, b1, b2, b3, b4, b5⟩ := hs; simp only [smallN, decide_eq_true_eq] at a1 a2 a4 a5 a6 a7; first | omega | omega | (simp_all; done) | (simp_all; omega) | grind)]
    exact CEnt.refl _
  refine jq (jrfa 5 1 false) ?_
  first | refine jqo jrdo ?_ | refine jq jrdr ?_
  refine jq jrl ?_
  refine jq jrc ?_
  refine jq jrpF ?_
  refine jq jrm ?_
  refine jqsp 69 (fun g188_2 => ?_) fun g188_2 => ?_
  · refine jqs ?_
    refine jqs ?_
    refine jqs ?_
    refine jqs ?_
    refine jq jrpT ?_
    refine jq jrm ?_
    refine jqs ?_
    refine jqs ?_
    refine jqs ?_
    refine jqs ?_
    refine jq jrpT ?_
    refine jq jrm ?_
    refine jqs ?_
    refine jqs ?_
    refine jqs ?_
    refine jqs ?_
    refine jq jrpT ?_
    refine seq_nil ?_
    refine jcT ?_
    refine jcr ?_
    refine jq jrm ?_
    refine jq jrm ?_
    refine seq_nil ?_
    refine code_ret (jtr (jrt (hv := ?_)))
    rw [line_big hk (fun hs => by obtain ⟨⟨a1, a2, a3, a4, a5, a6, a7⟩, b1, b2, b3, b4, b5⟩ := hs; simp only [smallN, decide_eq_true_eq] at a1 a2 a4 a5 a6 a7; first | omega | omega | (simp_all; done) | (simp_all; omega) | grind)]
    exact CEnt.refl _
  refine jq (jrfa 3 1 false) ?_
  first | refine jqo jrdo ?_ | refine jq jrdr ?_
  refine jq jrls ?_
  refine jq jrc ?_
  refine jq jrpF ?_
  refine jq jrm ?_
  refine jqsp 75 (fun g188_3 => ?_) fun g188_3 => ?_
  · refine jqs ?_
    refine jqs ?_
    refine jqs ?_
    refine jqs ?_
    refine jq jrpT ?_
    refine jq jrm ?_
    refine jqs ?_
    refine jqs ?_
    refine jqs ?_
    refine jqs ?_
    refine jq jrpT ?_
    refine seq_nil ?_
    refine jcT ?_
    refine jcr ?_
    refine jq jrm ?_
    refine jq jrm ?_
    refine seq_nil ?_
    refine code_ret (jtr (jrt (hv := ?_)))
    rw [line_big hk (fun hs => by obtain ⟨⟨a1, a2, a3, a4, a5, a6, a7⟩, b1, b2, b3, b4, b5⟩ := hs; simp only [smallN, decide_eq_true_eq] at a1 a2 a4 a5 a6 a7; first | omega | omega | (simp_all; done) | (simp_all; omega) | grind)]
    exact CEnt.refl _
  refine jq (jrfa 4 1 false) ?_
  first | refine jqo jrdo ?_ | refine jq jrdr ?_
  refine jq jrls ?_
  refine jq jrc ?_
  refine jq jrpF ?_
  refine jq jrm ?_
  refine jqsp 81 (fun g188_4 => ?_) fun g188_4 => ?_
  · refine jqs ?_
    refine jqs ?_
    refine jqs ?_
    refine jqs ?_
    refine jq jrpT ?_
    refine seq_nil ?_
    refine jcT ?_
    refine jcr ?_
    refine jq jrm ?_
    refine jq jrm ?_
    refine seq_nil ?_
    refine code_ret (jtr (jrt (hv := ?_)))
    rw [line_big hk (fun hs => by obtain ⟨⟨a1, a2, a3, a4, a5, a6, a7⟩, b1, b2, b3, b4, b5⟩ := hs; simp only [smallN, decide_eq_true_eq] at a1 a2 a4 a5 a6 a7; first | omega | omega | (simp_all; done) | (simp_all; omega) | grind)]
    exact CEnt.refl _
  refine jq (jrfa 8 1 false) ?_
  first | refine jqo jrdo ?_ | refine jq jrdr ?_
  refine jq jrls ?_
  refine jq jrc ?_
  refine jq jrpF ?_
  refine seq_nil ?_
  refine jcc (fun h188 => ?_) fun h188 => ?_
  · refine jcr ?_
    refine jq jrm ?_
    refine jq jrm ?_
    refine seq_nil ?_
    refine code_ret (jtr (jrt (hv := ?_)))
    rw [line_big hk (fun hs => by obtain ⟨⟨a1, a2, a3, a4, a5, a6, a7⟩, b1, b2, b3, b4, b5⟩ := hs; simp only [smallN, decide_eq_true_eq] at a1 a2 a4 a5 a6 a7; first | omega | omega | (simp_all; done) | (simp_all; omega) | grind)]
    exact CEnt.refl _
  refine code_skip (jtn ?_)
  refine jcs ?_
  refine jcr ?_
  refine jq jrm ?_
  refine seq_nil ?_
  refine code_block ?_
  have hs : OpSmall o := by
    unfold OpSmall smallN
    simp only [decide_eq_true_eq]
    first | (refine ⟨⟨?_, ?_, ?_, ?_, ?_, ?_, ?_⟩, ?_, ?_, ?_, ?_, ?_⟩ <;> omega) | (simp_all; done) | (simp_all; omega)
  obtain ⟨⟨a1, a2, a3, a4, a5, a6, a7⟩, b1, b2, b3, b4, b5⟩ := id hs
  simp only [smallN, decide_eq_true_eq] at a1 a2 a4 a5 a6 a7
  have hw8 : wd.length ≤ 8 := by
    obtain ⟨_, f2⟩ := kI_at hk
    have := (form_lines ⟨_, f2⟩).2
    dsimp only at this
    rw [hfk] at this
    rw [hwd]; exact this
  have hL8 : L.length ≤ 8 := by rw [hL]; exact hl8
  refine code_ent (weaken 5 (strC L) (CEnt.strL hL.symm)) ?_
  refine l_loop (α := Nat × List UInt8) [4, 7, 87, 88, 89, 90, 91, 92, 93, 94, 95, 96, 97, 98, 99, 100, 101, 102, 103, 104, 105, 106, 107, 108, 109, 110, 111, 112, 113, 114, 115, 116, 117, 118, 119, 120, 121, 122, 123, 124, 125, 126, 127, 128, 129, 130, 131, 132, 133, 134, 135, 136, 137, 138, 139, 140, 141, 142, 143, 144, 145, 146, 147, 148, 149, 150, 151, 152, 153, 154, 155, 156, 157, 158, 159, 160, 161, 162, 163, 164, 165, 166, 167, 168, 169, 170, 171, 172, 173, 174, 175, 176, 177, 178, 179, 180, 181, 182, 183] (fun (i, l) => [(7, .c (.int .i64 (i : Nat))), (4, strC l)]) (fun _ => []) (fun (i, l) => i ≤ L.length ∧ l = joinC 32 (wd :: (L.map (encR o)).take i)) (fun (i, l) => L.length - i) ((0, wd)) ?_ (fun _ => rfl) ?_ ?_ ?_
  · exact ⟨Nat.zero_le _, rfl⟩
  · exact .cons (CEnt.refl _) (.cons (CEnt.strL hwd.symm) .nil)
  · exact .nil
  · rintro ⟨i, l⟩ ⟨(hi : i ≤ L.length), hl⟩
    have hjl := join_len (c := 32) (m := 20000) (ls := wd :: (L.map (encR o)).take i) (fun p hp => by
        rcases List.mem_cons.1 hp with rfl | hp
        · omega
        · obtain ⟨c, hc, rfl⟩ := List.mem_map.1 (List.mem_of_mem_take hp)
          exact enc_len hs c)
    rw [← hl, List.length_cons, List.length_take, List.length_map] at hjl
    have hll : l.length ≤ 200000 := by omega
    have n0 := numE_len (n := o.n) (by omega) (by omega)
    have n1 := numE_len (n := o.m) (by omega) (by omega)
    have n2 := numE_len (n := (o.bits : Nat)) (by omega) (by omega)
    have n3 := numE_len (n := o.what) (by omega) (by omega)
    have n4 := numE_len (n := o.kd) (by omega) (by omega)
    have n5 := numE_len (n := o.mn) (by omega) (by omega)
    have n6 := numE_len (n := o.mm) (by omega) (by omega)
    have x0 := hexE_len o.sp
    have x1 := hexE_len o.nm
    have x2 := hexE_len o.tx
    have x3 := hexE_len o.mb
    have x4 := hexE_len o.b
    refine jcs ?_
    refine jcr ?_
    refine jq jrm ?_
    refine jq jrm ?_
    refine jq jrls ?_
    refine jq jrc ?_
    refine seq_nil ?_
    refine jcc (fun h191 => ?_) fun h191 => ?_
    rotate_left
    · refine code_exit (jte (jte (jbx (jtn ?_))))
      have hiL : i = L.length := by omega
      rw [hiL, List.take_of_length_le (by rw [List.length_map]; omega)] at hl
      have hlw : l = joinC 32 (wordsO o) := by
        rw [hl]; unfold wordsO; rw [hfk, ← hL, ← hwd]
        congr 2
        exact List.map_congr_left fun c _ => by rw [told_small hs c]
      have href := line_ref hk hlw
      refine jcr ?_
      refine jq jrm ?_
      refine jqe (jecP (rparse38_ac l (by omega)) ?_)
      refine jq jrm ?_
      refine jq jrx ?_
      refine jq jrx ?_
      refine jqe (jeal (n := 14) zr73 rfl fun p3 => ?_)
      refine jqm (jmstF 14 (opF (parseL l).1) ?_ ?_)
      · exact (fun j hj => by rcases j with _ | _ | _ | _ | _ | _ | _ | _ | _ | _ | _ | _ | _ | _ | j <;> first | exact CEnt.refl _ | omega)
      refine jq jrm ?_
      refine seq_nil ?_
      refine jcs ?_
      refine jcr ?_
      refine jq jrm ?_
      refine jq jrc ?_
      refine jq jrm ?_
      refine jqsp 191 (fun g221 => ?_) fun g221 => ?_
      · refine jqs ?_
        refine jqs ?_
        refine jqs ?_
        refine jqs ?_
        refine jq jrpT ?_
        refine seq_nil ?_
        refine jcT ?_
        refine jcr ?_
        refine jq jrm ?_
        refine jq jrm ?_
        refine seq_nil ?_
        refine code_ret (jtr (jrt (hv := ?_)))
        rw [href, if_pos (by first | (simp_all; done) | grind)]
        exact CEnt.refl _
      first | refine jqo (jrdoA 14) ?_ | refine jq (jrdrA 14) ?_
      first | refine jqo (jrdoA 14) ?_ | refine jq (jrdrA 14) ?_
      refine jqe (jecP (rsame38_ac (parseL l).1 o) ?_ (ho := rfl) (he := (.cons (se rfl (CEnt.agg rfl fun j hj => CEnt.of_eq (by rw [Nat.zero_add]))) (.cons (se rfl (CEnt.refl _)) .nil))))
      refine jq jrn ?_
      refine jq jrpF ?_
      refine seq_nil ?_
      refine jcc (fun h221 => ?_) fun h221 => ?_
      · refine jcr ?_
        refine jq jrm ?_
        refine jq jrm ?_
        refine seq_nil ?_
        refine code_ret (jtr (jrt (hv := ?_)))
        rw [href, if_pos (by first | (simp_all; done) | grind)]
        exact CEnt.refl _
      refine code_skip (jtn ?_)
      refine jcr ?_
      refine jq jrm ?_
      refine jq jrm ?_
      refine jq jrm ?_
      refine seq_nil ?_
      refine code_ret (jrt (hv := ?_))
      rw [href, if_neg (by first | (simp_all; done) | grind)]
      exact CEnt.refl _
    refine code_skip (jtn ?_)
    refine code_join (α := List UInt8) [4, 93, 94, 95, 96, 97, 98, 99, 100, 101, 102, 103, 104, 105, 106, 107, 108, 109, 110, 111, 112, 113, 114, 115, 116, 117, 118, 119, 120, 121, 122, 123, 124, 125, 126, 127, 128, 129, 130, 131, 132, 133, 134, 135, 136, 137, 138, 139, 140, 141, 142, 143, 144, 145, 146, 147, 148, 149, 150, 151, 152, 153, 154, 155, 156, 157, 158, 159, 160, 161, 162, 163, 164, 165, 166, 167, 168, 169, 170, 171, 172, 173, 174, 175, 176, 177, 178, 179, 180, 181, 182, 183] (fun x => [(4, strC x)]) (fun _ => []) (fun x => x = l ++ [32] ++ encR o (L.getD i 0)) (fun _ => rfl) ?_ ?_
    · refine code_block ?_
      refine jcr ?_
      refine jq jrm ?_
      refine jq (jras (hS := by first | omega | (simp only [List.length_cons, List.length_nil]; omega))) ?_
      refine jq jrm ?_
      refine seq_nil ?_
      refine jcr ?_
      refine jq jrm ?_
      refine jq jrm ?_
      refine jq (jrix (i := i) (hz := by first | omega | (simp only [List.length_append, List.length_cons, List.length_nil]; omega))) ?_
      refine seq_nil ?_
      refine code_block ?_
      refine jcr ?_
      refine jq jrc ?_
      refine jq jrm ?_
      refine seq_nil ?_
      refine jcc (fun h194 => ?_) fun h194 => ?_
      · refine jcg ?_
        refine jq jrm ?_
        refine jq (jrfa 1 1 false) ?_
        first | refine jqo (jrdo (hn := by first | omega | (simp only [List.length_append, List.length_cons, List.length_nil]; omega))) ?_ | refine jq (jrdr (hn := by first | omega | (simp only [List.length_append, List.length_cons, List.length_nil]; omega))) ?_
        refine jqe (jecP (rnumeral_ac o.n (by omega) (by omega)) ?_)
        refine jq (jras (hS := by first | omega | (simp only [List.length_append, List.length_cons, List.length_nil]; omega))) ?_
        refine jq jrm ?_
        refine seq_nil ?_
        refine jbn (jbn (jtn ?_))
        refine jjend (_) ?_
        · rw [show L.getD i 0 = 110 from u8_of h194 rfl]; rfl
      refine jcr ?_
      refine jq jrc ?_
      refine jq jrm ?_
      refine seq_nil ?_
      refine jcc (fun h196 => ?_) fun h196 => ?_
      · refine jcg ?_
        refine jq jrm ?_
        refine jq (jrfa 2 1 false) ?_
        first | refine jqo (jrdo (hn := by first | omega | (simp only [List.length_append, List.length_cons, List.length_nil]; omega))) ?_ | refine jq (jrdr (hn := by first | omega | (simp only [List.length_append, List.length_cons, List.length_nil]; omega))) ?_
        refine jqe (jecP (rnumeral_ac o.m (by omega) (by omega)) ?_)
        refine jq (jras (hS := by first | omega | (simp only [List.length_append, List.length_cons, List.length_nil]; omega))) ?_
        refine jq jrm ?_
        refine seq_nil ?_
        refine jbn (jbn (jtn ?_))
        refine jjend (_) ?_
        · rw [show L.getD i 0 = 109 from u8_of h196 rfl]; rfl
      refine jcr ?_
      refine jq jrc ?_
      refine jq jrm ?_
      refine seq_nil ?_
      refine jcc (fun h198 => ?_) fun h198 => ?_
      · refine jcg ?_
        refine jq jrm ?_
        refine jq (jrfa 3 1 false) ?_
        first | refine jqo (jrdo (hn := by first | omega | (simp only [List.length_append, List.length_cons, List.length_nil]; omega))) ?_ | refine jq (jrdr (hn := by first | omega | (simp only [List.length_append, List.length_cons, List.length_nil]; omega))) ?_
        first | refine jq (jrv .u64 .i64 (hS := by show _ ∧ _; first | omega | (simp only [List.length_append, List.length_cons, List.length_nil]; omega))) ?_ | refine jq (jrvW .u64 .i64) ?_
        refine jqe (jecP (rnumeral_ac (o.bits : Nat) (by omega) (by omega)) ?_)
        refine jq (jras (hS := by first | omega | (simp only [List.length_append, List.length_cons, List.length_nil]; omega))) ?_
        refine jq jrm ?_
        refine seq_nil ?_
        refine jbn (jbn (jtn ?_))
        refine jjend (_) ?_
        · rw [show L.getD i 0 = 117 from u8_of h198 rfl, enc_u]
      refine jcr ?_
      refine jq jrc ?_
      refine jq jrm ?_
      refine seq_nil ?_
      refine jcc (fun h200 => ?_) fun h200 => ?_
      · refine jcg ?_
        refine jq jrm ?_
        refine jq (jrfa 0 1 false) ?_
        first | refine jqo (jrdo (hn := by first | omega | (simp only [List.length_append, List.length_cons, List.length_nil]; omega))) ?_ | refine jq (jrdr (hn := by first | omega | (simp only [List.length_append, List.length_cons, List.length_nil]; omega))) ?_
        refine jqe (jecP (rnumeral_ac o.what (by omega) (by omega)) ?_)
        refine jq (jras (hS := by first | omega | (simp only [List.length_append, List.length_cons, List.length_nil]; omega))) ?_
        refine jq jrm ?_
        refine seq_nil ?_
        refine jbn (jbn (jtn ?_))
        refine jjend (_) ?_
        · rw [show L.getD i 0 = 87 from u8_of h200 rfl]; rfl
      refine jcr ?_
      refine jq jrc ?_
      refine jq jrm ?_
      refine seq_nil ?_
      refine jcc (fun h202 => ?_) fun h202 => ?_
      · refine jcg ?_
        refine jq jrm ?_
        refine jq (jrfa 2 1 false) ?_
        first | refine jqo (jrdo (hn := by first | omega | (simp only [List.length_append, List.length_cons, List.length_nil]; omega))) ?_ | refine jq (jrdr (hn := by first | omega | (simp only [List.length_append, List.length_cons, List.length_nil]; omega))) ?_
        refine jqe (jecP (rnumeral_ac o.kd (by omega) (by omega)) ?_)
        refine jq (jras (hS := by first | omega | (simp only [List.length_append, List.length_cons, List.length_nil]; omega))) ?_
        refine jq jrm ?_
        refine seq_nil ?_
        refine jbn (jbn (jtn ?_))
        refine jjend (_) ?_
        · rw [show L.getD i 0 = 75 from u8_of h202 rfl]; rfl
      refine jcr ?_
      refine jq jrc ?_
      refine jq jrm ?_
      refine seq_nil ?_
      refine jcc (fun h204 => ?_) fun h204 => ?_
      · refine jcg ?_
        refine jq jrm ?_
        refine jq (jrfa 6 1 false) ?_
        first | refine jqo (jrdo (hn := by first | omega | (simp only [List.length_append, List.length_cons, List.length_nil]; omega))) ?_ | refine jq (jrdr (hn := by first | omega | (simp only [List.length_append, List.length_cons, List.length_nil]; omega))) ?_
        refine jqe (jecP (rnumeral_ac o.mn (by omega) (by omega)) ?_)
        refine jq (jras (hS := by first | omega | (simp only [List.length_append, List.length_cons, List.length_nil]; omega))) ?_
        refine jq jrm ?_
        refine seq_nil ?_
        refine jbn (jbn (jtn ?_))
        refine jjend (_) ?_
        · rw [show L.getD i 0 = 78 from u8_of h204 rfl]; rfl
      refine jcr ?_
      refine jq jrc ?_
      refine jq jrm ?_
      refine seq_nil ?_
      refine jcc (fun h206 => ?_) fun h206 => ?_
      · refine jcg ?_
        refine jq jrm ?_
        refine jq (jrfa 7 1 false) ?_
        first | refine jqo (jrdo (hn := by first | omega | (simp only [List.length_append, List.length_cons, List.length_nil]; omega))) ?_ | refine jq (jrdr (hn := by first | omega | (simp only [List.length_append, List.length_cons, List.length_nil]; omega))) ?_
        refine jqe (jecP (rnumeral_ac o.mm (by omega) (by omega)) ?_)
        refine jq (jras (hS := by first | omega | (simp only [List.length_append, List.length_cons, List.length_nil]; omega))) ?_
        refine jq jrm ?_
        refine seq_nil ?_
        refine jbn (jbn (jtn ?_))
        refine jjend (_) ?_
        · rw [show L.getD i 0 = 77 from u8_of h206 rfl]; rfl
      refine jcr ?_
      refine jq jrc ?_
      refine jq jrm ?_
      refine seq_nil ?_
      refine jcc (fun h208 => ?_) fun h208 => ?_
      · refine jcg ?_
        refine jq jrm ?_
        refine jq (jrfa 3 1 false) ?_
        first | refine jqo (jrdo (hn := by first | omega | (simp only [List.length_append, List.length_cons, List.length_nil]; omega))) ?_ | refine jq (jrdr (hn := by first | omega | (simp only [List.length_append, List.length_cons, List.length_nil]; omega))) ?_
        refine jqe (jecv ?_ (hS := by first | omega | (simp only [List.length_append, List.length_cons, List.length_nil]; omega)))
        refine jqe (jecP (rhex_ac o.sp (by omega)) ?_)
        refine jq (jras (hS := by first | omega | (simp only [List.length_append, List.length_cons, List.length_nil]; omega))) ?_
        refine jq jrm ?_
        refine seq_nil ?_
        refine jbn (jbn (jtn ?_))
        refine jjend (_) ?_
        · rw [show L.getD i 0 = 83 from u8_of h208 rfl]; rfl
      refine jcr ?_
      refine jq jrc ?_
      refine jq jrm ?_
      refine seq_nil ?_
      refine jcc (fun h210 => ?_) fun h210 => ?_
      · refine jcg ?_
        refine jq jrm ?_
        refine jq (jrfa 4 1 false) ?_
        first | refine jqo (jrdo (hn := by first | omega | (simp only [List.length_append, List.length_cons, List.length_nil]; omega))) ?_ | refine jq (jrdr (hn := by first | omega | (simp only [List.length_append, List.length_cons, List.length_nil]; omega))) ?_
        refine jqe (jecv ?_ (hS := by first | omega | (simp only [List.length_append, List.length_cons, List.length_nil]; omega)))
        refine jqe (jecP (rhex_ac o.nm (by omega)) ?_)
        refine jq (jras (hS := by first | omega | (simp only [List.length_append, List.length_cons, List.length_nil]; omega))) ?_
        refine jq jrm ?_
        refine seq_nil ?_
        refine jbn (jbn (jtn ?_))
        refine jjend (_) ?_
        · rw [show L.getD i 0 = 65 from u8_of h210 rfl]; rfl
      refine jcr ?_
      refine jq jrc ?_
      refine jq jrm ?_
      refine seq_nil ?_
      refine jcc (fun h212 => ?_) fun h212 => ?_
      · refine jcg ?_
        refine jq jrm ?_
        refine jq (jrfa 8 1 false) ?_
        first | refine jqo (jrdo (hn := by first | omega | (simp only [List.length_append, List.length_cons, List.length_nil]; omega))) ?_ | refine jq (jrdr (hn := by first | omega | (simp only [List.length_append, List.length_cons, List.length_nil]; omega))) ?_
        refine jqe (jecv ?_ (hS := by first | omega | (simp only [List.length_append, List.length_cons, List.length_nil]; omega)))
        refine jqe (jecP (rhex_ac o.tx (by omega)) ?_)
        refine jq (jras (hS := by first | omega | (simp only [List.length_append, List.length_cons, List.length_nil]; omega))) ?_
        refine jq jrm ?_
        refine seq_nil ?_
        refine jbn (jbn (jtn ?_))
        refine jjend (_) ?_
        · rw [show L.getD i 0 = 84 from u8_of h212 rfl]; rfl
      refine jcr ?_
      refine jq jrc ?_
      refine jq jrm ?_
      refine seq_nil ?_
      refine jcc (fun h214 => ?_) fun h214 => ?_
      · refine jcg ?_
        refine jq jrm ?_
        refine jq (jrfa 5 1 false) ?_
        first | refine jqo (jrdo (hn := by first | omega | (simp only [List.length_append, List.length_cons, List.length_nil]; omega))) ?_ | refine jq (jrdr (hn := by first | omega | (simp only [List.length_append, List.length_cons, List.length_nil]; omega))) ?_
        refine jqe (jecP (rhex_ac o.mb (by omega)) ?_)
        refine jq (jras (hS := by first | omega | (simp only [List.length_append, List.length_cons, List.length_nil]; omega))) ?_
        refine jq jrm ?_
        refine seq_nil ?_
        refine jbn (jbn (jtn ?_))
        refine jjend (_) ?_
        · rw [show L.getD i 0 = 66 from u8_of h214 rfl]; rfl
      refine jcg ?_
      refine jq jrm ?_
      refine jq (jrfa 4 1 false) ?_
      first | refine jqo (jrdo (hn := by first | omega | (simp only [List.length_append, List.length_cons, List.length_nil]; omega))) ?_ | refine jq (jrdr (hn := by first | omega | (simp only [List.length_append, List.length_cons, List.length_nil]; omega))) ?_
      refine jqe (jecP (rhex_ac o.b (by omega)) ?_)
      refine jq (jras (hS := by first | omega | (simp only [List.length_append, List.length_cons, List.length_nil]; omega))) ?_
      refine jq jrm ?_
      refine seq_nil ?_
      refine jbn (jbn (jtn ?_))
      refine jjend (_) ?_
      · rw [enc_rest (fun e => h198 (by rw [e]; rfl)) (numK_not (u8_no h194 rfl) (u8_no h196 rfl) (u8_no h200 rfl) (u8_no h202 rfl) (u8_no h204 rfl) (u8_no h206 rfl)) (txtK_not (u8_no h208 rfl) (u8_no h210 rfl) (u8_no h212 rfl)) (u8_no h214 rfl)]
    · rintro x hx
      refine jcg ?_
      refine jq jrm ?_
      refine jq jra ?_
      refine jq jrm ?_
      refine seq_nil ?_
      refine jtn ?_
      refine jlend ((i + 1, x)) ?_ ?_ (h5 := ?_)
      · exact ⟨by omega, by rw [hx, hl, tk_get [] (by rw [List.length_map]; omega), ← List.cons_append, join_snoc 32 _ (List.cons_ne_nil _ _), List.append_assoc]; congr 2; simp [List.getD, show i < L.length by omega]⟩
      · show L.length - (i + 1) < L.length - i; omega
      · exact .cons (CEnt.int (by omega)) (.cons (CEnt.refl _) .nil)
end Am
end Go.Proofs.YtdfjiodkmhpfkaaDoor

/- LinesWords: numbers and bytes as words. -/
namespace Go.Proofs.YtdfjiodkmhpfkaaDoor
set_option linter.unusedVariables false
namespace Am
variable {gs : List Nat} [OkG gs]
open Go.RowKit
set_option maxRecDepth 100000

def exOp : Op38 := { op0 with k := 5, n := 1, m := 0 }
theorem parse_ex : (parseL [108, 111, 115, 101, 32, 49, 32, 48]).2 = 0 ∧ (parseL [108, 111, 115, 101, 32, 49, 32, 48]).1.k = 5 ∧ (parseL [108, 111, 115, 101, 32, 49, 32, 48]).1.n = 1 ∧ (parseL [108, 111, 115, 101, 32, 49, 32, 48]).1.m = 0 := by decide +kernel
theorem alive38_ac : ACp gs Tryd.prog 30 [] (.c (.bool true)) := by
  refine ac_of 24 Tryd.func30 rfl rfl rfl (fun al w0 F0 St0 => ?_)
  refine jcr ?_
  refine jq jrm ?_
  refine seq_nil ?_
  refine jcr ?_
  refine jqe (jecP (parse38_ac [108, 111, 115, 101, 32, 49, 32, 48] (by decide)) ?_)
  refine jq jrm ?_
  refine jq jrx ?_
  refine jq jrx ?_
  refine jqe (jeal (n := 14) zr68 rfl fun p1 => ?_)
  refine jqm (jmstF 14 (opF (parseL [108, 111, 115, 101, 32, 49, 32, 48]).1) ?_ ?_)
  · exact (fun j hj => by rcases j with _ | _ | _ | _ | _ | _ | _ | _ | _ | _ | _ | _ | _ | _ | j <;> first | exact CEnt.refl _ | omega)
  refine jq jrm ?_
  refine seq_nil ?_
  refine jcr ?_
  refine jq jrm ?_
  refine jq jre ?_
  refine jq jrm ?_
  refine jqsp 9 (fun g17 => ?_) fun g17 => ?_
  rotate_left
  · refine jqs ?_
    refine jqs ?_
    refine jqs ?_
    refine jq jrpF ?_
    refine jq jrm ?_
    refine jqs ?_
    refine jqs ?_
    refine jqs ?_
    refine jq jrpF ?_
    refine jq jrm ?_
    refine jqs ?_
    refine jqs ?_
    refine jqs ?_
    refine jq jrpF ?_
    refine jq jrm ?_
    refine seq_nil ?_
    refine code_ret (jrt (hv := ?_))
    refine CEnt.bool ?_
    obtain ⟨h1, h2, h3, h4⟩ := parse_ex
    first | (simp_all; done) | (rw [h1, h2, h3, h4]; rfl)
  refine jq (jrfa 0 1 false) ?_
  first | refine jqo jrdo ?_ | refine jq jrdr ?_
  refine jq jrc ?_
  refine jq jrpT ?_
  refine jq jrm ?_
  refine jqsp 14 (fun g17_2 => ?_) fun g17_2 => ?_
  rotate_left
  · refine jqs ?_
    refine jqs ?_
    refine jqs ?_
    refine jq jrpF ?_
    refine jq jrm ?_
    refine jqs ?_
    refine jqs ?_
    refine jqs ?_
    refine jq jrpF ?_
    refine jq jrm ?_
    refine seq_nil ?_
    refine code_ret (jrt (hv := ?_))
    refine CEnt.bool ?_
    obtain ⟨h1, h2, h3, h4⟩ := parse_ex
    first | (simp_all; done) | (rw [h1, h2, h3, h4]; rfl)
  refine jq (jrfa 1 1 false) ?_
  first | refine jqo jrdo ?_ | refine jq jrdr ?_
  refine jq jrc ?_
  refine jq jrpT ?_
  refine jq jrm ?_
  refine jqsp 19 (fun g17_3 => ?_) fun g17_3 => ?_
  · refine jq (jrfa 2 1 false) ?_
    first | refine jqo jrdo ?_ | refine jq jrdr ?_
    refine jq jrc ?_
    refine jq jrpT ?_
    refine jq jrm ?_
    refine seq_nil ?_
    refine code_ret (jrt (hv := ?_))
    refine CEnt.bool ?_
    obtain ⟨h1, h2, h3, h4⟩ := parse_ex
    first | (simp_all; done) | (rw [h1, h2, h3, h4]; rfl)
  refine jqs ?_
  refine jqs ?_
  refine jqs ?_
  refine jq jrpF ?_
  refine jq jrm ?_
  refine seq_nil ?_
  refine code_ret (jrt (hv := ?_))
  refine CEnt.bool ?_
  obtain ⟨h1, h2, h3, h4⟩ := parse_ex
  first | (simp_all; done) | (rw [h1, h2, h3, h4]; rfl)
theorem numD_bad {s : List UInt8} (h : (numD s).2 ≠ 0) : numD s = (0, 4) := by
  have key : ∀ l : List UInt8, (figM l).2 ≠ 0 → figM l = (0, 4) := fun l hl => by
    have e := figM_ref l
    by_cases d : 1 ≤ l.length ∧ l.length ≤ 18 ∧ l.all isFig = true ∧ dec (valD l) = l
    · rw [if_pos d] at e; rw [e] at hl; exact absurd rfl hl
    · rw [if_neg d] at e; exact e
  unfold numD at h ⊢
  by_cases h0 : s.getD 0 0 = 45
  · rw [if_pos h0] at h ⊢
    by_cases hb : (figM (s.drop 1)).2 ≠ 0 ∨ (figM (s.drop 1)).1 = 0
    · rw [if_pos hb]
    · rw [if_neg hb] at h; exact absurd rfl h
  · rw [if_neg h0] at h ⊢
    rw [key s h]; rfl
theorem numD_bd (s : List UInt8) : (numD s).2 ≤ 28 := by
  by_cases h : (numD s).2 = 0
  · omega
  · rw [numD_bad h]; decide
theorem hexD_bd (s : List UInt8) : (hexD s).2 ≤ 28 := by
  unfold hexD
  split
  · exact Nat.zero_le _
  · split
    · exact Nat.le_of_ble_eq_true rfl
    · split
      · exact Nat.le_of_ble_eq_true rfl
      · exact Nat.zero_le _
theorem numD_same (n : Int) (h : (numD (numE n)).2 = 0) : (numD (numE n)).1 = n := by
  have e : numD (numE n) = ((numD (numE n)).1, 0) := by rw [← h]
  exact numD_back e
set_option maxHeartbeats 1000000 in
theorem linesWords_ac (n : Int) (h1 : -9223372036854775808 ≤ n) (h2 : n ≤ 9223372036854775807) (b s : List UInt8) : ACp gs Tryd.prog 5 [.c (.int .i64 n), bsC b, strC s] (.c (.bool true)) := by
  have hl1 := numE_len h1 h2
  have hl2 := hexE_len b
  have hb1 := numD_bd s
  have hb2 := hexD_bd s
  have hsm := numD_same n
  have hn0 := numD_bad (s := numE n)
  have hn1 := numD_bad (s := s)
  have hE : b.length ≤ 8192 → hexD (hexE b) = (b, 0) := hexD_E
  refine ac_of 131 Tryd.func5 rfl rfl rfl (fun al w0 F0 St0 => ?_)
  refine jcr ?_
  refine jq jrm ?_
  refine seq_nil ?_
  refine jcs ?_
  refine jcr ?_
  refine jqe (jecP alive38_ac ?_)
  refine jq jrn ?_
  refine seq_nil ?_
  refine jcc (fun h27 => ?_) fun h27 => ?_
  · exfalso; simp at h27
  refine code_skip (jtn ?_)
  refine jcs ?_
  refine jcr ?_
  refine jq jrm ?_
  refine jq jrl ?_
  refine jq jrc ?_
  refine jq jrm ?_
  refine jqsp 24 (fun g30 => ?_) fun g30 => ?_
  · refine jqs ?_
    refine jqs ?_
    refine jqs ?_
    refine jq jrpT ?_
    refine seq_nil ?_
    refine jcT ?_
    refine jcr ?_
    refine jq jrm ?_
    refine seq_nil ?_
    refine code_ret (jtr (jrt (hv := CEnt.refl _)))
  refine jq jrm ?_
  refine jq jrls ?_
  refine jq jrc ?_
  refine jq jrpF ?_
  refine seq_nil ?_
  refine jcc (fun h30 => ?_) fun h30 => ?_
  · refine jcr ?_
    refine jq jrm ?_
    refine seq_nil ?_
    refine code_ret (jtr (jrt (hv := CEnt.refl _)))
  refine code_skip (jtn ?_)
  have hg : b.length ≤ 300 ∧ s.length ≤ 20000 := by omega
  have hEb := hE (by omega)
  refine jcr ?_
  refine jq jrm ?_
  refine jqe (jecP (numeral_ac n h1 h2) ?_)
  refine jq jrm ?_
  refine seq_nil ?_
  refine jcs ?_
  refine jcr ?_
  refine jq jrm ?_
  refine jq jrm ?_
  refine jqe (jecP (rnumeral_ac n h1 h2) ?_)
  refine jq jrcs ?_
  refine jq jrm ?_
  refine jqsp 35 (fun g34 => ?_) fun g34 => ?_
  · refine jqs ?_
    refine jqs ?_
    refine jqs ?_
    refine jqs ?_
    refine jqs ?_
    refine jq jrpT ?_
    refine seq_nil ?_
    refine jcT ?_
    refine jcr ?_
    refine jq jrm ?_
    refine seq_nil ?_
    refine code_ret (jtr (jrt (hv := ?_)))
    exfalso
    first | (simp_all; done) | grind
  refine jq jrm ?_
  refine jqe (jecP (hex38_ac b (by omega)) ?_)
  refine jq jrm ?_
  refine jqe (jecP (rhex_ac b (by omega)) ?_)
  refine jq jrcs ?_
  refine jq jrpF ?_
  refine seq_nil ?_
  refine jcc (fun h34 => ?_) fun h34 => ?_
  · refine jcr ?_
    refine jq jrm ?_
    refine seq_nil ?_
    refine code_ret (jtr (jrt (hv := ?_)))
    exfalso
    first | (simp_all; done) | grind
  refine code_skip (jtn ?_)
  refine jcr ?_
  refine jq jrm ?_
  refine jqe (jecP (number38_ac (numE n)) ?_)
  refine jq jrm ?_
  refine jq jrx ?_
  refine jq jrx ?_
  refine jq jrm ?_
  refine jq jrm ?_
  refine seq_nil ?_
  refine jcs ?_
  refine jcr ?_
  refine jq jrm ?_
  refine jqe (jecP (rnumber_ac (numE n) (by omega)) ?_)
  refine jq jrm ?_
  refine jq jrx ?_
  refine jq jrx ?_
  refine jq jrm ?_
  refine jq jrm ?_
  refine seq_nil ?_
  refine jcr ?_
  refine jq jrm ?_
  refine jq jre ?_
  refine jq jrm ?_
  refine jq jrcb ?_
  refine jq jrm ?_
  refine jqsp 56 (fun g38 => ?_) fun g38 => ?_
  · refine jqs ?_
    refine jqs ?_
    refine jqs ?_
    refine jqs ?_
    refine jqs ?_
    refine jqs ?_
    refine jqs ?_
    refine jqs ?_
    refine jqs ?_
    refine jqs ?_
    refine jqs ?_
    refine jq jrpT ?_
    refine seq_nil ?_
    refine jcT ?_
    refine jcr ?_
    refine jq jrm ?_
    refine seq_nil ?_
    refine code_ret (jtr (jrt (hv := ?_)))
    exfalso
    unfold numR at *
    by_cases hz : (numD (numE n)).2 = 0
    · have hs1 := hsm hz
      first | (simp_all; done) | grind
    · have hs1 := hn0 hz
      first | (simp_all; done) | grind
  refine jq jrm ?_
  refine jq jrm ?_
  refine jqsp 58 (fun g38_2 => ?_) fun g38_2 => ?_
  rotate_left
  · refine jqs ?_
    refine jqs ?_
    refine jqs ?_
    refine jqs ?_
    refine jqs ?_
    refine jqs ?_
    refine jqs ?_
    refine jqs ?_
    refine jq jrpF ?_
    refine jq jrpF ?_
    refine seq_nil ?_
    refine jcF ?_
    refine code_skip (jtn ?_)
    refine jcr ?_
    refine jq jrm ?_
    refine jqe (jecP (hex38_ac b (by omega)) ?_)
    refine jqe (jecP (bytes38_ac (hexE b) (by omega)) ?_)
    refine jq jrm ?_
    refine jq jrx ?_
    refine jq jrx ?_
    refine jq jrm ?_
    refine jq jrm ?_
    refine seq_nil ?_
    refine jcs ?_
    refine jcr ?_
    refine jq jrm ?_
    refine jq jre ?_
    refine jq jrm ?_
    refine jqsp 77 (fun g42 => ?_) fun g42 => ?_
    · refine jqs ?_
      refine jqs ?_
      refine jqs ?_
      refine jqs ?_
      refine jqs ?_
      refine jq jrpT ?_
      refine seq_nil ?_
      refine jcT ?_
      refine jcr ?_
      refine jq jrm ?_
      refine seq_nil ?_
      refine code_ret (jtr (jrt (hv := ?_)))
      exfalso
      rw [hEb] at *
      first | (simp_all; done) | grind
    refine jq jrm ?_
    first | refine jq jrbs ?_ | refine jqo jrbo ?_ | refine jq jrbn ?_
    refine jq jrm ?_
    first | refine jq jrbs ?_ | refine jqo jrbo ?_ | refine jq jrbn ?_
    refine jq jrcs ?_
    refine jq jrpF ?_
    refine seq_nil ?_
    refine jcc (fun h42 => ?_) fun h42 => ?_
    · refine jcr ?_
      refine jq jrm ?_
      refine seq_nil ?_
      refine code_ret (jtr (jrt (hv := ?_)))
      exfalso
      rw [hEb] at *
      first | (simp_all; done) | grind
    refine code_skip (jtn ?_)
    refine jcr ?_
    refine jq jrm ?_
    refine jqe (jecP (bytes38_ac s (by omega)) ?_)
    refine jq jrm ?_
    refine jq jrx ?_
    refine jq jrx ?_
    refine jq jrm ?_
    refine jq jrm ?_
    refine seq_nil ?_
    refine jcr ?_
    refine jq jrm ?_
    refine jqe (jecP (rbytes38_ac s (by omega)) ?_)
    refine jq jrm ?_
    refine jq jrx ?_
    refine jq jrx ?_
    refine jq jrm ?_
    refine jq jrm ?_
    refine seq_nil ?_
    refine jcs ?_
    refine jcr ?_
    refine jq jrm ?_
    first | refine jq jrbs ?_ | refine jqo jrbo ?_ | refine jq jrbn ?_
    refine jq jrm ?_
    first | refine jq jrbs ?_ | refine jqo jrbo ?_ | refine jq jrbn ?_
    refine jq jrcs ?_
    refine jq jrm ?_
    refine jqsp 99 (fun g47 => ?_) fun g47 => ?_
    · refine jqs ?_
      refine jqs ?_
      refine jqs ?_
      refine jqs ?_
      refine jq jrpT ?_
      refine seq_nil ?_
      refine jcT ?_
      refine jcr ?_
      refine jq jrm ?_
      refine seq_nil ?_
      refine code_ret (jtr (jrt (hv := ?_)))
      exfalso
      first | (simp_all; done) | grind
    refine jq jrm ?_
    refine jqe (jecP (num_ac (hexD s).2 hb2) ?_)
    refine jq jrm ?_
    refine jq jrc ?_
    refine jq jrpF ?_
    refine seq_nil ?_
    refine jcc (fun h47 => ?_) fun h47 => ?_
    · refine jcr ?_
      refine jq jrm ?_
      refine seq_nil ?_
      refine code_ret (jtr (jrt (hv := ?_)))
      exfalso
      first | (simp_all; done) | grind
    refine code_skip (jtn ?_)
    refine jcr ?_
    refine jq jrm ?_
    refine jqe (jecP (number38_ac s) ?_)
    refine jq jrm ?_
    refine jq jrx ?_
    refine jq jrx ?_
    refine jq jrm ?_
    refine jq jrm ?_
    refine seq_nil ?_
    refine jcr ?_
    refine jq jrm ?_
    refine jqe (jecP (rnumber_ac s (by omega)) ?_)
    refine jq jrm ?_
    refine jq jrx ?_
    refine jq jrx ?_
    refine jq jrm ?_
    refine jq jrm ?_
    refine seq_nil ?_
    refine jcs ?_
    refine jcr ?_
    refine jq jrm ?_
    refine jq jrn ?_
    refine seq_nil ?_
    refine jcc (fun h52 => ?_) fun h52 => ?_
    rotate_left
    · refine code_skip (jtn ?_)
      refine jcr ?_
      refine jq jrm ?_
      refine jq jre ?_
      refine jq jrm ?_
      refine jqsp 126 (fun g55 => ?_) fun g55 => ?_
      · refine jq jrm ?_
        refine jq jrm ?_
        refine jq jrc ?_
        refine jq jrpT ?_
        refine jq jrm ?_
        refine seq_nil ?_
        refine code_ret (jrt (hv := ?_))
        refine CEnt.bool ?_
        unfold numR at *
        first | (simp_all; done) | grind
      refine jqs ?_
      refine jqs ?_
      refine jqs ?_
      refine jq jrpF ?_
      refine jq jrm ?_
      refine seq_nil ?_
      refine code_ret (jrt (hv := ?_))
      refine CEnt.bool ?_
      unfold numR at *
      first | (simp_all; done) | grind
    refine jcr ?_
    refine jq jrm ?_
    refine jq jrc ?_
    refine jq jrm ?_
    refine jqsp 119 (fun g53 => ?_) fun g53 => ?_
    · refine jq jrm ?_
      refine jqe (jecP (num_ac (numD s).2 hb1) ?_)
      refine jq jrc ?_
      refine jq jrpT ?_
      refine jq jrm ?_
      refine seq_nil ?_
      refine code_ret (jtr (jrt (hv := ?_)))
      refine CEnt.bool ?_
      unfold numR at *
      have hs1 := hn1 (by first | (simp_all; done) | grind)
      first | (simp_all; done) | grind
    refine jqs ?_
    refine jqs ?_
    refine jqs ?_
    refine jq jrpF ?_
    refine jq jrm ?_
    refine seq_nil ?_
    refine code_ret (jtr (jrt (hv := ?_)))
    refine CEnt.bool ?_
    unfold numR at *
    have hs1 := hn1 (by first | (simp_all; done) | grind)
    first | (simp_all; done) | grind
  refine jq jrm ?_
  refine jq jrm ?_
  refine jq jrc ?_
  refine jq jrm ?_
  refine jqsp 62 (fun g38_3 => ?_) fun g38_3 => ?_
  · refine jqs ?_
    refine jqs ?_
    refine jqs ?_
    refine jq jrpT ?_
    refine jq jrpT ?_
    refine jq jrpF ?_
    refine seq_nil ?_
    refine jcT ?_
    refine jcr ?_
    refine jq jrm ?_
    refine seq_nil ?_
    refine code_ret (jtr (jrt (hv := ?_)))
    exfalso
    unfold numR at *
    by_cases hz : (numD (numE n)).2 = 0
    · have hs1 := hsm hz
      first | (simp_all; done) | grind
    · have hs1 := hn0 hz
      first | (simp_all; done) | grind
  refine jq jrm ?_
  refine jq jrm ?_
  refine jq jrc ?_
  refine jq jrpF ?_
  refine jq jrpT ?_
  refine jq jrpF ?_
  refine seq_nil ?_
  refine jcc (fun h38 => ?_) fun h38 => ?_
  · refine jcr ?_
    refine jq jrm ?_
    refine seq_nil ?_
    refine code_ret (jtr (jrt (hv := ?_)))
    exfalso
    unfold numR at *
    by_cases hz : (numD (numE n)).2 = 0
    · have hs1 := hsm hz
      first | (simp_all; done) | grind
    · have hs1 := hn0 hz
      first | (simp_all; done) | grind
  refine code_skip (jtn ?_)
  refine jcr ?_
  refine jq jrm ?_
  refine jqe (jecP (hex38_ac b (by omega)) ?_)
  refine jqe (jecP (bytes38_ac (hexE b) (by omega)) ?_)
  refine jq jrm ?_
  refine jq jrx ?_
  refine jq jrx ?_
  refine jq jrm ?_
  refine jq jrm ?_
  refine seq_nil ?_
  refine jcs ?_
  refine jcr ?_
  refine jq jrm ?_
  refine jq jre ?_
  refine jq jrm ?_
  refine jqsp 77 (fun g42 => ?_) fun g42 => ?_
  · refine jqs ?_
    refine jqs ?_
    refine jqs ?_
    refine jqs ?_
    refine jqs ?_
    refine jq jrpT ?_
    refine seq_nil ?_
    refine jcT ?_
    refine jcr ?_
    refine jq jrm ?_
    refine seq_nil ?_
    refine code_ret (jtr (jrt (hv := ?_)))
    exfalso
    rw [hEb] at *
    first | (simp_all; done) | grind
  refine jq jrm ?_
  first | refine jq jrbs ?_ | refine jqo jrbo ?_ | refine jq jrbn ?_
  refine jq jrm ?_
  first | refine jq jrbs ?_ | refine jqo jrbo ?_ | refine jq jrbn ?_
  refine jq jrcs ?_
  refine jq jrpF ?_
  refine seq_nil ?_
  refine jcc (fun h42 => ?_) fun h42 => ?_
  · refine jcr ?_
    refine jq jrm ?_
    refine seq_nil ?_
    refine code_ret (jtr (jrt (hv := ?_)))
    exfalso
    rw [hEb] at *
    first | (simp_all; done) | grind
  refine code_skip (jtn ?_)
  refine jcr ?_
  refine jq jrm ?_
  refine jqe (jecP (bytes38_ac s (by omega)) ?_)
  refine jq jrm ?_
  refine jq jrx ?_
  refine jq jrx ?_
  refine jq jrm ?_
  refine jq jrm ?_
  refine seq_nil ?_
  refine jcr ?_
  refine jq jrm ?_
  refine jqe (jecP (rbytes38_ac s (by omega)) ?_)
  refine jq jrm ?_
  refine jq jrx ?_
  refine jq jrx ?_
  refine jq jrm ?_
  refine jq jrm ?_
  refine seq_nil ?_
  refine jcs ?_
  refine jcr ?_
  refine jq jrm ?_
  first | refine jq jrbs ?_ | refine jqo jrbo ?_ | refine jq jrbn ?_
  refine jq jrm ?_
  first | refine jq jrbs ?_ | refine jqo jrbo ?_ | refine jq jrbn ?_
  refine jq jrcs ?_
  refine jq jrm ?_
  refine jqsp 99 (fun g47 => ?_) fun g47 => ?_
  · refine jqs ?_
    refine jqs ?_
    refine jqs ?_
    refine jqs ?_
    refine jq jrpT ?_
    refine seq_nil ?_
    refine jcT ?_
    refine jcr ?_
    refine jq jrm ?_
    refine seq_nil ?_
    refine code_ret (jtr (jrt (hv := ?_)))
    exfalso
    first | (simp_all; done) | grind
  refine jq jrm ?_
  refine jqe (jecP (num_ac (hexD s).2 hb2) ?_)
  refine jq jrm ?_
  refine jq jrc ?_
  refine jq jrpF ?_
  refine seq_nil ?_
  refine jcc (fun h47 => ?_) fun h47 => ?_
  · refine jcr ?_
    refine jq jrm ?_
    refine seq_nil ?_
    refine code_ret (jtr (jrt (hv := ?_)))
    exfalso
    first | (simp_all; done) | grind
  refine code_skip (jtn ?_)
  refine jcr ?_
  refine jq jrm ?_
  refine jqe (jecP (number38_ac s) ?_)
  refine jq jrm ?_
  refine jq jrx ?_
  refine jq jrx ?_
  refine jq jrm ?_
  refine jq jrm ?_
  refine seq_nil ?_
  refine jcr ?_
  refine jq jrm ?_
  refine jqe (jecP (rnumber_ac s (by omega)) ?_)
  refine jq jrm ?_
  refine jq jrx ?_
  refine jq jrx ?_
  refine jq jrm ?_
  refine jq jrm ?_
  refine seq_nil ?_
  refine jcs ?_
  refine jcr ?_
  refine jq jrm ?_
  refine jq jrn ?_
  refine seq_nil ?_
  refine jcc (fun h52 => ?_) fun h52 => ?_
  rotate_left
  · refine code_skip (jtn ?_)
    refine jcr ?_
    refine jq jrm ?_
    refine jq jre ?_
    refine jq jrm ?_
    refine jqsp 126 (fun g55 => ?_) fun g55 => ?_
    · refine jq jrm ?_
      refine jq jrm ?_
      refine jq jrc ?_
      refine jq jrpT ?_
      refine jq jrm ?_
      refine seq_nil ?_
      refine code_ret (jrt (hv := ?_))
      refine CEnt.bool ?_
      unfold numR at *
      first | (simp_all; done) | grind
    refine jqs ?_
    refine jqs ?_
    refine jqs ?_
    refine jq jrpF ?_
    refine jq jrm ?_
    refine seq_nil ?_
    refine code_ret (jrt (hv := ?_))
    refine CEnt.bool ?_
    unfold numR at *
    first | (simp_all; done) | grind
  refine jcr ?_
  refine jq jrm ?_
  refine jq jrc ?_
  refine jq jrm ?_
  refine jqsp 119 (fun g53 => ?_) fun g53 => ?_
  · refine jq jrm ?_
    refine jqe (jecP (num_ac (numD s).2 hb1) ?_)
    refine jq jrc ?_
    refine jq jrpT ?_
    refine jq jrm ?_
    refine seq_nil ?_
    refine code_ret (jtr (jrt (hv := ?_)))
    refine CEnt.bool ?_
    unfold numR at *
    have hs1 := hn1 (by first | (simp_all; done) | grind)
    first | (simp_all; done) | grind
  refine jqs ?_
  refine jqs ?_
  refine jqs ?_
  refine jq jrpF ?_
  refine jq jrm ?_
  refine seq_nil ?_
  refine code_ret (jtr (jrt (hv := ?_)))
  refine CEnt.bool ?_
  unfold numR at *
  have hs1 := hn1 (by first | (simp_all; done) | grind)
  first | (simp_all; done) | grind
end Am
end Go.Proofs.YtdfjiodkmhpfkaaDoor

/- LinesParse, LinesText: which lines are ops, which ops have lines. -/
namespace Go.Proofs.YtdfjiodkmhpfkaaDoor
set_option linter.unusedVariables false
namespace Am
variable {gs : List Nat} [OkG gs]
open Go.RowKit
set_option maxRecDepth 100000

theorem hear1_bd (o : Op38) (c : UInt8) (w : List UInt8) : (hear1 o c w).2 ≤ 28 := by
  rw [hear1_err]
  unfold valW
  split
  · rcases fig_err w with h | h
    · show (figM w).2 ≤ 28; omega
    · show (figM w).2 ≤ 28; rw [h]; decide
  · split
    · exact numD_bd w
    · exact hexD_bd w
theorem hearAll_bd : ∀ (L : List UInt8) (W : List (List UInt8)) (o : Op38), (hearAll o L W).2 ≤ 28
  | [], W, o => Nat.zero_le _
  | c :: cs, W, o => by
    rw [hearAll]
    split
    · exact hear1_bd o c _
    · exact hearAll_bd cs _ _
theorem parse_err_bd (l : List UInt8) : (parseL l).2 ≤ 28 := by
  unfold parseL
  split
  · exact Nat.le_of_ble_eq_true rfl
  · split
    · exact Nat.le_of_ble_eq_true rfl
    · split
      · exact Nat.le_of_ble_eq_true rfl
      · split
        · exact Nat.le_of_ble_eq_true rfl
        · exact hearAll_bd _ _ _
theorem line_err_bd (o : Op38) : (lineM o).2 ≤ 28 := by
  unfold lineM
  split
  · exact Nat.le_of_ble_eq_true rfl
  · split
    · exact Nat.le_of_ble_eq_true rfl
    · split
      · exact Nat.le_of_ble_eq_true rfl
      · exact Nat.zero_le _
theorem sameO_refl (o : Op38) : sameO o o = true := sameO_iff.2 rfl
theorem line_of {l : List UInt8} (h : (parseL l).2 = 0) : lineM (parseL l).1 = (l, 0) := line_parse (Prod.ext rfl h)
set_option maxHeartbeats 2000000 in
theorem linesParse_ac (line : List UInt8) : ACp gs Tryd.prog 6 [strC line] (.c (.bool true)) := by
  have he := parse_err_bd line
  have hsm := sameO_refl (parseL line).1
  have hlo := line_of (l := line)
  refine ac_of 60 Tryd.func6 rfl rfl rfl (fun al w0 F0 St0 => ?_)
  refine jcr ?_
  refine jq jrm ?_
  refine seq_nil ?_
  refine jcs ?_
  refine jcr ?_
  refine jqe (jecP alive38_ac ?_)
  refine jq jrn ?_
  refine seq_nil ?_
  refine jcc (fun h60 => ?_) fun h60 => ?_
  · exfalso; simp at h60
  refine code_skip (jtn ?_)
  refine jcs ?_
  refine jcr ?_
  refine jq jrm ?_
  refine jq jrls ?_
  refine jq jrc ?_
  refine seq_nil ?_
  refine jcc (fun h63 => ?_) fun h63 => ?_
  · refine jcr ?_
    refine jq jrm ?_
    refine seq_nil ?_
    refine code_ret (jtr (jrt (hv := CEnt.refl _)))
  refine code_skip (jtn ?_)
  refine jcr ?_
  refine jq jrm ?_
  refine jqe (jecP (parse38_ac line (by omega)) ?_)
  refine jq jrm ?_
  refine jq jrx ?_
  refine jq jrx ?_
  refine jqe (jeal (n := 14) zr68 rfl fun p1 => ?_)
  refine jqm (jmstF 14 (opF (parseL line).1) ?_ ?_)
  · exact (fun j hj => by rcases j with _ | _ | _ | _ | _ | _ | _ | _ | _ | _ | _ | _ | _ | _ | j <;> first | exact CEnt.refl _ | omega)
  refine jq jrm ?_
  refine seq_nil ?_
  refine jcr ?_
  refine jq jrm ?_
  refine jqe (jecP (rparse38_ac line (by omega)) ?_)
  refine jq jrm ?_
  refine jq jrx ?_
  refine jq jrx ?_
  refine jqe (jeal (n := 14) zr73 rfl fun p2 => ?_)
  refine jqm (jmstF 14 (opF (parseL line).1) ?_ ?_)
  · exact (fun j hj => by rcases j with _ | _ | _ | _ | _ | _ | _ | _ | _ | _ | _ | _ | _ | _ | j <;> first | exact CEnt.refl _ | omega)
  refine jq jrm ?_
  refine seq_nil ?_
  refine jcs ?_
  refine jcs ?_
  refine jcd (.rd 0 (.rd 2 (.one 1 (.rd 3 (.rd 4 (.rd 5 (.rd 7 (.one 6 (.one 8 (.rd 9 (.rd 10 .done))))))))))) ?_
  refine jyq jrm ?_
  refine jyq jrm ?_
  refine jye (jecP (num_ac (parseL line).2 he) ?_)
  refine jyq jrc ?_
  refine jyq jrm ?_
  refine jysp 29 (fun g68 => ?_) fun g68 => ?_
  · refine jys ?_
    refine jys ?_
    refine jys1 ?_
    refine jys1 ?_
    refine jys ?_
    refine jyq jrpT ?_
    refine jyd ?_
    refine jtn ?_
    refine jcT ?_
    refine jcr ?_
    refine jq jrm ?_
    refine seq_nil ?_
    refine code_ret (jtr (jrt (hv := ?_)))
    exfalso
    first | (simp_all; done) | grind
  first | refine jyo (jrdoA 14) ?_ | refine jyq (jrdrA 14) ?_
  first | refine jyo (jrdoA 14) ?_ | refine jyq (jrdrA 14) ?_
  refine jye (jecP (of38_ac (parseL line).1) ?_ (ho := rfl) (he := (.cons (se rfl (CEnt.agg rfl fun j hj => CEnt.of_eq (by rw [Nat.zero_add]))) .nil)))
  refine jye (jecP (rsame38_ac (parseL line).1 (parseL line).1) ?_ (ho := rfl) (he := (.cons (se rfl (CEnt.refl _)) (.cons (se rfl (CEnt.agg rfl fun j hj => CEnt.of_eq (by rw [Nat.zero_add]))) .nil))))
  refine jyq jrn ?_
  refine jyq jrpF ?_
  refine jyd ?_
  refine jtn ?_
  refine jcc (fun h68 => ?_) fun h68 => ?_
  · refine jcr ?_
    refine jq jrm ?_
    refine seq_nil ?_
    refine code_ret (jtr (jrt (hv := ?_)))
    exfalso
    first | (simp_all; done) | grind
  refine code_skip (jtn ?_)
  refine jcs ?_
  refine jcr ?_
  refine jq jrm ?_
  refine jq jrc ?_
  refine seq_nil ?_
  refine jcc (fun h71 => ?_) fun h71 => ?_
  · refine jcr ?_
    refine jq jrm ?_
    refine seq_nil ?_
    refine code_ret (jtr (jrt (hv := CEnt.refl _)))
  refine code_skip (jtn ?_)
  have hl := hlo (by first | (simp_all; done) | grind)
  refine jcr ?_
  first | refine jqo (jrdoA 14) ?_ | refine jq (jrdrA 14) ?_
  refine jqe (jecP (text_ac (parseL line).1 (bd_le bd_err)) ?_ (ho := rfl) (he := (.cons (se rfl (CEnt.agg rfl fun j hj => CEnt.of_eq (by rw [Nat.zero_add]))) .nil)))
  refine jq jrm ?_
  refine jq jrx ?_
  refine jq jrx ?_
  refine jq jrm ?_
  refine jq jrm ?_
  refine seq_nil ?_
  refine code_ent (weaken 7 (strC line) (CEnt.strL (by rw [hl]))) ?_
  refine jcr ?_
  refine jq jrm ?_
  refine jqe (jecP (parse38_ac line (by omega)) ?_)
  refine jq jrm ?_
  refine jq jrx ?_
  refine jq jrx ?_
  refine jqe (jeal (n := 14) zr68 rfl fun p3 => ?_)
  refine jqm (jmstF 14 (opF (parseL line).1) ?_ ?_)
  · exact (fun j hj => by rcases j with _ | _ | _ | _ | _ | _ | _ | _ | _ | _ | _ | _ | _ | _ | j <;> first | exact CEnt.refl _ | omega)
  refine jq jrm ?_
  refine seq_nil ?_
  refine jcs ?_
  refine jcd (.rd 0 (.rd 1 (.rd 2 (.rd 3 (.rd 4 (.rd 5 (.rd 6 (.rd 7 (.rd 9 (.one 8 (.one 10 (.rd 11 (.rd 12 .done))))))))))))) ?_
  refine jyq jrm ?_
  refine jyq jre ?_
  refine jyq jrm ?_
  refine jysp 50 (fun g76 => ?_) fun g76 => ?_
  rotate_left
  · refine jys ?_
    refine jys ?_
    refine jyq jrpF ?_
    refine jyq jrm ?_
    refine jys ?_
    refine jys ?_
    refine jys1 ?_
    refine jys1 ?_
    refine jyq jrpF ?_
    refine jyq jrm ?_
    refine jyd ?_
    refine jtn ?_
    refine code_ret (jrt (hv := ?_))
    refine CEnt.bool ?_
    first | (simp_all; done) | grind
  refine jyq jrm ?_
  refine jyq jre ?_
  refine jyq jrpT ?_
  refine jyq jrm ?_
  refine jysp 54 (fun g76_2 => ?_) fun g76_2 => ?_
  · first | refine jyo (jrdoA 14) ?_ | refine jyq (jrdrA 14) ?_
    first | refine jyo (jrdoA 14) ?_ | refine jyq (jrdrA 14) ?_
    refine jye (jecP (of38_ac (parseL line).1) ?_ (ho := rfl) (he := (.cons (se rfl (CEnt.agg rfl fun j hj => CEnt.of_eq (by rw [Nat.zero_add]))) .nil)))
    refine jye (jecP (rsame38_ac (parseL line).1 (parseL line).1) ?_ (ho := rfl) (he := (.cons (se rfl (CEnt.refl _)) (.cons (se rfl (CEnt.agg rfl fun j hj => CEnt.of_eq (by rw [Nat.zero_add]))) .nil))))
    refine jyq jrpT ?_
    refine jyq jrm ?_
    refine jyd ?_
    refine jtn ?_
    refine code_ret (jrt (hv := ?_))
    refine CEnt.bool ?_
    first | (simp_all; done) | grind
  refine jys ?_
  refine jys ?_
  refine jys1 ?_
  refine jys1 ?_
  refine jyq jrpF ?_
  refine jyq jrm ?_
  refine jyd ?_
  refine jtn ?_
  refine code_ret (jrt (hv := ?_))
  refine CEnt.bool ?_
  first | (simp_all; done) | grind
set_option maxHeartbeats 2000000 in
theorem linesText_ac (o : Op38) : ACp gs Tryd.prog 7 [opC o] (.c (.bool true)) := by
  have he := line_err_bd o
  have hsm := sameO_refl o
  have hpl : (lineM o).2 = 0 → parseL (lineM o).1 = (o, 0) := fun h => parse_line (Prod.ext rfl h)
  refine ac_of 83 Tryd.func7 rfl rfl rfl (fun al w0 F0 St0 => ?_)
  refine jcr ?_
  refine jqe (jebx 14 fun p1 => ?_)
  refine jq jrm ?_
  refine seq_nil ?_
  refine jcs ?_
  refine code_ent (blk_ent 0 (m := 14) (F := opF o) rfl (Nat.le_refl _) (fun _ => rfl) (fun j hj => by rcases j with _ | _ | _ | _ | _ | _ | _ | _ | _ | _ | _ | _ | _ | _ | j <;> first | exact CEnt.refl _ | omega)) ?_
  refine code_ent (freeze 0 rfl) ?_
  refine code_ent (thawP 1 (m := 14) rfl rfl (by decide)) ?_
  refine code_ent (pick_ent (H' := []) [] (by decide) rfl) ?_
  refine code_ent (weaken 1 (.rp 14 (opF o)) (CEnt.rp fun j hj => CEnt.of_eq (by rw [Nat.zero_add]))) ?_
  refine jcr ?_
  refine jqe (jecP alive38_ac ?_)
  refine jq jrn ?_
  refine seq_nil ?_
  refine jcc (fun h81 => ?_) fun h81 => ?_
  · exfalso; simp at h81
  refine code_skip (jtn ?_)
  refine jcr ?_
  refine jq (jrfa 5 9 true) ?_
  first | refine jqo (jrdoA 9) ?_ | refine jq (jrdrA 9) ?_
  refine jqe (jeal (n := 9) zr66 rfl fun p2 => ?_)
  refine jqm (jmstF 9 (msgF o) ?_ ?_)
  · exact (fun j hj => by rcases j with _ | _ | _ | _ | _ | _ | _ | _ | _ | j <;> first | exact CEnt.refl _ | omega)
  refine seq_nil ?_
  refine jcs ?_
  refine code_ent (freeze 0 rfl) ?_
  refine code_ent (thawP 3 (m := 9) rfl rfl (by decide)) ?_
  refine code_ent (pick_ent (H' := []) [] (by decide) rfl) ?_
  refine code_ent (weaken 3 (.rp 9 (msgF o)) (CEnt.rp fun j hj => CEnt.of_eq (by rw [Nat.zero_add]))) ?_
  refine jcr ?_
  refine jq (jrfa 4 1 false) ?_
  first | refine jqo jrdo ?_ | refine jq jrdr ?_
  refine jq jrl ?_
  refine jq jrc ?_
  refine jq jrm ?_
  refine jqsp 17 (fun g85 => ?_) fun g85 => ?_
  · refine jqs ?_
    refine jqs ?_
    refine jqs ?_
    refine jqs ?_
    refine jq jrpT ?_
    refine jq jrm ?_
    refine jqs ?_
    refine jqs ?_
    refine jqs ?_
    refine jqs ?_
    refine jq jrpT ?_
    refine jq jrm ?_
    refine jqs ?_
    refine jqs ?_
    refine jqs ?_
    refine jqs ?_
    refine jq jrpT ?_
    refine jq jrm ?_
    refine jqs ?_
    refine jqs ?_
    refine jqs ?_
    refine jqs ?_
    refine jq jrpT ?_
    refine jq jrm ?_
    refine jqs ?_
    refine jqs ?_
    refine jqs ?_
    refine jqs ?_
    refine jq jrpT ?_
    refine seq_nil ?_
    refine jcT ?_
    refine jcr ?_
    refine jq jrm ?_
    refine seq_nil ?_
    refine code_ret (jtr (jrt (hv := CEnt.refl _)))
  refine jq (jrfa 1 1 false) ?_
  first | refine jqo jrdo ?_ | refine jq jrdr ?_
  refine jq jrl ?_
  refine jq jrc ?_
  refine jq jrpF ?_
  refine jq jrm ?_
  refine jqsp 23 (fun g85_2 => ?_) fun g85_2 => ?_
  · refine jqs ?_
    refine jqs ?_
    refine jqs ?_
    refine jqs ?_
    refine jq jrpT ?_
    refine jq jrm ?_
    refine jqs ?_
    refine jqs ?_
    refine jqs ?_
    refine jqs ?_
    refine jq jrpT ?_
    refine jq jrm ?_
    refine jqs ?_
    refine jqs ?_
    refine jqs ?_
    refine jqs ?_
    refine jq jrpT ?_
    refine jq jrm ?_
    refine jqs ?_
    refine jqs ?_
    refine jqs ?_
    refine jqs ?_
    refine jq jrpT ?_
    refine seq_nil ?_
    refine jcT ?_
    refine jcr ?_
    refine jq jrm ?_
    refine seq_nil ?_
    refine code_ret (jtr (jrt (hv := CEnt.refl _)))
  refine jq (jrfa 3 1 false) ?_
  first | refine jqo jrdo ?_ | refine jq jrdr ?_
  refine jq jrls ?_
  refine jq jrc ?_
  refine jq jrpF ?_
  refine jq jrm ?_
  refine jqsp 29 (fun g85_3 => ?_) fun g85_3 => ?_
  · refine jqs ?_
    refine jqs ?_
    refine jqs ?_
    refine jqs ?_
    refine jq jrpT ?_
    refine jq jrm ?_
    refine jqs ?_
    refine jqs ?_
    refine jqs ?_
    refine jqs ?_
    refine jq jrpT ?_
    refine jq jrm ?_
    refine jqs ?_
    refine jqs ?_
    refine jqs ?_
    refine jqs ?_
    refine jq jrpT ?_
    refine seq_nil ?_
    refine jcT ?_
    refine jcr ?_
    refine jq jrm ?_
    refine seq_nil ?_
    refine code_ret (jtr (jrt (hv := CEnt.refl _)))
  refine jq (jrfa 4 1 false) ?_
  first | refine jqo jrdo ?_ | refine jq jrdr ?_
  refine jq jrls ?_
  refine jq jrc ?_
  refine jq jrpF ?_
  refine jq jrm ?_
  refine jqsp 35 (fun g85_4 => ?_) fun g85_4 => ?_
  · refine jqs ?_
    refine jqs ?_
    refine jqs ?_
    refine jqs ?_
    refine jq jrpT ?_
    refine jq jrm ?_
    refine jqs ?_
    refine jqs ?_
    refine jqs ?_
    refine jqs ?_
    refine jq jrpT ?_
    refine seq_nil ?_
    refine jcT ?_
    refine jcr ?_
    refine jq jrm ?_
    refine seq_nil ?_
    refine code_ret (jtr (jrt (hv := CEnt.refl _)))
  refine jq (jrfa 5 1 false) ?_
  first | refine jqo jrdo ?_ | refine jq jrdr ?_
  refine jq jrl ?_
  refine jq jrc ?_
  refine jq jrpF ?_
  refine jq jrm ?_
  refine jqsp 41 (fun g85_5 => ?_) fun g85_5 => ?_
  · refine jqs ?_
    refine jqs ?_
    refine jqs ?_
    refine jqs ?_
    refine jq jrpT ?_
    refine seq_nil ?_
    refine jcT ?_
    refine jcr ?_
    refine jq jrm ?_
    refine seq_nil ?_
    refine code_ret (jtr (jrt (hv := CEnt.refl _)))
  refine jq (jrfa 8 1 false) ?_
  first | refine jqo jrdo ?_ | refine jq jrdr ?_
  refine jq jrls ?_
  refine jq jrc ?_
  refine jq jrpF ?_
  refine seq_nil ?_
  refine jcc (fun h85 => ?_) fun h85 => ?_
  · refine jcr ?_
    refine jq jrm ?_
    refine seq_nil ?_
    refine code_ret (jtr (jrt (hv := CEnt.refl _)))
  refine code_skip (jtn ?_)
  have hle : o.b.length ≤ 9000 ∧ o.cred.length ≤ 100 ∧ o.sp.length ≤ 300 ∧ o.nm.length ≤ 300 ∧ o.mb.length ≤ 300 ∧ o.tx.length ≤ 300 := by omega
  have hOp : OpLe o 9000 := fun k => by
    obtain ⟨k1, k2, k3, k4, k5, k6⟩ := hle
    rcases k with _ | _ | _ | _ | _ | _ | _ | _ | _ | _ | _ | _ | _ | _ | k <;> first | exact Nat.zero_le _ | (show o.b.length ≤ 9000; omega) | (show o.cred.length ≤ 9000; omega) | (show o.sp.length ≤ 9000; omega) | (show o.nm.length ≤ 9000; omega) | (show o.mb.length ≤ 9000; omega) | (show o.tx.length ≤ 9000; omega)
  refine jcr ?_
  first | refine jqo (jrdoA 14) ?_ | refine jq (jrdrA 14) ?_
  refine jqe (jecP (text_ac o (fun k => by have := hOp k; omega)) ?_)
  refine jq jrm ?_
  refine jq jrx ?_
  refine jq jrx ?_
  refine jq jrm ?_
  refine jq jrm ?_
  refine seq_nil ?_
  refine jcr ?_
  first | refine jqo (jrdoA 14) ?_ | refine jq (jrdrA 14) ?_
  refine jqe (jecP (of38_ac o) ?_)
  refine jqe (jecP (rtext_ac o (fun k => by have := hOp k; omega)) ?_)
  refine jq jrm ?_
  refine jq jrx ?_
  refine jq jrx ?_
  refine jq jrm ?_
  refine jq jrm ?_
  refine seq_nil ?_
  refine jcs ?_
  refine jcr ?_
  refine jq jrm ?_
  refine jq jrm ?_
  refine jq jrcs ?_
  refine jq jrm ?_
  refine jqsp 61 (fun g90 => ?_) fun g90 => ?_
  · refine jqs ?_
    refine jqs ?_
    refine jqs ?_
    refine jqs ?_
    refine jq jrpT ?_
    refine seq_nil ?_
    refine jcT ?_
    refine jcr ?_
    refine jq jrm ?_
    refine seq_nil ?_
    refine code_ret (jtr (jrt (hv := ?_)))
    exfalso
    first | (simp_all; done) | grind
  refine jq jrm ?_
  refine jqe (jecP (num_ac (lineM o).2 he) ?_)
  refine jq jrm ?_
  refine jq jrc ?_
  refine jq jrpF ?_
  refine seq_nil ?_
  refine jcc (fun h90 => ?_) fun h90 => ?_
  · refine jcr ?_
    refine jq jrm ?_
    refine seq_nil ?_
    refine code_ret (jtr (jrt (hv := ?_)))
    exfalso
    first | (simp_all; done) | grind
  refine code_skip (jtn ?_)
  refine jcs ?_
  refine jcr ?_
  refine jq jrm ?_
  refine jq jrc ?_
  refine seq_nil ?_
  refine jcc (fun h93 => ?_) fun h93 => ?_
  · refine jcr ?_
    refine jq jrm ?_
    refine seq_nil ?_
    refine code_ret (jtr (jrt (hv := CEnt.refl _)))
  refine code_skip (jtn ?_)
  have hp := hpl (by first | (simp_all; done) | grind)
  have hll : (lineM o).1.length ≤ 40000 := by
    unfold parseL at hp
    by_cases h1 : 40000 < (lineM o).1.length
    · rw [if_pos h1] at hp; injection hp with _ hp; cases hp
    · omega
  refine jcr ?_
  refine jq jrm ?_
  refine jqe (jecP (parse38_ac (lineM o).1 (by omega)) ?_)
  refine jq jrm ?_
  refine jq jrx ?_
  refine jq jrx ?_
  refine jqe (jeal (n := 14) zr68 rfl fun p3 => ?_)
  refine jqm (jmstF 14 (opF o) ?_ ?_)
  · exact (fun j hj => by rw [hp]; rcases j with _ | _ | _ | _ | _ | _ | _ | _ | _ | _ | _ | _ | _ | _ | j <;> first | exact CEnt.refl _ | omega)
  refine jq jrm ?_
  refine seq_nil ?_
  refine jcs ?_
  refine jcd (.rd 0 (.rd 1 (.rd 2 (.rd 3 (.rd 5 (.one 4 (.one 6 (.one 7 (.rd 8 (.rd 9 .done)))))))))) ?_
  refine jyq jrm ?_
  refine jyq jre ?_
  refine jyq jrm ?_
  refine jysp 76 (fun g97 => ?_) fun g97 => ?_
  · first | refine jyo (jrdoA 14) ?_ | refine jyq (jrdrA 14) ?_
    first | refine jyo (jrdoA 14) ?_ | refine jyq (jrdrA 14) ?_
    refine jye (jecP (of38_ac o) ?_ (ho := rfl) (he := (.cons (se rfl (CEnt.agg rfl fun j hj => CEnt.of_eq (by rw [Nat.zero_add]))) .nil)))
    refine jye (jecP (of38_ac o) ?_)
    refine jye (jecP (rsame38_ac o o) ?_)
    refine jyq jrpT ?_
    refine jyq jrm ?_
    refine jyd ?_
    refine jtn ?_
    refine code_ret (jrt (hv := ?_))
    refine CEnt.bool ?_
    first | (simp_all; done) | grind
  refine jys ?_
  refine jys ?_
  refine jys1 ?_
  refine jys1 ?_
  refine jys1 ?_
  refine jyq jrpF ?_
  refine jyq jrm ?_
  refine jyd ?_
  refine jtn ?_
  refine code_ret (jrt (hv := ?_))
  refine CEnt.bool ?_
  first | (simp_all; done) | grind
end Am
end Go.Proofs.YtdfjiodkmhpfkaaDoor

/- From a row's list of sentinels ('laid') to what the walks ask: each variable's pointer, no two the same. -/
namespace Go.Proofs.YtdfjiodkmhpfkaaDoor
set_option linter.unusedVariables false
open Go.RowKit Go.ChangeShapes

theorem addr_ext {a b : Addr} (h1 : a.block = b.block) (h2 : a.off = b.off) (h3 : a.spot = none) (h4 : b.spot = none) : a = b := by
  cases a; cases b; simp_all

def isErr (x : String × DataW Unit) : Bool := match x.2 with
  | .iface nm (.ptr (.agg [.lit (.string _)])) => nm == "*errors.errorString"
  | _ => false
theorem isErr_out {x : String × DataW Unit} (h : isErr x = true) : ∃ text, x.2 = .iface "*errors.errorString" (.ptr (.agg [.lit (.string text)])) := by
  obtain ⟨n, d⟩ := x
  unfold isErr at h
  dsimp only at h ⊢
  split at h
  · exact ⟨_, by rw [eq_of_beq h]⟩
  · cases h

theorem laid_list {P : Program} {W : World} {nm : String} {ti tp te ts : TypeId} {ms : Array (String × TypeId)} {f : Field}
    (hi : P.underlying ti = some (.interface ms)) (hrow : ∀ u, P.typeName? 3 u = some nm → u = tp)
    (hp : P.underlying tp = some (.pointer te)) (he : P.underlying te = some (.struct #[f])) (hft : f.type = ts) (hfo : f.offset = 0) (hs : P.underlying ts = some .string) (hc : P.cellsOf te = 1) (hcs : P.cellsOf ts = 1) :
    ∀ (L : List (String × DataW Unit)) (ps : List MemPlace), DataW.LaidVars P W L ps →
      (∀ b off, MemPlace.cell b off ∈ ps → (∃ c t, W.heap[b]? = some (.cells c t (0, 0))) ∧ ∀ u v, W.cell? ⟨b, off, none⟩ = some (.iface u v) → Value.okWide P W .any 0 u v) → ps.Nodup →
      (∀ x ∈ L, isErr x = true → (∃ text, x.2 = .iface nm (.ptr (.agg [.lit (.string text)]))) ∧ ∀ g, P.globalNamed x.1 = some g → (P.globals[g]?).map (·.type) = some ti) →
      ∃ al : List Addr, al.length = (L.filter isErr).length ∧ al.Nodup ∧ (∀ a ∈ al, a.spot = none ∧ MemPlace.cell a.block a.off ∈ ps) ∧
        ∀ (i : Nat) (x : String × DataW Unit) (a : Addr), (L.filter isErr)[i]? = some x → al[i]? = some a → ∃ g, P.globalNamed x.1 = some g ∧ W.cell? ⟨g, 0, none⟩ = some (.iface tp (.pointer (some a)))
  | [], ps, _, _, _, _ => ⟨[], rfl, List.nodup_nil, by simp, by simp⟩
  | (n, d) :: r, ps, hv, hrows, hnd, hL => by
    obtain ⟨g, t, cs, fuel, p, q, hg, ht, hvar, hd, hrest, rfl⟩ := hv
    have hnq : q.Nodup := List.Nodup.sublist (List.sublist_append_right _ _) hnd
    obtain ⟨al, h1, h2, h3, h4⟩ := laid_list hi hrow hp he hft hfo hs hc hcs r q hrest (fun b off hm => hrows b off (List.mem_append_right _ hm)) hnq (fun x hx => hL x (List.mem_cons_of_mem _ hx))
    by_cases hE : isErr (n, d) = true
    case neg =>
      have hE : isErr (n, d) = false := by simpa using hE
      rw [List.filter_cons_of_neg (by simp [hE])]
      exact ⟨al, h1, h2, fun a ha => ⟨(h3 a ha).1, List.mem_append_right _ (h3 a ha).2⟩, h4⟩
    obtain ⟨⟨text, hx⟩, hty⟩ := hL (n, d) (List.mem_cons_self ..) hE
    rw [List.filter_cons_of_pos hE]
    simp only at hx
    subst hx
    obtain rfl := Option.some.inj ((hty g hg).symm.trans ht)
    obtain ⟨l⟩ := cs
    have hcell0 : ∀ v, l = [v] → W.cell? ⟨g, 0, none⟩ = some v := fun v e => by
      subst e
      simpa using World.var?_cell hg hvar 0
    obtain ⟨a, s, rfl, ha, _, _, rfl⟩ := errorString_of_trod hi hrow hp he hft hfo hs hc hcs hd (fun u v e => by
      simp only at e
      subst e
      exact (hrows g 0 (by simp [MemPlace.row])).2 u v (hcell0 _ rfl))
    have hsp : a.spot = none := World.cell?_spot ha
    have hpl : MemPlace.cell a.block a.off ∈ MemPlace.row a 1 := by simp [MemPlace.row]
    refine ⟨a :: al, by simp [h1], List.nodup_cons.2 ⟨fun hm => ?_, h2⟩, ?_, ?_⟩
    · have hq := (h3 a hm).2
      have := (List.nodup_append.1 hnd).2.2 (MemPlace.cell a.block a.off) (List.mem_append_right _ hpl) _ hq
      exact this rfl
    · intro b hb
      rcases List.mem_cons.1 hb with rfl | hb
      · exact ⟨hsp, List.mem_append_left _ (List.mem_append_right _ hpl)⟩
      · exact ⟨(h3 b hb).1, List.mem_append_right _ (h3 b hb).2⟩
    · intro i x b hi' hb
      match i, hi', hb with
      | 0, hi', hb =>
        simp only [List.getElem?_cons_zero, Option.some.injEq] at hi' hb
        subst hi'
        subst hb
        exact ⟨g, hg, hcell0 _ rfl⟩
      | i + 1, hi', hb => exact h4 i x b (by simpa using hi') (by simpa using hb)

theorem starRow (u : TypeId) (h : Tryd.prog.typeName? 3 u = some "*errors.errorString") : u = 197 := by
  have e : "*errors.errorString" = "*" ++ "errors.errorString" := by decide +kernel
  exact typeName_ptr_named (nm := "errors.errorString") (by rw [← e]; kernel_rfl) (by kernel_rfl) (by decide) u (by rw [← e]; exact h)
theorem cellsErr : Tryd.prog.cellsOf 224 = 1 := by kernel_rfl
theorem cellsStr : Tryd.prog.cellsOf 9 = 1 := by kernel_rfl

/-- what a row's list of sentinels gives -/
theorem sent_of_laid {W : World} {L : List (String × DataW Unit)} {g0 : List Nat} (h : laidMetH Tryd.prog L W) (h1 : (L.all fun x => x.2.handleName?.isNone) = true)
    (h3 : ((L.filter isErr).map fun x => Tryd.prog.globalNamed x.1) = (errG g0).map some) (h4 : ((errG g0).map fun g => (Tryd.prog.globals[g]?).map (·.type)) = List.replicate (errG g0).length (some 27))
    (ht : tabA ∈ lst g0 → tabB ∈ lst g0 → Lib.Utf8Tabs tabA tabB W) (hAB : ((lst g0).contains tabA) = ((lst g0).contains tabB)) : ∃ al, SentL W g0 al := by
  rw [MakeChecks.laidMetH_plain _ _ _ h1] at h
  obtain ⟨ps, hv, hnd, hrows⟩ := h
  have hlen : (L.filter isErr).length = (errG g0).length := by simpa using congrArg List.length h3
  have hgl : ∀ (i : Nat) (x : String × DataW Unit), (L.filter isErr)[i]? = some x → ∃ g, (errG g0)[i]? = some g ∧ Tryd.prog.globalNamed x.1 = some g := by
    intro i x hx
    have := congrArg (fun l => l[i]?) h3
    simp only [List.getElem?_map, hx, Option.map_some] at this
    obtain ⟨g, hg, e⟩ := Option.map_eq_some_iff.1 this.symm
    exact ⟨g, hg, e.symm⟩
  obtain ⟨al, l1, l2, l3, l4⟩ := laid_list Tryd.underlying27 starRow Tryd.underlying197 Tryd.underlying224 rfl rfl Tryd.underlying9 cellsErr cellsStr L ps hv hrows hnd
    (fun x hx hE => ⟨isErr_out hE, fun g hg => by
      obtain ⟨i, hi⟩ := List.mem_iff_getElem?.1 (List.mem_filter.2 ⟨hx, hE⟩)
      obtain ⟨g', hg', e⟩ := hgl i x hi
      obtain rfl := Option.some.inj (e.symm.trans hg)
      have := congrArg (fun l => l[i]?) h4
      simp only [List.getElem?_map, hg', Option.map_some] at this
      have hlt : i < (errG g0).length := (List.getElem?_eq_some_iff.1 hg').1
      rw [List.getElem?_replicate, if_pos hlt] at this
      exact Option.some.inj this⟩)
  have hvar : ∀ i g, (errG g0)[i]? = some g → W.cell? ⟨g, 0, none⟩ = some (ev al (i + 1)) := by
    intro i g hg
    have hlt : i < (errG g0).length := (List.getElem?_eq_some_iff.1 hg).1
    obtain ⟨x, hx⟩ : ∃ x, (L.filter isErr)[i]? = some x := ⟨(L.filter isErr)[i], List.getElem?_eq_getElem (by omega)⟩
    obtain ⟨a, ha⟩ : ∃ a, al[i]? = some a := ⟨al[i], List.getElem?_eq_getElem (by omega)⟩
    obtain ⟨g', hg', e⟩ := hgl i x hx
    obtain rfl := Option.some.inj (hg.symm.trans hg')
    obtain ⟨g2, e2, hc⟩ := l4 i x a hx ha
    obtain rfl := Option.some.inj (e.symm.trans e2)
    rw [hc]
    simp [ev, ha]
  refine ⟨al, by omega, fun i j g g' hi _ hj _ e => (List.getElem?_inj (by have := (List.getElem?_eq_some_iff.1 hi).1; omega) l2).1 e, fun i g hi _ => hvar i g hi, fun a ha => (hrows a.block a.off (l3 a ha).2).1, ht, fun g hg => ?_⟩
  by_cases hT : (Nat.beq g tabA || Nat.beq g tabB) = true
  · have hc : tabA ∈ lst g0 ∧ tabB ∈ lst g0 := by
      rcases Bool.or_eq_true_iff.1 hT with e | e
      · have := Nat.eq_of_beq_eq_true e
        subst this
        have h5 : (lst g0).contains tabA = true := List.contains_iff_mem.2 hg
        exact ⟨hg, List.contains_iff_mem.1 (hAB ▸ h5)⟩
      · have := Nat.eq_of_beq_eq_true e
        subst this
        have h5 : (lst g0).contains tabB = true := List.contains_iff_mem.2 hg
        exact ⟨List.contains_iff_mem.1 (hAB.symm ▸ h5), hg⟩
    have hU := ht hc.1 hc.2
    rcases Bool.or_eq_true_iff.1 hT with e | e
    · have := Nat.eq_of_beq_eq_true e
      subst this
      exact World.block_lt_of_cell? W _ (hU.1 0 (by decide))
    · have := Nat.eq_of_beq_eq_true e
      subst this
      exact World.block_lt_of_cell? W _ (hU.2 0 (by decide)).1
  · have hm : g ∈ errG g0 := List.mem_filter.2 ⟨(lst_mem.1 hg).1, by
      cases hb : (Nat.beq g tabA || Nat.beq g tabB) with
      | true => exact absurd hb hT
      | false => rfl⟩
    obtain ⟨i, hi⟩ := List.mem_iff_getElem?.1 hm
    exact World.block_lt_of_cell? W _ (hvar i g hi)
/-- the same errors at the numbers of the table: pos i says where number i + 1 stands in the row's list -/
theorem sent_part {W : World} {g1 gP : List Nat} {al1 : List Addr} (pos : List Nat) (h : SentL W g1 al1) (hlen : pos.length = (errG gP).length) (hpos : (pos.all fun p => Nat.blt p (errG g1).length) = true)
    (hat : ((List.range pos.length).all fun i => match (errG gP)[i]? with | some g => !(Nat.blt g 1000000000) || ((errG g1)[pos.getD i 0]? == some g && (lst g1).contains g) | none => true) = true)
    (hinj : ((List.range pos.length).all fun i => (List.range pos.length).all fun j => match (errG gP)[i]?, (errG gP)[j]? with | some g, some g' => !(Nat.blt g 1000000000) || !(Nat.blt g' 1000000000) || !(pos.getD i 0 == pos.getD j 0) || i == j | _, _ => true) = true)
    (hsub : ((lst gP).all fun g => (lst g1).contains g) = true) : SentL W gP (pos.map fun p => al1.getD p default) := by
  have hl1 : al1.length = (errG g1).length := h.len
  have hp : ∀ i, i < pos.length → pos.getD i 0 < al1.length := fun i hi => by
    have := List.all_eq_true.1 hpos (pos.getD i 0) (by simp [List.getD, hi])
    rw [hl1]
    exact Nat.le_of_ble_eq_true this
  have hget : ∀ i g, (errG gP)[i]? = some g → g ∈ lst gP → i < pos.length ∧ (errG g1)[pos.getD i 0]? = some g ∧ g ∈ lst g1 := fun i g hi hg => by
    have hlt : i < pos.length := by rw [hlen]; exact (List.getElem?_eq_some_iff.1 hi).1
    have h1 := List.all_eq_true.1 hat i (List.mem_range.2 hlt)
    simp only [hi] at h1
    have h2 : Nat.blt g 1000000000 = true := by have := (lst_mem.1 hg).2; simpa using this
    rw [h2] at h1
    simp only [Bool.not_true, Bool.false_or, Bool.and_eq_true, beq_iff_eq, List.contains_iff_mem] at h1
    exact ⟨hlt, h1⟩
  have hal : ∀ i, i < pos.length → (pos.map fun p => al1.getD p default)[i]? = al1[pos.getD i 0]? := fun i hi => by
    have := hp i hi
    simp [List.getD, hi] at this ⊢
    simp [this]
  refine ⟨by simp [hlen], fun i j g g' hi hg hj hg' e => ?_, fun i g hi hg => ?_, fun a ha => ?_, fun h1 h2 => h.tab ?_ ?_, fun g hg => h.lt g ?_⟩
  · obtain ⟨k1, k2, k3⟩ := hget i g hi hg
    obtain ⟨k4, k5, k6⟩ := hget j g' hj hg'
    rw [hal i k1, hal j k4] at e
    have e2 := h.nd _ _ g g' k2 k3 k5 k6 e
    have h1 := List.all_eq_true.1 (List.all_eq_true.1 hinj i (List.mem_range.2 k1)) j (List.mem_range.2 k4)
    simp only [hi, hj] at h1
    have h2 : Nat.blt g 1000000000 = true := by have := (lst_mem.1 hg).2; simpa using this
    have h3 : Nat.blt g' 1000000000 = true := by have := (lst_mem.1 hg').2; simpa using this
    rw [h2, h3, e2] at h1
    simpa using h1
  · obtain ⟨k1, k2, k3⟩ := hget i g hi hg
    rw [h.var _ g k2 k3]
    simp only [ev, Nat.add_one_ne_zero, if_false, Nat.add_sub_cancel]
    rw [hal i k1]
  · obtain ⟨p, hp1, rfl⟩ := List.mem_map.1 ha
    obtain ⟨i, hi⟩ := List.mem_iff_getElem?.1 hp1
    have hlt := (List.getElem?_eq_some_iff.1 hi).1
    have h1 := hp i hlt
    have e : pos.getD i 0 = p := by simp [List.getD, hi]
    rw [e] at h1
    refine h.row _ ?_
    simp [List.getD, h1]
  · exact List.contains_iff_mem.1 (List.all_eq_true.1 hsub _ h1)
  · exact List.contains_iff_mem.1 (List.all_eq_true.1 hsub _ h2)
  · exact List.contains_iff_mem.1 (List.all_eq_true.1 hsub _ hg)
theorem sent_nil (W : World) : SentL W [] [] := ⟨rfl, fun i j g g' h => by simp [errG] at h, fun i g h => by simp [errG] at h, fun a h => by simp at h, fun h => by simp [lst] at h, fun g h => by simp [lst] at h⟩

/-! ### arguments that come in -/
/-- a slice of bytes that came in -/
theorem bs_of_trod {P : Program} {W : World} {T E : TypeId} {ao : Option Addr} {len cap : Nat} {H : Type} {enc : TypeId × Value → H} {d : DataW H} {ps : List MemPlace}
    (hT : P.underlying T = some (.slice E)) (hE : P.underlying E = some (.int .u8)) (hc : P.cellsOf E = 1)
    (h : DataW.Trod enc P W 0 (fun _ => true) true T (.slice ao len cap) d ps) : ∃ l, Bs W (.slice ao len cap) l := by
  obtain ⟨fuel, hf⟩ := h
  rcases open_ints hT hE hc hf with ⟨hcs, _⟩ | ⟨x, l, c, zs, hcs, _, hl, hm, hz, _, hcell, hwz⟩
  · simp [Value.cells] at hcs
    obtain ⟨rfl, rfl, rfl⟩ := hcs
    exact ⟨[], Bs.nil W⟩
  · simp [Value.cells] at hcs
    obtain ⟨rfl, rfl, rfl⟩ := hcs
    have hz' : zs.length = cap := by simpa using hz
    have hlen : ((zs.take len).map fun z => UInt8.ofNat z.toNat).length = len := by simp; omega
    have key : ∀ i, i < len → W.cell? (x.add i) = some (.int .u8 ((((zs.take len).map fun z => UInt8.ofNat z.toNat).getD i 0).toNat : Nat)) := by
      intro i hi
      rw [hcell i (by omega)]
      have hzi : zs[i]? = some (zs.getD i 0) := by simp [List.getD, show i < zs.length by omega]
      have hwf := hwz (zs.getD i 0) (List.mem_of_getElem? hzi)
      have hb := bounds_u8 hwf
      have e : ((zs.take len).map fun z => UInt8.ofNat z.toNat).getD i 0 = UInt8.ofNat (zs.getD i 0).toNat := by
        simp [List.getD, List.getElem?_take, hi, show i < zs.length by omega]
      rw [e, UInt8.toNat_ofNat']
      congr 2
      omega
    obtain ⟨b, o, sp⟩ := x
    have hm' : cap ≤ 9223372036854775807 := by unfold maxLen at hm; omega
    by_cases h0 : len = 0
    · subst h0
      exact ⟨[], _, cap, rfl, by simp, hm', by simp, fun y hy => by
        cases hy
        exact ⟨fun h => by simp at h, fun i hi => by simp at hi⟩⟩
    · have hsp : sp = none := by
        have := World.cell?_spot (key 0 (by omega))
        simpa [Addr.add] using this
      subst hsp
      refine ⟨(zs.take len).map fun z => UInt8.ofNat z.toNat, ?_⟩
      have := Bs.of_cells (w := W) (b := b) (o := o) (cap := cap) (l := (zs.take len).map fun z => UInt8.ofNat z.toNat) (by omega) hm' (fun i hi => by
        have := key i (by omega)
        rwa [Addr.add_lit] at this)
      rwa [hlen] at this
end Go.Proofs.YtdfjiodkmhpfkaaDoor

/- The tables of unicode/utf8 out of a row's list, at a seat that has the tables' types and variables. -/
namespace Go.Proofs.YtdfjiodkmhpfkaaDoor
set_option linter.unusedVariables false
open Go.RowKit Go.ChangeShapes
def tabRen : Go.Shelf.Ren := ⟨fun n => n, fun | 5 => 5 | 119 => 191 | 138 => 193 | 139 => 194 | n => n, fun | 3 => 29 | 4 => 30 | n => n⟩
theorem tabTypes : U8Types Tryd.prog tabRen where
  t5 := Tryd.underlying5
  t119 := Tryd.underlying191
  t138 := Tryd.underlying193
  t139 := Tryd.underlying194
theorem tabExtra : U8Extra Tryd.prog tabRen where
  n3 := by kernel_rfl
  n4 := by kernel_rfl
  y3 := by kernel_rfl
  y4 := by kernel_rfl
  c5 := by kernel_rfl
  c119 := by kernel_rfl
  c138 := by kernel_rfl
theorem tabs_of_laid {W : World} {L : List (String × DataW Unit)} (h : laidMetH Tryd.prog L W) (h1 : (L.all fun x => x.2.handleName?.isNone) = true) {i j : Nat} (hi : L[i]? = some ("unicode/utf8.first", Lib.firstData)) (hj : L[j]? = some ("unicode/utf8.acceptRanges", Lib.acceptData)) : Lib.Utf8Tabs tabA tabB W := by
  rw [MakeChecks.laidMetH_plain _ _ _ h1] at h
  obtain ⟨ps, hv, hnd, hrows⟩ := h
  exact utf8Tabs_of_readsT (ρ := tabRen) tabTypes tabExtra (Lib.LaidVars_reads hv _ _ (List.mem_of_getElem? hi)) (Lib.LaidVars_reads hv _ _ (List.mem_of_getElem? hj))
end Go.Proofs.YtdfjiodkmhpfkaaDoor

/- Arguments that come in, by their types: from 'trod' to plain words. -/
namespace Go.Proofs.YtdfjiodkmhpfkaaDoor
set_option linter.unusedVariables false
open Go.RowKit Go.ChangeShapes
namespace Am
/-- values of type t lie in k cells and read as E x for an x with φ -/
def Opens (P : Program) (t : TypeId) (k : Nat) (D : Type) (φ : D → Prop) (E : D → Nat → CV) : Prop :=
  ∀ (H : Type) (enc : TypeId × Value → H) (W : World) (fuel : Nat) (cs : List Value) (y : DataW H × List MemPlace), DataW.trod enc P W 0 (fun _ => true) true fuel t cs = some y →
    cs.length = k ∧ ∃ x : D, φ x ∧ ∀ al j, j < k → RepC al (fun b => b < W.heap.size) W (E x j) (cs.getD j undef)
section
variable {P : Program} {t : TypeId}
theorem one_cell {al : List Addr} {W : World} {St : Nat → Prop} {c : Nat → CV} {v : Value} (h : RepC al St W (c 0) v) : ∀ j, j < 1 → RepC al St W (c j) ([v].getD j undef) := fun j hj => by
  obtain rfl : j = 0 := by omega
  exact h
theorem opens_i64 (hu : P.underlying t = some (.int .i64)) : Opens P t 1 Int (fun z => -9223372036854775808 ≤ z ∧ z ≤ 9223372036854775807) (fun z _ => .c (.int .i64 z)) := fun H enc W fuel cs y h => by
  obtain ⟨n, rfl, _, hw⟩ := DataW.trod_int hu h
  exact ⟨rfl, n, bounds_i64 hw, fun al => one_cell rfl⟩
theorem opens_int {k : IntKind} (hu : P.underlying t = some (.int k)) : Opens P t 1 Int (fun z => (Lit.int k z).wf = true) (fun z _ => .c (.int k z)) := fun H enc W fuel cs y h => by
  obtain ⟨n, rfl, _, hw⟩ := DataW.trod_int hu h
  exact ⟨rfl, n, hw, fun al => one_cell rfl⟩
theorem opens_u8 (hu : P.underlying t = some (.int .u8)) : Opens P t 1 UInt8 (fun _ => True) (fun z _ => .c (.int .u8 (z.toNat : Nat))) := fun H enc W fuel cs y h => by
  obtain ⟨n, rfl, _, hw⟩ := DataW.trod_int hu h
  have hb := bounds_u8 hw
  refine ⟨rfl, UInt8.ofNat n.toNat, trivial, fun al => one_cell ?_⟩
  show Value.int .u8 n = .int .u8 ((UInt8.ofNat n.toNat).toNat : Nat)
  rw [UInt8.toNat_ofNat']
  congr 1
  omega
theorem opens_bool (hu : P.underlying t = some .bool) : Opens P t 1 Bool (fun _ => True) (fun z _ => .c (.bool z)) := fun H enc W fuel cs y h => by
  obtain ⟨n, rfl, _⟩ := DataW.trod_bool hu h
  exact ⟨rfl, n, trivial, fun al => one_cell rfl⟩
theorem opens_str (hu : P.underlying t = some .string) : Opens P t 1 ByteArray (fun s => s.size ≤ maxLen) (fun z _ => .c (.string z)) := fun H enc W fuel cs y h => by
  obtain ⟨n, rfl, _, hs⟩ := DataW.trod_string hu h
  exact ⟨rfl, n, hs, fun al => one_cell rfl⟩
theorem opens_slice {e : TypeId} {k : Nat} {D : Type} {φ : D → Prop} {E : D → Nat → CV} (d0 : D) (ho : Opens P e k D φ E) (hu : P.underlying t = some (.slice e)) (hk : P.cellsOf e = k) (hk0 : 0 < k) :
    Opens P t 1 (List D) (fun l => l.length ≤ maxLen ∧ ∀ x ∈ l, φ x) (fun l _ => .rs k l.length fun i j => E (l.getD i d0) j) := fun H enc W fuel cs y h => by
  rcases DataW.trod_slice hu h with ⟨rfl, _⟩ | ⟨a, len, cap, elems, rest, n, _, rfl, _, _, hle, hm, hl, hel, _⟩
  · exact ⟨rfl, [], ⟨by simp, by simp⟩, fun al => one_cell ⟨none, 0, rfl, Nat.le_refl _, by decide, fun _ => rfl, fun _ h => by cases h⟩⟩
  · refine ⟨rfl, ?_⟩
    subst hk
    have key : ∀ i, ∃ x : D, i < len → φ x ∧ ∀ al j, j < P.cellsOf e → ∃ v, W.cell? (a.add (i * P.cellsOf e + j)) = some v ∧ RepC al (fun b => b < W.heap.size) W (E x j) v := fun i => by
      by_cases hi : i < len
      · have h1 := hel i hi
        rw [List.getElem?_eq_getElem (by omega)] at h1
        obtain ⟨cs, h2, h3⟩ := Option.bind_eq_some_iff.1 h1
        obtain ⟨_, h4, h5⟩ := World.cells?_some h2
        obtain ⟨_, x, hx, hr⟩ := ho H enc W n cs _ h3
        refine ⟨x, fun _ => ⟨hx, fun al j hj => ⟨cs.getD j undef, ?_, hr al j hj⟩⟩⟩
        have := h5 j hj
        rw [Addr.add_add] at this
        rw [this]
        simp [h4, hj]
      · exact ⟨d0, fun h => absurd h hi⟩
    obtain ⟨F, hF⟩ : ∃ F : Nat → D, ∀ i, i < len → φ (F i) ∧ ∀ al j, j < P.cellsOf e → ∃ v, W.cell? (a.add (i * P.cellsOf e + j)) = some v ∧ RepC al (fun b => b < W.heap.size) W (E (F i) j) v :=
      ⟨fun i => (key i).choose, fun i hi => (key i).choose_spec hi⟩
    have hm' : cap ≤ 9223372036854775807 := by unfold maxLen at hm; omega
    refine ⟨(List.range len).map F, ⟨by simp; omega, by simp only [List.mem_map, List.mem_range]; rintro x ⟨i, hi, rfl⟩; exact (hF i hi).1⟩, fun al => one_cell ?_⟩
    refine ⟨some a, cap, by simp, by simpa using hle, hm', by simp, fun b hb hn => ?_⟩
    cases hb
    simp at hn
    obtain ⟨v0, hv0, _⟩ := (hF 0 hn).2 al 0 hk0
    have hsp : a.spot = none := by
      have := World.cell?_spot hv0
      obtain ⟨b, o, sp⟩ := a
      simpa [Addr.add] using this
    refine ⟨hsp, ?_, fun i j hi hj => ?_⟩
    · have := World.block_lt_of_cell? W _ hv0
      obtain ⟨b, o, sp⟩ := a
      simpa [Addr.add] using this
    · simp at hi
      obtain ⟨v, hv, hr⟩ := (hF i hi).2 al j hj
      refine ⟨v, ?_, by simpa [List.getD, hi] using hr⟩
      obtain ⟨b, o, sp⟩ := a
      simp only at hsp
      subst hsp
      rwa [Addr.add_lit] at hv
/-- fields, one behind the other -/
def OpensF (P : Program) (fs : List Field) (D : Type) (φ : D → Prop) (E : D → Nat → CV) (C : Nat → Bool) : Prop :=
  ∀ (H : Type) (enc : TypeId × Value → H) (W : World) (cs : List Value), (∀ f ∈ fs, ∃ n y, DataW.trod enc P W 0 (fun _ => true) true n f.type ((cs.drop f.offset).take (P.cellsOf f.type)) = some y) →
    ∃ x : D, φ x ∧ ∀ al j, C j = true → RepC al (fun b => b < W.heap.size) W (E x j) (cs.getD j undef)
theorem opensF_nil : OpensF P [] Unit (fun _ => True) (fun _ _ => .top) (fun _ => false) := fun H enc W cs _ => ⟨(), trivial, fun al j h => by cases h⟩
theorem opensF_cons {f : Field} {fs : List Field} {k : Nat} {D1 D2 : Type} {φ1 : D1 → Prop} {φ2 : D2 → Prop} {E1 : D1 → Nat → CV} {E2 : D2 → Nat → CV} {C2 : Nat → Bool} (h1 : Opens P f.type k D1 φ1 E1) (h2 : OpensF P fs D2 φ2 E2 C2) :
    OpensF P (f :: fs) (D1 × D2) (fun x => φ1 x.1 ∧ φ2 x.2) (fun x j => match Nat.ble f.offset j && Nat.blt j (f.offset + k) with | true => E1 x.1 (j - f.offset) | false => E2 x.2 j) (fun j => (Nat.ble f.offset j && Nat.blt j (f.offset + k)) || C2 j) := fun H enc W cs h => by
  obtain ⟨n, y, hy⟩ := h f (List.mem_cons_self ..)
  obtain ⟨hl, x1, p1, r1⟩ := h1 H enc W n _ y hy
  obtain ⟨x2, p2, r2⟩ := h2 H enc W cs fun g hg => h g (List.mem_cons_of_mem _ hg)
  refine ⟨(x1, x2), ⟨p1, p2⟩, fun al j hj => ?_⟩
  cases hb : Nat.ble f.offset j && Nat.blt j (f.offset + k) with
  | true =>
    have hb0 := hb
    simp only [Bool.and_eq_true] at hb
    have b1 : f.offset ≤ j := Nat.le_of_ble_eq_true hb.1
    have b2 : j < f.offset + k := Nat.le_of_ble_eq_true hb.2
    have := r1 al (j - f.offset) (by omega)
    simp only [List.length_take, List.length_drop] at hl
    rw [List.getD_eq_getElem?_getD, List.getElem?_take, if_pos (by omega), List.getElem?_drop, show f.offset + (j - f.offset) = j by omega, ← List.getD_eq_getElem?_getD] at this
    simp only [hb0]
    exact this
  | false =>
    simp only [hb, Bool.false_or] at hj
    simp only [hb]
    exact r2 al j hj
theorem opens_struct {fs : Array Field} {n : Nat} {D : Type} {φ : D → Prop} {E : D → Nat → CV} {C : Nat → Bool} (hu : P.underlying t = some (.struct fs)) (hn : P.cellsOf t = n) (ho : OpensF P fs.toList D φ E C) (hC : (List.range n).all C = true) : Opens P t n D φ E := fun H enc W fuel cs y h => by
  obtain ⟨xs, m, _, _, hl, hlen, hf⟩ := DataW.trod_struct hu h
  obtain ⟨x, hx, hr⟩ := ho H enc W cs fun f hf' => by
    obtain ⟨i, hi⟩ := List.mem_iff_getElem?.1 hf'
    rw [Array.getElem?_toList] at hi
    have := hf i f hi
    have hlt : i < xs.length := by rw [hlen]; exact (Array.getElem?_eq_some_iff.1 hi).1
    rw [List.getElem?_eq_getElem hlt] at this
    exact ⟨m, _, this⟩
  exact ⟨hl.trans hn, x, hx, fun al j hj => hr al j (List.all_eq_true.1 hC j (List.mem_range.2 hj))⟩
theorem arg_one {D : Type} {φ : D → Prop} {E : D → Nat → CV} (ho : Opens P t 1 D φ E) {H : Type} {enc : TypeId × Value → H} {W : World} {v : Value} {d : DataW H} {p : List MemPlace} (hv : v.cells = #[v]) (h : DataW.Trod enc P W 0 (fun _ => true) true t v d p) :
    ∃ x : D, φ x ∧ ∀ al, RepC al (fun b => b < W.heap.size) W (E x 0) v := by
  obtain ⟨fuel, hf⟩ := h
  obtain ⟨_, x, hx, hr⟩ := ho H enc W fuel _ _ hf
  refine ⟨x, hx, fun al => ?_⟩
  have := hr al 0 (by decide)
  rw [hv] at this
  exact this
theorem arg_agg {n : Nat} {D : Type} {φ : D → Prop} {E : D → Nat → CV} (ho : Opens P t n D φ E) {H : Type} {enc : TypeId × Value → H} {W : World} {cs : Array Value} {d : DataW H} {p : List MemPlace} (h : DataW.Trod enc P W 0 (fun _ => true) true t (.agg cs) d p) :
    ∃ x : D, φ x ∧ ∀ al, RepC al (fun b => b < W.heap.size) W (.agg n (E x)) (.agg cs) := by
  obtain ⟨fuel, hf⟩ := h
  obtain ⟨hl, x, hx, hr⟩ := ho H enc W fuel _ _ hf
  refine ⟨x, hx, fun al => ⟨cs, rfl, by simpa [Value.cells] using hl, fun i hi => ?_⟩⟩
  have := hr al i hi
  simpa [Value.cells] using this
/-- how many bytes a slice that came in is -/
theorem len_weight {H : Type} {enc : TypeId × Value → H} {W : World} {e : TypeId} {d : DataW H} {p : List MemPlace} {ao : Option Addr} {len cap : Nat} (hu : P.underlying t = some (.slice e)) (h : DataW.Trod enc P W 0 (fun _ => true) true t (.slice ao len cap) d p)
    (hw : (d.weights P t).all (fun x => decide (x ≤ reachBytes)) = true) : len * P.bytesOf e ≤ reachBytes := by
  obtain ⟨fuel, hf⟩ := h
  rcases DataW.trod_slice hu hf with ⟨h1, _⟩ | ⟨a, len', cap', elems, rest, n, _, h1, h2, _, _, _, h3, _⟩
  · simp [Value.cells] at h1
    simp [h1.2.1]
  · simp [Value.cells] at h1
    obtain ⟨rfl, rfl, rfl⟩ := h1
    simp only [Prod.mk.injEq] at h2
    obtain ⟨rfl, _⟩ := h2
    simp only [DataW.weights, hu, List.all_cons, Bool.and_eq_true, decide_eq_true_eq, List.length_map] at hw
    rw [← h3]
    exact Nat.le_trans (Nat.mul_le_mul_right _ (Nat.le_add_right _ _)) hw.1
theorem rs_len {al : List Addr} {St : Nat → Prop} {W : World} {k n len cap : Nat} {f : Nat → Nat → CV} {ao : Option Addr} (h : RepC al St W (.rs k n f) (.slice ao len cap)) : n = len := by
  obtain ⟨_, _, h1, _⟩ := h
  simp at h1
  exact h1.2.1.symm
end
end Am
end Go.Proofs.YtdfjiodkmhpfkaaDoor

/- Arguments that come in: texts as lists; lists in other words. -/
namespace Go.Proofs.YtdfjiodkmhpfkaaDoor
set_option linter.unusedVariables false
open Go.RowKit Go.ChangeShapes
namespace Am
theorem opens_strL {P : Program} {t : TypeId} (hu : P.underlying t = some .string) : Opens P t 1 (List UInt8) (fun s => s.length ≤ maxLen) (fun z _ => strC z) := fun H enc W fuel cs y h => by
  obtain ⟨n, rfl, _, hs⟩ := DataW.trod_string hu h
  obtain ⟨l, rfl⟩ := ba_list n
  exact ⟨rfl, l, hs, fun al => one_cell rfl⟩
theorem map_getD {α β : Type} (f : α → β) (l : List α) {i : Nat} (d0 : α) (d1 : β) (h : i < l.length) : (l.map f).getD i d1 = f (l.getD i d0) := by simp [List.getD, h]
theorem rs_map {α β : Type} {k : Nat} {E : α → Nat → CV} {E' : β → Nat → CV} {d0 : α} {d1 : β} (f : α → β) (l : List α) (h : ∀ a j, j < k → CEnt (E a j) (E' (f a) j)) : CEnt (.rs k l.length fun i j => E (l.getD i d0) j) (.rs k (l.map f).length fun i j => E' ((l.map f).getD i d1) j) := by
  refine CEnt.rs (by simp) fun i j hi hj => ?_
  have e : (l.map f).getD i d1 = f (l.getD i d0) := by simp [List.getD, hi]
  rw [e]
  exact h _ j hj
end Am
end Go.Proofs.YtdfjiodkmhpfkaaDoor
