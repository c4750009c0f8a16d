/- What the law leans on, part 5: W05f, W05g, W05h, W05i, W08u, W06c, P06c, W06d, W08k, W07v, W08l, Laid, Tab, V8, P07e, W07p, P07c, W07, L07, P09n, W07l, W07q, W08m -/
import Derived.Test.YtjckfbpdieijeaaGreatDoorM4DerFails
import Derived.Test.YtjckfbpdieijeaaGreatDoorRows
import Derived.LaidLaws
import Derived.MakeChecks
import Derived.Lib.LaidU8T
import Derived.Shelf.Unicode.ValidAny

/- Chapter 5: the reference's Right, Split, Parse. -/
namespace Go.Proofs.YtjckfbpdieijeaaGreatDoor
set_option linter.unusedVariables false
namespace Am
variable {gs : List Nat} [Ok2 gs]
open Go.RowKit
set_option maxRecDepth 100000

def inR (n : Int) : Bool := decide (0 ≤ n) && decide (n ≤ 2147483647)
theorem rightA_not {l : List Int} (h : (l.length : Int) < 2 ∨ (16 : Int) < l.length ∨ l.getD 0 0 < 0 ∨ 2 < l.getD 0 0 ∨ (l.getD 0 0 < 2 ∧ 39 < l.getD 1 0) ∨ l.all inR = false) : rightA l = false := by
  cases e : rightA l with
  | false => rfl
  | true =>
    obtain ⟨h1, h2, h3, h4, h5⟩ := right_at e
    rcases h with h | h | h | h | h | h
    · omega
    · omega
    · have := h3 _ (getD_mem' (l := l) (k := 0) 0 (by omega)); omega
    · omega
    · omega
    · have : l.all inR = true := List.all_eq_true.2 fun n hn => by have := h3 n hn; unfold inR; simp; omega
      rw [this] at h; cases h
theorem rightA_yes {l : List Int} (h1 : ¬ (l.length : Int) < 2) (h2 : ¬ (16 : Int) < l.length) (h3 : ¬ 2 < l.getD 0 0) (h4 : ¬ (l.getD 0 0 < 2 ∧ 39 < l.getD 1 0)) (h5 : l.all inR = true) : rightA l = true := by
  unfold rightA
  have e : l.all (fun n => decide (0 ≤ n) && decide (n ≤ 2147483647)) = true := h5
  rw [e, decide_eq_true (show 2 ≤ l.length by omega), decide_eq_true (show l.length ≤ 16 by omega), decide_eq_true (show l.getD 0 0 ≤ 2 by omega)]
  by_cases h6 : l.getD 0 0 = 2
  · rw [decide_eq_true h6]; rfl
  · rw [decide_eq_true (show l.getD 1 0 < 40 by omega), Bool.or_true]; rfl
theorem inR_yes {n : Int} (h1 : ¬ n < 0) (h2 : ¬ 2147483647 < n) : inR n = true := by
  unfold inR
  simp only [Bool.and_eq_true, decide_eq_true_eq]
  omega
theorem inR_no {n : Int} (h : n < 0 ∨ 2147483647 < n) : inR n = false := by
  cases e : inR n with
  | false => rfl
  | true =>
    unfold inR at e
    simp only [Bool.and_eq_true, decide_eq_true_eq] at e
    omega
theorem figR_two (p : List UInt8) : ((figR p).2 = true ↔ (figM p).2 = 0) ∧ ((figR p).2 = true → (figR p).1 = (figM p).1) := by
  unfold figR
  split
  · rename_i h; exact ⟨⟨fun _ => h, fun _ => rfl⟩, fun _ => rfl⟩
  · rename_i h; exact ⟨⟨fun e => (by cases e), fun e => absurd e h⟩, fun e => (by cases e)⟩
theorem okP_bad {p : List UInt8} (h : (figR p).2 = false ∨ (10 : Int) < p.length) : okP p = false := by
  cases e : okP p with
  | false => rfl
  | true =>
    unfold okP at e
    simp only [Bool.and_eq_true, decide_eq_true_eq] at e
    have := (figR_two p).1.2 e.1
    rcases h with h | h
    · rw [h] at this; cases this
    · omega
theorem okP_good {p : List UInt8} (h : (figR p).2 = true) (h2 : ¬ (10 : Int) < p.length) : okP p = true ∧ ((figR p).1 : Int) = valP p := by
  refine ⟨?_, by rw [(figR_two p).2 h]; rfl⟩
  unfold okP
  simp only [Bool.and_eq_true, decide_eq_true_eq]
  exact ⟨(figR_two p).1.1 h, by omega⟩
theorem take_allO {α : Type} {p : α → Bool} {l : List α} {i : Nat} (d : α) (h : i < l.length) (h1 : (l.take i).all p = true) (h2 : p (l.getD i d) = true) : (l.take (i + 1)).all p = true := by
  rw [take_get d h, List.all_append, h1, List.all_cons, h2]
  rfl
theorem rright5_ac {gs : List Nat} (l : List Int) : ACp gs Tryz.prog 133 [isC l] (.c (.bool (rightA l))) := by
  refine ac_len 0 rfl fun hlen => ?_
  refine ac_of 50 Tryz.func133 rfl rfl rfl (fun al w0 F0 St0 => ?_)
  refine jcr ?_
  refine jq jrm ?_
  refine seq_nil ?_
  refine jcs ?_
  refine jcr ?_
  refine jq jrm ?_
  refine jq jrl ?_
  refine jq jrc ?_
  refine jq jrm ?_
  refine jqsp 8 (fun g11 => ?_) fun g11 => ?_
  · refine jqs ?_
    refine jqs ?_
    refine jqs ?_
    refine jq jrpT ?_
    refine jq jrm ?_
    refine jqs ?_
    refine jqs ?_
    refine jqs ?_
    refine jqs ?_
    refine jq jrpT ?_
    refine jq jrm ?_
    refine jqs ?_
    refine jqs ?_
    refine jqs ?_
    refine jqs ?_
    refine jq jrpT ?_
    refine jq jrm ?_
    refine jqs ?_
    refine jqs ?_
    refine jqs ?_
    refine jqs ?_
    refine jqs ?_
    refine jqs ?_
    refine jqs ?_
    refine jqs ?_
    refine jqs ?_
    refine jqs ?_
    refine jq jrpT ?_
    refine seq_nil ?_
    refine jcT ?_
    refine jcr ?_
    refine jq jrm ?_
    refine seq_nil ?_
    refine code_ret (jtr (jrt (hv := ?_)))
    refine CEnt.bool ?_
    refine (rightA_not ?_).symm
    omega
  refine jq jrm ?_
  refine jq jrl ?_
  refine jq jrc ?_
  refine jq jrpF ?_
  refine jq jrm ?_
  refine jqsp 13 (fun g11_2 => ?_) fun g11_2 => ?_
  · refine jqs ?_
    refine jqs ?_
    refine jqs ?_
    refine jqs ?_
    refine jq jrpT ?_
    refine jq jrm ?_
    refine jqs ?_
    refine jqs ?_
    refine jqs ?_
    refine jqs ?_
    refine jq jrpT ?_
    refine jq jrm ?_
    refine jqs ?_
    refine jqs ?_
    refine jqs ?_
    refine jqs ?_
    refine jqs ?_
    refine jqs ?_
    refine jqs ?_
    refine jqs ?_
    refine jqs ?_
    refine jqs ?_
    refine jq jrpT ?_
    refine seq_nil ?_
    refine jcT ?_
    refine jcr ?_
    refine jq jrm ?_
    refine seq_nil ?_
    refine code_ret (jtr (jrt (hv := ?_)))
    refine CEnt.bool ?_
    refine (rightA_not ?_).symm
    omega
  refine jq jrm ?_
  refine jq (jri (i := 0)) ?_
  refine jq jrdr ?_
  refine jq jrc ?_
  refine jq jrpF ?_
  refine jq jrm ?_
  refine jqsp 19 (fun g11_3 => ?_) fun g11_3 => ?_
  · refine jqs ?_
    refine jqs ?_
    refine jqs ?_
    refine jqs ?_
    refine jq jrpT ?_
    refine jq jrm ?_
    refine jqs ?_
    refine jqs ?_
    refine jqs ?_
    refine jqs ?_
    refine jqs ?_
    refine jqs ?_
    refine jqs ?_
    refine jqs ?_
    refine jqs ?_
    refine jqs ?_
    refine jq jrpT ?_
    refine seq_nil ?_
    refine jcT ?_
    refine jcr ?_
    refine jq jrm ?_
    refine seq_nil ?_
    refine code_ret (jtr (jrt (hv := ?_)))
    refine CEnt.bool ?_
    refine (rightA_not ?_).symm
    omega
  refine jq jrm ?_
  refine jq (jri (i := 0)) ?_
  refine jq jrdr ?_
  refine jq jrc ?_
  refine jq jrpF ?_
  refine jq jrm ?_
  refine jqsp 25 (fun g11_4 => ?_) fun g11_4 => ?_
  · refine jqs ?_
    refine jqs ?_
    refine jqs ?_
    refine jqs ?_
    refine jqs ?_
    refine jqs ?_
    refine jqs ?_
    refine jqs ?_
    refine jqs ?_
    refine jqs ?_
    refine jq jrpT ?_
    refine seq_nil ?_
    refine jcT ?_
    refine jcr ?_
    refine jq jrm ?_
    refine seq_nil ?_
    refine code_ret (jtr (jrt (hv := ?_)))
    refine CEnt.bool ?_
    refine (rightA_not ?_).symm
    omega
  refine jq jrm ?_
  refine jq (jri (i := 0)) ?_
  refine jq jrdr ?_
  refine jq jrc ?_
  refine jq jrm ?_
  refine jqsp 30 (fun g11_5 => ?_) fun g11_5 => ?_
  rotate_left
  · refine jqs ?_
    refine jqs ?_
    refine jqs ?_
    refine jqs ?_
    refine jq jrpF ?_
    refine jq jrpF ?_
    refine seq_nil ?_
    refine jcF ?_
    refine code_skip (jtn ?_)
    refine jcs ?_
    refine jcr ?_
    refine jq jrm ?_
    refine jq jrl ?_
    refine jq jrm ?_
    refine seq_nil ?_
    refine code_block ?_
    refine l_loop (α := Nat) [2, 4, 39, 40, 41, 42, 43, 44, 45, 46, 47, 48, 49] (fun i => [(39, .c (.int .i64 (i : Nat)))]) (fun _ => []) (fun i => i ≤ l.length ∧ (l.take i).all inR = true) (fun i => l.length - i) (0) ?_ (fun _ => rfl) ?_ ?_ ?_
    · exact ⟨Nat.zero_le _, rfl⟩
    · (repeat (first | exact EntE.nil | refine EntE.cons (CEnt.refl _) ?_ | refine EntE.cons (CEnt.int (by omega)) ?_))
    · (repeat (first | exact HEnt.nil | refine HEnt.same ?_ | refine HEnt.blk rfl (fun j hj => by rcases j with _|_|_|_|_|_|_|_|j <;> first | exact CEnt.refl _ | exact CEnt.int (by omega) | omega) ?_))
    · rintro i ⟨(hi : i ≤ l.length), hall⟩
      refine jcr ?_
      refine jq jrc ?_
      refine seq_nil ?_
      refine jcs ?_
      refine jcc (fun h14 => ?_) fun h14 => ?_
      rotate_left
      · refine code_exit (jte (jte (jbx (jtn ?_))))
        refine jcr ?_
        refine jq jrm ?_
        refine seq_nil ?_
        refine code_ret (jrt (hv := ?_))
        refine CEnt.bool ?_
        rw [show i = l.length by omega, List.take_length] at hall
        exact (rightA_yes (by omega) (by omega) (by omega) (by omega) hall).symm
      refine code_skip (jtn ?_)
      refine jcs ?_
      refine code_block ?_
      refine jcr ?_
      refine jq jri ?_
      refine jq jrdr ?_
      refine jq jrm ?_
      refine seq_nil ?_
      refine jcr ?_
      refine jq jrm ?_
      refine jq jrc ?_
      refine jq jrm ?_
      refine jqsp 45 (fun g15 => ?_) fun g15 => ?_
      · refine jqs ?_
        refine jqs ?_
        refine jq jrpT ?_
        refine seq_nil ?_
        refine jcT ?_
        refine jcr ?_
        refine jq jrm ?_
        refine seq_nil ?_
        refine code_ret (jbr (jtr (jtr (jbr (jtr (jrt (hv := ?_)))))))
        refine CEnt.bool ?_
        exact (rightA_not (.inr (.inr (.inr (.inr (.inr (all_false (k := i) 0 (by omega) (inR_no (by omega))))))))).symm
      refine jq jrm ?_
      refine jq jrc ?_
      refine jq jrpF ?_
      refine seq_nil ?_
      refine jcc (fun h15 => ?_) fun h15 => ?_
      · refine jcr ?_
        refine jq jrm ?_
        refine seq_nil ?_
        refine code_ret (jbr (jtr (jtr (jbr (jtr (jrt (hv := ?_)))))))
        refine CEnt.bool ?_
        exact (rightA_not (.inr (.inr (.inr (.inr (.inr (all_false (k := i) 0 (by omega) (inR_no (by omega))))))))).symm
      refine code_skip (jbn (jtn ?_))
      refine jcg ?_
      refine jq jra ?_
      refine jq jrm ?_
      refine seq_nil ?_
      refine jtn ?_
      refine jlend (i + 1) ?_ ?_
      · exact ⟨by omega, take_allO 0 (by omega) hall (inR_yes (by omega) (by omega))⟩
      · show l.length - (i + 1) < l.length - i; omega
  refine jq jrm ?_
  refine jq (jri (i := 1)) ?_
  refine jq jrdr ?_
  refine jq jrc ?_
  refine jq jrpT ?_
  refine jq jrpF ?_
  refine seq_nil ?_
  refine jcc (fun h11 => ?_) fun h11 => ?_
  · refine jcr ?_
    refine jq jrm ?_
    refine seq_nil ?_
    refine code_ret (jtr (jrt (hv := ?_)))
    refine CEnt.bool ?_
    refine (rightA_not ?_).symm
    omega
  refine code_skip (jtn ?_)
  refine jcs ?_
  refine jcr ?_
  refine jq jrm ?_
  refine jq jrl ?_
  refine jq jrm ?_
  refine seq_nil ?_
  refine code_block ?_
  refine l_loop (α := Nat) [2, 4, 39, 40, 41, 42, 43, 44, 45, 46, 47, 48, 49] (fun i => [(39, .c (.int .i64 (i : Nat)))]) (fun _ => []) (fun i => i ≤ l.length ∧ (l.take i).all inR = true) (fun i => l.length - i) (0) ?_ (fun _ => rfl) ?_ ?_ ?_
  · exact ⟨Nat.zero_le _, rfl⟩
  · (repeat (first | exact EntE.nil | refine EntE.cons (CEnt.refl _) ?_ | refine EntE.cons (CEnt.int (by omega)) ?_))
  · (repeat (first | exact HEnt.nil | refine HEnt.same ?_ | refine HEnt.blk rfl (fun j hj => by rcases j with _|_|_|_|_|_|_|_|j <;> first | exact CEnt.refl _ | exact CEnt.int (by omega) | omega) ?_))
  · rintro i ⟨(hi : i ≤ l.length), hall⟩
    refine jcr ?_
    refine jq jrc ?_
    refine seq_nil ?_
    refine jcs ?_
    refine jcc (fun h14 => ?_) fun h14 => ?_
    rotate_left
    · refine code_exit (jte (jte (jbx (jtn ?_))))
      refine jcr ?_
      refine jq jrm ?_
      refine seq_nil ?_
      refine code_ret (jrt (hv := ?_))
      refine CEnt.bool ?_
      rw [show i = l.length by omega, List.take_length] at hall
      exact (rightA_yes (by omega) (by omega) (by omega) (by omega) hall).symm
    refine code_skip (jtn ?_)
    refine jcs ?_
    refine code_block ?_
    refine jcr ?_
    refine jq jri ?_
    refine jq jrdr ?_
    refine jq jrm ?_
    refine seq_nil ?_
    refine jcr ?_
    refine jq jrm ?_
    refine jq jrc ?_
    refine jq jrm ?_
    refine jqsp 45 (fun g15 => ?_) fun g15 => ?_
    · refine jqs ?_
      refine jqs ?_
      refine jq jrpT ?_
      refine seq_nil ?_
      refine jcT ?_
      refine jcr ?_
      refine jq jrm ?_
      refine seq_nil ?_
      refine code_ret (jbr (jtr (jtr (jbr (jtr (jrt (hv := ?_)))))))
      refine CEnt.bool ?_
      exact (rightA_not (.inr (.inr (.inr (.inr (.inr (all_false (k := i) 0 (by omega) (inR_no (by omega))))))))).symm
    refine jq jrm ?_
    refine jq jrc ?_
    refine jq jrpF ?_
    refine seq_nil ?_
    refine jcc (fun h15 => ?_) fun h15 => ?_
    · refine jcr ?_
      refine jq jrm ?_
      refine seq_nil ?_
      refine code_ret (jbr (jtr (jtr (jbr (jtr (jrt (hv := ?_)))))))
      refine CEnt.bool ?_
      exact (rightA_not (.inr (.inr (.inr (.inr (.inr (all_false (k := i) 0 (by omega) (inR_no (by omega))))))))).symm
    refine code_skip (jbn (jtn ?_))
    refine jcg ?_
    refine jq jra ?_
    refine jq jrm ?_
    refine seq_nil ?_
    refine jtn ?_
    refine jlend (i + 1) ?_ ?_
    · exact ⟨by omega, take_allO 0 (by omega) hall (inR_yes (by omega) (by omega))⟩
    · show l.length - (i + 1) < l.length - i; omega

theorem split_stepO {c : UInt8} {s : List UInt8} {a i : Nat} (hai : a ≤ i) (hi : i < s.length) (hno : c ∉ (s.take i).drop a) (hc : s.getD i 0 = c) : splitC c (s.drop a) = (s.take i).drop a :: splitC c (s.drop (i + 1)) := by
  have e : s.drop a = (s.take i).drop a ++ c :: s.drop (i + 1) := by
    have h1 : s = s.take i ++ s.drop i := (List.take_append_drop i s).symm
    have h2 : s.drop i = c :: s.drop (i + 1) := by
      rw [List.drop_eq_getElem_cons hi, ← hc]
      simp [List.getD, hi]
    conv => lhs; rw [h1, List.drop_append_of_le_length (by rw [List.length_take]; omega), h2]
  rw [e, splitC_at _ hno]
theorem notin_step {c : UInt8} {s : List UInt8} {a i : Nat} (hai : a ≤ i) (hi : i < s.length) (hno : c ∉ (s.take i).drop a) (hc : s.getD i 0 ≠ c) : c ∉ (s.take (i + 1)).drop a := by
  rw [take_get 0 hi, List.drop_append_of_le_length (by rw [List.length_take]; omega)]
  intro h
  rcases List.mem_append.1 h with h | h
  · exact hno h
  · exact hc (List.mem_singleton.1 h).symm
theorem u8_eqO {c d : UInt8} (h : (c.toNat : Int) = d.toNat) : c = d := UInt8.toNat_inj.1 (by omega)
theorem rsplit_ac {gs : List Nat} (s : List UInt8) (hs : s.length ≤ 1000000000) : ACp gs Tryz.prog 131 [strC s] (ssC (splitC 46 s)) := by
  have hpl := split_len 46 s
  refine ac_of 32 Tryz.func131 rfl rfl rfl (fun al w0 F0 St0 => ?_)
  refine jcr ?_
  refine jq jrm ?_
  refine seq_nil ?_
  refine jcr ?_
  refine jqe (jebl 0 1 zr9 fun p1 => ?_)
  refine jq jrm ?_
  refine jq jrm ?_
  refine seq_nil ?_
  refine jcs ?_
  refine jcr ?_
  refine jq jrm ?_
  refine seq_nil ?_
  refine code_block ?_
  refine l_loop (α := Nat × Nat × List (List UInt8) × Option Nat) [3, 4, 5, 7, 8, 9, 10, 11, 12, 13, 14, 15, 16, 17, 18, 19, 20, 21, 22, 23, 24, 25] (fun (i, a, X, g) => [(5, .c (.int .i64 (i : Nat))), (4, .c (.int .i64 (a : Nat))), (3, .os 0 g 0 X.length 1)]) (fun (i, a, X, g) => [(g, .blk (X.length * 1) (ssF X))]) (fun (i, a, X, g) => i ≤ s.length ∧ a ≤ i ∧ X.length ≤ i ∧ splitC 46 s = X ++ splitC 46 (s.drop a) ∧ (46 : UInt8) ∉ (s.take i).drop a) (fun (i, a, X, g) => s.length - i) ((0, 0, [], p1)) ?_ (fun _ => rfl) ?_ ?_ ?_
  · exact ⟨Nat.zero_le _, Nat.le_refl _, Nat.le_refl _, by simp, by simp⟩
  · exact .cons (CEnt.refl _) (.cons (CEnt.refl _) (.cons (CEnt.refl _) .nil))
  · exact .blk rfl (fun j hj => absurd hj (Nat.not_lt_zero j)) .nil
  · rintro ⟨i, a, X, g⟩ ⟨(hi : i ≤ s.length), (ha : a ≤ i), (hX : X.length ≤ i), hsp, hno⟩
    refine jcs ?_
    refine jcr ?_
    refine jq jrm ?_
    refine jq jrm ?_
    refine jq jrls ?_
    refine jq jrc ?_
    refine seq_nil ?_
    refine jcc (fun h25 => ?_) fun h25 => ?_
    rotate_left
    · refine code_exit (jte (jte (jbx (jtn ?_))))
      refine jcr ?_
      refine jq jrm ?_
      refine jq jrm ?_
      refine jq jrm ?_
      refine jq (rd_sliceLF rfl rfl Tryz.underlying9 rfl (show _ = ((a : Nat) : Int) by omega) (by (omega))) ?_
      refine jqe (jebl 1 1 zr9 fun p2 => ?_)
      refine jqm (m_appendC (rowC_ss) (l2 := [s.drop a]) rfl rfl rfl rfl (by exact Nat.le_refl _) (fun _ _ => CEnt.refl _) (src_os rfl (.inl rfl) (by decide)) rfl (fun j hj => by rcases j with _|j <;> first | exact CEnt.refl _ | exact CEnt.int (by omega) | (exfalso; simp at hj <;> omega)) Tryz.underlying167 nu167 sz9 zr9 by9 rfl (by (simp; omega)) (by (simp; omega)) (leaf_flk rfl rfl) rfl rfl rfl (fun p3 => ?_))
      refine jq jrm ?_
      refine seq_nil ?_
      have hi2 : i = s.length := by omega
      rw [hi2, List.take_length] at hno
      rw [splitC_none hno] at hsp
      refine code_ent (freeze 0 rfl) ?_
      refine code_ent (thaw 2 (fun b _ => strC ((X ++ [s.drop a]).getD b [])) rfl rfl (by omega) ss_thaw) ?_
      refine code_ret (jrt (hv := ?_))
      rw [hsp]
      exact CEnt.refl _
    refine code_skip (jtn ?_)
    refine jcs ?_
    refine code_block ?_
    refine jcr ?_
    refine jq jrm ?_
    refine jq jrm ?_
    refine jq jrix ?_
    refine jq jrc ?_
    refine seq_nil ?_
    refine jcc (fun h26 => ?_) fun h26 => ?_
    rotate_left
    · refine code_skip (jbn (jtn ?_))
      refine jcg ?_
      refine jq jrm ?_
      refine jq jra ?_
      refine jq jrm ?_
      refine seq_nil ?_
      refine jtn ?_
      refine jlend ((i + 1, a, X, g)) ?_ ?_ (h5 := ?_) (h7 := ?_)
      · exact ⟨by omega, by omega, by omega, hsp, notin_step ha (by omega) hno (fun e => h26 (by rw [e]; rfl))⟩
      · show s.length - (i + 1) < s.length - i; omega
      · exact .cons (CEnt.int (by omega)) (.cons (CEnt.refl _) (.cons (CEnt.refl _) .nil))
      · exact .same .nil
    refine jcr ?_
    refine jq jrm ?_
    refine jq jrm ?_
    refine jq jrm ?_
    refine jq jrm ?_
    refine jq (rd_sliceL rfl rfl Tryz.underlying9 (bd_some rfl (show _ = ((a : Nat) : Int) by omega)) (bd_some rfl (show _ = ((i : Nat) : Int) by omega)) (by (omega)) (by (omega))) ?_
    refine jqe (jebl 1 1 zr9 fun p2 => ?_)
    refine jqm (m_appendC (rowC_ss) (l2 := [(s.take i).drop a]) rfl rfl rfl rfl (by exact Nat.le_refl _) (fun _ _ => CEnt.refl _) (src_os rfl (.inl rfl) (by decide)) rfl (fun j hj => by rcases j with _|j <;> first | exact CEnt.refl _ | exact CEnt.int (by omega) | (exfalso; simp at hj <;> omega)) Tryz.underlying167 nu167 sz9 zr9 by9 rfl (by (simp; omega)) (by (simp; omega)) (leaf_flk rfl rfl) rfl rfl rfl (fun p3 => ?_))
    refine jq jrm ?_
    refine seq_nil ?_
    refine jcg ?_
    refine jq jrm ?_
    refine jq jra ?_
    refine jq jrm ?_
    refine seq_nil ?_
    refine jbn (jtn ?_)
    refine jcg ?_
    refine jq jrm ?_
    refine jq jra ?_
    refine jq jrm ?_
    refine seq_nil ?_
    refine jtn ?_
    refine jlend ((i + 1, i + 1, X ++ [(s.take i).drop a], p3)) ?_ ?_ (h5 := ?_) (h7 := ?_)
    · exact ⟨by omega, by omega, by simp; omega, by rw [hsp, split_stepO ha (by omega) hno (u8_eqO (d := 46) h26)]; simp, by rw [List.drop_eq_nil_of_le (by simp only [List.length_take]; omega)]; exact List.not_mem_nil⟩
    · show s.length - (i + 1) < s.length - i; omega
    · exact .cons (CEnt.int (by omega)) (.cons (CEnt.int (by omega)) (.cons (CEnt.refl _) .nil))
    · exact .same .nil
set_option maxHeartbeats 1000000 in
theorem rparse_ac {gs : List Nat} (s : List UInt8) (hs : s.length ≤ 1000000000) : ACp gs Tryz.prog 92 [strC s] (.tup 2 (fl [isC (parseM s).1, .c (.int .i64 ((parseM s).2 : Nat))])) := by
  have hpl := split_len 46 s
  refine ac_of 38 Tryz.func92 rfl rfl rfl (fun al w0 F0 St0 => ?_)
  refine jcr ?_
  refine jq jrm ?_
  refine jq jrm ?_
  refine seq_nil ?_
  refine jcr ?_
  refine jqe (jebl 0 1 zr3 fun p1 => ?_)
  refine jq jrm ?_
  refine seq_nil ?_
  refine jcs ?_
  refine jcr ?_
  refine jq jrm ?_
  refine jqe (jecP (rsplit_ac s hs) ?_)
  refine jq jrl ?_
  refine jq jrm ?_
  refine seq_nil ?_
  refine code_block ?_
  refine l_loop (α := Nat × List Int × Option Nat) [2, 3, 4, 6, 7, 8, 13, 14, 15, 16, 17, 18, 19, 20, 21, 22, 23, 24, 25, 26, 27, 28, 29, 30, 31, 32, 33] (fun (k, X, g) => [(13, .c (.int .i64 (k : Nat))), (4, .os 0 g 0 X.length 1)]) (fun (k, X, g) => [(g, .blk X.length (inF X))]) (fun (k, X, g) => k ≤ (splitC 46 s).length ∧ X = ((splitC 46 s).take k).map valP ∧ ((splitC 46 s).take k).all okP = true) (fun (k, X, g) => (splitC 46 s).length - k) ((0, [], p1)) ?_ (fun _ => rfl) ?_ ?_ ?_
  · exact ⟨Nat.zero_le _, rfl, rfl⟩
  · exact .cons (CEnt.refl _) (.cons (CEnt.refl _) .nil)
  · exact .blk rfl (fun j hj => absurd hj (Nat.not_lt_zero j)) .nil
  · rintro ⟨k, X, g⟩ ⟨(hk : k ≤ _), hX, hall⟩
    have hXl : X.length ≤ k := by rw [hX, List.length_map, List.length_take]; omega
    refine jcr ?_
    refine jq jrc ?_
    refine seq_nil ?_
    refine jcs ?_
    refine jcc (fun h37 => ?_) fun h37 => ?_
    rotate_left
    · refine code_exit (jte (jte (jbx (jtn ?_))))
      refine jcs ?_
      have hk2 : k = (splitC 46 s).length := by omega
      rw [hk2, List.take_length] at hX hall
      refine code_ent (freeze 0 rfl) ?_
      refine code_ent (thawIL 4 X rfl rfl rfl (Nat.ble_eq_true_of_le (Nat.le_refl _)) (fun j hj => CEnt.refl _)) ?_
      refine jcr ?_
      refine jq jrm ?_
      refine jqe (jecP (rright5_ac X) ?_)
      refine jq jrn ?_
      refine seq_nil ?_
      refine jcc (fun h44 => ?_) fun h44 => ?_
      · refine jcr ?_
        refine jq jrm ?_
        refine jq jrm ?_
        refine seq_nil ?_
        refine code_ret (jtr (jrt (hv := ?_)))
        have hb := parse_wrong hall (by rw [← hX]; simpa using h44)
        exact CEnt.tup2 (CEnt.nilS' (by rw [hb.1]; rfl)) (CEnt.int (by rw [hb.2]; rfl))
      refine code_skip (jtn ?_)
      refine jcr ?_
      refine jq jrm ?_
      refine jq jrm ?_
      refine jq jrm ?_
      refine seq_nil ?_
      refine code_ret (jrt (hv := ?_))
      have hb := parse_good hall (by rw [← hX]; simpa using h44)
      exact CEnt.tup2 (show CEnt (isC X) _ from CEnt.of_eq (by rw [hb.1, hX])) (CEnt.int (by rw [hb.2]; rfl))
    refine code_skip (jtn ?_)
    refine jcs ?_
    refine code_block ?_
    refine jcr ?_
    refine jq jri ?_
    refine jq jrdr ?_
    refine jq jrm ?_
    refine seq_nil ?_
    refine jcr ?_
    refine jq jrm ?_
    refine jqe (jecP (rfig_ac ((splitC 46 s).getD k [])) ?_)
    refine jq jrm ?_
    refine jq jrx ?_
    refine jq jrx ?_
    refine jq jrm ?_
    refine jq jrm ?_
    refine seq_nil ?_
    refine jcs ?_
    refine jcr ?_
    refine jq jrm ?_
    refine jq jrn ?_
    refine jq jrm ?_
    refine jqsp 24 (fun g39 => ?_) fun g39 => ?_
    · refine jqs ?_
      refine jqs ?_
      refine jqs ?_
      refine jq jrpT ?_
      refine seq_nil ?_
      refine jcT ?_
      refine jcr ?_
      refine jq jrm ?_
      refine jq jrm ?_
      refine seq_nil ?_
      refine code_ret (jtr (jbr (jtr (jtr (jbr (jtr (jrt (hv := ?_))))))))
      have hb := parse_bad (s := s) (all_false (k := k) [] (by omega) (by exact okP_bad (.inl (by simpa using g39))))
      exact CEnt.tup2 (CEnt.nilS' (by rw [hb.1]; rfl)) (CEnt.int (by rw [hb.2]; rfl))
    refine jq jrm ?_
    refine jq jrls ?_
    refine jq jrc ?_
    refine jq jrpF ?_
    refine seq_nil ?_
    refine jcc (fun h39 => ?_) fun h39 => ?_
    · refine jcr ?_
      refine jq jrm ?_
      refine jq jrm ?_
      refine seq_nil ?_
      refine code_ret (jtr (jbr (jtr (jtr (jbr (jtr (jrt (hv := ?_))))))))
      have hb := parse_bad (s := s) (all_false (k := k) [] (by omega) (by exact okP_bad (.inr (by omega))))
      exact CEnt.tup2 (CEnt.nilS' (by rw [hb.1]; rfl)) (CEnt.int (by rw [hb.2]; rfl))
    refine code_skip (jtn ?_)
    refine jcg ?_
    refine jq jrm ?_
    refine jq jrm ?_
    refine jqe (jebl 1 1 zr3 fun p2 => ?_)
    refine jqm (m_appendC rowC_in (l2 := [valP ((splitC 46 s).getD k [])]) rfl rfl rfl rfl (by exact Nat.le_of_eq (Nat.mul_one _)) (fun _ _ => CEnt.refl _) (src_os rfl (.inl rfl) (by decide)) rfl (hh_ints (.cons (CEnt.int ((okP_good (by simpa using g39) h39).2)) .nil)) Tryz.underlying22 nu22 sz3 zr3 by3 rfl (by (simp; omega)) (by (simp; omega)) (leaf_flk rfl rfl) rfl rfl (Nat.mul_one _) (fun p3 => ?_))
    refine jq jrm ?_
    refine seq_nil ?_
    refine jbn (jtn ?_)
    refine jcg ?_
    refine jq jra ?_
    refine jq jrm ?_
    refine seq_nil ?_
    refine jtn ?_
    refine jlend ((k + 1, X ++ [valP ((splitC 46 s).getD k [])], p3)) ?_ ?_ (h5 := ?_) (h7 := ?_)
    · exact ⟨by omega, by rw [hX, take_get [] (by omega), List.map_append]; rfl, take_allO [] (by omega) hall (okP_good (by simpa using g39) h39).1⟩
    · show (splitC 46 s).length - (k + 1) < (splitC 46 s).length - k; omega
    · exact .cons (CEnt.int (by omega)) (.cons (CEnt.refl _) .nil)
    · exact .same .nil
end Am
end Go.Proofs.YtjckfbpdieijeaaGreatDoor

/- Chapter 5: a body's runs; Text, Get. -/
namespace Go.Proofs.YtjckfbpdieijeaaGreatDoor
set_option linter.unusedVariables false
namespace Am
variable {gs : List Nat} [OkG gs]
open Go.RowKit
set_option maxRecDepth 100000

/-! ### a body's runs -/
def runsF (f : FuncId) (g : Option Nat) : CV := .fn f 1 (fl [.op 0 g 0])
/-! ### Text -/
end Am
end Go.Proofs.YtjckfbpdieijeaaGreatDoor

/- Chapter 5: Get. -/
namespace Go.Proofs.YtjckfbpdieijeaaGreatDoor
set_option linter.unusedVariables false
namespace Am
variable {gs : List Nat} [OkG gs]
open Go.RowKit
set_option maxRecDepth 100000

section
variable {b : List UInt8} {k : Nat} {X : List Int}
end
end Am
end Go.Proofs.YtjckfbpdieijeaaGreatDoor

/- Chapter 5: the reference's septets, Put, Text. -/
namespace Go.Proofs.YtjckfbpdieijeaaGreatDoor
set_option linter.unusedVariables false
namespace Am
variable {gs : List Nat}
open Go.RowKit
set_option maxRecDepth 100000

theorem shr7 (N i : Nat) (hi : i ≤ 5) {b : Int} (hb : b = 7 * (i : Int)) : (N : Int).fdiv (2 ^ (min b.toNat (IntKind.bits .i64))) = ((N / 128 ^ i : Nat) : Int) := by
  have e : b.toNat = 7 * i := by omega
  rw [e, show min (7 * i) (IntKind.bits .i64) = 7 * i from Nat.min_eq_left (by show 7 * i ≤ 64; omega), Int.fdiv_eq_ediv_of_nonneg _ (Int.pow_nonneg (by decide))]
  rw [show (128 : Nat) ^ i = 2 ^ (7 * i) by rw [Nat.pow_mul]]
  push_cast
  rfl
def preS (N k : Nat) : List UInt8 := if k = 0 then sepL N else sepHi (N / 128 ^ k)
theorem div_next (N i : Nat) : N / 128 ^ (i + 1) = N / 128 ^ i / 128 := by rw [Nat.pow_succ, Nat.div_div_eq_div_mul]
theorem sepHi_nil {m : Nat} (h : (sepHi m).length = 0) : m = 0 := by
  by_cases h0 : m = 0
  · exact h0
  · rw [sepHi_pos h0] at h; simp at h
/-- the byte at place i of a number's bytes: of the seven bits q -/
def sepD (q i : Nat) : UInt8 := if i = 0 then UInt8.ofNat (q % 128) else UInt8.ofNat (q % 128 + 128)
theorem sepD_hi {q i : Nat} (h : 0 < i) : (q : Int) % 128 + 128 = ((sepD q i).toNat : Nat) := by
  rw [sepD, if_neg (by omega)]; exact (sep_int2 q).symm
theorem sepD_lo {q i : Nat} (h : i = 0) : (q : Int) % 128 = ((sepD q i).toNat : Nat) := by
  rw [sepD, if_pos h]; exact (sep_int q).symm
theorem pre_hi {N i q : Nat} {o : List UInt8} (hq : N / 128 ^ i = q) (ho : o = preS N (i + 1)) (h0 : 0 < i) (h : 0 < q % 128 ∨ 0 < o.length) : o ++ [UInt8.ofNat (q % 128 + 128)] = preS N i := by
  have e1 : preS N (i + 1) = sepHi (q / 128) := by unfold preS; rw [if_neg (by omega), div_next, hq]
  have e2 : preS N i = sepHi q := by unfold preS; rw [if_neg (by omega), hq]
  have hq0 : q ≠ 0 := fun e => by
    rw [e] at h e1
    rw [ho, e1, show (0 : Nat) / 128 = 0 from rfl, sepHi_zero] at h
    rcases h with h | h
    · exact absurd h (by decide)
    · exact absurd h (by decide)
  rw [e2, ho, e1, sepHi_pos hq0]
theorem pre_lo {N q : Nat} {o : List UInt8} (hq : N / 128 ^ 0 = q) (ho : o = preS N 1) : o ++ [UInt8.ofNat (q % 128)] = preS N 0 := by
  have e0 : q = N := by rw [← hq, Nat.pow_zero, Nat.div_one]
  rw [ho, e0]
  rfl
theorem pre_no {N i q : Nat} {o : List UInt8} (hq : N / 128 ^ i = q) (ho : o = preS N (i + 1)) (h0 : 0 < i) (h1 : ¬ 0 < q % 128) (h2 : ¬ 0 < o.length) : o = preS N i := by
  have e1 : preS N (i + 1) = sepHi (q / 128) := by unfold preS; rw [if_neg (by omega), div_next, hq]
  have e2 : preS N i = sepHi q := by unfold preS; rw [if_neg (by omega), hq]
  have e3 : q / 128 = 0 := sepHi_nil (by rw [← e1, ← ho]; omega)
  have e4 : q = 0 := by omega
  rw [ho, e1, e2, e3, e4]
theorem pre_len {N k : Nat} (hN : N < 34359738368) (hk : k ≤ 6) : (preS N k).length ≤ 5 := by
  unfold preS
  split
  · exact sepL_len hN
  · have h1 : N / 128 ^ k ≤ N := Nat.div_le_self _ _
    exact sepHi_len 5 _ (by omega)
set_option maxHeartbeats 1000000 in
theorem rsep_ac (N : Nat) (hN : N < 34359738368) : AC gs Tryz.prog 134 [] [.c (.int .i64 (N : Nat))] (OwnQ (sepL N).length 1 (sepL N).length (byF (sepL N))) := by
  refine ac_of 38 Tryz.func134 rfl rfl rfl (fun al w0 F0 St0 => ?_)
  refine jcr ?_
  refine jq jrm ?_
  refine seq_nil ?_
  refine jcr ?_
  refine jqe (jebl 0 1 zr5 fun p1 => ?_)
  refine jq jrm ?_
  refine seq_nil ?_
  refine jcs ?_
  refine jcr ?_
  refine jq jrm ?_
  refine seq_nil ?_
  refine code_block ?_
  refine l_loop (α := Nat × List UInt8 × Option Nat) [3, 4, 5, 7, 8, 9, 10, 11, 12, 13, 14, 15, 16, 17, 18, 19, 20, 21, 22, 23, 24, 25, 26, 27, 28, 29, 30, 31, 32, 33, 34, 35, 36] (fun (k, o, g) => [(4, .c (.int .i64 ((k : Int) - 1))), (3, .os 0 g 0 o.length 1)]) (fun (k, o, g) => [(g, .blk o.length (byF o))]) (fun (k, o, g) => k ≤ 6 ∧ o = preS N k) (fun (k, o, g) => k) ((6, [], p1)) ?_ (fun _ => rfl) ?_ ?_ ?_
  · exact ⟨Nat.le_refl _, by unfold preS; rw [if_neg (by decide), show N / 128 ^ 6 = 0 by omega, sepHi_zero]⟩
  · exact .cons (CEnt.refl _) (.cons (CEnt.refl _) .nil)
  · exact .blk rfl (fun j hj => absurd hj (Nat.not_lt_zero j)) .nil
  · rintro ⟨k, o, g⟩ ⟨(hk : k ≤ 6), (ho : o = _)⟩
    have hol : o.length ≤ 5 := by rw [ho]; exact pre_len hN hk
    refine jcs ?_
    refine jcr ?_
    refine jq jrm ?_
    refine jq jrc ?_
    refine seq_nil ?_
    refine jcc (fun h65 => ?_) fun h65 => ?_
    rotate_left
    · refine code_exit (jte (jte (jbx (jtn ?_))))
      obtain rfl : k = 0 := by omega
      obtain rfl : o = sepL N := ho
      refine jcr ?_
      refine jq jrm ?_
      refine jq jrm ?_
      refine seq_nil ?_
      refine code_ret ?_
      exact end_O 0 (.inl rfl) (res_1 rfl (arv_tmp rfl)) rfl rfl (Nat.le_refl _) (fun _ => rfl) (fun j hj => CEnt.refl _)
    refine code_skip (jtn ?_)
    refine jcs ?_
    refine code_block ?_
    obtain ⟨i, rfl⟩ : ∃ i, k = i + 1 := ⟨k - 1, by omega⟩
    obtain ⟨q, hq⟩ : ∃ q, N / 128 ^ i = q := ⟨_, rfl⟩
    refine jcr ?_
    refine jq jrm ?_
    refine jq jrm ?_
    refine jq jra ?_
    refine jq (jrv .i64 .u64) ?_
    refine jq (rd_shr rfl rfl rfl (by (omega)) ((q : Int)) (by rw [← hq]; exact shr7 N i (by omega) (by omega))) ?_
    refine jq jrr ?_
    refine jq jrm ?_
    refine seq_nil ?_
    refine jcr ?_
    refine jq jrm ?_
    refine jq jrc ?_
    refine jq jrm ?_
    refine jqsp 19 (fun g67 => ?_) fun g67 => ?_
    · refine jqs ?_
      refine jqs ?_
      refine jqs ?_
      refine jq jrpT ?_
      refine jq jrm ?_
      refine jqs ?_
      refine jqs ?_
      refine jq jrpT ?_
      refine seq_nil ?_
      refine jcT ?_
      refine jcs ?_
      refine jcr ?_
      refine jq jrm ?_
      refine jq jrc ?_
      refine seq_nil ?_
      refine jcc (fun h68 => ?_) fun h68 => ?_
      rotate_left
      · refine code_skip (jtn ?_)
        refine jcg ?_
        refine jq jrm ?_
        refine jq jrm ?_
        refine jq (jrv .i64 .u8) ?_
        refine jqe (jebl 1 1 zr5 fun p2 => ?_)
        refine jqm (m_appendB (l2 := [sepD q i]) rfl rfl rfl (Nat.le_refl _) (fun _ _ => CEnt.refl _) (src_os rfl (.inl rfl) (by decide)) rfl (hh_bytes (.cons (CEnt.int (by exact sepD_lo (by omega))) .nil)) Tryz.underlying26 nu26 sz5 zr5 by5 rfl (by (simp; omega)) (leaf_fl rfl rfl) rfl rfl (fun p3 => ?_))
        refine jq jrm ?_
        refine seq_nil ?_
        refine jbn (jtn ?_)
        refine jcg ?_
        refine jq jrm ?_
        refine jq jra ?_
        refine jq jrm ?_
        refine seq_nil ?_
        refine jtn ?_
        refine jlend ((i, o ++ [sepD q i], p3)) ?_ ?_ (h5 := ?_) (h7 := ?_)
        · exact ⟨by omega, by obtain rfl : i = 0 := (by omega); rw [sepD, if_pos rfl]; exact pre_lo hq ho⟩
        · show i < i + 1; omega
        · exact .cons (CEnt.int (by omega)) (.cons (CEnt.refl _) .nil)
        · exact .same .nil
      refine jcg ?_
      refine jq jrm ?_
      refine jq jra ?_
      refine jq jrm ?_
      refine seq_nil ?_
      refine jtn ?_
      refine jcg ?_
      refine jq jrm ?_
      refine jq jrm ?_
      refine jq (jrv .i64 .u8) ?_
      refine jqe (jebl 1 1 zr5 fun p2 => ?_)
      refine jqm (m_appendB (l2 := [sepD q i]) rfl rfl rfl (Nat.le_refl _) (fun _ _ => CEnt.refl _) (src_os rfl (.inl rfl) (by decide)) rfl (hh_bytes (.cons (CEnt.int (by exact sepD_hi (by omega))) .nil)) Tryz.underlying26 nu26 sz5 zr5 by5 rfl (by (simp; omega)) (leaf_fl rfl rfl) rfl rfl (fun p3 => ?_))
      refine jq jrm ?_
      refine seq_nil ?_
      refine jbn (jtn ?_)
      refine jcg ?_
      refine jq jrm ?_
      refine jq jra ?_
      refine jq jrm ?_
      refine seq_nil ?_
      refine jtn ?_
      refine jlend ((i, o ++ [sepD q i], p3)) ?_ ?_ (h5 := ?_) (h7 := ?_)
      · exact ⟨by omega, by (rw [sepD, if_neg (by omega)]; exact pre_hi hq ho (by omega) (by omega))⟩
      · show i < i + 1; omega
      · exact .cons (CEnt.int (by omega)) (.cons (CEnt.refl _) .nil)
      · exact .same .nil
    refine jq jrm ?_
    refine jq jrl ?_
    refine jq jrc ?_
    refine jq jrpF ?_
    refine jq jrm ?_
    refine jqsp 24 (fun g67_2 => ?_) fun g67_2 => ?_
    · refine jqs ?_
      refine jqs ?_
      refine jq jrpT ?_
      refine seq_nil ?_
      refine jcT ?_
      refine jcs ?_
      refine jcr ?_
      refine jq jrm ?_
      refine jq jrc ?_
      refine seq_nil ?_
      refine jcc (fun h68 => ?_) fun h68 => ?_
      rotate_left
      · refine code_skip (jtn ?_)
        refine jcg ?_
        refine jq jrm ?_
        refine jq jrm ?_
        refine jq (jrv .i64 .u8) ?_
        refine jqe (jebl 1 1 zr5 fun p2 => ?_)
        refine jqm (m_appendB (l2 := [sepD q i]) rfl rfl rfl (Nat.le_refl _) (fun _ _ => CEnt.refl _) (src_os rfl (.inl rfl) (by decide)) rfl (hh_bytes (.cons (CEnt.int (by exact sepD_lo (by omega))) .nil)) Tryz.underlying26 nu26 sz5 zr5 by5 rfl (by (simp; omega)) (leaf_fl rfl rfl) rfl rfl (fun p3 => ?_))
        refine jq jrm ?_
        refine seq_nil ?_
        refine jbn (jtn ?_)
        refine jcg ?_
        refine jq jrm ?_
        refine jq jra ?_
        refine jq jrm ?_
        refine seq_nil ?_
        refine jtn ?_
        refine jlend ((i, o ++ [sepD q i], p3)) ?_ ?_ (h5 := ?_) (h7 := ?_)
        · exact ⟨by omega, by obtain rfl : i = 0 := (by omega); rw [sepD, if_pos rfl]; exact pre_lo hq ho⟩
        · show i < i + 1; omega
        · exact .cons (CEnt.int (by omega)) (.cons (CEnt.refl _) .nil)
        · exact .same .nil
      refine jcg ?_
      refine jq jrm ?_
      refine jq jra ?_
      refine jq jrm ?_
      refine seq_nil ?_
      refine jtn ?_
      refine jcg ?_
      refine jq jrm ?_
      refine jq jrm ?_
      refine jq (jrv .i64 .u8) ?_
      refine jqe (jebl 1 1 zr5 fun p2 => ?_)
      refine jqm (m_appendB (l2 := [sepD q i]) rfl rfl rfl (Nat.le_refl _) (fun _ _ => CEnt.refl _) (src_os rfl (.inl rfl) (by decide)) rfl (hh_bytes (.cons (CEnt.int (by exact sepD_hi (by omega))) .nil)) Tryz.underlying26 nu26 sz5 zr5 by5 rfl (by (simp; omega)) (leaf_fl rfl rfl) rfl rfl (fun p3 => ?_))
      refine jq jrm ?_
      refine seq_nil ?_
      refine jbn (jtn ?_)
      refine jcg ?_
      refine jq jrm ?_
      refine jq jra ?_
      refine jq jrm ?_
      refine seq_nil ?_
      refine jtn ?_
      refine jlend ((i, o ++ [sepD q i], p3)) ?_ ?_ (h5 := ?_) (h7 := ?_)
      · exact ⟨by omega, by (rw [sepD, if_neg (by omega)]; exact pre_hi hq ho (by omega) (by omega))⟩
      · show i < i + 1; omega
      · exact .cons (CEnt.int (by omega)) (.cons (CEnt.refl _) .nil)
      · exact .same .nil
    refine jq jrm ?_
    refine jq jrc ?_
    refine jq jrpF ?_
    refine seq_nil ?_
    refine jcc (fun h67 => ?_) fun h67 => ?_
    rotate_left
    · refine code_skip (jbn (jtn ?_))
      refine jcg ?_
      refine jq jrm ?_
      refine jq jra ?_
      refine jq jrm ?_
      refine seq_nil ?_
      refine jtn ?_
      refine jlend ((i, o, g)) ?_ ?_ (h5 := ?_) (h7 := ?_)
      · exact ⟨by omega, pre_no hq ho (by omega) (by omega) (by omega)⟩
      · show i < i + 1; omega
      · exact .cons (CEnt.int (by omega)) (.cons (CEnt.refl _) .nil)
      · exact .same .nil
    refine jcs ?_
    refine jcr ?_
    refine jq jrm ?_
    refine jq jrc ?_
    refine seq_nil ?_
    refine jcc (fun h68 => ?_) fun h68 => ?_
    rotate_left
    · refine code_skip (jtn ?_)
      refine jcg ?_
      refine jq jrm ?_
      refine jq jrm ?_
      refine jq (jrv .i64 .u8) ?_
      refine jqe (jebl 1 1 zr5 fun p2 => ?_)
      refine jqm (m_appendB (l2 := [sepD q i]) rfl rfl rfl (Nat.le_refl _) (fun _ _ => CEnt.refl _) (src_os rfl (.inl rfl) (by decide)) rfl (hh_bytes (.cons (CEnt.int (by exact sepD_lo (by omega))) .nil)) Tryz.underlying26 nu26 sz5 zr5 by5 rfl (by (simp; omega)) (leaf_fl rfl rfl) rfl rfl (fun p3 => ?_))
      refine jq jrm ?_
      refine seq_nil ?_
      refine jbn (jtn ?_)
      refine jcg ?_
      refine jq jrm ?_
      refine jq jra ?_
      refine jq jrm ?_
      refine seq_nil ?_
      refine jtn ?_
      refine jlend ((i, o ++ [sepD q i], p3)) ?_ ?_ (h5 := ?_) (h7 := ?_)
      · exact ⟨by omega, by obtain rfl : i = 0 := (by omega); rw [sepD, if_pos rfl]; exact pre_lo hq ho⟩
      · show i < i + 1; omega
      · exact .cons (CEnt.int (by omega)) (.cons (CEnt.refl _) .nil)
      · exact .same .nil
    refine jcg ?_
    refine jq jrm ?_
    refine jq jra ?_
    refine jq jrm ?_
    refine seq_nil ?_
    refine jtn ?_
    refine jcg ?_
    refine jq jrm ?_
    refine jq jrm ?_
    refine jq (jrv .i64 .u8) ?_
    refine jqe (jebl 1 1 zr5 fun p2 => ?_)
    refine jqm (m_appendB (l2 := [sepD q i]) rfl rfl rfl (Nat.le_refl _) (fun _ _ => CEnt.refl _) (src_os rfl (.inl rfl) (by decide)) rfl (hh_bytes (.cons (CEnt.int (by exact sepD_hi (by omega))) .nil)) Tryz.underlying26 nu26 sz5 zr5 by5 rfl (by omega) (leaf_fl rfl rfl) rfl rfl (fun p3 => ?_))
    refine jq jrm ?_
    refine seq_nil ?_
    refine jbn (jtn ?_)
    refine jcg ?_
    refine jq jrm ?_
    refine jq jra ?_
    refine jq jrm ?_
    refine seq_nil ?_
    refine jtn ?_
    refine jlend ((i, o ++ [sepD q i], p3)) ?_ ?_ (h5 := ?_) (h7 := ?_)
    · exact ⟨by omega, by (exfalso; omega)⟩
    · show i < i + 1; omega
    · exact .cons (CEnt.int (by omega)) (.cons (CEnt.refl _) .nil)
    · exact .same .nil
set_option maxHeartbeats 1000000 in
theorem rputO_ac (l : List Int) (hr : rightA l = true) : ACp gs Tryz.prog 93 [isC l] (bsC (putA l)) := by
  obtain ⟨hl2, hl16, hall, ha, hb⟩ := right_at hr
  have h0 := hall _ (getD_mem' (l := l) (k := 0) 0 (by omega))
  have h1 := hall _ (getD_mem' (l := l) (k := 1) 0 (by omega))
  refine ac_of 28 Tryz.func93 rfl rfl rfl (fun al w0 F0 St0 => ?_)
  refine jcr ?_
  refine jq jrm ?_
  refine seq_nil ?_
  refine jcs ?_
  refine jcd (.rd 0 (.rd 1 (.rd 2 (.rd 3 (.rd 4 (.rd 5 (.rd 6 (.rd 7 (.one 8 (.rd 9 .done)))))))))) ?_
  refine jyq jrm ?_
  refine jyq (jri (i := 0)) ?_
  refine jyq jrdr ?_
  refine jyq jra ?_
  refine jyq jrm ?_
  refine jyq (jri (i := 1)) ?_
  refine jyq jrdr ?_
  refine jyq jra ?_
  refine jye (jecO (rsep_ac (40 * l.getD 0 0 + l.getD 1 0).toNat (by omega)) (fun p1 => ?_) (ho := rfl) (he := (.cons (se rfl (CEnt.int (by omega))) .nil)))
  refine jyq jrm ?_
  refine jyd ?_
  refine jtn ?_
  refine jcs ?_
  refine jcr ?_
  refine jq jrm ?_
  refine jq (jrsr (hl := (bd_some rfl (show (2 : Int) = ((2 : Nat) : Int) from rfl))) (hu := (bd_none _ _))) ?_
  refine jq jrl ?_
  refine jq jrm ?_
  refine seq_nil ?_
  refine code_block ?_
  refine l_loop (α := Nat × List UInt8 × Option Nat) [3, 5, 18, 19, 20, 21, 22, 23, 24, 25, 26] (fun (i, o, g) => [(3, .os 0 g 0 o.length 1), (18, .c (.int .i64 (i : Nat)))]) (fun (i, o, g) => [(g, .blk o.length (byF o))]) (fun (i, o, g) => i ≤ l.length - 2 ∧ o = sepL (40 * l.getD 0 0 + l.getD 1 0).toNat ++ (((l.drop 2).take i).map fun n => sepL n.toNat).flatten) (fun (i, o, g) => l.length - i) ((0, sepL (40 * l.getD 0 0 + l.getD 1 0).toNat, p1)) ?_ (fun _ => rfl) ?_ ?_ ?_
  · exact ⟨Nat.zero_le _, by simp⟩
  · exact .cons (CEnt.refl _) (.cons (CEnt.refl _) .nil)
  · exact .same .nil
  · rintro ⟨i, o, g⟩ ⟨(hi : i ≤ l.length - 2), ho⟩
    have hol : o.length ≤ 5 + 5 * i := by
      rw [ho, List.length_append]
      have e1 := sepL_len (n := (40 * l.getD 0 0 + l.getD 1 0).toNat) (by omega)
      have e2 := sep_flat_len (l := (l.drop 2).take i) (fun n hn => hall n (List.mem_of_mem_drop (List.mem_of_mem_take hn)))
      rw [List.length_take, List.length_drop] at e2
      omega
    refine jcr ?_
    refine jq jrc ?_
    refine seq_nil ?_
    refine jcs ?_
    refine jcc (fun h80 => ?_) fun h80 => ?_
    rotate_left
    · refine code_exit (jte (jte (jbx (jtn ?_))))
      refine jcr ?_
      refine jq jrm ?_
      refine jq jrm ?_
      refine seq_nil ?_
      refine code_ent (freeze 0 rfl) ?_
      refine code_ent (thawB 2 (o) rfl rfl (by rfl) rfl) ?_
      refine code_ret (jrt (hv := ?_))
      refine CEnt.bs ?_
      rw [ho, List.take_of_length_le (by rw [List.length_drop]; omega)]
      rfl
    refine code_skip (jtn ?_)
    refine jcs ?_
    refine code_block ?_
    refine jcr ?_
    refine jq jri ?_
    refine jq jrdr ?_
    refine jq jrm ?_
    refine seq_nil ?_
    have h3 := hall _ (getD_mem' (l := l) (k := 2 + i) 0 (by omega))
    have h4 := sepL_len (n := (l.getD (2 + i) 0).toNat) (by omega)
    refine jcg ?_
    refine jq jrm ?_
    refine jq jrm ?_
    refine jqe (jecO (rsep_ac (l.getD (2 + i) 0).toNat (by omega)) (fun p2 => ?_) (ho := rfl) (he := (.cons (se rfl (CEnt.int (by omega))) .nil)))
    first | refine jqm (m_appendB rfl rfl rfl (Nat.le_refl _) (fun _ _ => CEnt.refl _) (src_rs rfl) rfl (fun j hj => by simp only [Nat.div_one]; exact CEnt.refl _) Tryz.underlying26 nu26 sz5 zr5 by5 rfl (by first | omega | (simp; done) | (simp; omega) | (simp at *; omega)) (fun j hj => rfl) rfl rfl (fun p3 => ?_)) | refine jqm (m_appendB rfl rfl rfl (Nat.le_refl _) (fun _ _ => CEnt.refl _) (src_str rfl) rfl (fun j hj => CEnt.refl _) Tryz.underlying26 nu26 sz5 zr5 by5 rfl (by first | omega | (simp; done) | (simp; omega) | (simp at *; omega)) (fun j hj => rfl) rfl rfl (fun p3 => ?_)) | refine jqm (m_appendB rfl rfl rfl (Nat.le_refl _) (fun _ _ => CEnt.refl _) (src_os rfl (.inl rfl) (by omega)) rfl (fun j hj => by rw [Nat.zero_add]; exact CEnt.refl _) Tryz.underlying26 nu26 sz5 zr5 by5 rfl (by omega) (fun j hj => rfl) rfl rfl (fun p3 => ?_))
    refine jq jrm ?_
    refine seq_nil ?_
    refine jbn (jtn ?_)
    refine jcg ?_
    refine jq jra ?_
    refine jq jrm ?_
    refine seq_nil ?_
    refine jtn ?_
    refine jlend ((i + 1, o ++ sepL (l.getD (2 + i) 0).toNat, p3)) ?_ ?_ (h5 := ?_) (h7 := ?_)
    · exact ⟨by omega, by rw [ho, sep_take (by rw [List.length_drop]; omega), List.append_assoc]⟩
    · show l.length - (i + 1) < l.length - i; omega
    · exact .cons (CEnt.refl _) (.cons (CEnt.int (by omega)) .nil)
    · exact .same .nil

/-! ### Text -/
end Am
end Go.Proofs.YtjckfbpdieijeaaGreatDoor

/- Chapter 8: the reference's writer: add, put. -/
namespace Go.Proofs.YtjckfbpdieijeaaGreatDoor
set_option linter.unusedVariables false
namespace Am
variable {gs : List Nat} [OkG gs]
open Go.RowKit
set_option maxRecDepth 100000

def rowsF (r : List (List (List UInt8))) (j : Nat) : CV := lbC (r.getD j [])
def rwB (s : R8) (jr : Nat) (gr : Option Nat) : Nat → CV := fl [isC s.tags, .os jr gr 0 s.rows.length 1, .c (.int .i64 (s.e : Nat))]
def rwE (s : R8) (z : Nat × Option Nat) : List (Option Nat × Res) := [(some z.1, .blk 3 (rwB s 1 z.2)), (z.2, .blk s.rows.length (rowsF s.rows))]
def rwO (n : Nat) (s : R8) : Option Nat × Res := objE n (fun z : Nat × Option Nat => z.1) (rwE s)
section
variable {P : Program} {G : Gh} {c : Code} {R : Exit → AS → Prop} {n : Nat} {s : R8} {env : List (Nat × CV)} {b0 : Nat → CV} {H : List (Option Nat × Res)}
theorem code_openRW (i : Nat) (hi : H[i]? = some (rwO n s)) (h : ∀ gr, ACode P G c ⟨env, b0, H.set i (some n, .blk 3 (rwB s H.length gr)) ++ [(gr, .blk s.rows.length (rowsF s.rows))]⟩ R) : ACode P G c ⟨env, b0, H⟩ R := by
  have hlt := (List.getElem?_eq_some_iff.1 hi).1
  refine code_unpack i hi fun z hz => ?_
  obtain ⟨n', gr⟩ := z
  obtain rfl : n' = n := hz
  refine code_ent (weakH i 3 (rwB s H.length gr) (n := 3) (g := some n') (f := rwB s 1 gr) ?_ (Nat.le_refl _) fun j hj => ?_) ?_
  · show (H.set i _ ++ _)[i]? = _
    rw [List.getElem?_append_left (by simpa using hlt)]
    simp [hlt]
  · rcases j with _ | _ | _ | j
    · exact CEnt.refl _
    · exact CEnt.osI rfl
    · exact CEnt.refl _
    · omega
  · have := h gr
    rw [← List.set_set (a := (some n', Res.blk 3 (rwB s 1 gr))), ← List.set_append_left _ _ (by simpa using hlt)] at this
    exact this
theorem closeRWh (n : Nat) (s : R8) (i j : Nat) {gr : Option Nat} {N : Nat} {f F : Nat → CV} (hi : H[i]? = some (some n, .blk 3 f)) (hj : H[j]? = some (gr, .blk N F)) (hij : Nat.beq i j = false) (h0 : CEnt (f 0) (isC s.tags)) (h1 : CEnt (f 1) (.os 1 gr 0 s.rows.length 1)) (h2 : CEnt (f 2) (.c (.int .i64 (s.e : Nat)))) (hN : s.rows.length ≤ N) (hF : ∀ a, a < s.rows.length → CEnt (F a) (rowsF s.rows a)) :
    ∀ {al : List Addr} {St : Nat → Prop} {w : World} {base : Nat} {F0 : Nat → Prop}, HRel al St w base F0 H → HRel al St w base F0 ((H.set i (rwO n s)).set j (none, .dead)) := by
  intro al St w base F0 h
  have hij := Nat.ne_of_beq_eq_false hij
  have hil := (List.getElem?_eq_some_iff.1 hi).1
  have hjl := (List.getElem?_eq_some_iff.1 hj).1
  have k1 := h.weak (F := rwB s 1 gr) hi (Nat.le_refl _) fun a ha => by
    rcases a with _ | _ | _ | a
    · exact h0
    · exact h1
    · exact h2
    · omega
  have k2 := k1.weak (i := j) (F := rowsF s.rows) (by rw [List.getElem?_set_ne hij]; exact hj) hN hF
  have k4 := k2.closeN (gd := fun z : Nat × Option Nat => z.1) (E := rwE s) (n, gr) i [j] (by simp [hij]) (by simp [hil, hjl]) (by
    simp only [pickL, List.map_cons, List.map_nil, List.getD_eq_getElem?_getD]
    rw [List.getElem?_set_ne (Ne.symm hij)]
    simp [hil, hjl, rwE])
  have e : killL (((H.set i (some n, Res.blk 3 (rwB s 1 gr))).set j (gr, Res.blk s.rows.length (rowsF s.rows))).set i (objE n (fun z : Nat × Option Nat => z.1) (rwE s))) [j] = (H.set i (rwO n s)).set j (none, .dead) := by
    show ((((H.set i _).set j _).set i _).set j _) = _
    rw [List.set_comm _ _ (Ne.symm hij), List.set_set, List.set_set]
    rfl
  rw [← e]
  exact k4
theorem closeRW (n : Nat) (s : R8) (i j : Nat) {gr : Option Nat} {N : Nat} {f F : Nat → CV} (hi : H[i]? = some (some n, .blk 3 f)) (hj : H[j]? = some (gr, .blk N F)) (hij : Nat.beq i j = false) (h0 : CEnt (f 0) (isC s.tags)) (h1 : CEnt (f 1) (.os 1 gr 0 s.rows.length 1)) (h2 : CEnt (f 2) (.c (.int .i64 (s.e : Nat)))) (hN : s.rows.length ≤ N) (hF : ∀ a, a < s.rows.length → CEnt (F a) (rowsF s.rows a)) :
    EntS G ⟨env, b0, H⟩ ⟨env, b0, (H.set i (rwO n s)).set j (none, .dead)⟩ := EntS.hrel (closeRWh n s i j hi hj hij h0 h1 h2 hN hF)
end
theorem end_closeRW {P : Program} {G : Gh} {fn : Func} {e : Exit} {v m : CV} {env : List (Nat × CV)} {b0 : Nat → CV} {H : List (Option Nat × Res)} (he : e = .ret ∨ e = .normal) (n : Nat) (s : R8) (j : Nat) {gr : Option Nat} {N : Nat} {f F : Nat → CV} (hres : ARes P G fn ⟨env, b0, (H.set 0 (rwO n s)).set j (none, .dead)⟩ v) (hv : CEnt v m) (hi : H[0]? = some (some n, .blk 3 f)) (hj : H[j]? = some (gr, .blk N F)) (hij : Nat.beq 0 j = false) (h0 : CEnt (f 0) (isC s.tags)) (h1 : CEnt (f 1) (.os 1 gr 0 s.rows.length 1)) (h2 : CEnt (f 2) (.c (.int .i64 (s.e : Nat)))) (hN : s.rows.length ≤ N) (hF : ∀ a, a < s.rows.length → CEnt (F a) (rowsF s.rows a)) :
    bodyR P G fn (fun r H' => r = m ∧ H' = [rwO n s]) e ⟨env, b0, H⟩ := by
  refine end_hr (closeRWh n s 0 j hi hj hij h0 h1 h2 hN hF) (end_H he ?_ hres hv)
  have hlt := (List.getElem?_eq_some_iff.1 hi).1
  show (List.set _ _ _)[0]? = _
  rw [List.getElem?_set_ne (Ne.symm (Nat.ne_of_beq_eq_false hij))]
  simp [hlt]
theorem rowC_rows : RowC 1 rowsF := fun l l2 j hj => by
  simp only [rowsF, List.getD_eq_getElem?_getD]
  split
  · rw [List.getElem?_append_left (by omega)]
  · rw [List.getElem?_append_right (by omega), Nat.mul_one]
theorem rows_set {l : List (List (List UInt8))} {i : Nat} {x : List (List UInt8)} {j : Nat} {c : CV} (hc : CEnt c (lbC x)) (hj : j < l.length) : CEnt (updF (rowsF l) i [c] j) (rowsF (l.set i x) j) := by
  rw [updF_get]
  by_cases h : j = i
  · subst h
    rw [if_pos (by simp)]
    have e : rowsF (l.set j x) j = lbC x := by simp [rowsF, List.getD_eq_getElem?_getD, hj]
    rw [e, Nat.sub_self]
    exact hc
  · rw [if_neg (by simp; omega)]
    refine CEnt.of_eq ?_
    simp [rowsF, List.getD_eq_getElem?_getD, List.getElem?_set_ne (Ne.symm h)]
structure OkR (s : R8) : Prop where
  n : s.tags.length ≤ 100000
  r : s.rows.length ≤ 100000
  k : ∀ x ∈ s.rows, x.length ≤ 1000000
theorem okR_at {s : R8} (h : OkR s) (j : Nat) : (s.rows.getD j []).length ≤ 1000000 := by
  rw [List.getD_eq_getElem?_getD]
  cases e : s.rows[j]? with
  | none => simp
  | some x => simpa using h.k x (List.mem_of_getElem? e)
/-- with i rows more -/
def moreS (s : R8) (i : Nat) : R8 := ⟨s.tags, s.rows ++ List.replicate i [], s.e⟩
theorem more_pad (s : R8) (i m : Nat) (h : i = m - s.rows.length) : moreS s i = ⟨s.tags, padR m s.rows, s.e⟩ := by subst h; rfl
theorem more_succ (s : R8) (i : Nat) : (moreS s i).rows ++ [[]] = (moreS s (i + 1)).rows := by simp [moreS, List.replicate_succ', List.append_assoc]
theorem radd08_ac {gs : List Nat} (n : Nat) (s : R8) (b : List UInt8) (hs : OkR s) : AC gs Tryz.prog 51 [rwO n s] [.op 0 (some n) 0, bsC b] (fun r H' => r = .c (.tuple #[]) ∧ H' = [rwO n (raddS b s)]) := by
  have hsn := hs.n
  have hsr := hs.r
  refine ac_of 48 Tryz.func51 rfl rfl rfl (fun al w0 F0 St0 => ?_)
  refine jcs ?_
  refine code_block ?_
  refine code_openRW 0 rfl fun gr => ?_
  refine l_loop (α := Nat × Option Nat) [5, 6, 7, 8, 9, 10, 11, 12, 13, 14, 15, 16, 17, 18, 19, 20, 21, 22, 23, 24] (fun i => []) (fun (i, g) => [(some n, .blk 3 (rwB (moreS s i) 1 g)), (g, .blk (moreS s i).rows.length (rowsF (moreS s i).rows))]) (fun i => i.1 ≤ s.tags.length + 1 - s.rows.length) (fun i => s.tags.length + 1 - s.rows.length - i.1) ((0, gr)) ?_ (fun _ => rfl) ?_ ?_ ?_
  · exact Nat.zero_le _
  · (repeat (exact EntE.nil))
  · (show HEnt _ [(some n, Res.blk 3 (rwB (moreS s 0) 1 gr)), (gr, Res.blk (moreS s 0).rows.length (rowsF (moreS s 0).rows))]; rw [show moreS s 0 = s by unfold moreS; simp]; exact HEnt.refl _)
  · rintro ⟨i, g⟩ (hi : i ≤ s.tags.length + 1 - s.rows.length)
    have hml : (moreS s i).rows.length = s.rows.length + i := by simp [moreS]
    have hmt : (moreS s i).tags.length = s.tags.length := rfl
    refine jcs ?_
    refine jcs ?_
    refine jcd (.rd 0 (.rd 1 (.rd 2 (.rd 3 (.rd 4 (.rd 5 (.rd 6 (.rd 7 (.rd 8 (.rd 9 (.rd 10 .done))))))))))) ?_
    refine jyq jrm ?_
    refine jyq jrnc ?_
    refine jyq (jrfa 1 1 false) ?_
    refine jyo jrdo ?_
    refine jyq jrl ?_
    refine jyq jrm ?_
    refine jyq jrnc ?_
    refine jyq (jrfa 0 1 false) ?_
    refine jyo jrdo ?_
    refine jyq jrl ?_
    refine jyq jrc ?_
    refine jyd ?_
    refine jtn ?_
    refine jcc (fun h72 => ?_) fun h72 => ?_
    · refine code_skip (jtn ?_)
      refine code_block ?_
      refine jcg ?_
      refine jq jrm ?_
      refine jq jrm ?_
      refine jq jrnc ?_
      refine jq (jrfa 1 1 false) ?_
      refine jqo jrdo ?_
      refine jqe (jebl 1 1 zr56 fun p1 => ?_)
      refine seq_ent (weakH 2 1 (rowsF [[]]) rfl (Nat.le_refl _) (fun j hj => by rcases j with _ | j <;> first | exact CEnt.nilS _ _ | omega)) ?_
      refine jqm (m_appendC rowC_rows (l2 := [[]]) rfl rfl rfl rfl (Nat.le_of_eq (Nat.mul_one _)) (fun _ _ => CEnt.refl _) (src_os rfl (.inl rfl) (by decide)) rfl (fun j hj => by rw [Nat.zero_add]; exact CEnt.refl _) Tryz.underlying38 nu38 sz56 zr56 by56 rfl (by simp; omega) (by simp; omega) (fun j hj => rfl) rfl rfl (Nat.mul_one _) (fun p2 => ?_))
      refine jq jrnc ?_
      refine jq (jrfa 1 1 false) ?_
      refine jqm (jmstF 1 (rwB (moreS s (i + 1)) 1 p2) ?_ ?_)
      · exact (fun j hj => by rcases j with _ | _ | _ | j <;> first | exact CEnt.refl _ | exact CEnt.osI (by rw [more_succ]) | omega)
      refine seq_nil ?_
      refine jbn (jtn ?_)
      refine jlend ((i + 1, p2)) ?_ ?_ (h7 := ?_)
      · (show i + 1 ≤ _; omega)
      · (show _ - (i + 1) < _ - i; omega)
      · simp only [more_succ]; exact HEnt.refl _
    refine code_exit (jte (jte (jbx (jtn ?_))))
    refine jcr ?_
    refine jq jrm ?_
    refine jq jrnc ?_
    refine jq (jrfa 0 1 false) ?_
    refine jqo jrdo ?_
    refine jq jrl ?_
    refine jq jrm ?_
    refine seq_nil ?_
    have hiE : i = s.tags.length + 1 - s.rows.length := by omega
    have hk := okR_at hs s.tags.length
    have hpl := pad_len (s.tags.length + 1) s.rows
    dsimp only
    rw [more_pad s i _ hiE]
    rw [more_pad s i _ hiE] at hml
    have hk2 : ((padR (s.tags.length + 1) s.rows)[s.tags.length]?.getD []).length ≤ 1000000 := by rw [← List.getD_eq_getElem?_getD, pad_get]; exact hk
    refine jcdL n (.rd 0 (.rd 1 (.rd 2 (.rd 3 (.rd 4 (.rd 6 (.rd 7 (.rd 8 (.rd 9 (.rd 10 (.rd 11 (.rd 12 (.rd 14 (.two 5 (.two 13 (.one 15 (.one 16 (.rd 17 (.one 18 .done)))) 15 (.one 13 (.one 16 (.rd 17 (.one 18 .done))))) 15 (.one 5 (.one 13 (.one 16 (.rd 17 (.one 18 .done))))))))))))))))))) ?_
    refine jLq jrm ?_
    refine jLq jrnc ?_
    refine jLq (jrfa 1 1 false) ?_
    refine jLL jlrd ?_
    refine jLq jrm ?_
    refine jLq jrm ?_
    refine jLq jrnc ?_
    refine jLq (jrfa 1 1 false) ?_
    refine jLL jlrd ?_
    refine jLq jrm ?_
    refine jLq jri ?_
    refine jLo jrdo ?_
    refine jLq jrm ?_
    refine jLtwo ?_ ?_
    · refine jLe 0 (jebl 0 1 zr26 fun p1 => ?_)
      refine jLtwo ?_ ?_
      · first | refine jLm 0 1 (m_appendCX rowC_lb (l := []) (l2 := (padR (s.tags.length + 1) s.rows).getD s.tags.length []) rfl rfl rfl rfl (Nat.le_of_eq (Nat.zero_mul _)) (fun j hj => absurd hj (by simp)) (src_rs rfl) rfl (fun j hj => by (simp only [Nat.div_one]; exact CEnt.refl _)) Tryz.underlying56 nu56 sz26 zr26 by26 rfl (by simp only [List.length_nil, pad_get]; omega) (by simp only [List.length_nil, pad_get]; omega) (fun j hj => rfl) rfl rfl (Nat.mul_one _) (fun p2 => ?_)) | refine jLm 0 2 (m_appendCX rowC_lb (l := []) (l2 := (padR (s.tags.length + 1) s.rows).getD s.tags.length []) rfl rfl rfl rfl (Nat.le_of_eq (Nat.zero_mul _)) (fun j hj => absurd hj (by simp)) (src_rs rfl) rfl (fun j hj => by (simp only [Nat.div_one]; exact CEnt.refl _)) Tryz.underlying56 nu56 sz26 zr26 by26 rfl (by simp only [List.length_nil, pad_get]; omega) (by simp only [List.length_nil, pad_get]; omega) (fun j hj => rfl) rfl rfl (Nat.mul_one _) (fun p2 => ?_)) | refine jLm 0 3 (m_appendCX rowC_lb (l := []) (l2 := (padR (s.tags.length + 1) s.rows).getD s.tags.length []) rfl rfl rfl rfl (Nat.le_of_eq (Nat.zero_mul _)) (fun j hj => absurd hj (by simp)) (src_rs rfl) rfl (fun j hj => by first | exact CEnt.refl _ | (simp only [Nat.div_one]; exact CEnt.refl _)) Tryz.underlying56 nu56 sz26 zr26 by26 rfl (by simp only [List.length_nil, pad_get]; omega) (by simp only [List.length_nil, pad_get]; omega) (fun j hj => rfl) rfl rfl (Nat.mul_one _) (fun p2 => ?_)) | refine jLm 0 4 (m_appendCX rowC_lb (l := []) (l2 := (padR (s.tags.length + 1) s.rows).getD s.tags.length []) rfl rfl rfl rfl (Nat.le_of_eq (Nat.zero_mul _)) (fun j hj => absurd hj (by simp)) (src_rs rfl) rfl (fun j hj => by first | exact CEnt.refl _ | (simp only [Nat.div_one]; exact CEnt.refl _)) Tryz.underlying56 nu56 sz26 zr26 by26 rfl (by simp only [List.length_nil, pad_get]; omega) (by simp only [List.length_nil, pad_get]; omega) (fun j hj => rfl) rfl rfl (Nat.mul_one _) (fun p2 => ?_)) | refine jLm 0 5 (m_appendCX rowC_lb (l := []) (l2 := (padR (s.tags.length + 1) s.rows).getD s.tags.length []) rfl rfl rfl rfl (Nat.le_of_eq (Nat.zero_mul _)) (fun j hj => absurd hj (by simp)) (src_rs rfl) rfl (fun j hj => by first | exact CEnt.refl _ | (simp only [Nat.div_one]; exact CEnt.refl _)) Tryz.underlying56 nu56 sz26 zr26 by26 rfl (by simp only [List.length_nil, pad_get]; omega) (by simp only [List.length_nil, pad_get]; omega) (fun j hj => rfl) rfl rfl (Nat.mul_one _) (fun p2 => ?_)) | refine jLm 0 6 (m_appendCX rowC_lb (l := []) (l2 := (padR (s.tags.length + 1) s.rows).getD s.tags.length []) rfl rfl rfl rfl (Nat.le_of_eq (Nat.zero_mul _)) (fun j hj => absurd hj (by simp)) (src_rs rfl) rfl (fun j hj => by first | exact CEnt.refl _ | (simp only [Nat.div_one]; exact CEnt.refl _)) Tryz.underlying56 nu56 sz26 zr26 by26 rfl (by simp only [List.length_nil, pad_get]; omega) (by simp only [List.length_nil, pad_get]; omega) (fun j hj => rfl) rfl rfl (Nat.mul_one _) (fun p2 => ?_)) | refine jLm 0 7 (m_appendCX rowC_lb (l := []) (l2 := (padR (s.tags.length + 1) s.rows).getD s.tags.length []) rfl rfl rfl rfl (Nat.le_of_eq (Nat.zero_mul _)) (fun j hj => absurd hj (by simp)) (src_rs rfl) rfl (fun j hj => by first | exact CEnt.refl _ | (simp only [Nat.div_one]; exact CEnt.refl _)) Tryz.underlying56 nu56 sz26 zr26 by26 rfl (by simp only [List.length_nil, pad_get]; omega) (by simp only [List.length_nil, pad_get]; omega) (fun j hj => rfl) rfl rfl (Nat.mul_one _) (fun p2 => ?_))
        refine jLe 0 (jebl 1 1 zr26 fun p3 => ?_)
        first | refine jLm 0 1 (m_appendCX (rowC_lb) (l2 := [b]) rfl rfl rfl rfl (by omega) (fun _ _ => CEnt.refl _) (src_os rfl (.inl rfl) (by decide)) rfl (fun j hj => by rcases j with _|j <;> first | exact CEnt.refl _ | exact CEnt.int (by omega) | (exfalso; simp at hj <;> omega)) Tryz.underlying56 nu56 sz26 zr26 by26 rfl (by (simp; omega)) (by (simp; omega)) (leaf_flk rfl rfl) rfl rfl rfl (fun p4 => ?_)) | refine jLm 0 2 (m_appendCX (rowC_lb) (l2 := [b]) rfl rfl rfl rfl (by omega) (fun _ _ => CEnt.refl _) (src_os rfl (.inl rfl) (by decide)) rfl (fun j hj => by rcases j with _|j <;> first | exact CEnt.refl _ | exact CEnt.int (by omega) | (exfalso; simp at hj <;> omega)) Tryz.underlying56 nu56 sz26 zr26 by26 rfl (by (simp; omega)) (by (simp; omega)) (leaf_flk rfl rfl) rfl rfl rfl (fun p4 => ?_)) | refine jLm 0 3 (m_appendCX (rowC_lb) (l2 := [b]) rfl rfl rfl rfl (by first | exact Nat.le_refl _ | omega) (fun _ _ => CEnt.refl _) (src_os rfl (.inl rfl) (by decide)) rfl (fun j hj => by rcases j with _|j <;> first | exact CEnt.refl _ | exact CEnt.int (by omega) | (exfalso; simp at hj <;> omega)) Tryz.underlying56 nu56 sz26 zr26 by26 rfl (by first | omega | (simp; done) | (simp; omega) | (simp at *; omega)) (by first | omega | (simp; done) | (simp; omega) | (simp at *; omega)) (leaf_flk rfl rfl) rfl rfl rfl (fun p4 => ?_)) | refine jLm 0 4 (m_appendCX (rowC_lb) (l2 := [b]) rfl rfl rfl rfl (by first | exact Nat.le_refl _ | omega) (fun _ _ => CEnt.refl _) (src_os rfl (.inl rfl) (by decide)) rfl (fun j hj => by rcases j with _|j <;> first | exact CEnt.refl _ | exact CEnt.int (by omega) | (exfalso; simp at hj <;> omega)) Tryz.underlying56 nu56 sz26 zr26 by26 rfl (by first | omega | (simp; done) | (simp; omega) | (simp at *; omega)) (by first | omega | (simp; done) | (simp; omega) | (simp at *; omega)) (leaf_flk rfl rfl) rfl rfl rfl (fun p4 => ?_)) | refine jLm 0 5 (m_appendCX (rowC_lb) (l2 := [b]) rfl rfl rfl rfl (by first | exact Nat.le_refl _ | omega) (fun _ _ => CEnt.refl _) (src_os rfl (.inl rfl) (by decide)) rfl (fun j hj => by rcases j with _|j <;> first | exact CEnt.refl _ | exact CEnt.int (by omega) | (exfalso; simp at hj <;> omega)) Tryz.underlying56 nu56 sz26 zr26 by26 rfl (by first | omega | (simp; done) | (simp; omega) | (simp at *; omega)) (by first | omega | (simp; done) | (simp; omega) | (simp at *; omega)) (leaf_flk rfl rfl) rfl rfl rfl (fun p4 => ?_)) | refine jLm 0 6 (m_appendCX (rowC_lb) (l2 := [b]) rfl rfl rfl rfl (by first | exact Nat.le_refl _ | omega) (fun _ _ => CEnt.refl _) (src_os rfl (.inl rfl) (by decide)) rfl (fun j hj => by rcases j with _|j <;> first | exact CEnt.refl _ | exact CEnt.int (by omega) | (exfalso; simp at hj <;> omega)) Tryz.underlying56 nu56 sz26 zr26 by26 rfl (by first | omega | (simp; done) | (simp; omega) | (simp at *; omega)) (by first | omega | (simp; done) | (simp; omega) | (simp at *; omega)) (leaf_flk rfl rfl) rfl rfl rfl (fun p4 => ?_)) | refine jLm 0 7 (m_appendCX (rowC_lb) (l2 := [b]) rfl rfl rfl rfl (by first | exact Nat.le_refl _ | omega) (fun _ _ => CEnt.refl _) (src_os rfl (.inl rfl) (by decide)) rfl (fun j hj => by rcases j with _|j <;> first | exact CEnt.refl _ | exact CEnt.int (by omega) | (exfalso; simp at hj <;> omega)) Tryz.underlying56 nu56 sz26 zr26 by26 rfl (by first | omega | (simp; done) | (simp; omega) | (simp at *; omega)) (by first | omega | (simp; done) | (simp; omega) | (simp at *; omega)) (leaf_flk rfl rfl) rfl rfl rfl (fun p4 => ?_))
        refine jLq jri ?_
        first
          | (refine zl_ent (freeze 2 rfl) ?_; refine zl_ent (thaw 46 (fun a _ => bsC (((padR (s.tags.length + 1) s.rows).getD s.tags.length [] ++ [b]).getD a [])) rfl rfl (by simp) (fun a c ha hc => by obtain rfl : c = 0 := (by omega); rw [Nat.zero_add, Nat.mul_one, Nat.add_zero]; exact CEnt.refl _)) ?_)
          | (refine zl_ent (freeze 3 rfl) ?_; refine zl_ent (thaw 46 (fun a _ => bsC (((padR (s.tags.length + 1) s.rows).getD s.tags.length [] ++ [b]).getD a [])) rfl rfl (by simp) (fun a c ha hc => by obtain rfl : c = 0 := (by omega); rw [Nat.zero_add, Nat.mul_one, Nat.add_zero]; exact CEnt.refl _)) ?_)
        refine jLm 0 1 (jmstFX 1 (rowsF ((padR (s.tags.length + 1) s.rows).set s.tags.length ((padR (s.tags.length + 1) s.rows).getD s.tags.length [] ++ [b]))) ?_ ?_)
        · exact (fun j hj => rows_set (CEnt.refl _) hj)
        refine jLd ?_
        exact end_closeRW (.inr rfl) n (raddS b s) 1 (res_0 rfl) (CEnt.refl _) rfl rfl rfl (by exact CEnt.refl _) (by exact CEnt.osI (by simp [raddS])) (by exact CEnt.refl _) (by simp [raddS]) (fun _ _ => by exact CEnt.refl _)
      · refine jLe 0 (jebl 1 1 zr26 fun p2 => ?_)
        first | refine jLm 0 1 (m_appendCX rowC_lb (l := []) (l2 := (padR (s.tags.length + 1) s.rows).getD s.tags.length []) rfl rfl rfl rfl (Nat.le_of_eq (Nat.zero_mul _)) (fun j hj => absurd hj (by simp)) (src_rs rfl) rfl (fun j hj => by (simp only [Nat.div_one]; exact CEnt.refl _)) Tryz.underlying56 nu56 sz26 zr26 by26 rfl (by simp only [List.length_nil, pad_get]; omega) (by simp only [List.length_nil, pad_get]; omega) (fun j hj => rfl) rfl rfl (Nat.mul_one _) (fun p3 => ?_)) | refine jLm 0 2 (m_appendCX rowC_lb (l := []) (l2 := (padR (s.tags.length + 1) s.rows).getD s.tags.length []) rfl rfl rfl rfl (Nat.le_of_eq (Nat.zero_mul _)) (fun j hj => absurd hj (by simp)) (src_rs rfl) rfl (fun j hj => by (simp only [Nat.div_one]; exact CEnt.refl _)) Tryz.underlying56 nu56 sz26 zr26 by26 rfl (by simp only [List.length_nil, pad_get]; omega) (by simp only [List.length_nil, pad_get]; omega) (fun j hj => rfl) rfl rfl (Nat.mul_one _) (fun p3 => ?_)) | refine jLm 0 3 (m_appendCX rowC_lb (l := []) (l2 := (padR (s.tags.length + 1) s.rows).getD s.tags.length []) rfl rfl rfl rfl (Nat.le_of_eq (Nat.zero_mul _)) (fun j hj => absurd hj (by simp)) (src_rs rfl) rfl (fun j hj => by first | exact CEnt.refl _ | (simp only [Nat.div_one]; exact CEnt.refl _)) Tryz.underlying56 nu56 sz26 zr26 by26 rfl (by simp only [List.length_nil, pad_get]; omega) (by simp only [List.length_nil, pad_get]; omega) (fun j hj => rfl) rfl rfl (Nat.mul_one _) (fun p3 => ?_)) | refine jLm 0 4 (m_appendCX rowC_lb (l := []) (l2 := (padR (s.tags.length + 1) s.rows).getD s.tags.length []) rfl rfl rfl rfl (Nat.le_of_eq (Nat.zero_mul _)) (fun j hj => absurd hj (by simp)) (src_rs rfl) rfl (fun j hj => by first | exact CEnt.refl _ | (simp only [Nat.div_one]; exact CEnt.refl _)) Tryz.underlying56 nu56 sz26 zr26 by26 rfl (by simp only [List.length_nil, pad_get]; omega) (by simp only [List.length_nil, pad_get]; omega) (fun j hj => rfl) rfl rfl (Nat.mul_one _) (fun p3 => ?_)) | refine jLm 0 5 (m_appendCX rowC_lb (l := []) (l2 := (padR (s.tags.length + 1) s.rows).getD s.tags.length []) rfl rfl rfl rfl (Nat.le_of_eq (Nat.zero_mul _)) (fun j hj => absurd hj (by simp)) (src_rs rfl) rfl (fun j hj => by first | exact CEnt.refl _ | (simp only [Nat.div_one]; exact CEnt.refl _)) Tryz.underlying56 nu56 sz26 zr26 by26 rfl (by simp only [List.length_nil, pad_get]; omega) (by simp only [List.length_nil, pad_get]; omega) (fun j hj => rfl) rfl rfl (Nat.mul_one _) (fun p3 => ?_)) | refine jLm 0 6 (m_appendCX rowC_lb (l := []) (l2 := (padR (s.tags.length + 1) s.rows).getD s.tags.length []) rfl rfl rfl rfl (Nat.le_of_eq (Nat.zero_mul _)) (fun j hj => absurd hj (by simp)) (src_rs rfl) rfl (fun j hj => by first | exact CEnt.refl _ | (simp only [Nat.div_one]; exact CEnt.refl _)) Tryz.underlying56 nu56 sz26 zr26 by26 rfl (by simp only [List.length_nil, pad_get]; omega) (by simp only [List.length_nil, pad_get]; omega) (fun j hj => rfl) rfl rfl (Nat.mul_one _) (fun p3 => ?_)) | refine jLm 0 7 (m_appendCX rowC_lb (l := []) (l2 := (padR (s.tags.length + 1) s.rows).getD s.tags.length []) rfl rfl rfl rfl (Nat.le_of_eq (Nat.zero_mul _)) (fun j hj => absurd hj (by simp)) (src_rs rfl) rfl (fun j hj => by first | exact CEnt.refl _ | (simp only [Nat.div_one]; exact CEnt.refl _)) Tryz.underlying56 nu56 sz26 zr26 by26 rfl (by simp only [List.length_nil, pad_get]; omega) (by simp only [List.length_nil, pad_get]; omega) (fun j hj => rfl) rfl rfl (Nat.mul_one _) (fun p3 => ?_))
        first | refine jLm 0 1 (m_appendCX (rowC_lb) (l2 := [b]) rfl rfl rfl rfl (by omega) (fun _ _ => CEnt.refl _) (src_os rfl (.inl rfl) (by decide)) rfl (fun j hj => by rcases j with _|j <;> first | exact CEnt.refl _ | exact CEnt.int (by omega) | (exfalso; simp at hj <;> omega)) Tryz.underlying56 nu56 sz26 zr26 by26 rfl (by (simp; omega)) (by (simp; omega)) (leaf_flk rfl rfl) rfl rfl rfl (fun p4 => ?_)) | refine jLm 0 2 (m_appendCX (rowC_lb) (l2 := [b]) rfl rfl rfl rfl (by omega) (fun _ _ => CEnt.refl _) (src_os rfl (.inl rfl) (by decide)) rfl (fun j hj => by rcases j with _|j <;> first | exact CEnt.refl _ | exact CEnt.int (by omega) | (exfalso; simp at hj <;> omega)) Tryz.underlying56 nu56 sz26 zr26 by26 rfl (by (simp; omega)) (by (simp; omega)) (leaf_flk rfl rfl) rfl rfl rfl (fun p4 => ?_)) | refine jLm 0 3 (m_appendCX (rowC_lb) (l2 := [b]) rfl rfl rfl rfl (by first | exact Nat.le_refl _ | omega) (fun _ _ => CEnt.refl _) (src_os rfl (.inl rfl) (by decide)) rfl (fun j hj => by rcases j with _|j <;> first | exact CEnt.refl _ | exact CEnt.int (by omega) | (exfalso; simp at hj <;> omega)) Tryz.underlying56 nu56 sz26 zr26 by26 rfl (by first | omega | (simp; done) | (simp; omega) | (simp at *; omega)) (by first | omega | (simp; done) | (simp; omega) | (simp at *; omega)) (leaf_flk rfl rfl) rfl rfl rfl (fun p4 => ?_)) | refine jLm 0 4 (m_appendCX (rowC_lb) (l2 := [b]) rfl rfl rfl rfl (by first | exact Nat.le_refl _ | omega) (fun _ _ => CEnt.refl _) (src_os rfl (.inl rfl) (by decide)) rfl (fun j hj => by rcases j with _|j <;> first | exact CEnt.refl _ | exact CEnt.int (by omega) | (exfalso; simp at hj <;> omega)) Tryz.underlying56 nu56 sz26 zr26 by26 rfl (by first | omega | (simp; done) | (simp; omega) | (simp at *; omega)) (by first | omega | (simp; done) | (simp; omega) | (simp at *; omega)) (leaf_flk rfl rfl) rfl rfl rfl (fun p4 => ?_)) | refine jLm 0 5 (m_appendCX (rowC_lb) (l2 := [b]) rfl rfl rfl rfl (by first | exact Nat.le_refl _ | omega) (fun _ _ => CEnt.refl _) (src_os rfl (.inl rfl) (by decide)) rfl (fun j hj => by rcases j with _|j <;> first | exact CEnt.refl _ | exact CEnt.int (by omega) | (exfalso; simp at hj <;> omega)) Tryz.underlying56 nu56 sz26 zr26 by26 rfl (by first | omega | (simp; done) | (simp; omega) | (simp at *; omega)) (by first | omega | (simp; done) | (simp; omega) | (simp at *; omega)) (leaf_flk rfl rfl) rfl rfl rfl (fun p4 => ?_)) | refine jLm 0 6 (m_appendCX (rowC_lb) (l2 := [b]) rfl rfl rfl rfl (by first | exact Nat.le_refl _ | omega) (fun _ _ => CEnt.refl _) (src_os rfl (.inl rfl) (by decide)) rfl (fun j hj => by rcases j with _|j <;> first | exact CEnt.refl _ | exact CEnt.int (by omega) | (exfalso; simp at hj <;> omega)) Tryz.underlying56 nu56 sz26 zr26 by26 rfl (by first | omega | (simp; done) | (simp; omega) | (simp at *; omega)) (by first | omega | (simp; done) | (simp; omega) | (simp at *; omega)) (leaf_flk rfl rfl) rfl rfl rfl (fun p4 => ?_)) | refine jLm 0 7 (m_appendCX (rowC_lb) (l2 := [b]) rfl rfl rfl rfl (by first | exact Nat.le_refl _ | omega) (fun _ _ => CEnt.refl _) (src_os rfl (.inl rfl) (by decide)) rfl (fun j hj => by rcases j with _|j <;> first | exact CEnt.refl _ | exact CEnt.int (by omega) | (exfalso; simp at hj <;> omega)) Tryz.underlying56 nu56 sz26 zr26 by26 rfl (by first | omega | (simp; done) | (simp; omega) | (simp at *; omega)) (by first | omega | (simp; done) | (simp; omega) | (simp at *; omega)) (leaf_flk rfl rfl) rfl rfl rfl (fun p4 => ?_))
        refine jLq jri ?_
        first
          | (refine zl_ent (freeze 2 rfl) ?_; refine zl_ent (thaw 46 (fun a _ => bsC (((padR (s.tags.length + 1) s.rows).getD s.tags.length [] ++ [b]).getD a [])) rfl rfl (by simp) (fun a c ha hc => by obtain rfl : c = 0 := (by omega); rw [Nat.zero_add, Nat.mul_one, Nat.add_zero]; exact CEnt.refl _)) ?_)
          | (refine zl_ent (freeze 3 rfl) ?_; refine zl_ent (thaw 46 (fun a _ => bsC (((padR (s.tags.length + 1) s.rows).getD s.tags.length [] ++ [b]).getD a [])) rfl rfl (by simp) (fun a c ha hc => by obtain rfl : c = 0 := (by omega); rw [Nat.zero_add, Nat.mul_one, Nat.add_zero]; exact CEnt.refl _)) ?_)
        refine jLm 0 1 (jmstFX 1 (rowsF ((padR (s.tags.length + 1) s.rows).set s.tags.length ((padR (s.tags.length + 1) s.rows).getD s.tags.length [] ++ [b]))) ?_ ?_)
        · exact (fun j hj => rows_set (CEnt.refl _) hj)
        refine jLd ?_
        exact end_closeRW (.inr rfl) n (raddS b s) 1 (res_0 rfl) (CEnt.refl _) rfl rfl rfl (by exact CEnt.refl _) (by exact CEnt.osI (by simp [raddS])) (by exact CEnt.refl _) (by simp [raddS]) (fun _ _ => by exact CEnt.refl _)
    · refine jLe 0 (jebl 1 1 zr26 fun p1 => ?_)
      refine jLe 0 (jebl 0 1 zr26 fun p2 => ?_)
      first | refine jLm 0 1 (m_appendCX rowC_lb (l := []) (l2 := (padR (s.tags.length + 1) s.rows).getD s.tags.length []) rfl rfl rfl rfl (Nat.le_of_eq (Nat.zero_mul _)) (fun j hj => absurd hj (by simp)) (src_rs rfl) rfl (fun j hj => by (simp only [Nat.div_one]; exact CEnt.refl _)) Tryz.underlying56 nu56 sz26 zr26 by26 rfl (by simp only [List.length_nil, pad_get]; omega) (by simp only [List.length_nil, pad_get]; omega) (fun j hj => rfl) rfl rfl (Nat.mul_one _) (fun p3 => ?_)) | refine jLm 0 2 (m_appendCX rowC_lb (l := []) (l2 := (padR (s.tags.length + 1) s.rows).getD s.tags.length []) rfl rfl rfl rfl (Nat.le_of_eq (Nat.zero_mul _)) (fun j hj => absurd hj (by simp)) (src_rs rfl) rfl (fun j hj => by (simp only [Nat.div_one]; exact CEnt.refl _)) Tryz.underlying56 nu56 sz26 zr26 by26 rfl (by simp only [List.length_nil, pad_get]; omega) (by simp only [List.length_nil, pad_get]; omega) (fun j hj => rfl) rfl rfl (Nat.mul_one _) (fun p3 => ?_)) | refine jLm 0 3 (m_appendCX rowC_lb (l := []) (l2 := (padR (s.tags.length + 1) s.rows).getD s.tags.length []) rfl rfl rfl rfl (Nat.le_of_eq (Nat.zero_mul _)) (fun j hj => absurd hj (by simp)) (src_rs rfl) rfl (fun j hj => by (simp only [Nat.div_one]; exact CEnt.refl _)) Tryz.underlying56 nu56 sz26 zr26 by26 rfl (by simp only [List.length_nil, pad_get]; omega) (by simp only [List.length_nil, pad_get]; omega) (fun j hj => rfl) rfl rfl (Nat.mul_one _) (fun p3 => ?_)) | refine jLm 0 4 (m_appendCX rowC_lb (l := []) (l2 := (padR (s.tags.length + 1) s.rows).getD s.tags.length []) rfl rfl rfl rfl (Nat.le_of_eq (Nat.zero_mul _)) (fun j hj => absurd hj (by simp)) (src_rs rfl) rfl (fun j hj => by first | exact CEnt.refl _ | (simp only [Nat.div_one]; exact CEnt.refl _)) Tryz.underlying56 nu56 sz26 zr26 by26 rfl (by simp only [List.length_nil, pad_get]; omega) (by simp only [List.length_nil, pad_get]; omega) (fun j hj => rfl) rfl rfl (Nat.mul_one _) (fun p3 => ?_)) | refine jLm 0 5 (m_appendCX rowC_lb (l := []) (l2 := (padR (s.tags.length + 1) s.rows).getD s.tags.length []) rfl rfl rfl rfl (Nat.le_of_eq (Nat.zero_mul _)) (fun j hj => absurd hj (by simp)) (src_rs rfl) rfl (fun j hj => by first | exact CEnt.refl _ | (simp only [Nat.div_one]; exact CEnt.refl _)) Tryz.underlying56 nu56 sz26 zr26 by26 rfl (by simp only [List.length_nil, pad_get]; omega) (by simp only [List.length_nil, pad_get]; omega) (fun j hj => rfl) rfl rfl (Nat.mul_one _) (fun p3 => ?_)) | refine jLm 0 6 (m_appendCX rowC_lb (l := []) (l2 := (padR (s.tags.length + 1) s.rows).getD s.tags.length []) rfl rfl rfl rfl (Nat.le_of_eq (Nat.zero_mul _)) (fun j hj => absurd hj (by simp)) (src_rs rfl) rfl (fun j hj => by first | exact CEnt.refl _ | (simp only [Nat.div_one]; exact CEnt.refl _)) Tryz.underlying56 nu56 sz26 zr26 by26 rfl (by simp only [List.length_nil, pad_get]; omega) (by simp only [List.length_nil, pad_get]; omega) (fun j hj => rfl) rfl rfl (Nat.mul_one _) (fun p3 => ?_)) | refine jLm 0 7 (m_appendCX rowC_lb (l := []) (l2 := (padR (s.tags.length + 1) s.rows).getD s.tags.length []) rfl rfl rfl rfl (Nat.le_of_eq (Nat.zero_mul _)) (fun j hj => absurd hj (by simp)) (src_rs rfl) rfl (fun j hj => by first | exact CEnt.refl _ | (simp only [Nat.div_one]; exact CEnt.refl _)) Tryz.underlying56 nu56 sz26 zr26 by26 rfl (by simp only [List.length_nil, pad_get]; omega) (by simp only [List.length_nil, pad_get]; omega) (fun j hj => rfl) rfl rfl (Nat.mul_one _) (fun p3 => ?_))
      first | refine jLm 0 1 (m_appendCX (rowC_lb) (l2 := [b]) rfl rfl rfl rfl (by omega) (fun _ _ => CEnt.refl _) (src_os rfl (.inl rfl) (by decide)) rfl (fun j hj => by rcases j with _|j <;> first | exact CEnt.refl _ | exact CEnt.int (by omega) | (exfalso; simp at hj <;> omega)) Tryz.underlying56 nu56 sz26 zr26 by26 rfl (by (simp; omega)) (by (simp; omega)) (leaf_flk rfl rfl) rfl rfl rfl (fun p4 => ?_)) | refine jLm 0 2 (m_appendCX (rowC_lb) (l2 := [b]) rfl rfl rfl rfl (by omega) (fun _ _ => CEnt.refl _) (src_os rfl (.inl rfl) (by decide)) rfl (fun j hj => by rcases j with _|j <;> first | exact CEnt.refl _ | exact CEnt.int (by omega) | (exfalso; simp at hj <;> omega)) Tryz.underlying56 nu56 sz26 zr26 by26 rfl (by (simp; omega)) (by (simp; omega)) (leaf_flk rfl rfl) rfl rfl rfl (fun p4 => ?_)) | refine jLm 0 3 (m_appendCX (rowC_lb) (l2 := [b]) rfl rfl rfl rfl (by omega) (fun _ _ => CEnt.refl _) (src_os rfl (.inl rfl) (by decide)) rfl (fun j hj => by rcases j with _|j <;> first | exact CEnt.refl _ | exact CEnt.int (by omega) | (exfalso; simp at hj <;> omega)) Tryz.underlying56 nu56 sz26 zr26 by26 rfl (by (simp; omega)) (by (simp; omega)) (leaf_flk rfl rfl) rfl rfl rfl (fun p4 => ?_)) | refine jLm 0 4 (m_appendCX (rowC_lb) (l2 := [b]) rfl rfl rfl rfl (by first | exact Nat.le_refl _ | omega) (fun _ _ => CEnt.refl _) (src_os rfl (.inl rfl) (by decide)) rfl (fun j hj => by rcases j with _|j <;> first | exact CEnt.refl _ | exact CEnt.int (by omega) | (exfalso; simp at hj <;> omega)) Tryz.underlying56 nu56 sz26 zr26 by26 rfl (by first | omega | (simp; done) | (simp; omega) | (simp at *; omega)) (by first | omega | (simp; done) | (simp; omega) | (simp at *; omega)) (leaf_flk rfl rfl) rfl rfl rfl (fun p4 => ?_)) | refine jLm 0 5 (m_appendCX (rowC_lb) (l2 := [b]) rfl rfl rfl rfl (by first | exact Nat.le_refl _ | omega) (fun _ _ => CEnt.refl _) (src_os rfl (.inl rfl) (by decide)) rfl (fun j hj => by rcases j with _|j <;> first | exact CEnt.refl _ | exact CEnt.int (by omega) | (exfalso; simp at hj <;> omega)) Tryz.underlying56 nu56 sz26 zr26 by26 rfl (by first | omega | (simp; done) | (simp; omega) | (simp at *; omega)) (by first | omega | (simp; done) | (simp; omega) | (simp at *; omega)) (leaf_flk rfl rfl) rfl rfl rfl (fun p4 => ?_)) | refine jLm 0 6 (m_appendCX (rowC_lb) (l2 := [b]) rfl rfl rfl rfl (by first | exact Nat.le_refl _ | omega) (fun _ _ => CEnt.refl _) (src_os rfl (.inl rfl) (by decide)) rfl (fun j hj => by rcases j with _|j <;> first | exact CEnt.refl _ | exact CEnt.int (by omega) | (exfalso; simp at hj <;> omega)) Tryz.underlying56 nu56 sz26 zr26 by26 rfl (by first | omega | (simp; done) | (simp; omega) | (simp at *; omega)) (by first | omega | (simp; done) | (simp; omega) | (simp at *; omega)) (leaf_flk rfl rfl) rfl rfl rfl (fun p4 => ?_)) | refine jLm 0 7 (m_appendCX (rowC_lb) (l2 := [b]) rfl rfl rfl rfl (by first | exact Nat.le_refl _ | omega) (fun _ _ => CEnt.refl _) (src_os rfl (.inl rfl) (by decide)) rfl (fun j hj => by rcases j with _|j <;> first | exact CEnt.refl _ | exact CEnt.int (by omega) | (exfalso; simp at hj <;> omega)) Tryz.underlying56 nu56 sz26 zr26 by26 rfl (by first | omega | (simp; done) | (simp; omega) | (simp at *; omega)) (by first | omega | (simp; done) | (simp; omega) | (simp at *; omega)) (leaf_flk rfl rfl) rfl rfl rfl (fun p4 => ?_))
      refine jLq jri ?_
      first
        | (refine zl_ent (freeze 2 rfl) ?_; refine zl_ent (thaw 46 (fun a _ => bsC (((padR (s.tags.length + 1) s.rows).getD s.tags.length [] ++ [b]).getD a [])) rfl rfl (by simp) (fun a c ha hc => by obtain rfl : c = 0 := (by omega); rw [Nat.zero_add, Nat.mul_one, Nat.add_zero]; exact CEnt.refl _)) ?_)
        | (refine zl_ent (freeze 3 rfl) ?_; refine zl_ent (thaw 46 (fun a _ => bsC (((padR (s.tags.length + 1) s.rows).getD s.tags.length [] ++ [b]).getD a [])) rfl rfl (by simp) (fun a c ha hc => by obtain rfl : c = 0 := (by omega); rw [Nat.zero_add, Nat.mul_one, Nat.add_zero]; exact CEnt.refl _)) ?_)
      refine jLm 0 1 (jmstFX 1 (rowsF ((padR (s.tags.length + 1) s.rows).set s.tags.length ((padR (s.tags.length + 1) s.rows).getD s.tags.length [] ++ [b]))) ?_ ?_)
      · exact (fun j hj => rows_set (CEnt.refl _) hj)
      refine jLd ?_
      exact end_closeRW (.inr rfl) n (raddS b s) 1 (res_0 rfl) (CEnt.refl _) rfl rfl rfl (by exact CEnt.refl _) (by exact CEnt.osI (by simp [raddS])) (by exact CEnt.refl _) (by simp [raddS]) (fun _ _ => by exact CEnt.refl _)
end Am
end Go.Proofs.YtjckfbpdieijeaaGreatDoor

/- Chapter 6: the reference's dates and moments, the example, the laws MomentsSeconds and MomentsAdd. -/
namespace Go.Proofs.YtjckfbpdieijeaaGreatDoor
set_option linter.unusedVariables false
namespace Am
variable {gs : List Nat} [OkG gs]
open Go.RowKit Cal
set_option linter.unusedVariables false
set_option maxRecDepth 100000

end Am
end Go.Proofs.YtjckfbpdieijeaaGreatDoor

/- Chapter 6, plain: what bodies are read as. -/
namespace Go.Proofs.YtjckfbpdieijeaaGreatDoor
namespace Am
open Go.RowKit Cal
set_option linter.unusedVariables false

def dg (b : List UInt8) (i : Nat) : Int := ((b.getD i 0).toNat : Int) - 48
def isDg (b : List UInt8) (i : Nat) : Prop := 48 ≤ ((b.getD i 0).toNat : Int) ∧ ((b.getD i 0).toNat : Int) ≤ 57
instance (b : List UInt8) (i : Nat) : Decidable (isDg b i) := by unfold isDg; infer_instance
def two (b : List UInt8) (j : Nat) : Int := 10 * dg b (2 * j) + dg b (2 * j + 1)
def getD6 (b : List UInt8) : D6 := ⟨100 * two b 0 + two b 1, two b 2, two b 3, two b 4, two b 5, two b 6⟩
def formP (b : List UInt8) : Prop := b.length = 15 ∧ ((b.getD 14 0).toNat : Int) = 90 ∧ ∀ i, i < 14 → isDg b i
instance (b : List UInt8) : Decidable (formP b) := by unfold formP; infer_instance
def getE (b : List UInt8) : Nat := if formP b then (if RightP (getD6 b) then 0 else 1) else 4
def getV (b : List UInt8) : Int := if formP b ∧ RightP (getD6 b) then secM (getD6 b) else 0

/-- the reference's text of a date -/
def texF (x : D6) : List Int := [x.y / 100, x.y % 100, x.m, x.d, x.h, x.mi, x.s]
def texL (x : D6) (i : Nat) : List UInt8 := ((texF x).take i).flatMap fun n => [figc n 10, figc n 1]
theorem texL_all {x : D6} (h1 : 0 ≤ x.y) (h2 : x.y ≤ 9999) : texL x 7 ++ [90] = bodyL x := by
  have e1 : figc (x.y / 100) 10 = figc x.y 1000 := by unfold figc; congr 2; omega
  have e2 : figc (x.y / 100) 1 = figc x.y 100 := by unfold figc; congr 2; omega
  have e3 : figc (x.y % 100) 10 = figc x.y 10 := by unfold figc; congr 2; omega
  have e4 : figc (x.y % 100) 1 = figc x.y 1 := by unfold figc; congr 2; omega
  simp [texL, texF, bodyL, figL, e1, e2, e3, e4]
theorem texL_succ {x : D6} {i : Nat} (h : i < (texF x).length) : texL x (i + 1) = texL x i ++ [figc ((texF x).getD i 0) 10, figc ((texF x).getD i 0) 1] := by
  have e : (texF x).take (i + 1) = (texF x).take i ++ [(texF x).getD i 0] := by
    rw [List.take_succ_eq_append_getElem h]
    simp [List.getD, h]
  unfold texL
  rw [e, List.flatMap_append]
  simp
theorem texL_len (x : D6) {i : Nat} (h : i ≤ 7) : (texL x i).length = 2 * i := by
  rcases i with _|_|_|_|_|_|_|_|i <;> simp [texL, texF] <;> omega
end Am
end Go.Proofs.YtjckfbpdieijeaaGreatDoor

/- Chapter 6: the reference's date of a moment and its text, what bodies are read as. -/
namespace Go.Proofs.YtjckfbpdieijeaaGreatDoor
set_option linter.unusedVariables false
namespace Am
variable {gs : List Nat} [OkG gs]
open Go.RowKit Cal
set_option linter.unusedVariables false
set_option maxRecDepth 100000

theorem year_stop {N y : Int} (h0 : 0 ≤ N) (h1 : N ≤ 2932896) (hy : 1970 ≤ y) (hb : bf y ≤ N) : y ≤ 9999 := by
  refine Decidable.byContradiction fun hn => ?_
  have := bf_mono (a := 10000) (b := y) (by omega)
  have e : bf 10000 = 2932897 := by decide
  omega
theorem rof6_ac {gs : List Nat} (t : Int) (h : inT t) : ACp gs Tryz.prog 95 [.c (.int .i64 t)] (dateC (ofR6 t)) := by
  obtain ⟨r1, r2⟩ := id h
  obtain ⟨N, hN⟩ : ∃ N, N = t / 86400 := ⟨_, rfl⟩
  have n0 : 0 ≤ N := by omega
  have n1 : N ≤ 2932896 := by omega
  refine ac_of 52 Tryz.func95 rfl rfl rfl (fun al w0 F0 St0 => ?_)
  refine jcr ?_
  refine jqe (jeal (n := 6) zr132 rfl fun p1 => ?_)
  refine seq_nil ?_
  refine jcr ?_
  refine jq jrm ?_
  refine jq jrq ?_
  refine jq jrr ?_
  refine jq jrm ?_
  refine jq jrq ?_
  refine jq jrr ?_
  refine jq jrm ?_
  refine jq jrr ?_
  refine jq (rd_build (n := 6) rfl zr132 pl132 rfl rfl) ?_
  refine jqe (jeal (n := 6) zr132 rfl fun p2 => ?_)
  refine jqm (jmst 6 ?_)
  refine seq_nil ?_
  refine jcr ?_
  refine jq jrm ?_
  refine jq jrq ?_
  refine jq jrm ?_
  refine seq_nil ?_
  refine jcs ?_
  refine code_block ?_
  refine l_loop (α := Int) [4, 5, 17, 18, 19, 20, 21, 22, 23, 24, 25, 26, 27, 28, 29] (fun y => [(4, .c (.int .i64 (N - bf y)))]) (fun y => [(p1, .blk 6 (dF D6.zero)), (p2, .blk 6 (dF ⟨y, 1, 0, t / 3600 % 24, t / 60 % 60, t % 60⟩))]) (fun y => 1970 ≤ y ∧ bf y ≤ N) (fun y => (10000 - y).toNat) (1970) ?_ (fun _ => rfl) ?_ ?_ ?_
  · exact ⟨by omega, by rw [bf_1970]; exact n0⟩
  · exact .cons (CEnt.int (by rw [bf_1970]; omega)) .nil
  · (repeat (first | exact HEnt.nil | refine HEnt.same ?_ | refine HEnt.blk rfl (fun j hj => by rcases j with _|_|_|_|_|_|_|_|j <;> first | exact CEnt.refl _ | exact CEnt.int (by omega) | omega) ?_))
  · rintro y ⟨hy, hb⟩
    have hy9 := year_stop n0 n1 hy hb
    have hs := bf_succ y
    have hbd := bf_bd y hy (by omega)
    refine code_block ?_
    refine jcr ?_
    refine jq jrm ?_
    refine seq_nil ?_
    refine jcs ?_
    refine jcr ?_
    refine jq (jrfa 0 1 false) ?_
    refine jqo jrdo ?_
    refine jqe (jecP (rleap_ac _) ?_)
    refine seq_nil ?_
    refine jcc (fun h62 => ?_) fun h62 => ?_
    rotate_left
    · refine code_skip (jtn ?_)
      refine jcs ?_
      refine jcr ?_
      refine jq jrm ?_
      refine jq jrm ?_
      refine jq jrc ?_
      refine seq_nil ?_
      refine jcc (fun h65 => ?_) fun h65 => ?_
      rotate_left
      · refine code_skip (jtn ?_)
        refine jcr ?_
        refine jq jrm ?_
        refine jq jrm ?_
        refine jq jra ?_
        refine jq jrm ?_
        refine seq_nil ?_
        refine jcg ?_
        refine jq (jrfa 0 1 false) ?_
        refine jqo jrdo ?_
        refine jq jra ?_
        refine jq (jrfa 0 1 false) ?_
        refine jqm (jmst 1 ?_)
        refine seq_nil ?_
        refine jbn (jtn ?_)
        refine jlend (y + 1) ?_ ?_ (h5 := ?_)
        · exact ⟨by omega, by simp only [*, if_true, Bool.false_eq_true, if_false] at hs; omega⟩
        · omega
        · exact .cons (CEnt.int (by simp only [*, if_true, Bool.false_eq_true, if_false] at hs; omega)) .nil
      refine code_exit (jte (jbx2 (jte (jbx (jtn ?_)))))
      refine jcs ?_
      refine code_block ?_
      refine l_loop (α := Int) [4, 30, 31, 32, 33, 34, 35, 36, 37, 38, 39, 40, 41, 42, 43, 44, 45, 46, 47] (fun m => [(4, .c (.int .i64 (N - bf y - cum y m)))]) (fun m => [(p1, .blk 6 (dF D6.zero)), (p2, .blk 6 (dF ⟨y, m, 0, t / 3600 % 24, t / 60 % 60, t % 60⟩))]) (fun m => 1 ≤ m ∧ m ≤ 12 ∧ cum y m ≤ N - bf y) (fun m => (13 - m).toNat) (1) ?_ (fun _ => rfl) ?_ ?_ ?_
      · exact ⟨by omega, by omega, by rw [cum_one]; omega⟩
      · exact .cons (CEnt.int (by rw [cum_one]; omega)) .nil
      · (repeat (first | exact HEnt.nil | refine HEnt.same ?_ | refine HEnt.blk rfl (fun j hj => by rcases j with _|_|_|_|_|_|_|_|j <;> first | exact CEnt.refl _ | exact CEnt.int (by omega) | omega) ?_))
      · rintro m ⟨m1, m2, hc⟩
        have hcb := cum_bd y m m1 (by omega)
        have hcs := cum_succ y m m1 m2
        have hdd := days_le y m
        have hc13 := cum_13 y
        have hm13 : m = 12 → cum y (m + 1) = cum y 13 := fun h => by rw [h]; rfl
        refine jcs ?_
        refine jcr ?_
        refine jq jrm ?_
        refine jq (jrfa 0 1 false) ?_
        refine jqo jrdo ?_
        refine jq (jrfa 1 1 false) ?_
        refine jqo jrdo ?_
        refine jqe (jecP (rdays_ac _ _) ?_)
        refine jq jrc ?_
        refine seq_nil ?_
        refine jcc (fun h71 => ?_) fun h71 => ?_
        · refine code_skip (jtn ?_)
          refine code_block ?_
          refine jcr ?_
          refine jq jrm ?_
          refine jq (jrfa 0 1 false) ?_
          refine jqo jrdo ?_
          refine jq (jrfa 1 1 false) ?_
          refine jqo jrdo ?_
          refine jqe (jecP (rdays_ac _ _) ?_)
          refine jq jra ?_
          refine jq jrm ?_
          refine seq_nil ?_
          refine jcg ?_
          refine jq (jrfa 1 1 false) ?_
          refine jqo jrdo ?_
          refine jq jra ?_
          refine jq (jrfa 1 1 false) ?_
          refine jqm (jmst 1 ?_)
          refine seq_nil ?_
          refine jbn (jtn ?_)
          refine jlend (m + 1) ?_ ?_ (h5 := ?_)
          · exact ⟨by omega, by refine Decidable.byContradiction fun hn => ?_; have := hm13 (by omega); dsimp only at *; simp only [*, if_true, Bool.false_eq_true, if_false] at hs; omega, by dsimp only at *; omega⟩
          · omega
          · exact .cons (CEnt.int (by dsimp only at *; omega)) .nil
        refine code_exit (jte (jte (jbx (jtn ?_))))
        refine jcr ?_
        refine jq jrm ?_
        refine jq jra ?_
        refine jq (jrfa 2 1 false) ?_
        refine jqm (jmst 1 ?_)
        refine seq_nil ?_
        refine jcr ?_
        refine jqo (jrdoA 6) ?_
        refine jqm (jmst 6 ?_)
        refine seq_nil ?_
        refine code_ret (jrt (hres := res_1 rfl (javA 6)) (hv := ?_))
        have hR : RightP ⟨y, m, N - bf y - cum y m + 1, t / 3600 % 24, t / 60 % 60, t % 60⟩ := by
          unfold RightP
          dsimp only at *
          omega
        have hS : secM ⟨y, m, N - bf y - cum y m + 1, t / 3600 % 24, t / 60 % 60, t % 60⟩ = t := by
          unfold secM dn
          dsimp only
          clear hcs hcb hc13 hs hbd hR
          omega
        have e := of_sec hR
        rw [hS] at e
        rw [e]
        exact CEnt.agg6 (CEnt.refl _) (CEnt.refl _) (CEnt.refl _) (CEnt.refl _) (CEnt.refl _) (CEnt.refl _)
    refine jcg ?_
    refine jq jrm ?_
    refine seq_nil ?_
    refine jtn ?_
    refine jcs ?_
    refine jcr ?_
    refine jq jrm ?_
    refine jq jrm ?_
    refine jq jrc ?_
    refine seq_nil ?_
    refine jcc (fun h65 => ?_) fun h65 => ?_
    rotate_left
    · refine code_skip (jtn ?_)
      refine jcr ?_
      refine jq jrm ?_
      refine jq jrm ?_
      refine jq jra ?_
      refine jq jrm ?_
      refine seq_nil ?_
      refine jcg ?_
      refine jq (jrfa 0 1 false) ?_
      refine jqo jrdo ?_
      refine jq jra ?_
      refine jq (jrfa 0 1 false) ?_
      refine jqm (jmst 1 ?_)
      refine seq_nil ?_
      refine jbn (jtn ?_)
      refine jlend (y + 1) ?_ ?_ (h5 := ?_)
      · exact ⟨by omega, by simp only [*, if_true, Bool.false_eq_true, if_false] at hs; omega⟩
      · omega
      · exact .cons (CEnt.int (by simp only [*, if_true, Bool.false_eq_true, if_false] at hs; omega)) .nil
    refine code_exit (jte (jbx2 (jte (jbx (jtn ?_)))))
    refine jcs ?_
    refine code_block ?_
    refine l_loop (α := Int) [4, 30, 31, 32, 33, 34, 35, 36, 37, 38, 39, 40, 41, 42, 43, 44, 45, 46, 47] (fun m => [(4, .c (.int .i64 (N - bf y - cum y m)))]) (fun m => [(p1, .blk 6 (dF D6.zero)), (p2, .blk 6 (dF ⟨y, m, 0, t / 3600 % 24, t / 60 % 60, t % 60⟩))]) (fun m => 1 ≤ m ∧ m ≤ 12 ∧ cum y m ≤ N - bf y) (fun m => (13 - m).toNat) (1) ?_ (fun _ => rfl) ?_ ?_ ?_
    · exact ⟨by omega, by omega, by rw [cum_one]; omega⟩
    · exact .cons (CEnt.int (by rw [cum_one]; omega)) .nil
    · (repeat (first | exact HEnt.nil | refine HEnt.same ?_ | refine HEnt.blk rfl (fun j hj => by rcases j with _|_|_|_|_|_|_|_|j <;> first | exact CEnt.refl _ | exact CEnt.int (by omega) | omega) ?_))
    · rintro m ⟨m1, m2, hc⟩
      have hcb := cum_bd y m m1 (by omega)
      have hcs := cum_succ y m m1 m2
      have hdd := days_le y m
      have hc13 := cum_13 y
      have hm13 : m = 12 → cum y (m + 1) = cum y 13 := fun h => by rw [h]; rfl
      refine jcs ?_
      refine jcr ?_
      refine jq jrm ?_
      refine jq (jrfa 0 1 false) ?_
      refine jqo jrdo ?_
      refine jq (jrfa 1 1 false) ?_
      refine jqo jrdo ?_
      refine jqe (jecP (rdays_ac _ _) ?_)
      refine jq jrc ?_
      refine seq_nil ?_
      refine jcc (fun h71 => ?_) fun h71 => ?_
      · refine code_skip (jtn ?_)
        refine code_block ?_
        refine jcr ?_
        refine jq jrm ?_
        refine jq (jrfa 0 1 false) ?_
        refine jqo jrdo ?_
        refine jq (jrfa 1 1 false) ?_
        refine jqo jrdo ?_
        refine jqe (jecP (rdays_ac _ _) ?_)
        refine jq jra ?_
        refine jq jrm ?_
        refine seq_nil ?_
        refine jcg ?_
        refine jq (jrfa 1 1 false) ?_
        refine jqo jrdo ?_
        refine jq jra ?_
        refine jq (jrfa 1 1 false) ?_
        refine jqm (jmst 1 ?_)
        refine seq_nil ?_
        refine jbn (jtn ?_)
        refine jlend (m + 1) ?_ ?_ (h5 := ?_)
        · exact ⟨by omega, by refine Decidable.byContradiction fun hn => ?_; have := hm13 (by omega); dsimp only at *; simp only [*, if_true, Bool.false_eq_true, if_false] at hs; omega, by dsimp only at *; omega⟩
        · omega
        · exact .cons (CEnt.int (by dsimp only at *; omega)) .nil
      refine code_exit (jte (jte (jbx (jtn ?_))))
      refine jcr ?_
      refine jq jrm ?_
      refine jq jra ?_
      refine jq (jrfa 2 1 false) ?_
      refine jqm (jmst 1 ?_)
      refine seq_nil ?_
      refine jcr ?_
      refine jqo (jrdoA 6) ?_
      refine jqm (jmst 6 ?_)
      refine seq_nil ?_
      refine code_ret (jrt (hres := res_1 rfl (javA 6)) (hv := ?_))
      have hR : RightP ⟨y, m, N - bf y - cum y m + 1, t / 3600 % 24, t / 60 % 60, t % 60⟩ := by
        unfold RightP
        dsimp only at *
        omega
      have hS : secM ⟨y, m, N - bf y - cum y m + 1, t / 3600 % 24, t / 60 % 60, t % 60⟩ = t := by
        unfold secM dn
        dsimp only
        clear hcs hcb hc13 hs hbd hR
        omega
      have e := of_sec hR
      rw [hS] at e
      rw [e]
      exact CEnt.agg6 (CEnt.refl _) (CEnt.refl _) (CEnt.refl _) (CEnt.refl _) (CEnt.refl _) (CEnt.refl _)

theorem tex_bd {x : D6} (h : RightP x) {i : Nat} (hi : i < (texF x).length) : 0 ≤ (texF x).getD i 0 ∧ (texF x).getD i 0 ≤ 99 := by
  obtain ⟨q1, q2, q3, q4, q5, q6, q7, q8, q9, q10⟩ := id h
  have := days_le x.y x.m
  have qm := days_pos q3 q4
  rcases i with _ | _ | _ | _ | _ | _ | _ | i
  · show 0 ≤ x.y / 100 ∧ x.y / 100 ≤ 99; omega
  · show 0 ≤ x.y % 100 ∧ x.y % 100 ≤ 99; omega
  · show 0 ≤ x.m ∧ x.m ≤ 99; omega
  · show 0 ≤ x.d ∧ x.d ≤ 99; omega
  · show 0 ≤ x.h ∧ x.h ≤ 99; omega
  · show 0 ≤ x.mi ∧ x.mi ≤ 99; omega
  · show 0 ≤ x.s ∧ x.s ≤ 99; omega
  · simp [texF] at hi; omega
theorem rtext6_ac {gs : List Nat} (x : D6) (h : RightP x) : ACp gs Tryz.prog 94 [dateC x] (bsC (bodyL x)) := by
  obtain ⟨q1, q2, _⟩ := id h
  refine ac_of 44 Tryz.func94 rfl rfl rfl (fun al w0 F0 St0 => ?_)
  refine jcr ?_
  refine jqe (jebx 6 fun p1 => ?_)
  refine jq jrm ?_
  refine seq_nil ?_
  refine jcr ?_
  refine jqe (jebl 0 1 zr5 fun p2 => ?_)
  refine jq jrm ?_
  refine seq_nil ?_
  refine jcs ?_
  refine jcr ?_
  refine jq (jrfa 0 1 false) ?_
  refine jqo jrdo ?_
  refine jq jrq ?_
  refine jq (jrfa 0 1 false) ?_
  refine jqo jrdo ?_
  refine jq jrr ?_
  refine jq (jrfa 1 1 false) ?_
  refine jqo jrdo ?_
  refine jq (jrfa 2 1 false) ?_
  refine jqo jrdo ?_
  refine jq (jrfa 3 1 false) ?_
  refine jqo jrdo ?_
  refine jq (jrfa 4 1 false) ?_
  refine jqo jrdo ?_
  refine jq (jrfa 5 1 false) ?_
  refine jqo jrdo ?_
  refine jqe (jebl 7 1 zr3 fun p3 => ?_)
  refine jq jrl ?_
  refine jq jrm ?_
  refine seq_nil ?_
  refine code_block ?_
  refine l_loop (α := Nat × Option Nat) [3, 5, 25, 26, 27, 28, 29, 30, 31, 32, 33, 34, 35, 36, 37, 38, 39, 40] (fun (i, g) => [(3, .os 1 g 0 (texL x i).length 1), (25, .c (.int .i64 (i : Nat)))]) (fun (i, g) => [(p1, .blk 6 (dF x)), (g, .blk (texL x i).length (byF (texL x i))), (p3, .blk 7 (inF (texF x)))]) (fun i => i.1 ≤ 7) (fun i => 7 - i.1) ((0, p2)) ?_ (fun _ => rfl) ?_ ?_ ?_
  · simp
  · (repeat (first | exact EntE.nil | refine EntE.cons (CEnt.refl _) ?_ | refine EntE.cons (CEnt.int (by omega)) ?_))
  · exact .blk rfl (fun j hj => by rcases j with _|_|_|_|_|_|j <;> first | exact CEnt.refl _ | omega) (.blk rfl (fun j hj => absurd hj (by show ¬ j < 0; omega)) (.blk rfl (fun j hj => fl_ints (texF x) j hj) .nil))
  · rintro ⟨i, g'⟩ (hi : i ≤ 7)
    refine jcr ?_
    refine jq jrc ?_
    refine seq_nil ?_
    refine jcs ?_
    refine jcc (fun h82 => ?_) fun h82 => ?_
    rotate_left
    · refine code_exit (jte (jte (jbx (jtn ?_))))
      have hlen := texL_len x hi
      have hi7 : i = 7 := by omega
      refine jcr ?_
      refine jq jrm ?_
      refine jqe (jebl 1 1 zr5 fun p4 => ?_)
      refine jqm (m_appendB (l2 := [90]) rfl rfl rfl (Nat.le_refl _) (fun _ _ => CEnt.refl _) (src_os rfl (.inl rfl) (by decide)) rfl (hh_bytes (.cons (CEnt.int (rfl)) .nil)) Tryz.underlying26 nu26 sz5 zr5 by5 rfl (by (simp; omega)) (leaf_fl rfl rfl) rfl rfl (fun p5 => ?_))
      refine jq jrm ?_
      refine seq_nil ?_
      refine code_ent (freeze 1 rfl) ?_
      refine code_ent (thawB 2 (texL x i ++ [90]) rfl rfl (by rfl) rfl) ?_
      refine code_ret (jrt (hv := ?_))
      subst hi7
      rw [← texL_all (by omega) q2]
      exact CEnt.refl _
    refine code_skip (jtn ?_)
    refine jcs ?_
    refine code_block ?_
    refine jcr ?_
    refine jq jri ?_
    refine jqo jrdo ?_
    refine jq jrm ?_
    refine seq_nil ?_
    have hlt : i < (texF x).length := by simp [texF]; omega
    have hb := tex_bd h hlt
    have hlen := texL_len x hi
    refine jcg ?_
    refine jq jrm ?_
    refine jq jrm ?_
    refine jq jrq ?_
    refine jq jra ?_
    refine jq (jrv .i64 .u8) ?_
    refine jq jrm ?_
    refine jq jrr ?_
    refine jq jra ?_
    refine jq (jrv .i64 .u8) ?_
    refine jqe (jebl 2 1 zr5 fun p4 => ?_)
    refine jqm (m_appendB (l2 := [figc ((texF x).getD i 0) 10, figc ((texF x).getD i 0) 1]) rfl rfl rfl (Nat.le_refl _) (fun _ _ => CEnt.refl _) (src_os rfl (.inl rfl) (by decide)) rfl (hh_bytes (.cons (CEnt.int ((by rw [figc_nat (by omega)]; show _ = 48 + _; omega))) (.cons (CEnt.int ((by rw [figc_nat (by omega)]; omega))) .nil))) Tryz.underlying26 nu26 sz5 zr5 by5 rfl (by (simp; omega)) (leaf_fl rfl rfl) rfl rfl (fun p5 => ?_))
    refine jq jrm ?_
    refine seq_nil ?_
    refine jbn (jtn ?_)
    refine jcg ?_
    refine jq jra ?_
    refine jq jrm ?_
    refine seq_nil ?_
    refine jtn ?_
    refine jlend ((i + 1, p5)) ?_ ?_ (h5 := ?_) (h7 := ?_)
    · omega
    · omega
    · simp only [texL_succ hlt]
      (repeat (first | exact EntE.nil | refine EntE.cons (CEnt.refl _) ?_ | refine EntE.cons (CEnt.int (by omega)) ?_))
    · simp only [texL_succ hlt]
      (repeat (first | exact HEnt.nil | refine HEnt.same ?_ | refine HEnt.blk rfl (fun j hj => by rcases j with _|_|_|_|_|_|_|_|j <;> first | exact CEnt.refl _ | exact CEnt.int (by omega) | omega) ?_))
end Am
end Go.Proofs.YtjckfbpdieijeaaGreatDoor

/- Chapter 8: the writer: Fail, add, put. -/
namespace Go.Proofs.YtjckfbpdieijeaaGreatDoor
set_option linter.unusedVariables false
namespace Am
variable {gs : List Nat} [OkG gs]
open Go.RowKit
set_option maxRecDepth 100000

structure OkW (s : W8) : Prop where
  n : s.fr.length ≤ 16
  k : ∀ x ∈ s.fr, x.2.length ≤ 1000000 ∧ sumL x.2 ≤ 1000000
  d : s.d.length ≤ 1000000
theorem fr_len {zs : List FrG} {fr : List (Int × List (List UInt8))} (h : zs.map Prod.fst = fr) : zs.length = fr.length := by rw [← h]; simp
theorem top_at {x : FrG} {zr : List FrG} {m j : Nat} (hj : j < 2) (hm : m = zr.length + 1) : rowF 2 frF frD (x :: zr).reverse (0 + (m - 1) * 2 + j) = frF x j := by
  rw [Nat.zero_add, rowF_at hj, hm]
  simp [List.getD_eq_getElem?_getD]
theorem row_low {x : FrG} {zr : List FrG} {j : Nat} (hj : j < zr.length * 2) : rowF 2 frF frD (x :: zr).reverse j = rowF 2 frF frD zr.reverse j := by
  simp only [rowF, List.reverse_cons, List.getD_eq_getElem?_getD]
  rw [List.getElem?_append_left (by simp; omega)]
theorem top_store {x x' : FrG} {zr : List FrG} {m q n j : Nat} {g : Option Nat} (hm : m = zr.length + 1) (hx : x'.1.1 = x.1.1) (hg : x'.2 = g) (hn : x'.1.2.length = n) (hj : j < m * 2) : CEnt (updF (rowF 2 frF frD (x :: zr).reverse) (0 + (m - 1) * 2 + 1) [.os q g 0 n 1] j) (rowF 2 frF frD (x' :: zr).reverse j) := by
  rw [updF_get]
  by_cases h1 : j < zr.length * 2
  · rw [if_neg (by simp; omega), row_low h1, row_low h1]
    exact CEnt.refl _
  · by_cases h2 : j = 0 + (m - 1) * 2 + 1
    · rw [if_pos (by simp; omega), h2, top_at (by omega) hm, Nat.sub_self]
      show CEnt (.os q g 0 n 1) (.os 0 x'.2 0 x'.1.2.length 1)
      rw [hg, hn]
      exact CEnt.osI rfl
    · obtain rfl : j = 0 + (m - 1) * 2 + 0 := by omega
      rw [if_neg (by simp; omega), top_at (by omega) hm, top_at (by omega) hm]
      show CEnt (.c (.int .i64 x.1.1)) (.c (.int .i64 x'.1.1))
      rw [hx]
      exact CEnt.refl _
theorem failW_ac {gs : List Nat} (n : Nat) (s : W8) (e : Nat) : AC gs Tryz.prog 37 [wrO n s] [.op 0 (some n) 0, .err e] (fun r H' => r = .c (.tuple #[]) ∧ H' = [wrO n (failW e s)]) := by
  refine ac_of 13 Tryz.func37 rfl rfl rfl (fun al w0 F0 St0 => ?_)
  refine code_openW 0 rfl fun go gd zs hzs => ?_
  refine jcr ?_
  refine jq jrm ?_
  refine jq jrnc ?_
  refine jq (jrfa 2 1 false) ?_
  refine jqo jrdo ?_
  refine jq jre ?_
  refine seq_nil ?_
  refine jcc (fun h38 => ?_) fun h38 => ?_
  rotate_left
  · refine code_skip ?_
    have hF : failW e s = s := by unfold failW; rw [if_neg (by omega)]
    rw [hF]
    exact end_pack (gd := fun z : WZ8 s.fr => z.1.1) (E := wrE s) (.inr rfl) _ ⟨(n, go, gd, zs), hzs⟩ [0, 1, 2, 3] (by decide) rfl (res_0 rfl) ⟨rfl, rfl⟩
  refine jcg ?_
  refine jq jrm ?_
  refine jq jrm ?_
  refine jq jrnc ?_
  refine jq (jrfa 2 1 false) ?_
  refine jqm (jmstF 1 (wrB ⟨s.fr, s.d, e⟩ 1 2 go gd) ?_ ?_)
  · exact (fun j hj => by rcases j with _ | _ | _ | j <;> exact CEnt.refl _)
  refine seq_nil ?_
  have hF : failW e s = ⟨s.fr, s.d, e⟩ := by unfold failW; rw [if_pos (by omega)]
  rw [hF]
  exact end_pack (gd := fun z : WZ8 s.fr => z.1.1) (E := wrE ⟨s.fr, s.d, e⟩) (.inr rfl) _ ⟨(n, go, gd, zs), hzs⟩ [0, 1, 2, 3] (by decide) rfl (res_0 rfl) ⟨rfl, rfl⟩
set_option maxHeartbeats 1000000 in
theorem addW_ac {gs : List Nat} (n : Nat) (s : W8) (b : List UInt8) (hs : OkW s) (hb : b.length ≤ 100000000) : AC gs Tryz.prog 106 [wrO n s] [.op 0 (some n) 0, bsC b] (fun r H' => r = .c (.tuple #[]) ∧ H' = [wrO n (addW b s)]) := by
  have hsd := hs.d
  have hsn := hs.n
  refine ac_of 42 Tryz.func106 rfl rfl rfl (fun al w0 F0 St0 => ?_)
  refine jcs ?_
  (refine code_openW 0 rfl fun go gd zs hzs => ?_; have hzl := fr_len hzs)
  refine jcr ?_
  refine jq jrm ?_
  refine jq jrnc ?_
  refine jq (jrfa 0 1 false) ?_
  refine jqo jrdo ?_
  refine jq jrl ?_
  refine jq jrm ?_
  refine seq_nil ?_
  skip
  refine jcr ?_
  refine jq jrm ?_
  refine jq jrc ?_
  refine seq_nil ?_
  refine jcc (fun h45 => ?_) fun h45 => ?_
  rotate_left
  · refine code_skip (jtn ?_)
    have hf0 : s.fr = [] := List.eq_nil_of_length_eq_zero (by omega)
    refine jcg ?_
    refine jq jrm ?_
    refine jq jrm ?_
    refine jq jrnc ?_
    refine jq (jrfa 1 1 false) ?_
    refine jqo jrdo ?_
    refine jq jrm ?_
    first | refine jqm (m_appendB rfl rfl rfl (Nat.le_refl _) (fun _ _ => CEnt.refl _) (src_rs rfl) rfl (fun j hj => by simp only [Nat.div_one]; exact CEnt.refl _) Tryz.underlying26 nu26 sz5 zr5 by5 rfl (by omega) (fun j hj => rfl) rfl rfl (fun p1 => ?_)) | refine jqm (m_appendB rfl rfl rfl (Nat.le_refl _) (fun _ _ => CEnt.refl _) (src_str rfl) rfl (fun j hj => CEnt.refl _) Tryz.underlying26 nu26 sz5 zr5 by5 rfl (by first | omega | (simp; done) | (simp; omega) | (simp at *; omega)) (fun j hj => rfl) rfl rfl (fun p1 => ?_)) | refine jqm (m_appendB rfl rfl rfl (Nat.le_refl _) (fun _ _ => CEnt.refl _) (src_os rfl (.inl rfl) (by omega)) rfl (fun j hj => by rw [Nat.zero_add]; exact CEnt.refl _) Tryz.underlying26 nu26 sz5 zr5 by5 rfl (by first | omega | (simp; done) | (simp; omega) | (simp at *; omega)) (fun j hj => rfl) rfl rfl (fun p1 => ?_))
    refine jq jrnc ?_
    refine jq (jrfa 1 1 false) ?_
    refine jqm (jmstF 1 (wrB (addW b s) 1 2 go p1) ?_ ?_)
    · exact (fun j hj => by rcases j with _ | _ | _ | j <;> first | exact CEnt.osI (by simp [addW, hf0]) | exact CEnt.osI (by simp [addW, hf0]) | exact CEnt.err (by simp [addW, hf0]) | omega)
    refine seq_nil ?_
    refine end_hr (H' := ?H2) ?hh ?hb
    case hh => intro _ _ _ _ _ hx; exact closeWh n (addW b s) zs 0 1 2 3 (by simp [addW, hf0]; rw [hf0] at hzs; simpa using hzs) rfl rfl rfl rfl (by decide) (by exact CEnt.osI rfl) (by exact CEnt.osI rfl) (by exact CEnt.refl _) (by simp [addW, hf0]) (fun a ha => by simp [addW, hf0] at ha) (by simp [addW, hf0]) (fun _ _ => by simp only [addW, hf0]; exact CEnt.refl _) hx
    case hb => exact end_own (.inr rfl) _ [wrO n (addW b s)] [0] (by decide) rfl (res_0 rfl) ⟨rfl, rfl⟩
  refine jcs ?_
  obtain ⟨x, zr, rfl⟩ : ∃ x zr, zs = x :: zr := by
      cases zs with
      | nil => simp at hzl; omega
      | cons x zr => exact ⟨x, zr, rfl⟩
  have hfr : s.fr = x.1 :: zr.map Prod.fst := by rw [← hzs]; rfl
  have hxk := hs.k x.1 (by rw [hfr]; exact List.mem_cons_self)
  have hzl : s.fr.length = zr.length + 1 := by rw [← hzl]; rfl
  refine code_ent (bag_pop 3 rfl) ?_
  refine jcdZ (.rd 0 (.rd 1 (.rd 2 (.rd 4 (.rd 5 (.rd 6 (.rd 7 (.rd 8 (.rd 9 (.rd 10 (.rd 11 (.rd 12 (.rd 13 (.rd 14 (.rd 15 (.two 3 (.one 16 (.one 17 (.one 18 (.rd 19 (.rd 20 (.one 21 .done)))))) 16 (.two 3 (.one 17 (.one 18 (.rd 19 (.rd 20 (.one 21 .done))))) 17 (.two 3 (.one 18 (.rd 19 (.rd 20 (.one 21 .done)))) 18 (.one 3 (.rd 19 (.rd 20 (.one 21 .done)))))))))))))))))))))) ?_
  refine jzq jrm ?_
  refine jzq jrnc ?_
  refine jzq (jrfa 0 1 false) ?_
  refine jzq jrm ?_
  refine jzq jra ?_
  refine jzq jrm ?_
  refine jzq jrnc ?_
  refine jzq (jrfa 0 1 false) ?_
  refine jzo jrdo ?_
  refine jzq jrm ?_
  refine jzq jra ?_
  refine jzq (jri (i := (s.fr.length - 1)) (hz := by omega)) ?_
  refine jzq (jrfa 1 1 false) ?_
  refine jzo (jrdo (hv := top_at (by omega) hzl)) ?_
  refine jzq jrm ?_
  refine jztwo ?_ ?_
  · refine jz1o jrdo ?_
    refine z_ent (weaken 26 (.os 4 x.2 0 x.1.2.length 1) (CEnt.osI rfl)) ?_
    refine jze (jecP (clone8_ac b (by omega)) ?_)
    refine jze (jebl 1 1 zr26 fun p1 => ?_)
    refine jzm (m_appendC (rowC_lb) (l2 := [b]) rfl rfl rfl rfl (by omega) (fun _ _ => CEnt.refl _) (src_os rfl (.inl rfl) (by decide)) rfl (fun j hj => by rcases j with _|j <;> first | exact CEnt.refl _ | exact CEnt.int (by omega) | (exfalso; simp at hj <;> omega)) Tryz.underlying56 nu56 sz26 zr26 by26 rfl (by (simp; omega)) (by (simp; omega)) (leaf_flk rfl rfl) rfl rfl rfl (fun p2 => ?_))
    refine jzq (jri (i := (s.fr.length - 1)) (hz := by omega)) ?_
    refine jzq (jrfa 1 1 false) ?_
    refine jzm (jmstF 1 (rowF 2 frF frD (((x.1.1, x.1.2 ++ [b]), p2) :: zr).reverse) ?_ ?_)
    · exact (fun j hj => top_store hzl rfl rfl (by simp) hj)
    refine jzd ?_
    refine jtn ?_
    refine code_ent (weakH 4 (x.1.2 ++ [b]).length (lbF (x.1.2 ++ [b])) rfl (by simp) (fun _ _ => CEnt.refl _)) ?_
    refine code_ent (bag_push 3 4 rfl rfl rfl) ?_
    refine code_ent (closeW n (addW b s) (((x.1.1, x.1.2 ++ [b]), p2) :: zr) 0 1 2 3 (by simp [addW, hfr]) rfl rfl rfl rfl (by decide) (CEnt.osI (by simp [addW, hfr])) (CEnt.osI (by simp [addW, hfr])) (CEnt.err (by simp [addW, hfr])) (by simp [addW, hfr]) (fun _ _ => CEnt.refl _) (by simp [addW, hfr]) (fun _ _ => by simp only [addW, hfr]; exact CEnt.refl _)) ?_
    refine code_ret (jtr ?_)
    exact end_own (.inl rfl) _ [wrO n (addW b s)] [0] (by decide) rfl (res_0 rfl) ⟨rfl, rfl⟩
  · refine z_ent (weaken 26 (.os 4 x.2 0 x.1.2.length 1) (CEnt.osI rfl)) ?_
    refine jze (jecP (clone8_ac b (by omega)) ?_)
    refine jztwo ?_ ?_
    · refine jz1o jrdo ?_
      refine jze (jebl 1 1 zr26 fun p1 => ?_)
      refine jzm (m_appendC (rowC_lb) (l2 := [b]) rfl rfl rfl rfl (by omega) (fun _ _ => CEnt.refl _) (src_os rfl (.inl rfl) (by decide)) rfl (fun j hj => by rcases j with _|j <;> first | exact CEnt.refl _ | exact CEnt.int (by omega) | (exfalso; simp at hj <;> omega)) Tryz.underlying56 nu56 sz26 zr26 by26 rfl (by (simp; omega)) (by (simp; omega)) (leaf_flk rfl rfl) rfl rfl rfl (fun p2 => ?_))
      refine jzq (jri (i := (s.fr.length - 1)) (hz := by omega)) ?_
      refine jzq (jrfa 1 1 false) ?_
      refine jzm (jmstF 1 (rowF 2 frF frD (((x.1.1, x.1.2 ++ [b]), p2) :: zr).reverse) ?_ ?_)
      · exact (fun j hj => top_store hzl rfl rfl (by simp) hj)
      refine jzd ?_
      refine jtn ?_
      refine code_ent (weakH 4 (x.1.2 ++ [b]).length (lbF (x.1.2 ++ [b])) rfl (by simp) (fun _ _ => CEnt.refl _)) ?_
      refine code_ent (bag_push 3 4 rfl rfl rfl) ?_
      refine code_ent (closeW n (addW b s) (((x.1.1, x.1.2 ++ [b]), p2) :: zr) 0 1 2 3 (by simp [addW, hfr]) rfl rfl rfl rfl (by decide) (CEnt.osI (by simp [addW, hfr])) (CEnt.osI (by simp [addW, hfr])) (CEnt.err (by simp [addW, hfr])) (by simp [addW, hfr]) (fun _ _ => CEnt.refl _) (by simp [addW, hfr]) (fun _ _ => by simp only [addW, hfr]; exact CEnt.refl _)) ?_
      refine code_ret (jtr ?_)
      exact end_own (.inl rfl) _ [wrO n (addW b s)] [0] (by decide) rfl (res_0 rfl) ⟨rfl, rfl⟩
    · refine jze (jebl 1 1 zr26 fun p1 => ?_)
      refine jztwo ?_ ?_
      · refine jz1o jrdo ?_
        refine jzm (m_appendC (rowC_lb) (l2 := [b]) rfl rfl rfl rfl (by omega) (fun _ _ => CEnt.refl _) (src_os rfl (.inl rfl) (by decide)) rfl (fun j hj => by rcases j with _|j <;> first | exact CEnt.refl _ | exact CEnt.int (by omega) | (exfalso; simp at hj <;> omega)) Tryz.underlying56 nu56 sz26 zr26 by26 rfl (by (simp; omega)) (by (simp; omega)) (leaf_flk rfl rfl) rfl rfl rfl (fun p2 => ?_))
        refine jzq (jri (i := (s.fr.length - 1)) (hz := by omega)) ?_
        refine jzq (jrfa 1 1 false) ?_
        refine jzm (jmstF 1 (rowF 2 frF frD (((x.1.1, x.1.2 ++ [b]), p2) :: zr).reverse) ?_ ?_)
        · exact (fun j hj => top_store hzl rfl rfl (by simp) hj)
        refine jzd ?_
        refine jtn ?_
        refine code_ent (weakH 4 (x.1.2 ++ [b]).length (lbF (x.1.2 ++ [b])) rfl (by simp) (fun _ _ => CEnt.refl _)) ?_
        refine code_ent (bag_push 3 4 rfl rfl rfl) ?_
        refine code_ent (closeW n (addW b s) (((x.1.1, x.1.2 ++ [b]), p2) :: zr) 0 1 2 3 (by simp [addW, hfr]) rfl rfl rfl rfl (by decide) (CEnt.osI (by simp [addW, hfr])) (CEnt.osI (by simp [addW, hfr])) (CEnt.err (by simp [addW, hfr])) (by simp [addW, hfr]) (fun _ _ => CEnt.refl _) (by simp [addW, hfr]) (fun _ _ => by simp only [addW, hfr]; exact CEnt.refl _)) ?_
        refine code_ret (jtr ?_)
        exact end_own (.inl rfl) _ [wrO n (addW b s)] [0] (by decide) rfl (res_0 rfl) ⟨rfl, rfl⟩
      · refine jzm (m_appendC (rowC_lb) (l2 := [b]) rfl rfl rfl rfl (by omega) (fun _ _ => CEnt.refl _) (src_os rfl (.inl rfl) (by decide)) rfl (fun j hj => by rcases j with _|j <;> first | exact CEnt.refl _ | exact CEnt.int (by omega) | (exfalso; simp at hj <;> omega)) Tryz.underlying56 nu56 sz26 zr26 by26 rfl (by (simp; omega)) (by (simp; omega)) (leaf_flk rfl rfl) rfl rfl rfl (fun p2 => ?_))
        refine jz1o jrdo ?_
        refine jzq (jri (i := (s.fr.length - 1)) (hz := by omega)) ?_
        refine jzq (jrfa 1 1 false) ?_
        refine jzm (jmstF 1 (rowF 2 frF frD (((x.1.1, x.1.2 ++ [b]), p2) :: zr).reverse) ?_ ?_)
        · exact (fun j hj => top_store hzl rfl rfl (by simp) hj)
        refine jzd ?_
        refine jtn ?_
        refine code_ent (weakH 4 (x.1.2 ++ [b]).length (lbF (x.1.2 ++ [b])) rfl (by simp) (fun _ _ => CEnt.refl _)) ?_
        refine code_ent (bag_push 3 4 rfl rfl rfl) ?_
        refine code_ent (closeW n (addW b s) (((x.1.1, x.1.2 ++ [b]), p2) :: zr) 0 1 2 3 (by simp [addW, hfr]) rfl rfl rfl rfl (by decide) (CEnt.osI (by simp [addW, hfr])) (CEnt.osI (by simp [addW, hfr])) (CEnt.err (by simp [addW, hfr])) (by simp [addW, hfr]) (fun _ _ => CEnt.refl _) (by simp [addW, hfr]) (fun _ _ => by simp only [addW, hfr]; exact CEnt.refl _)) ?_
        refine code_ret (jtr ?_)
        exact end_own (.inl rfl) _ [wrO n (addW b s)] [0] (by decide) rfl (res_0 rfl) ⟨rfl, rfl⟩
theorem addW_k (b : List UInt8) (s : W8) : (addW b s).k = s.k := by unfold addW; split <;> rfl
theorem putE_bd (tag : Int) (body : List UInt8) : putE tag body ≤ 28 := by
  unfold putE
  repeat' split
  all_goals omega
theorem putW_ac (n : Nat) (s : W8) (tag : Int) (body : List UInt8) (e : Nat) (hs : OkW s) (hb : body.length ≤ 1000000) : AC gs Tryz.prog 82 [wrO n s] [.op 0 (some n) 0, .c (.int .i64 tag), bsC body, .err e] (fun r H' => r = .c (.tuple #[]) ∧ H' = [wrO n (putW tag body e s)]) := by
  have hpl : (putL tag body).length ≤ 100000000 := by
    unfold putL
    have := lenL_bd body.length
    simp only [List.length_cons, List.length_append]
    omega
  refine ac_of 32 Tryz.func82 rfl rfl rfl (fun al w0 F0 St0 => ?_)
  refine jcr ?_
  refine jq jrm ?_
  refine jq jrm ?_
  refine jqm (jmcH 0 (failW_ac n s e) ?_)
  rintro _ _ ⟨rfl, rfl⟩
  refine ⟨_, _, rfl, CEnt.refl _, ?_⟩
  refine seq_nil ?_
  refine jcs ?_
  refine code_openW 0 rfl fun go gd zs hzs => ?_
  refine jcr ?_
  refine jq jrm ?_
  refine jq jrnc ?_
  refine jq (jrfa 2 1 false) ?_
  refine jqo jrdo ?_
  refine jq jre ?_
  refine seq_nil ?_
  refine jcc (fun h55 => ?_) fun h55 => ?_
  · refine code_ret (jtr ?_)
    have hP : putW tag body e s = failW e s := by unfold putW; rw [if_pos (by omega)]
    rw [hP]
    exact end_pack (gd := fun z : WZ8 (failW e s).fr => z.1.1) (E := wrE (failW e s)) (.inl rfl) _ ⟨(n, go, gd, zs), hzs⟩ [0, 1, 2, 3] (by decide) rfl (res_0 rfl) ⟨rfl, rfl⟩
  refine code_skip (jtn ?_)
  have hk0 : (failW e s).k = 0 := by omega
  have hF : failW e s = s := by
    obtain ⟨fr, d, k⟩ := s
    unfold failW at hk0 ⊢
    split
    · rename_i h
      rw [if_pos h] at hk0
      have h : k = 0 := h
      have hk0 : e = 0 := hk0
      rw [h, hk0]
    · rfl
  refine code_ent (closeW n (failW e s) zs 0 1 2 3 hzs rfl rfl rfl rfl (by decide) (CEnt.osI rfl) (CEnt.osI rfl) (CEnt.refl _) (Nat.le_refl _) (fun _ _ => CEnt.refl _) (Nat.le_refl _) (fun _ _ => CEnt.refl _)) ?_
  rw [hF]
  have hsk : s.k = 0 := by rw [← hF]; exact hk0
  dsimp only [List.set_cons_zero, List.set_cons_succ, List.cons_append, List.nil_append, List.length_cons, List.length_nil, Nat.zero_add, Nat.reduceAdd]
  refine jcr ?_
  refine jq jrm ?_
  refine jq jrm ?_
  refine jq (rd_build (n := 2) rfl zr68 pl68 rfl rfl) ?_
  refine jqe (jecP (tput_ac tag body hb) ?_)
  refine jq jrm ?_
  refine jq jrx ?_
  refine jq jrx ?_
  refine jq jrm ?_
  refine jq jrm ?_
  refine seq_nil ?_
  refine jcs ?_
  refine jcr ?_
  refine jq jrm ?_
  refine jq jre ?_
  refine seq_nil ?_
  refine jcc (fun h59 => ?_) fun h59 => ?_
  · refine jcr ?_
    refine jq jrm ?_
    refine jq jrm ?_
    refine jqm (jmcH 0 (failW_ac n s (putE tag body)) ?_)
    rintro _ _ ⟨rfl, rfl⟩
    refine ⟨_, _, rfl, CEnt.refl _, ?_⟩
    refine seq_nil ?_
    refine code_ret (jtr ?_)
    have hP : putW tag body e s = failW (putE tag body) s := by unfold putW; rw [hF, if_neg (by omega), if_pos (by omega)]; unfold failW; rw [if_pos hsk]
    rw [hP]
    exact end_own (.inl rfl) _ [_] [0] (by decide) rfl (res_0 rfl) ⟨rfl, rfl⟩
  refine code_skip (jtn ?_)
  have hP0 : putE tag body = 0 := by omega
  rw [if_pos hP0]
  refine jcg ?_
  refine jq jrm ?_
  refine jq jrm ?_
  refine jqm (jmcH 0 (addW_ac n s _ hs hpl) ?_)
  rintro _ _ ⟨rfl, rfl⟩
  refine ⟨_, _, rfl, CEnt.refl _, ?_⟩
  refine seq_nil ?_
  have hP : putW tag body e s = addW (putL tag body) s := by unfold putW; rw [hF, if_neg (by omega), if_neg (by omega)]
  rw [hP]
  exact end_own (.inr rfl) _ [_] [0] (by decide) rfl (res_0 rfl) ⟨rfl, rfl⟩
end Am
end Go.Proofs.YtjckfbpdieijeaaGreatDoor

/- Chapter 7: rows of bytes, sorted: the program's way and the reference's. -/
namespace Go.Proofs.YtjckfbpdieijeaaGreatDoor
set_option linter.unusedVariables false
namespace Am
open Go.RowKit
set_option maxRecDepth 100000

theorem sort8_ac {gs : List Nat} (g : Option Nat) (ls : List (List UInt8)) (hl : ls.length ≤ 1000000000) : AC gs Tryz.prog 155 [(g, .blk ls.length (lbF ls))] [.os 0 g 0 ls.length 1, .c (.func (.func 148) #[] #[])] (fun r H' => r = .c (.tuple #[]) ∧ H' = [(g, .blk ls.length (lbF (sortL ls)))]) :=
  sort8_of (fun p cap fv w => AnyF.slices_SortFunc_none (P := Tryz.prog) (ρ := Tryz.sortB_ren) { Tryz.sortB with } p cap fv w)
    (fun m enc h1 cf hO blk cap d w hc hH hb hs => Any.slices_SortFunc (P := Tryz.prog) (ρ := Tryz.sortB_ren) Tryz.sortB enc h1 cf hO 148 #[] blk 0 cap d w (fun args W => run_enter (by kernel_rfl) args W) hc hH hb hs)
    (fun w v1 v2 l r h1 h2 => compare8_run h1 h2) g ls hl
theorem sumL_sort (ls : List (List UInt8)) : sumL (sortL ls) = sumL ls := ((sortL_perm ls).map List.length).sum_nat
theorem set_ac {gs : List Nat} (ls : List (List UInt8)) (hl : ls.length ≤ 1000000) (hs : sumL ls ≤ 10000000000) : ACp gs Tryz.prog 126 [lbC ls] (bsC (sortL ls).flatten) := by
  have hsl := sortL_length ls
  refine ac_of 10 Tryz.func126 rfl rfl rfl (fun al w0 F0 St0 => ?_)
  refine jcr ?_
  refine jq jrm ?_
  refine seq_nil ?_
  refine jcr ?_
  refine jq jrm ?_
  refine jqe (jecO (cloneL_ac ls hl) (fun p1 => ?_))
  refine jq jrm ?_
  refine seq_nil ?_
  refine jcr ?_
  refine jq jrm ?_
  refine jqm (jmcH 0 (sort8_ac p1 ls (by omega)) ?_)
  rintro _ _ ⟨rfl, rfl⟩
  refine ⟨_, _, rfl, CEnt.refl _, ?_⟩
  refine seq_nil ?_
  refine code_ent (freeze 0 rfl) ?_
  refine code_ent (thaw 3 (fun b _ => bsC ((sortL ls).getD b [])) rfl rfl (by omega) (fun a b ha hb => lb_thaw a b (by omega) hb)) ?_
  refine code_ent (weaken 3 (lbC (sortL ls)) (CEnt.rs hsl.symm fun i j _ _ => CEnt.refl _)) ?_
  refine jcr ?_
  refine jq jrm ?_
  refine jqe (jecP (concat8_ac (sortL ls) (by rw [sumL_sort]; exact hs) (by omega)) ?_)
  refine jq jrm ?_
  refine seq_nil ?_
  refine code_ret (jrt (hv := CEnt.refl _))
theorem gt_cmp (a b : List UInt8) : (!(Op.bytesLess a b || a == b)) = decide (0 < cmpL a b) := by
  rw [← cmpL_lt]
  have hs := cmpL_swap a b
  rcases Int.lt_trichotomy (cmpL a b) 0 with h | h | h
  · simp [h]; omega
  · have := cmpL_zero h
    subst this
    simp [h]
  · have hne : ¬ a = b := fun e => by subst e; rw [cmpL_self] at h; omega
    simp [hne, show ¬ cmpL a b < 0 by omega, h]
theorem lb_take {X : List (List UInt8)} {k j : Nat} (h : j < k) : bsC (X.getD (0 + j / 1) []) = lbF (X.take k) j := by
  unfold lbF
  simp [List.getD, List.getElem?_take, h]
theorem lb_drop {X : List (List UInt8)} {k j : Nat} : bsC (X.getD (k + j / 1) []) = lbF (X.drop k) j := by
  unfold lbF
  simp [List.getD, List.getElem?_drop]
/-- an element put where it belongs -/
theorem insert_sorted {X l : List (List UInt8)} {x : List UInt8} {k : Nat} (hX : X = sortL l) (hk : k ≤ X.length) (hlo : k = 0 ∨ leL (X.getD (k - 1) []) x = true) (hhi : ∀ j, k ≤ j → j < X.length → leL x (X.getD j []) = true) : X.take k ++ [x] ++ X.drop k = sortL (l ++ [x]) := by
  have hs : X.Pairwise fun a b => leL a b = true := hX ▸ sortL_sorted l
  have hp : X.Perm l := hX ▸ sortL_perm l
  refine sortL_of ?_ ?_
  · have h1 : (X.take k ++ [x] ++ X.drop k).Perm (X.take k ++ X.drop k ++ [x]) := by
      rw [List.append_assoc, List.append_assoc]
      exact List.Perm.append_left _ List.perm_append_comm
    rw [List.take_append_drop] at h1
    exact h1.trans (hp.append_right [x])
  · have hlow : ∀ a ∈ X.take k, leL a x = true := fun a ha => by
      obtain ⟨i, hi, rfl⟩ := List.mem_iff_getElem.1 ha
      rw [List.length_take] at hi
      rw [List.getElem_take]
      rcases hlo with h0 | h0
      · omega
      · by_cases e : i = k - 1
        · have : X.getD (k - 1) [] = X[i]'(by omega) := by subst e; simp [List.getD, show k - 1 < X.length by omega]
          rwa [this] at h0
        · refine leL_trans _ _ _ ?_ h0
          have := List.pairwise_iff_getElem.1 hs i (k - 1) (by omega) (by omega) (by omega)
          rwa [show X.getD (k - 1) [] = X[k - 1]'(by omega) by simp [List.getD, show k - 1 < X.length by omega]]
    have hhigh : ∀ a ∈ X.drop k, leL x a = true := fun a ha => by
      obtain ⟨i, hi, rfl⟩ := List.mem_iff_getElem.1 ha
      rw [List.length_drop] at hi
      rw [List.getElem_drop]
      have := hhi (k + i) (by omega) (by omega)
      rwa [show X.getD (k + i) [] = X[k + i]'(by omega) by simp [List.getD, show k + i < X.length by omega]] at this
    rw [List.pairwise_append, List.pairwise_append]
    refine ⟨⟨hs.take, List.pairwise_cons.2 ⟨fun _ h => by simp at h, .nil⟩, fun a ha b hb => ?_⟩, hs.drop, fun a ha b hb => ?_⟩
    · rw [List.mem_singleton.1 hb]; exact hlow a ha
    · rcases List.mem_append.1 ha with ha | ha
      · exact leL_trans _ _ _ (hlow a ha) (hhigh b hb)
      · rw [List.mem_singleton.1 ha]; exact hhigh b hb
set_option maxHeartbeats 1000000 in
theorem rsorted07_ac {gs : List Nat} (ls : List (List UInt8)) (hl : ls.length ≤ 1000000) : ACp gs Tryz.prog 48 [lbC ls] (lbC (sortL ls)) := by
  refine ac_of 48 Tryz.func48 rfl rfl rfl (fun al w0 F0 St0 => ?_)
  refine jcr ?_
  refine jq jrm ?_
  refine seq_nil ?_
  refine jcr ?_
  refine jqe (jebl 0 1 zr26 fun p1 => ?_)
  refine jq jrm ?_
  refine seq_nil ?_
  refine jcs ?_
  refine jcr ?_
  refine jq jrm ?_
  refine jq jrl ?_
  refine jq jrm ?_
  refine seq_nil ?_
  refine code_block ?_
  refine l_loop (α := Nat × List (List UInt8) × Option Nat) [3, 5, 6, 7, 11, 12, 13, 14, 15, 16, 17, 18, 19, 20, 21, 22, 23, 24, 25, 26, 27, 28, 29, 30, 31, 32, 33, 34, 35, 36, 37, 38, 39, 40, 41, 42, 43, 44, 45, 46] (fun (i, X, g) => [(11, .c (.int .i64 (i : Nat))), (3, .os 0 g 0 X.length 1)]) (fun (i, X, g) => [(g, .blk X.length (lbF X))]) (fun (i, X, g) => i ≤ ls.length ∧ X = sortL (ls.take i)) (fun (i, X, g) => ls.length - i) ((0, [], p1)) ?_ (fun _ => rfl) ?_ ?_ ?_
  · exact ⟨Nat.zero_le _, by simp [sortL]⟩
  · exact .cons (CEnt.refl _) (.cons (CEnt.refl _) .nil)
  · exact .blk rfl (fun j hj => absurd hj (Nat.not_lt_zero j)) .nil
  · rintro ⟨i, X, g⟩ ⟨(hi : i ≤ ls.length), hX⟩
    have hXl : X.length = i := by rw [hX, sortL_length, List.length_take]; omega
    obtain ⟨x, hx⟩ : ∃ x, x = ls.getD i [] := ⟨_, rfl⟩
    refine jcr ?_
    refine jq jrc ?_
    refine seq_nil ?_
    refine jcs ?_
    refine jcc (fun h115 => ?_) fun h115 => ?_
    rotate_left
    · refine code_exit (jte (jte (jbx (jtn ?_))))
      refine jcr ?_
      refine jq jrm ?_
      refine jq jrm ?_
      refine seq_nil ?_
      have hiL : i = ls.length := by omega
      rw [hiL, List.take_length] at hX
      refine code_ent (freeze 0 rfl) ?_
      refine code_ent (thaw 2 (fun b _ => bsC (X.getD b [])) rfl rfl (by omega) (fun a b ha hb => lb_thaw a b ha hb)) ?_
      refine code_ret (jrt (hv := ?_))
      rw [← hX]; exact CEnt.refl _
    refine code_skip (jtn ?_)
    refine jcs ?_
    refine code_block ?_
    refine jcr ?_
    refine jq jri ?_
    refine jq jrdr ?_
    refine jq jrm ?_
    refine seq_nil ?_
    refine code_ent (freeze 0 rfl) ?_
    refine code_ent (thaw 3 (fun b _ => bsC (X.getD b [])) rfl rfl (by omega) (fun a b ha hb => lb_thaw a b ha hb)) ?_
    refine code_ent (pick_ent (H' := []) [] (by decide) rfl) ?_
    refine jcr ?_
    refine jq jrm ?_
    refine jq jrl ?_
    refine jq jrm ?_
    refine seq_nil ?_
    refine jcs ?_
    refine code_block ?_
    refine code_ent (weaken 5 (bsC x) (CEnt.bs hx.symm)) ?_
    refine l_loop (α := Nat) [6, 17, 18, 19, 20, 21, 22, 23, 24, 25, 26, 27, 28, 29, 30, 31] (fun k => [(6, .c (.int .i64 (k : Nat)))]) (fun _ => []) (fun k => k ≤ X.length ∧ ∀ j, k ≤ j → j < X.length → leL x (X.getD j []) = true) (fun k => k) (X.length) ?_ (fun _ => rfl) ?_ ?_ ?_
    · exact ⟨Nat.le_refl _, fun j h1 h2 => by omega⟩
    · (repeat (first | exact EntE.nil | refine EntE.cons (CEnt.refl _) ?_ | refine EntE.cons (CEnt.int (by omega)) ?_))
    · (repeat (first | exact HEnt.nil | refine HEnt.same ?_ | refine HEnt.blk rfl (fun j hj => by rcases j with _|_|_|_|_|_|_|_|j <;> first | exact CEnt.refl _ | exact CEnt.int (by omega) | omega) ?_))
    · rintro k ⟨hk, hgt⟩
      refine jcs ?_
      refine jcs ?_
      refine jcd (.rd 0 (.rd 1 (.rd 2 (.rd 3 (.rd 4 (.rd 5 (.rd 6 (.rd 7 (.rd 8 (.rd 9 (.rd 10 (.rd 11 (.rd 12 .done))))))))))))) ?_
      refine jyq jrm ?_
      refine jyq jrc ?_
      refine jyq jrm ?_
      refine jysp 19 (fun g117 => ?_) fun g117 => ?_
      rotate_left
      · refine jys ?_
        refine jys ?_
        refine jys ?_
        refine jys ?_
        refine jys ?_
        refine jys ?_
        refine jys ?_
        refine jys ?_
        refine jys ?_
        refine jyq jrpF ?_
        refine jyd ?_
        refine jtn ?_
        refine jcF ?_
        refine code_exit (jte (jte (jbx (jtn ?_))))
        have hlo : k = 0 ∨ leL (X.getD (k - 1) []) x = true := by
          first
            | (left; omega)
            | (right; have hh := h117; rw [gt_cmp, decide_eq_false_iff_not] at hh; have := cmpL_swap (X.getD (k - 1) []) x; rw [leL_cmp]; omega)
        refine jcr ?_
        refine jqe (jebl 0 1 zr26 fun p2 => ?_)
        refine jq jrm ?_
        refine jq jrm ?_
        refine jq (jrsr (hl := (bd_none _ _)) (hu := (bd_some rfl (show _ = ((k : Nat) : Int) by omega)))) ?_
        refine jqm (m_appendC rowC_lb (l := []) (l2 := X.take k) rfl rfl rfl rfl (Nat.le_of_eq (Nat.zero_mul _)) (fun j hj => absurd hj (by simp)) (src_rs rfl) (by rw [List.length_take]; omega) (fun j hj => CEnt.of_eq (lb_take (by rw [List.length_take] at hj; omega))) Tryz.underlying56 nu56 sz26 zr26 by26 rfl (by simp; omega) (by simp; omega) (fun j hj => rfl) rfl rfl (Nat.mul_one _) (fun p3 => ?_))
        refine jq jrm ?_
        refine seq_nil ?_
        refine jcr ?_
        refine jq jrm ?_
        refine jq jrm ?_
        refine jqe (jebl 1 1 zr26 fun p4 => ?_)
        refine jqm (m_appendC rowC_lb (l := [] ++ X.take k) (l2 := [x]) rfl rfl (by simp) rfl (by simp) (fun j hj => CEnt.refl _) (src_os rfl (.inl rfl) (by decide)) rfl (fun j hj => by obtain rfl : j = 0 := (by simp at hj; omega); exact CEnt.refl _) Tryz.underlying56 nu56 sz26 zr26 by26 rfl (by simp; omega) (by simp; omega) (fun j hj => by obtain rfl : j = 0 := (by omega); rfl) rfl rfl (Nat.mul_one _) (fun p5 => ?_))
        refine jq jrm ?_
        refine seq_nil ?_
        refine jcg ?_
        refine jq jrm ?_
        refine jq jrm ?_
        refine jq jrm ?_
        refine jq (jrsr (hl := (bd_some rfl (show _ = ((k : Nat) : Int) by omega))) (hu := (bd_none _ _))) ?_
        refine jqm (m_appendC rowC_lb (l := [] ++ X.take k ++ [x]) (l2 := X.drop k) rfl rfl (by simp) rfl (by simp) (fun j hj => CEnt.refl _) (src_rs rfl) (by rw [List.length_drop]) (fun j hj => CEnt.of_eq lb_drop) Tryz.underlying56 nu56 sz26 zr26 by26 rfl (by simp; omega) (by simp; omega) (fun j hj => rfl) rfl rfl (Nat.mul_one _) (fun p6 => ?_))
        refine jq jrm ?_
        refine seq_nil ?_
        refine jbn (jtn ?_)
        refine jcg ?_
        refine jq jra ?_
        refine jq jrm ?_
        refine seq_nil ?_
        refine jtn ?_
        refine jlend ((i + 1, X.take k ++ [x] ++ X.drop k, p6)) ?_ ?_ (h5 := ?_) (h7 := ?_)
        · exact ⟨by omega, by
            have e : ls.take (i + 1) = ls.take i ++ [x] := by rw [hx, List.take_succ_eq_append_getElem (by omega)]; simp [List.getD, show i < ls.length by omega]
            rw [e]
            exact insert_sorted hX hk hlo (fun j h1 h2 => hgt j h1 h2)⟩
        · show ls.length - (i + 1) < ls.length - i; omega
        · exact .cons (CEnt.int (by omega)) (.cons (CEnt.refl _) .nil)
        · exact .same .nil
      refine jyq jrm ?_
      refine jyq jrm ?_
      refine jyq jra ?_
      refine jyq (jri (i := (k - 1)) (hz := by omega)) ?_
      refine jyq jrdr ?_
      refine jyq jrbs ?_
      refine jyq jrm ?_
      refine jyq jrbs ?_
      refine jyq jrcs ?_
      refine jyq jrpT ?_
      refine jyd ?_
      refine jtn ?_
      refine jcc (fun h117 => ?_) fun h117 => ?_
      · refine code_skip (jtn ?_)
        refine code_block ?_
        refine jcg ?_
        refine jq jrm ?_
        refine jq jra ?_
        refine jq jrm ?_
        refine seq_nil ?_
        refine jbn (jtn ?_)
        refine jlend (k - 1) ?_ ?_ (h5 := ?_)
        · exact ⟨by omega, fun j h1 h2 => by
            by_cases e : j = k - 1
            · subst e
              have := h117
              rw [gt_cmp, decide_eq_true_eq] at this
              rw [leL_cmp]; omega
            · exact hgt j (by omega) h2⟩
        · show k - 1 < k; omega
        · exact .cons (CEnt.int (by omega)) .nil
      refine code_exit (jte (jte (jbx (jtn ?_))))
      have hlo : k = 0 ∨ leL (X.getD (k - 1) []) x = true := by
        first
          | (left; omega)
          | (right; have hh := h117; rw [gt_cmp, decide_eq_false_iff_not] at hh; have := cmpL_swap (X.getD (k - 1) []) x; rw [leL_cmp]; omega)
      refine jcr ?_
      refine jqe (jebl 0 1 zr26 fun p2 => ?_)
      refine jq jrm ?_
      refine jq jrm ?_
      refine jq (jrsr (hl := (bd_none _ _)) (hu := (bd_some rfl (show _ = ((k : Nat) : Int) by omega)))) ?_
      refine jqm (m_appendC rowC_lb (l := []) (l2 := X.take k) rfl rfl rfl rfl (Nat.le_of_eq (Nat.zero_mul _)) (fun j hj => absurd hj (by simp)) (src_rs rfl) (by rw [List.length_take]; omega) (fun j hj => CEnt.of_eq (lb_take (by rw [List.length_take] at hj; omega))) Tryz.underlying56 nu56 sz26 zr26 by26 rfl (by simp; omega) (by simp; omega) (fun j hj => rfl) rfl rfl (Nat.mul_one _) (fun p3 => ?_))
      refine jq jrm ?_
      refine seq_nil ?_
      refine jcr ?_
      refine jq jrm ?_
      refine jq jrm ?_
      refine jqe (jebl 1 1 zr26 fun p4 => ?_)
      refine jqm (m_appendC rowC_lb (l := [] ++ X.take k) (l2 := [x]) rfl rfl (by simp) rfl (by simp) (fun j hj => CEnt.refl _) (src_os rfl (.inl rfl) (by decide)) rfl (fun j hj => by obtain rfl : j = 0 := (by simp at hj; omega); exact CEnt.refl _) Tryz.underlying56 nu56 sz26 zr26 by26 rfl (by simp; omega) (by simp; omega) (fun j hj => by obtain rfl : j = 0 := (by omega); rfl) rfl rfl (Nat.mul_one _) (fun p5 => ?_))
      refine jq jrm ?_
      refine seq_nil ?_
      refine jcg ?_
      refine jq jrm ?_
      refine jq jrm ?_
      refine jq jrm ?_
      refine jq (jrsr (hl := (bd_some rfl (show _ = ((k : Nat) : Int) by omega))) (hu := (bd_none _ _))) ?_
      refine jqm (m_appendC rowC_lb (l := [] ++ X.take k ++ [x]) (l2 := X.drop k) rfl rfl (by simp) rfl (by simp) (fun j hj => CEnt.refl _) (src_rs rfl) (by rw [List.length_drop]) (fun j hj => CEnt.of_eq lb_drop) Tryz.underlying56 nu56 sz26 zr26 by26 rfl (by simp; omega) (by simp; omega) (fun j hj => rfl) rfl rfl (Nat.mul_one _) (fun p6 => ?_))
      refine jq jrm ?_
      refine seq_nil ?_
      refine jbn (jtn ?_)
      refine jcg ?_
      refine jq jra ?_
      refine jq jrm ?_
      refine seq_nil ?_
      refine jtn ?_
      refine jlend ((i + 1, X.take k ++ [x] ++ X.drop k, p6)) ?_ ?_ (h5 := ?_) (h7 := ?_)
      · exact ⟨by omega, by
          have e : ls.take (i + 1) = ls.take i ++ [x] := by rw [hx, List.take_succ_eq_append_getElem (by omega)]; simp [List.getD, show i < ls.length by omega]
          rw [e]
          exact insert_sorted hX hk hlo (fun j h1 h2 => hgt j h1 h2)⟩
      · show ls.length - (i + 1) < ls.length - i; omega
      · exact .cons (CEnt.int (by omega)) (.cons (CEnt.refl _) .nil)
      · exact .same .nil
end Am
end Go.Proofs.YtjckfbpdieijeaaGreatDoor

/- Chapter 8: the writer: Open, Close, Done. -/
namespace Go.Proofs.YtjckfbpdieijeaaGreatDoor
set_option linter.unusedVariables false
namespace Am
variable {gs : List Nat} [OkG gs]
open Go.RowKit
set_option maxRecDepth 100000

theorem nilO8 : CEnt (.c (.slice none 0 0)) (.os 0 none 0 0 1) := fun al St w v h => ⟨rfl, h⟩
theorem know_os {G : Gh} {s : AS} (d : Nat) {i off n k : Nat} (hl : look s.env s.b d = .os i none off n k) : ∀ a w, Rel G s a w → n = 0 := fun a w ⟨St, hr⟩ => by
  have := evR hr (x := .tmp d) hl
  exact this.1
/-- bytes of its own, cloned -/
theorem cloneO_ac {gs : List Nat} (l : List UInt8) (g : Option Nat) (hl : l.length ≤ 100000000) : AC gs Tryz.prog 46 [(g, .blk l.length (byF l))] [.os 0 g 0 l.length 1] (fun r H' => r = bsC l ∧ H' = [(g, .blk l.length (byF l))]) := by
  refine ac_of 8 Tryz.func46 rfl rfl rfl (fun al w0 F0 St0 => ?_)
  refine jcr ?_
  refine jq jrm ?_
  refine seq_nil ?_
  refine jcs ?_
  refine jcr ?_
  refine jq jrm ?_
  refine jq (rd_eqSO rfl rfl rfl Tryz.underlying26) ?_
  refine seq_nil ?_
  refine jcc (fun h357 => ?_) fun h357 => ?_
  · obtain rfl : g = none := by cases g <;> simp at h357 ⊢
    refine code_knowG (know_os 0 rfl) fun hn => ?_
    refine jcr ?_
    refine jq jrm ?_
    refine seq_nil ?_
    refine code_ret (jtr ?_)
    exact end_ownV (.inl rfl) [0] (by decide) rfl (res_1 rfl (arv_tmp rfl)) (CEnt.nilS' hn) ⟨rfl, rfl⟩
  refine code_skip (jtn ?_)
  refine jcr ?_
  refine jqe (jebl 0 1 zr5 fun p1 => ?_)
  refine jq jrm ?_
  first | refine jqm (m_appendB (l := []) rfl rfl rfl (Nat.zero_le _) (fun j hj => absurd hj (Nat.not_lt_zero j)) (src_rs rfl) rfl (fun j hj => by simp only [Nat.div_one]; exact CEnt.refl _) Tryz.underlying26 nu26 sz5 zr5 by5 rfl (by first | omega | (simp; done) | (simp; omega) | (simp at *; omega)) (fun j hj => rfl) rfl rfl (fun p2 => ?_)) | refine jqm (m_appendB (l := []) rfl rfl rfl (Nat.zero_le _) (fun j hj => absurd hj (Nat.not_lt_zero j)) (src_str rfl) rfl (fun j hj => CEnt.refl _) Tryz.underlying26 nu26 sz5 zr5 by5 rfl (by first | omega | (simp; done) | (simp; omega) | (simp at *; omega)) (fun j hj => rfl) rfl rfl (fun p2 => ?_)) | refine jqm (m_appendB (l := []) rfl rfl rfl (Nat.zero_le _) (fun j hj => absurd hj (Nat.not_lt_zero j)) (src_os rfl (.inl rfl) (by omega)) rfl (fun j hj => by rw [Nat.zero_add]; exact CEnt.refl _) Tryz.underlying26 nu26 sz5 zr5 by5 rfl (by (simp; omega)) (fun j hj => rfl) rfl rfl (fun p2 => ?_))
  refine jq jrm ?_
  refine seq_nil ?_
  refine code_ent (freeze 1 rfl) ?_
  refine code_ent (thawB 2 ([] ++ l) rfl rfl (by rfl) rfl) ?_
  refine code_ret ?_
  exact end_ownV (.inl rfl) [0] (by decide) rfl (res_1 rfl (arv_tmp rfl)) (CEnt.bs (List.nil_append l)) ⟨rfl, rfl⟩
theorem body08_ac {gs : List Nat} (tag : Int) (ls : List (List UInt8)) (hl : ls.length ≤ 1000000) (hs : sumL ls ≤ 10000000000) : ACp gs Tryz.prog 83 [.agg 2 (fl [.c (.int .i64 tag), lbC ls])] (bsC (bodyF (tag, ls))) := by
  refine ac_of 12 Tryz.func83 rfl rfl rfl (fun al w0 F0 St0 => ?_)
  refine jcr ?_
  refine jqe (jebx 2 fun p1 => ?_)
  refine jq jrm ?_
  refine seq_nil ?_
  refine jcs ?_
  refine jcr ?_
  refine jq (jrfa 0 1 false) ?_
  refine jqo jrdo ?_
  refine jq jrc ?_
  refine seq_nil ?_
  refine jcc (fun h23 => ?_) fun h23 => ?_
  · refine jcr ?_
    refine jq (jrfa 1 1 false) ?_
    refine jqo jrdo ?_
    refine jqe (jecP (set_ac ls hl hs) ?_)
    refine jq jrm ?_
    refine seq_nil ?_
    refine code_ret (jtr (jrt (hv := CEnt.bs (by unfold bodyF; rw [if_pos h23]))))
  refine code_skip (jtn ?_)
  refine jcr ?_
  refine jq (jrfa 1 1 false) ?_
  refine jqo jrdo ?_
  refine jqe (jecP (concat8_ac ls hs hl) ?_)
  refine jq jrm ?_
  refine seq_nil ?_
  refine code_ret (jrt (hv := CEnt.bs (by unfold bodyF; rw [if_neg h23])))
theorem openW_ac (n : Nat) (s : W8) (tag : Int) (hs : OkW s) : AC gs Tryz.prog 42 [wrO n s] [.op 0 (some n) 0, .c (.int .i64 tag)] (fun r H' => r = .c (.tuple #[]) ∧ H' = [wrO n (openW tag s)]) := by
  have hsn := hs.n
  refine ac_of 40 Tryz.func42 rfl rfl rfl (fun al w0 F0 St0 => ?_)
  refine code_block ?_
  refine code_openW 0 rfl fun go gd zs hzs => ?_
  have hzl := fr_len hzs
  refine jcr ?_
  refine jq jrm ?_
  refine jq jrnc ?_
  refine jq (jrfa 2 1 false) ?_
  refine jqo jrdo ?_
  refine jq jre ?_
  refine jq jrm ?_
  refine seq_nil ?_
  refine jcc (fun h69 => ?_) fun h69 => ?_
  · refine code_skip (jbn ?_)
    have hP : openW tag s = s := by unfold openW; rw [if_pos (by omega)]
    rw [hP]
    exact end_pack (gd := fun z : WZ8 s.fr => z.1.1) (E := wrE s) (.inr rfl) _ ⟨(n, go, gd, zs), hzs⟩ [0, 1, 2, 3] (by decide) rfl (res_0 rfl) ⟨rfl, rfl⟩
  refine jcr ?_
  refine jq jrm ?_
  refine jqe (jecP (made_ac tag) ?_)
  refine jq jrn ?_
  refine jq jrm ?_
  refine seq_nil ?_
  refine jcc (fun h70 => ?_) fun h70 => ?_
  · refine jcg ?_
    refine jq jrm ?_
    refine jq (jrde 4) ?_
    refine jq jrnc ?_
    refine jq (jrfa 2 1 false) ?_
    refine jqm (jmstF 1 (wrB ⟨s.fr, s.d, 5⟩ 1 2 go gd) ?_ ?_)
    · exact (fun j hj => by rcases j with _ | _ | _ | j <;> exact CEnt.refl _)
    refine seq_nil ?_
    refine jbn ?_
    have hP : openW tag s = ⟨s.fr, s.d, 5⟩ := by unfold openW; rw [if_neg (by omega), if_pos (by simp [madeM] at h70 ⊢; omega)]
    rw [hP]
    exact end_pack (gd := fun z : WZ8 s.fr => z.1.1) (E := wrE ⟨s.fr, s.d, 5⟩) (.inr rfl) _ ⟨(n, go, gd, zs), hzs⟩ [0, 1, 2, 3] (by decide) rfl (res_0 rfl) ⟨rfl, rfl⟩
  refine jcr ?_
  refine jq jrm ?_
  refine jq jrnc ?_
  refine jq (jrfa 0 1 false) ?_
  refine jqo jrdo ?_
  refine jq jrl ?_
  refine jq jrc ?_
  refine jq jrm ?_
  refine seq_nil ?_
  refine jcc (fun h72 => ?_) fun h72 => ?_
  · refine jcg ?_
    refine jq jrm ?_
    refine jq (jrde 5) ?_
    refine jq jrnc ?_
    refine jq (jrfa 2 1 false) ?_
    refine jqm (jmstF 1 (wrB ⟨s.fr, s.d, 6⟩ 1 2 go gd) ?_ ?_)
    · exact (fun j hj => by rcases j with _ | _ | _ | j <;> exact CEnt.refl _)
    refine seq_nil ?_
    refine jbn ?_
    have hP : openW tag s = ⟨s.fr, s.d, 6⟩ := by unfold openW; rw [if_neg (by omega), if_neg (by simp [madeM] at h70 ⊢; omega), if_pos (by omega)]
    rw [hP]
    exact end_pack (gd := fun z : WZ8 s.fr => z.1.1) (E := wrE ⟨s.fr, s.d, 6⟩) (.inr rfl) _ ⟨(n, go, gd, zs), hzs⟩ [0, 1, 2, 3] (by decide) rfl (res_0 rfl) ⟨rfl, rfl⟩
  refine code_ent (ent_none (lbF [])) ?_
  refine code_ent (bag_push 3 4 rfl rfl rfl) ?_
  dsimp only [List.set_cons_zero, List.set_cons_succ, List.cons_append, List.nil_append, List.length_cons, List.length_nil, Nat.zero_add, Nat.reduceAdd]
  refine jcg ?_
  refine jq jrm ?_
  refine jq jrm ?_
  refine jq jrnc ?_
  refine jq (jrfa 0 1 false) ?_
  refine jqo jrdo ?_
  refine jq jrm ?_
  refine jq (rd_build (n := 2) rfl zr116 pl116 rfl rfl) ?_
  refine jqe (jebl 2 2 zr116 fun p1 => ?_)
  refine seq_ent (weakH 5 2 (rowF 2 frF frD [((tag, []), none)]) rfl (Nat.le_refl _) (fun j hj => by rcases j with _ | _ | j <;> first | exact CEnt.refl _ | exact nilO8 | omega)) ?_
  refine jqm (m_appendC (rowC_row 2 frF frD) (l := zs.reverse) (l2 := [((tag, []), none)]) rfl rfl (by simp [hzl]) rfl (by simp [hzl]) (fun _ _ => CEnt.refl _) (src_os rfl (.inl rfl) (by decide)) rfl (fun j hj => by rw [Nat.zero_add]; exact CEnt.refl _) Tryz.underlying25 nu25 sz116 zr116 by116 rfl (by simp; omega) (by simp; omega) (fun j hj => by rcases j with _ | _ | j <;> first | rfl | omega) rfl rfl rfl (fun p2 => ?_))
  refine jq jrnc ?_
  refine jq (jrfa 0 1 false) ?_
  refine jqm (jmstF 1 (wrB ⟨(tag, []) :: s.fr, s.d, s.k⟩ 1 2 p2 gd) ?_ ?_)
  · exact (fun j hj => by rcases j with _ | _ | _ | j <;> first | exact CEnt.osI (by simp [hzl]) | exact CEnt.refl _ | omega)
  refine seq_nil ?_
  refine jbn ?_
  have hP : openW tag s = ⟨(tag, []) :: s.fr, s.d, s.k⟩ := by unfold openW; rw [if_neg (by omega), if_neg (by simp [madeM] at h70 ⊢; omega), if_neg (by omega)]
  rw [hP]
  refine end_hr (H' := ?H2) ?hh ?hb
  case hh => intro _ _ _ _ _ hx; exact closeWh n ⟨(tag, []) :: s.fr, s.d, s.k⟩ (((tag, []), none) :: zs) 0 1 2 3 (by simp [hzs]) rfl rfl rfl rfl (by decide) (by exact CEnt.osI rfl) (by exact CEnt.osI rfl) (by exact CEnt.refl _) (by simp [hzl]) (fun a _ => by rw [List.reverse_cons]; exact CEnt.refl _) (Nat.le_refl _) (fun _ _ => CEnt.refl _) hx
  case hb => exact end_own (.inr rfl) _ [_] [0] (by decide) rfl (res_0 rfl) ⟨rfl, rfl⟩
theorem sum_perm {a b : List (List UInt8)} (h : a.Perm b) : sumL a = sumL b := by
  unfold sumL
  exact (h.map List.length).sum_nat
theorem bodyF_len (x : Int × List (List UInt8)) : (bodyF x).length = sumL x.2 := by
  unfold bodyF
  split
  · rw [flat_len]; exact sum_perm (sortL_perm _)
  · rw [flat_len]
theorem OkW.tail {x : Int × List (List UInt8)} {r : List (Int × List (List UInt8))} {s : W8} (h : OkW s) (hf : s.fr = x :: r) : OkW ⟨r, s.d, s.k⟩ := ⟨by have := h.n; rw [hf] at this; simp at this ⊢; omega, fun y hy => h.k y (by rw [hf]; exact List.mem_cons_of_mem _ hy), h.d⟩
theorem closeW_ac (n : Nat) (s : W8) (hs : OkW s) : AC gs Tryz.prog 43 [wrO n s] [.op 0 (some n) 0] (fun r H' => r = .c (.tuple #[]) ∧ H' = [wrO n (closeV s)]) := by
  have hsn := hs.n
  refine ac_of 45 Tryz.func43 rfl rfl rfl (fun al w0 F0 St0 => ?_)
  refine code_openW 0 rfl fun go gd zs hzs => ?_
  have hzl := fr_len hzs
  refine jcr ?_
  refine jq jrm ?_
  refine jq jrnc ?_
  refine jq (jrfa 0 1 false) ?_
  refine jqo jrdo ?_
  refine jq jrl ?_
  refine jq jra ?_
  refine jq jrm ?_
  refine seq_nil ?_
  refine code_block ?_
  refine jcr ?_
  refine jq jrm ?_
  refine jq jrnc ?_
  refine jq (jrfa 2 1 false) ?_
  refine jqo jrdo ?_
  refine jq jre ?_
  refine jq jrm ?_
  refine seq_nil ?_
  refine jcc (fun h83 => ?_) fun h83 => ?_
  · refine code_skip (jbn ?_)
    have hP : closeV s = s := by unfold closeV; rw [if_pos (by omega)]
    rw [hP]
    exact end_pack (gd := fun z : WZ8 s.fr => z.1.1) (E := wrE s) (.inr rfl) _ ⟨(n, go, gd, zs), hzs⟩ [0, 1, 2, 3] (by decide) rfl (res_0 rfl) ⟨rfl, rfl⟩
  refine jcr ?_
  refine jq jrm ?_
  refine jq jrc ?_
  refine jq jrm ?_
  refine seq_nil ?_
  refine jcc (fun h84 => ?_) fun h84 => ?_
  · refine jcg ?_
    refine jq jrm ?_
    refine jq (jrde 23) ?_
    refine jq jrnc ?_
    refine jq (jrfa 2 1 false) ?_
    refine jqm (jmstF 1 (wrB ⟨s.fr, s.d, 24⟩ 1 2 go gd) ?_ ?_)
    · exact (fun j hj => by rcases j with _ | _ | _ | j <;> exact CEnt.refl _)
    refine seq_nil ?_
    refine jbn ?_
    have hf0 : s.fr = [] := List.eq_nil_of_length_eq_zero (by omega)
    have hP : closeV s = ⟨s.fr, s.d, 24⟩ := by unfold closeV; rw [if_neg (by omega), hf0]
    rw [hP]
    exact end_pack (gd := fun z : WZ8 s.fr => z.1.1) (E := wrE ⟨s.fr, s.d, 24⟩) (.inr rfl) _ ⟨(n, go, gd, zs), hzs⟩ [0, 1, 2, 3] (by decide) rfl (res_0 rfl) ⟨rfl, rfl⟩
  obtain ⟨x, zr, rfl⟩ : ∃ x zr, zs = x :: zr := by
      cases zs with
      | nil => simp at hzl; omega
      | cons x zr => exact ⟨x, zr, rfl⟩
  have hfr : s.fr = x.1 :: zr.map Prod.fst := by rw [← hzs]; rfl
  have hxk := hs.k x.1 (by rw [hfr]; exact List.mem_cons_self)
  have hzl : s.fr.length = zr.length + 1 := by rw [← hzl]; rfl
  refine code_ent (bag_pop 3 rfl) ?_
  refine jcr ?_
  refine jq jrm ?_
  refine jq jrnc ?_
  refine jq (jrfa 0 1 false) ?_
  refine jqo jrdo ?_
  refine jq jrm ?_
  refine jq (jri (i := (s.fr.length - 1)) (hz := by omega)) ?_
  refine jqo (jrdoA 2) ?_
  refine seq_ent (freeze 4 rfl) ?_
  refine seq_ent (thawA 16 4 (fun a _ => bsC (x.1.2.getD a [])) (.c (.int .i64 x.1.1)) rfl rfl (by show CEnt (rowF 2 frF frD (x :: zr).reverse (0 + (s.fr.length - 1) * 2 + 0)) _; rw [top_at (by omega) hzl]; exact CEnt.refl _) (by show CEnt (rowF 2 frF frD (x :: zr).reverse (0 + (s.fr.length - 1) * 2 + 1)) _; rw [top_at (by omega) hzl]; exact CEnt.refl _) (by simp) (fun a b ha hb => by obtain rfl : b = 0 := (by omega); rw [Nat.zero_add, Nat.mul_one, Nat.add_zero]; exact CEnt.refl _)) ?_
  refine jqe (jeal (n := 2) zr116 rfl fun p1 => ?_)
  refine jqm (jmst 2 ?_)
  refine seq_nil ?_
  refine jcr ?_
  refine jq jrm ?_
  refine jq jrm ?_
  refine jq jrnc ?_
  refine jq (jrfa 0 1 false) ?_
  refine jqo jrdo ?_
  refine jq jrm ?_
  refine jq jrso ?_
  refine jq jrnc ?_
  refine jq (jrfa 0 1 false) ?_
  refine seq_ent (weakH 1 ((s.fr.length - 1) * 2) (rowF 2 frF frD zr.reverse) rfl (by omega) (fun j hj => by rw [row_low (by omega)]; exact CEnt.refl _)) ?_
  refine jqm (jmstF 1 (wrB ⟨zr.map Prod.fst, s.d, s.k⟩ 1 2 go gd) ?_ ?_)
  · exact (fun j hj => by rcases j with _ | _ | _ | j <;> first | exact CEnt.osI (by simp; omega) | exact CEnt.refl _ | omega)
  refine seq_nil ?_
  refine code_ent (closeW n ⟨zr.map Prod.fst, s.d, s.k⟩ zr 0 1 2 3 rfl rfl rfl rfl rfl (by decide) (CEnt.osI rfl) (CEnt.osI rfl) (CEnt.refl _) (by simp; omega) (fun _ _ => CEnt.refl _) (Nat.le_refl _) (fun _ _ => CEnt.refl _)) ?_
  dsimp only [List.set_cons_zero, List.set_cons_succ, List.cons_append, List.nil_append, List.length_cons, List.length_nil, Nat.zero_add, Nat.reduceAdd]
  refine code_ent (freeze 5 rfl) ?_
  refine code_ent (thawP 3 (m := 2) rfl rfl (by decide)) ?_
  have hto := hs.tail hfr
  refine jcdB 5 (.rd 0 (.rd 1 (.rd 2 (.rd 3 (.one 4 .done))))) ?_
  refine jyq jrm ?_
  refine jyq (jrfa 0 1 false) ?_
  refine jyq jrdr ?_
  refine jyq (jrdrA 2) ?_
  refine jye (jecP (body08_ac x.1.1 x.1.2 hxk.1 (by omega)) ?_)
  refine jyd ?_
  show ASeq _ _ _ _ _ _
  refine jqm (jmcH 0 (putW_ac n ⟨zr.map Prod.fst, s.d, s.k⟩ x.1.1 (bodyF x.1) 0 hto (by rw [bodyF_len]; exact hxk.2)) ?_)
  rintro _ _ ⟨rfl, rfl⟩
  refine ⟨_, _, rfl, CEnt.refl _, ?_⟩
  refine seq_nil ?_
  refine jbn ?_
  have hP : closeV s = putW x.1.1 (bodyF x.1) 0 ⟨zr.map Prod.fst, s.d, s.k⟩ := by unfold closeV; rw [if_neg (by omega), hfr]
  rw [hP]
  exact end_own (.inr rfl) _ [_] [0] (by decide) rfl (res_0 rfl) ⟨rfl, rfl⟩
end Am
end Go.Proofs.YtjckfbpdieijeaaGreatDoor

/- From a row's list of sentinels ('laid') to what the walks ask: each variable's pointer, no two the same. -/
namespace Go.Proofs.YtjckfbpdieijeaaGreatDoor
set_option linter.unusedVariables false
open Go.RowKit Go.ChangeShapes

def isErr (x : String × DataW Unit) : Bool := match x.2 with
  | .iface nm (.ptr (.agg [.lit (.string _)])) => nm == "*errors.errorString"
  | _ => false
theorem isErr_out {x : String × DataW Unit} (h : isErr x = true) : ∃ text, x.2 = .iface "*errors.errorString" (.ptr (.agg [.lit (.string text)])) := by
  obtain ⟨n, d⟩ := x
  unfold isErr at h
  dsimp only at h ⊢
  split at h
  · exact ⟨_, by rw [eq_of_beq h]⟩
  · cases h

theorem laid_list {P : Program} {W : World} {nm : String} {ti tp te ts : TypeId} {ms : Array (String × TypeId)} {f : Field}
    (hi : P.underlying ti = some (.interface ms)) (hrow : ∀ u, P.typeName? 3 u = some nm → u = tp)
    (hp : P.underlying tp = some (.pointer te)) (he : P.underlying te = some (.struct #[f])) (hft : f.type = ts) (hfo : f.offset = 0) (hs : P.underlying ts = some .string) (hc : P.cellsOf te = 1) (hcs : P.cellsOf ts = 1) :
    ∀ (L : List (String × DataW Unit)) (ps : List MemPlace), DataW.LaidVars P W L ps →
      (∀ b off, MemPlace.cell b off ∈ ps → (∃ c t, W.heap[b]? = some (.cells c t (0, 0))) ∧ ∀ u v, W.cell? ⟨b, off, none⟩ = some (.iface u v) → Value.okWide P W .any 0 u v) → ps.Nodup →
      (∀ x ∈ L, isErr x = true → (∃ text, x.2 = .iface nm (.ptr (.agg [.lit (.string text)]))) ∧ ∀ g, P.globalNamed x.1 = some g → (P.globals[g]?).map (·.type) = some ti) →
      ∃ al : List Addr, al.length = (L.filter isErr).length ∧ al.Nodup ∧ (∀ a ∈ al, a.spot = none ∧ MemPlace.cell a.block a.off ∈ ps) ∧
        ∀ (i : Nat) (x : String × DataW Unit) (a : Addr), (L.filter isErr)[i]? = some x → al[i]? = some a → ∃ g, P.globalNamed x.1 = some g ∧ W.cell? ⟨g, 0, none⟩ = some (.iface tp (.pointer (some a)))
  | [], ps, _, _, _, _ => ⟨[], rfl, List.nodup_nil, by simp, by simp⟩
  | (n, d) :: r, ps, hv, hrows, hnd, hL => by
    obtain ⟨g, t, cs, fuel, p, q, hg, ht, hvar, hd, hrest, rfl⟩ := hv
    have hnq : q.Nodup := List.Nodup.sublist (List.sublist_append_right _ _) hnd
    obtain ⟨al, h1, h2, h3, h4⟩ := laid_list hi hrow hp he hft hfo hs hc hcs r q hrest (fun b off hm => hrows b off (List.mem_append_right _ hm)) hnq (fun x hx => hL x (List.mem_cons_of_mem _ hx))
    by_cases hE : isErr (n, d) = true
    case neg =>
      have hE : isErr (n, d) = false := by simpa using hE
      rw [List.filter_cons_of_neg (by simp [hE])]
      exact ⟨al, h1, h2, fun a ha => ⟨(h3 a ha).1, List.mem_append_right _ (h3 a ha).2⟩, h4⟩
    obtain ⟨⟨text, hx⟩, hty⟩ := hL (n, d) (List.mem_cons_self ..) hE
    rw [List.filter_cons_of_pos hE]
    simp only at hx
    subst hx
    obtain rfl := Option.some.inj ((hty g hg).symm.trans ht)
    obtain ⟨l⟩ := cs
    have hcell0 : ∀ v, l = [v] → W.cell? ⟨g, 0, none⟩ = some v := fun v e => by
      subst e
      simpa using World.var?_cell hg hvar 0
    obtain ⟨a, s, rfl, ha, _, _, rfl⟩ := errorString_of_trod hi hrow hp he hft hfo hs hc hcs hd (fun u v e => by
      simp only at e
      subst e
      exact (hrows g 0 (by simp [MemPlace.row])).2 u v (hcell0 _ rfl))
    have hsp : a.spot = none := World.cell?_spot ha
    have hpl : MemPlace.cell a.block a.off ∈ MemPlace.row a 1 := by simp [MemPlace.row]
    refine ⟨a :: al, by simp [h1], List.nodup_cons.2 ⟨fun hm => ?_, h2⟩, ?_, ?_⟩
    · have hq := (h3 a hm).2
      have := (List.nodup_append.1 hnd).2.2 (MemPlace.cell a.block a.off) (List.mem_append_right _ hpl) _ hq
      exact this rfl
    · intro b hb
      rcases List.mem_cons.1 hb with rfl | hb
      · exact ⟨hsp, List.mem_append_left _ (List.mem_append_right _ hpl)⟩
      · exact ⟨(h3 b hb).1, List.mem_append_right _ (h3 b hb).2⟩
    · intro i x b hi' hb
      match i, hi', hb with
      | 0, hi', hb =>
        simp only [List.getElem?_cons_zero, Option.some.injEq] at hi' hb
        subst hi'
        subst hb
        exact ⟨g, hg, hcell0 _ rfl⟩
      | i + 1, hi', hb => exact h4 i x b (by simpa using hi') (by simpa using hb)

theorem starRow (u : TypeId) (h : Tryz.prog.typeName? 3 u = some "*errors.errorString") : u = 246 := by
  have e : "*errors.errorString" = "*" ++ "errors.errorString" := by decide +kernel
  exact typeName_ptr_named (nm := "errors.errorString") (by rw [← e]; kernel_rfl) (by kernel_rfl) (by decide) u (by rw [← e]; exact h)
theorem cellsErr : Tryz.prog.cellsOf 268 = 1 := by kernel_rfl
theorem cellsStr : Tryz.prog.cellsOf 9 = 1 := by kernel_rfl

/-- what a row's list of sentinels gives -/
theorem sent_of_laid {W : World} {L : List (String × DataW Unit)} {g0 : List Nat} (h : laidMetH Tryz.prog L W) (h1 : (L.all fun x => x.2.handleName?.isNone) = true)
    (h3 : ((L.filter isErr).map fun x => Tryz.prog.globalNamed x.1) = (errG g0).map some) (h4 : ((errG g0).map fun g => (Tryz.prog.globals[g]?).map (·.type)) = List.replicate (errG g0).length (some 28))
    (ht : tabA ∈ lst g0 → tabB ∈ lst g0 → Lib.Utf8Tabs tabA tabB W) (hAB : ((lst g0).contains tabA) = ((lst g0).contains tabB)) : ∃ al, SentL W g0 al := by
  rw [MakeChecks.laidMetH_plain _ _ _ h1] at h
  obtain ⟨ps, hv, hnd, hrows⟩ := h
  have hlen : (L.filter isErr).length = (errG g0).length := by simpa using congrArg List.length h3
  have hgl : ∀ (i : Nat) (x : String × DataW Unit), (L.filter isErr)[i]? = some x → ∃ g, (errG g0)[i]? = some g ∧ Tryz.prog.globalNamed x.1 = some g := by
    intro i x hx
    have := congrArg (fun l => l[i]?) h3
    simp only [List.getElem?_map, hx, Option.map_some] at this
    obtain ⟨g, hg, e⟩ := Option.map_eq_some_iff.1 this.symm
    exact ⟨g, hg, e.symm⟩
  obtain ⟨al, l1, l2, l3, l4⟩ := laid_list Tryz.underlying28 starRow Tryz.underlying246 Tryz.underlying268 rfl rfl Tryz.underlying9 cellsErr cellsStr L ps hv hrows hnd
    (fun x hx hE => ⟨isErr_out hE, fun g hg => by
      obtain ⟨i, hi⟩ := List.mem_iff_getElem?.1 (List.mem_filter.2 ⟨hx, hE⟩)
      obtain ⟨g', hg', e⟩ := hgl i x hi
      obtain rfl := Option.some.inj (e.symm.trans hg)
      have := congrArg (fun l => l[i]?) h4
      simp only [List.getElem?_map, hg', Option.map_some] at this
      have hlt : i < (errG g0).length := (List.getElem?_eq_some_iff.1 hg').1
      rw [List.getElem?_replicate, if_pos hlt] at this
      exact Option.some.inj this⟩)
  have hvar : ∀ i g, (errG g0)[i]? = some g → W.cell? ⟨g, 0, none⟩ = some (ev al (i + 1)) := by
    intro i g hg
    have hlt : i < (errG g0).length := (List.getElem?_eq_some_iff.1 hg).1
    obtain ⟨x, hx⟩ : ∃ x, (L.filter isErr)[i]? = some x := ⟨(L.filter isErr)[i], List.getElem?_eq_getElem (by omega)⟩
    obtain ⟨a, ha⟩ : ∃ a, al[i]? = some a := ⟨al[i], List.getElem?_eq_getElem (by omega)⟩
    obtain ⟨g', hg', e⟩ := hgl i x hx
    obtain rfl := Option.some.inj (hg.symm.trans hg')
    obtain ⟨g2, e2, hc⟩ := l4 i x a hx ha
    obtain rfl := Option.some.inj (e.symm.trans e2)
    rw [hc]
    simp [ev, ha]
  refine ⟨al, by omega, fun i j g g' hi _ hj _ e => (List.getElem?_inj (by have := (List.getElem?_eq_some_iff.1 hi).1; omega) l2).1 e, fun i g hi _ => hvar i g hi, fun a ha => (hrows a.block a.off (l3 a ha).2).1, ht, fun g hg => ?_⟩
  by_cases hT : (Nat.beq g tabA || Nat.beq g tabB) = true
  · have hc : tabA ∈ lst g0 ∧ tabB ∈ lst g0 := by
      rcases Bool.or_eq_true_iff.1 hT with e | e
      · have := Nat.eq_of_beq_eq_true e
        subst this
        have h5 : (lst g0).contains tabA = true := List.contains_iff_mem.2 hg
        exact ⟨hg, List.contains_iff_mem.1 (hAB ▸ h5)⟩
      · have := Nat.eq_of_beq_eq_true e
        subst this
        have h5 : (lst g0).contains tabB = true := List.contains_iff_mem.2 hg
        exact ⟨List.contains_iff_mem.1 (hAB.symm ▸ h5), hg⟩
    have hU := ht hc.1 hc.2
    rcases Bool.or_eq_true_iff.1 hT with e | e
    · have := Nat.eq_of_beq_eq_true e
      subst this
      exact World.block_lt_of_cell? W _ (hU.1 0 (by decide))
    · have := Nat.eq_of_beq_eq_true e
      subst this
      exact World.block_lt_of_cell? W _ (hU.2 0 (by decide)).1
  · have hm : g ∈ errG g0 := List.mem_filter.2 ⟨(lst_mem.1 hg).1, by
      cases hb : (Nat.beq g tabA || Nat.beq g tabB) with
      | true => exact absurd hb hT
      | false => rfl⟩
    obtain ⟨i, hi⟩ := List.mem_iff_getElem?.1 hm
    exact World.block_lt_of_cell? W _ (hvar i g hi)
/-! ### arguments that come in -/
end Go.Proofs.YtjckfbpdieijeaaGreatDoor

/- The tables of unicode/utf8 out of a row's list, at a seat that has the tables' types and variables. -/
namespace Go.Proofs.YtjckfbpdieijeaaGreatDoor
set_option linter.unusedVariables false
open Go.RowKit Go.ChangeShapes
def tabRen : Go.Shelf.Ren := ⟨fun n => n, fun | 5 => 5 | 119 => 224 | 138 => 226 | 139 => 227 | n => n, fun | 3 => 28 | 4 => 29 | n => n⟩
theorem tabTypes : U8Types Tryz.prog tabRen where
  t5 := Tryz.underlying5
  t119 := Tryz.underlying224
  t138 := Tryz.underlying226
  t139 := Tryz.underlying227
theorem tabExtra : U8Extra Tryz.prog tabRen where
  n3 := by kernel_rfl
  n4 := by kernel_rfl
  y3 := by kernel_rfl
  y4 := by kernel_rfl
  c5 := by kernel_rfl
  c119 := by kernel_rfl
  c138 := by kernel_rfl
theorem tabs_of_laid {W : World} {L : List (String × DataW Unit)} (h : laidMetH Tryz.prog L W) (h1 : (L.all fun x => x.2.handleName?.isNone) = true) {i j : Nat} (hi : L[i]? = some ("unicode/utf8.first", Lib.firstData)) (hj : L[j]? = some ("unicode/utf8.acceptRanges", Lib.acceptData)) : Lib.Utf8Tabs tabA tabB W := by
  rw [MakeChecks.laidMetH_plain _ _ _ h1] at h
  obtain ⟨ps, hv, hnd, hrows⟩ := h
  exact utf8Tabs_of_readsT (ρ := tabRen) tabTypes tabExtra (Lib.LaidVars_reads hv _ _ (List.mem_of_getElem? hi)) (Lib.LaidVars_reads hv _ _ (List.mem_of_getElem? hj))
end Go.Proofs.YtjckfbpdieijeaaGreatDoor

/- utf8.ValidString at this seat: the kit's contract, laid here; the tables of unicode/utf8 out of a row's list. -/
namespace Go.Proofs.YtjckfbpdieijeaaGreatDoor
set_option linter.unusedVariables false
open Go.RowKit Go.ChangeShapes
def u8ren : Go.Shelf.Ren := ⟨fun | 196 => 172 | 259 => 189 | n => n, fun | 0 => 0 | 3 => 3 | 4 => 4 | 5 => 5 | 9 => 9 | 12 => 12 | 46 => 77 | 53 => 165 | 119 => 224 | 138 => 226 | 139 => 227 | n => n, fun | 3 => 28 | 4 => 29 | n => n⟩
theorem u8lays : Go.Proofs.Lays.n196 Tryz.prog u8ren := {
  mixed := by kernel_rfl
  f196 := Tryz.func172.trans (congrArg some (by kernel_rfl))
  f259 := Tryz.func189.trans (congrArg some (by kernel_rfl))
  t0 := Tryz.underlying0
  a0 := Tryz.isAgg0
  z0 := Tryz.sizeOf0
  v0 := Tryz.zeroValue0
  t3 := Tryz.underlying3
  a3 := Tryz.isAgg3
  z3 := Tryz.sizeOf3
  v3 := Tryz.zeroValue3
  t4 := Tryz.underlying4
  a4 := Tryz.isAgg4
  z4 := Tryz.sizeOf4
  v4 := Tryz.zeroValue4
  t5 := Tryz.underlying5
  a5 := Tryz.isAgg5
  z5 := Tryz.sizeOf5
  v5 := Tryz.zeroValue5
  t9 := Tryz.underlying9
  a9 := Tryz.isAgg9
  z9 := Tryz.sizeOf9
  v9 := Tryz.zeroValue9
  t12 := Tryz.underlying12
  a12 := Tryz.isAgg12
  z12 := Tryz.sizeOf12
  v12 := Tryz.zeroValue12
  t46 := Tryz.underlying77
  a46 := Tryz.isAgg77
  z46 := Tryz.sizeOf77
  v46 := Tryz.zeroValue77
  t53 := Tryz.underlying165
  a53 := Tryz.isAgg165
  z53 := Tryz.sizeOf165
  v53 := Tryz.zeroValue165
  t119 := Tryz.underlying224
  a119 := Tryz.isAgg224
  z119 := Tryz.sizeOf224
  t138 := Tryz.underlying226
  a138 := Tryz.isAgg226
  z138 := Tryz.sizeOf226
  v138 := Tryz.zeroValue226
  t139 := Tryz.underlying227
  a139 := Tryz.isAgg227
  z139 := Tryz.sizeOf227
  v139 := Tryz.zeroValue227
  g3 := by kernel_rfl
  g4 := by kernel_rfl }
namespace Am
/-- the tables are among the variables -/
class OkT (l : List Nat) : Prop where
  a : tabA ∈ lst l
  b : tabB ∈ lst l
instance okTT : OkT gsT := ⟨by decide, by decide⟩
theorem valid_ac {gs : List Nat} [OkT gs] (l : List UInt8) (hl : l.length ≤ 9223372036854775807) : ACp gs Tryz.prog 172 [strC l] (.c (.bool (Lib.validD l))) :=
  ac_old fun al w St vals hs hv hr => by
    have h0 : vals.getD 0 undef = .string ⟨l.toArray⟩ := hr 0
    rw [vals1 hv, h0]
    exact Any.utf8_ValidString u8lays ⟨l.toArray⟩ w hl (hs.tab OkT.a OkT.b)
end Am
end Go.Proofs.YtjckfbpdieijeaaGreatDoor

/- Chapter 7, plain: what the reference asks of a rune's bytes. -/
namespace Go.Proofs.YtjckfbpdieijeaaGreatDoor
namespace Am
open Go.RowKit Go.Lib
set_option linter.unusedVariables false

/-- what the first byte b says: n more bytes, the bits c, the least -/
def RefSt (b n c least : Nat) : Prop :=
  (n = 0 ∧ c = b ∧ least = 0 ∧ b < 128 ∧ 32 ≤ b ∧ b ≠ 127) ∨ (n = 1 ∧ c + 192 = b ∧ least = 128 ∧ b < 224) ∨ (n = 2 ∧ c + 224 = b ∧ least = 2048 ∧ b < 240) ∨ (n = 3 ∧ c + 240 = b ∧ least = 65536 ∧ b < 248)
def cR (d : List UInt8) (c0 : Nat) : Nat → Nat
  | 0 => c0
  | j + 1 => cR d c0 j * 64 + bt d (j + 1) - 128
theorem cR_bd {d : List UInt8} {c0 j : Nat} (hj : j ≤ 3) (h0 : c0 < 128) (h : ∀ q, 1 ≤ q → q ≤ j → 128 ≤ bt d q ∧ bt d q ≤ 191) : cR d c0 j < 33554432 ∧ (j ≤ 2 → cR d c0 j < 524288) := by
  have h1 := h 1 (by omega)
  have h2 := h 2 (by omega)
  have h3 := h 3 (by omega)
  have e0 : cR d c0 0 = c0 := rfl
  have e1 : cR d c0 1 = c0 * 64 + bt d 1 - 128 := rfl
  have e2 : cR d c0 2 = (c0 * 64 + bt d 1 - 128) * 64 + bt d 2 - 128 := rfl
  have e3 : cR d c0 3 = ((c0 * 64 + bt d 1 - 128) * 64 + bt d 2 - 128) * 64 + bt d 3 - 128 := rfl
  have hj4 : j = 0 ∨ j = 1 ∨ j = 2 ∨ j = 3 := by omega
  rcases hj4 with e | e | e | e <;> rw [e] <;> omega
theorem ref_cont {d : List UInt8} {n c least j : Nat} (hd : d ≠ []) (hR : RefSt (bt d 0) n c least) (hj : j < n) (hl : d.length = 1 + j ∨ bt d (j + 1) < 128 ∨ 191 < bt d (j + 1)) : plainM d = false := by
  refine ref_bad hd ?_
  unfold RefSt at hR
  rcases hR with hR | hR | hR | hR
  · omega
  · rw [dec_two (by omega) (by omega), if_pos ?_]
    obtain rfl : j = 0 := by omega
    simp only [Nat.zero_add] at hl
    omega
  · rw [dec_three (by omega) (by omega), if_pos ?_]
    have : j = 0 ∨ j = 1 := by omega
    rcases this with rfl | rfl <;> simp only [Nat.zero_add, Nat.reduceAdd] at hl <;> omega
  · rw [dec_four (by omega) (by omega), if_pos ?_]
    have : j = 0 ∨ j = 1 ∨ j = 2 := by omega
    rcases this with rfl | rfl | rfl <;> simp only [Nat.zero_add, Nat.reduceAdd] at hl <;> omega
theorem ref_end {d : List UInt8} {n c least : Nat} (hd : d ≠ []) (hR : RefSt (bt d 0) n c least) (hl : 1 + n ≤ d.length) (h : ∀ q, 1 ≤ q → q ≤ n → 128 ≤ bt d q ∧ bt d q ≤ 191) :
    plainM d = if cR d c n < least ∨ 1114111 < cR d c n ∨ (55296 ≤ cR d c n ∧ cR d c n < 57344) then false else plainM (d.drop (1 + n)) := by
  have h1 := h 1 (by omega)
  have h2 := h 2 (by omega)
  have h3 := h 3 (by omega)
  unfold RefSt at hR
  rcases hR with ⟨rfl, rfl, rfl, hR⟩ | ⟨rfl, hc, rfl, hR⟩ | ⟨rfl, hc, rfl, hR⟩ | ⟨rfl, hc, rfl, hR⟩
  · rw [ref_ascii hd (by omega), if_neg (by omega), if_neg (by show ¬ (bt d 0 < 0 ∨ 1114111 < bt d 0 ∨ (55296 ≤ bt d 0 ∧ bt d 0 < 57344)); omega)]
  · have e : cR d c 1 = (bt d 0 - 192) * 64 + bt d 1 - 128 := by show c * 64 + bt d 1 - 128 = _; omega
    have hd2 := dec_two (l := d) (by omega) (by omega)
    rw [e]
    by_cases hb : (bt d 0 - 192) * 64 + bt d 1 - 128 < 128
    · rw [if_pos (.inl hb)]
      exact ref_bad hd (by rw [hd2, if_pos (by omega)])
    · rw [if_neg (by omega)]
      exact ref_good hd (by rw [hd2, if_neg (by omega)]) (by omega) (by omega)
  · have e : cR d c 2 = ((bt d 0 - 224) * 64 + bt d 1 - 128) * 64 + bt d 2 - 128 := by show (c * 64 + bt d 1 - 128) * 64 + bt d 2 - 128 = _; omega
    have hd2 := dec_three (l := d) (by omega) (by omega)
    obtain ⟨C, hC⟩ : ∃ C, C = ((bt d 0 - 224) * 64 + bt d 1 - 128) * 64 + bt d 2 - 128 := ⟨_, rfl⟩
    have hlt : C ≤ 65535 := by omega
    rw [e, ← hC]
    rw [← hC] at hd2
    by_cases hb : C < 2048 ∨ (55296 ≤ C ∧ C < 57344)
    · rw [if_pos (by omega)]
      exact ref_bad hd (by rw [hd2, if_pos (by omega)])
    · rw [if_neg (by omega)]
      exact ref_good hd (by rw [hd2, if_neg (by omega)]) (by omega) (by omega)
  · have e : cR d c 3 = (((bt d 0 - 240) * 64 + bt d 1 - 128) * 64 + bt d 2 - 128) * 64 + bt d 3 - 128 := by show ((c * 64 + bt d 1 - 128) * 64 + bt d 2 - 128) * 64 + bt d 3 - 128 = _; omega
    have hd2 := dec_four (l := d) (by omega) (by omega)
    obtain ⟨C, hC⟩ : ∃ C, C = (((bt d 0 - 240) * 64 + bt d 1 - 128) * 64 + bt d 2 - 128) * 64 + bt d 3 - 128 := ⟨_, rfl⟩
    rw [e, ← hC]
    rw [← hC] at hd2
    by_cases hb : C < 65536 ∨ 1114111 < C
    · rw [if_pos (by omega)]
      exact ref_bad hd (by rw [hd2, if_pos (by omega)])
    · rw [if_neg (by omega)]
      exact ref_good hd (by rw [hd2, if_neg (by omega)]) (by omega) (by omega)
theorem bt_drop (l : List UInt8) (i j : Nat) : bt (l.drop i) j = bt l (i + j) := by simp [bt, List.getD]
theorem dec_at (l : List UInt8) (i : Nat) : Utf8.decode ⟨l.toArray⟩ i = dec1 (l.drop i) := by
  unfold dec1
  rw [Lib.decode_at, ba_bang, ba_bang, ba_bang, ba_bang, bt_drop, bt_drop, bt_drop, bt_drop, List.length_drop]
  rfl
theorem dec1_le {d : List UInt8} (hd : d ≠ []) : (dec1 d).2 ≤ d.length := by
  have hp := List.length_pos_iff.2 hd
  unfold dec1 Lib.decodeN
  repeat' split
  all_goals first | (simp only; omega) | omega
end Am
end Go.Proofs.YtjckfbpdieijeaaGreatDoor

/- Chapter 7: which texts are plain. -/
namespace Go.Proofs.YtjckfbpdieijeaaGreatDoor
set_option linter.unusedVariables false
namespace Am
open Go.RowKit
set_option maxRecDepth 100000

theorem plain07_ac {gs : List Nat} [OkT gs] (l : List UInt8) (hl : l.length ≤ 1000000000) : ACp gs Tryz.prog 157 [strC l] (.c (.bool (plainM l))) := by
  refine ac_of 18 Tryz.func157 rfl rfl rfl (fun al w0 F0 St0 => ?_)
  refine jcr ?_
  refine jq jrm ?_
  refine seq_nil ?_
  refine jcs ?_
  refine jcr ?_
  refine jq jrm ?_
  refine jqe (e_range rfl rfl Tryz.underlying9 rfl rfl (fun p1 => ?_))
  refine seq_nil ?_
  refine code_block ?_
  refine l_loop (α := Nat) [2, 4, 7, 8, 9, 10, 11, 12, 13, 14, 15] (fun i => []) (fun i => [(some p1, .obj (iterOP ⟨l.toArray⟩ i))]) (fun i => i ≤ l.length ∧ noBadM (l.drop i) = noBadM l) (fun i => l.length - i) (0) ?_ (fun _ => rfl) ?_ ?_ ?_
  · exact ⟨Nat.zero_le _, rfl⟩
  · exact .nil
  · exact .same .nil
  · rintro i ⟨hi, he⟩
    refine jcr ?_
    refine seq_md (wanted_none rfl) (m_next rfl rfl rfl rfl rfl (fun n23 => ?_) (fun n23 => ?_))
    · refine jq jrx ?_
      refine seq_nil ?_
      refine jcs ?_
      refine jcT ?_
      refine code_skip (jtn ?_)
      refine code_block ?_
      refine jcr ?_
      refine jq jrx ?_
      refine jq jrm ?_
      refine seq_nil ?_
      have hd := dec_at l i
      have hlt : i < l.length := n23
      have hne : l.drop i ≠ [] := by intro e; have := congrArg List.length e; simp at this; omega
      have hw := dec1_width (l.drop i)
      have hwl := dec1_le hne
      simp only [List.length_drop] at hwl
      rw [← hd] at hw hwl
      refine jcr ?_
      refine jq jrm ?_
      refine jq jrc ?_
      refine jq jrm ?_
      refine jqsp 12 (fun g24 => ?_) fun g24 => ?_
      · refine jqs ?_
        refine jqs ?_
        refine jq jrpT ?_
        refine seq_nil ?_
        refine jcT ?_
        refine jcr ?_
        refine jq jrm ?_
        refine seq_nil ?_
        refine code_ret (jbr (jtr (jbr (jtr (jrt (hv := ?_))))))
        refine CEnt.bool ?_
        rw [plainM_two, ← he, noBadM_step hne, ← hd, if_pos ?_]
        · rfl
        · unfold badR; simp only [Bool.or_eq_true, decide_eq_true_eq]; omega
      refine jq jrm ?_
      refine jq jrc ?_
      refine jq jrpF ?_
      refine seq_nil ?_
      refine jcc (fun h24 => ?_) fun h24 => ?_
      · refine jcr ?_
        refine jq jrm ?_
        refine seq_nil ?_
        refine code_ret (jbr (jtr (jbr (jtr (jrt (hv := ?_))))))
        refine CEnt.bool ?_
        rw [plainM_two, ← he, noBadM_step hne, ← hd, if_pos ?_]
        · rfl
        · unfold badR; simp only [Bool.or_eq_true, decide_eq_true_eq]; omega
      refine code_skip (jbn (jtn ?_))
      refine jlend (i + (Utf8.decode ⟨l.toArray⟩ i).2) ?_ ?_ (h5 := ?_) (h7 := ?_)
      · refine ⟨by omega, ?_⟩
        have hb : ¬ badR (Utf8.decode ⟨l.toArray⟩ i).1 = true := by unfold badR; simp only [Bool.or_eq_true, decide_eq_true_eq]; omega
        rw [← he, noBadM_step hne, ← hd, if_neg hb, List.drop_drop]
      · show l.length - (i + (Utf8.decode ⟨l.toArray⟩ i).2) < l.length - i; omega
      · exact .nil
      · exact .same .nil
    · refine jq jrx ?_
      refine seq_nil ?_
      refine jcs ?_
      refine jcF ?_
      refine code_exit (jte (jte (jbx (jtn ?_))))
      refine jcr ?_
      refine jq jrm ?_
      refine jqe (jecP (valid_ac l (by omega)) ?_)
      refine jq jrm ?_
      refine seq_nil ?_
      refine code_ret (jrt (hv := ?_))
      refine CEnt.bool ?_
      have e : l.drop i = [] := List.drop_eq_nil_of_le (Nat.le_of_not_lt n23)
      rw [plainM_two, ← he, e]
      rfl


set_option maxHeartbeats 4000000 in
theorem rplain_ac {gs : List Nat} (l : List UInt8) (hl : l.length ≤ 1000000000) : ACp gs Tryz.prog 130 [strC l] (.c (.bool (plainM l))) := by
  refine ac_of 94 Tryz.func130 rfl rfl rfl (fun al w0 F0 St0 => ?_)
  refine jcr ?_
  refine jq jrm ?_
  refine seq_nil ?_
  refine jcr ?_
  refine jq jrm ?_
  refine seq_nil ?_
  refine jcs ?_
  refine code_block ?_
  refine l_loop (α := Nat) [2, 3, 4, 5, 6, 7, 8, 9, 10, 11, 12, 13, 14, 15, 16, 17, 18, 19, 20, 21, 22, 23, 24, 25, 26, 27, 28, 29, 30, 31, 32, 33, 34, 35, 36, 37, 38, 39, 40, 41, 42, 43, 44, 45, 46, 47, 48, 49, 50, 51, 52, 53, 54, 55, 56, 57, 58, 59, 60, 61, 62, 63, 64, 65, 66, 67, 68, 69, 70, 71, 72, 73, 74, 75, 76, 77, 78, 79, 80, 81, 82, 83, 84, 85, 86, 87, 88, 89, 90, 91, 92, 93] (fun i => [(3, .c (.int .i64 (i : Nat)))]) (fun _ => []) (fun i => i ≤ l.length ∧ plainM (l.drop i) = plainM l) (fun i => l.length - i) (0) ?_ (fun _ => rfl) ?_ ?_ ?_
  · exact ⟨Nat.zero_le _, rfl⟩
  · exact .cons (CEnt.refl _) .nil
  · (repeat (first | exact HEnt.nil | refine HEnt.same ?_ | refine HEnt.blk rfl (fun j hj => by rcases j with _|_|_|_|_|_|_|_|j <;> first | exact CEnt.refl _ | exact CEnt.int (by omega) | omega) ?_))
  · rintro i ⟨hi, he⟩
    refine jcs ?_
    refine jcr ?_
    refine jq jrm ?_
    refine jq jrm ?_
    refine jq jrls ?_
    refine jq jrc ?_
    refine seq_nil ?_
    refine jcc (fun h9 => ?_) fun h9 => ?_
    rotate_left
    · refine code_exit (jte (jte (jbx (jtn ?_))))
      refine jcr ?_
      refine jq jrm ?_
      refine seq_nil ?_
      refine code_ret (jrt (hv := ?_))
      refine CEnt.bool ?_
      rw [← he, List.drop_eq_nil_of_le (by omega)]
      rfl
    refine code_skip (jtn ?_)
    refine code_block ?_
    refine jcr ?_
    refine jq jrm ?_
    refine jq jrm ?_
    refine jq jrix ?_
    refine jq (jrv8 .i64) ?_
    refine jq jrm ?_
    refine jq jrm ?_
    refine jq jrm ?_
    refine seq_nil ?_
    have hlt : i < l.length := by omega
    have hne : l.drop i ≠ [] := by intro e; have := congrArg List.length e; simp at this; omega
    obtain ⟨b, hb⟩ : ∃ b, b = bt (l.drop i) 0 := ⟨_, rfl⟩
    have hbl : b < 256 := by rw [hb]; exact bt_lt _ _
    refine code_join (α := Nat × Nat × Nat) [2, 4, 5, 6, 15, 16, 17, 18, 19, 20, 21, 22, 23, 24, 25, 26, 27, 28, 29, 30, 31, 32, 33, 34, 35, 36, 37, 38, 39, 40, 41, 42, 43, 44, 45, 46] (fun (n, c, z) => [(4, .c (.int .i64 (c : Nat))), (5, .c (.int .i64 (n : Nat))), (6, .c (.int .i64 (z : Nat)))]) (fun _ => []) (fun (n, c, z) => RefSt (bt (l.drop i) 0) n c z) (fun _ => rfl) ?_ ?_
    · refine code_ent (weaken 4 (.c (.int .i64 (b : Nat))) (CEnt.int (by rw [hb, bt_drop]; rfl))) ?_
      refine jcr ?_
      refine jq jrm ?_
      refine jq jrc ?_
      refine seq_nil ?_
      refine jcc (fun h11 => ?_) fun h11 => ?_
      · refine jcr ?_
        refine jq jrm ?_
        refine jq jrc ?_
        refine jq jrm ?_
        refine jqsp 19 (fun g12 => ?_) fun g12 => ?_
        · refine jqs ?_
          refine jqs ?_
          refine jq jrpT ?_
          refine seq_nil ?_
          refine jcT ?_
          refine jcr ?_
          refine jq jrm ?_
          refine seq_nil ?_
          refine code_ret (jtr (jbr (jtr (jbr (jtr (jrt (hv := ?_)))))))
          refine CEnt.bool ?_
          rw [← he, ref_ascii hne (by rw [← hb]; omega), if_pos (by rw [← hb]; omega)]
        refine jq jrm ?_
        refine jq jrc ?_
        refine jq jrpF ?_
        refine seq_nil ?_
        refine jcc (fun h12 => ?_) fun h12 => ?_
        rotate_left
        · refine code_skip (jtn ?_)
          refine jjend ((0, b, 0)) ?_ (h5 := ?_)
          · show RefSt (bt (l.drop i) 0) _ _ _
            rw [← hb]; unfold RefSt; omega
          · exact .cons (CEnt.int (by omega)) (.cons (CEnt.int (by omega)) (.cons (CEnt.int (by omega)) .nil))
        refine jcr ?_
        refine jq jrm ?_
        refine seq_nil ?_
        refine code_ret (jtr (jbr (jtr (jbr (jtr (jrt (hv := ?_)))))))
        refine CEnt.bool ?_
        rw [← he, ref_ascii hne (by rw [← hb]; omega), if_pos (by rw [← hb]; omega)]
      refine jcr ?_
      refine jq jrm ?_
      refine jq jrc ?_
      refine jq jrm ?_
      refine jqsp 25 (fun g15 => ?_) fun g15 => ?_
      rotate_left
      · refine jqs ?_
        refine jqs ?_
        refine jq jrpF ?_
        refine seq_nil ?_
        refine jcF ?_
        refine jcr ?_
        refine jq jrm ?_
        refine jq jrc ?_
        refine jq jrm ?_
        refine jqsp 33 (fun g17 => ?_) fun g17 => ?_
        rotate_left
        · refine jqs ?_
          refine jqs ?_
          refine jq jrpF ?_
          refine seq_nil ?_
          refine jcF ?_
          refine jcr ?_
          refine jq jrm ?_
          refine jq jrc ?_
          refine jq jrm ?_
          refine jqsp 41 (fun g19 => ?_) fun g19 => ?_
          rotate_left
          · refine jqs ?_
            refine jqs ?_
            refine jq jrpF ?_
            refine seq_nil ?_
            refine jcF ?_
            refine jcr ?_
            refine jq jrm ?_
            refine seq_nil ?_
            refine code_ret (jtr (jbr (jtr (jbr (jtr (jrt (hv := ?_)))))))
            refine CEnt.bool ?_
            rw [← he, ref_bad hne (dec_head_bad (by rw [← hb]; omega) (by rw [← hb]; omega))]
          refine jq jrm ?_
          refine jq jrc ?_
          refine jq jrpT ?_
          refine seq_nil ?_
          refine jcc (fun h19 => ?_) fun h19 => ?_
          rotate_left
          · refine jcr ?_
            refine jq jrm ?_
            refine seq_nil ?_
            refine code_ret (jtr (jbr (jtr (jbr (jtr (jrt (hv := ?_)))))))
            refine CEnt.bool ?_
            rw [← he, ref_bad hne (dec_head_bad (by rw [← hb]; omega) (by rw [← hb]; omega))]
          refine jcg ?_
          refine jq jrm ?_
          refine jq jra ?_
          refine jq jrm ?_
          refine jq jrm ?_
          refine jq jrm ?_
          refine seq_nil ?_
          refine jtn ?_
          refine jjend ((3, b - 240, 65536)) ?_ (h5 := ?_)
          · show RefSt (bt (l.drop i) 0) _ _ _
            rw [← hb]; unfold RefSt; omega
          · exact .cons (CEnt.int (by omega)) (.cons (CEnt.int (by omega)) (.cons (CEnt.int (by omega)) .nil))
        refine jq jrm ?_
        refine jq jrc ?_
        refine jq jrpT ?_
        refine seq_nil ?_
        refine jcc (fun h17 => ?_) fun h17 => ?_
        · refine jcg ?_
          refine jq jrm ?_
          refine jq jra ?_
          refine jq jrm ?_
          refine jq jrm ?_
          refine jq jrm ?_
          refine seq_nil ?_
          refine jtn ?_
          refine jjend ((3, b - 240, 65536)) ?_ (h5 := ?_)
          · show RefSt (bt (l.drop i) 0) _ _ _
            rw [← hb]; unfold RefSt; omega
          · exact .cons (CEnt.int (by omega)) (.cons (CEnt.int (by omega)) (.cons (CEnt.int (by omega)) .nil))
        refine jcr ?_
        refine jq jrm ?_
        refine jq jrc ?_
        refine jq jrm ?_
        refine jqsp 41 (fun g19 => ?_) fun g19 => ?_
        rotate_left
        · refine jqs ?_
          refine jqs ?_
          refine jq jrpF ?_
          refine seq_nil ?_
          refine jcF ?_
          refine jcr ?_
          refine jq jrm ?_
          refine seq_nil ?_
          refine code_ret (jtr (jbr (jtr (jbr (jtr (jrt (hv := ?_)))))))
          refine CEnt.bool ?_
          rw [← he, ref_bad hne (dec_head_bad (by rw [← hb]; omega) (by rw [← hb]; omega))]
        refine jq jrm ?_
        refine jq jrc ?_
        refine jq jrpT ?_
        refine seq_nil ?_
        refine jcc (fun h19 => ?_) fun h19 => ?_
        rotate_left
        · refine jcr ?_
          refine jq jrm ?_
          refine seq_nil ?_
          refine code_ret (jtr (jbr (jtr (jbr (jtr (jrt (hv := ?_)))))))
          refine CEnt.bool ?_
          rw [← he, ref_bad hne (dec_head_bad (by rw [← hb]; omega) (by rw [← hb]; omega))]
        refine jcg ?_
        refine jq jrm ?_
        refine jq jra ?_
        refine jq jrm ?_
        refine jq jrm ?_
        refine jq jrm ?_
        refine seq_nil ?_
        refine jtn ?_
        refine jjend ((3, b - 240, 65536)) ?_ (h5 := ?_)
        · show RefSt (bt (l.drop i) 0) _ _ _
          rw [← hb]; unfold RefSt; omega
        · exact .cons (CEnt.int (by omega)) (.cons (CEnt.int (by omega)) (.cons (CEnt.int (by omega)) .nil))
      refine jq jrm ?_
      refine jq jrc ?_
      refine jq jrpT ?_
      refine seq_nil ?_
      refine jcc (fun h15 => ?_) fun h15 => ?_
      · refine jcg ?_
        refine jq jrm ?_
        refine jq jra ?_
        refine jq jrm ?_
        refine jq jrm ?_
        refine jq jrm ?_
        refine seq_nil ?_
        refine jtn ?_
        refine jjend ((1, b - 192, 128)) ?_ (h5 := ?_)
        · show RefSt (bt (l.drop i) 0) _ _ _
          rw [← hb]; unfold RefSt; omega
        · exact .cons (CEnt.int (by omega)) (.cons (CEnt.int (by omega)) (.cons (CEnt.int (by omega)) .nil))
      refine jcr ?_
      refine jq jrm ?_
      refine jq jrc ?_
      refine jq jrm ?_
      refine jqsp 33 (fun g17 => ?_) fun g17 => ?_
      rotate_left
      · refine jqs ?_
        refine jqs ?_
        refine jq jrpF ?_
        refine seq_nil ?_
        refine jcF ?_
        refine jcr ?_
        refine jq jrm ?_
        refine jq jrc ?_
        refine jq jrm ?_
        refine jqsp 41 (fun g19 => ?_) fun g19 => ?_
        rotate_left
        · refine jqs ?_
          refine jqs ?_
          refine jq jrpF ?_
          refine seq_nil ?_
          refine jcF ?_
          refine jcr ?_
          refine jq jrm ?_
          refine seq_nil ?_
          refine code_ret (jtr (jbr (jtr (jbr (jtr (jrt (hv := ?_)))))))
          refine CEnt.bool ?_
          rw [← he, ref_bad hne (dec_head_bad (by rw [← hb]; omega) (by rw [← hb]; omega))]
        refine jq jrm ?_
        refine jq jrc ?_
        refine jq jrpT ?_
        refine seq_nil ?_
        refine jcc (fun h19 => ?_) fun h19 => ?_
        rotate_left
        · refine jcr ?_
          refine jq jrm ?_
          refine seq_nil ?_
          refine code_ret (jtr (jbr (jtr (jbr (jtr (jrt (hv := ?_)))))))
          refine CEnt.bool ?_
          rw [← he, ref_bad hne (dec_head_bad (by rw [← hb]; omega) (by rw [← hb]; omega))]
        refine jcg ?_
        refine jq jrm ?_
        refine jq jra ?_
        refine jq jrm ?_
        refine jq jrm ?_
        refine jq jrm ?_
        refine seq_nil ?_
        refine jtn ?_
        refine jjend ((3, b - 240, 65536)) ?_ (h5 := ?_)
        · show RefSt (bt (l.drop i) 0) _ _ _
          rw [← hb]; unfold RefSt; omega
        · exact .cons (CEnt.int (by omega)) (.cons (CEnt.int (by omega)) (.cons (CEnt.int (by omega)) .nil))
      refine jq jrm ?_
      refine jq jrc ?_
      refine jq jrpT ?_
      refine seq_nil ?_
      refine jcc (fun h17 => ?_) fun h17 => ?_
      · refine jcg ?_
        refine jq jrm ?_
        refine jq jra ?_
        refine jq jrm ?_
        refine jq jrm ?_
        refine jq jrm ?_
        refine seq_nil ?_
        refine jtn ?_
        refine jjend ((2, b - 224, 2048)) ?_ (h5 := ?_)
        · show RefSt (bt (l.drop i) 0) _ _ _
          rw [← hb]; unfold RefSt; omega
        · exact .cons (CEnt.int (by omega)) (.cons (CEnt.int (by omega)) (.cons (CEnt.int (by omega)) .nil))
      refine jcr ?_
      refine jq jrm ?_
      refine jq jrc ?_
      refine jq jrm ?_
      refine jqsp 41 (fun g19 => ?_) fun g19 => ?_
      rotate_left
      · refine jqs ?_
        refine jqs ?_
        refine jq jrpF ?_
        refine seq_nil ?_
        refine jcF ?_
        refine jcr ?_
        refine jq jrm ?_
        refine seq_nil ?_
        refine code_ret (jtr (jbr (jtr (jbr (jtr (jrt (hv := ?_)))))))
        refine CEnt.bool ?_
        rw [← he, ref_bad hne (dec_head_bad (by rw [← hb]; omega) (by rw [← hb]; omega))]
      refine jq jrm ?_
      refine jq jrc ?_
      refine jq jrpT ?_
      refine seq_nil ?_
      refine jcc (fun h19 => ?_) fun h19 => ?_
      rotate_left
      · refine jcr ?_
        refine jq jrm ?_
        refine seq_nil ?_
        refine code_ret (jtr (jbr (jtr (jbr (jtr (jrt (hv := ?_)))))))
        refine CEnt.bool ?_
        rw [← he, ref_bad hne (dec_head_bad (by rw [← hb]; omega) (by rw [← hb]; omega))]
      refine jcg ?_
      refine jq jrm ?_
      refine jq jra ?_
      refine jq jrm ?_
      refine jq jrm ?_
      refine jq jrm ?_
      refine seq_nil ?_
      refine jtn ?_
      refine jjend ((3, b - 240, 65536)) ?_ (h5 := ?_)
      · show RefSt (bt (l.drop i) 0) _ _ _
        rw [← hb]; unfold RefSt; omega
      · exact .cons (CEnt.int (by omega)) (.cons (CEnt.int (by omega)) (.cons (CEnt.int (by omega)) .nil))
    · rintro ⟨n0, c0, least⟩ hR0
      have hR : RefSt (bt (l.drop i) 0) n0 c0 least := hR0
      clear hR0
      have hRb := hR
      rw [← hb] at hRb
      unfold RefSt at hRb
      have hn3 : n0 ≤ 3 := by omega
      have hc128 : c0 < 128 := by omega
      have hl6 : least ≤ 65536 := by omega
      clear hRb
      refine jcr ?_
      refine jq jrm ?_
      refine jq jra ?_
      refine jq jrm ?_
      refine seq_nil ?_
      refine jcs ?_
      refine code_block ?_
      refine l_loop (α := Nat) [2, 3, 4, 5, 49, 50, 51, 52, 53, 54, 55, 56, 57, 58, 59, 60, 61, 62, 63, 64, 65, 66, 67, 68, 69, 70, 71, 72, 73, 74, 75, 76, 77, 78] (fun j => [(3, .c (.int .i64 (((i + 1 + j : Nat) : Int)))), (4, .c (.int .i64 (cR (l.drop i) c0 j : Nat))), (5, .c (.int .i64 ((n0 - j : Nat) : Int)))]) (fun _ => []) (fun j => j ≤ n0 ∧ i + 1 + j ≤ l.length ∧ ∀ q, 1 ≤ q → q ≤ j → 128 ≤ bt (l.drop i) q ∧ bt (l.drop i) q ≤ 191) (fun j => n0 - j) (0) ?_ (fun _ => rfl) ?_ ?_ ?_
      · exact ⟨Nat.zero_le _, by omega, fun q h1 h2 => by omega⟩
      · exact .cons (CEnt.int (by omega)) (.cons (CEnt.refl _) (.cons (CEnt.refl _) .nil))
      · (repeat (first | exact HEnt.nil | refine HEnt.same ?_ | refine HEnt.blk rfl (fun j hj => by rcases j with _|_|_|_|_|_|_|_|j <;> first | exact CEnt.refl _ | exact CEnt.int (by omega) | omega) ?_))
      · rintro j ⟨hj, hil, hq⟩
        have hcb := cR_bd (d := l.drop i) (c0 := c0) (j := j) (by omega) hc128 hq
        refine jcs ?_
        refine jcr ?_
        refine jq jrm ?_
        refine jq jrc ?_
        refine seq_nil ?_
        refine jcc (fun h25 => ?_) fun h25 => ?_
        rotate_left
        · refine code_exit (jte (jte (jbx (jtn ?_))))
          have hjn : j = n0 := by omega
          subst hjn
          obtain ⟨C, hjn⟩ : ∃ C, C = cR (l.drop i) c0 j := ⟨_, rfl⟩
          rw [← hjn] at hcb
          refine code_ent (weaken 4 (.c (.int .i64 (C : Nat))) (CEnt.int (by rw [hjn]))) ?_
          refine jcr ?_
          refine jq jrm ?_
          refine jq jrm ?_
          refine jq jrc ?_
          refine jq jrm ?_
          refine jqsp 82 (fun g32 => ?_) fun g32 => ?_
          · refine jqs ?_
            refine jqs ?_
            refine jq jrpT ?_
            refine jq jrm ?_
            refine jqs ?_
            refine jqs ?_
            refine jqs ?_
            refine jqs ?_
            refine jqs ?_
            refine jqs ?_
            refine jq jrpT ?_
            refine seq_nil ?_
            refine jcT ?_
            refine jcr ?_
            refine jq jrm ?_
            refine seq_nil ?_
            refine code_ret (jbr (jtr (jbr (jtr (jrt (hv := ?_))))))
            refine CEnt.bool ?_
            rw [← he, ref_end hne hR (by rw [List.length_drop]; omega) hq, if_pos (by rw [← hjn]; omega)]
          refine jq jrm ?_
          refine jq jrc ?_
          refine jq jrpF ?_
          refine jq jrm ?_
          refine jqsp 86 (fun g32_2 => ?_) fun g32_2 => ?_
          · refine jqs ?_
            refine jqs ?_
            refine jqs ?_
            refine jqs ?_
            refine jqs ?_
            refine jqs ?_
            refine jq jrpT ?_
            refine seq_nil ?_
            refine jcT ?_
            refine jcr ?_
            refine jq jrm ?_
            refine seq_nil ?_
            refine code_ret (jbr (jtr (jbr (jtr (jrt (hv := ?_))))))
            refine CEnt.bool ?_
            rw [← he, ref_end hne hR (by rw [List.length_drop]; omega) hq, if_pos (by rw [← hjn]; omega)]
          refine jq jrm ?_
          refine jq jrc ?_
          refine jq jrm ?_
          refine jqsp 89 (fun g32_3 => ?_) fun g32_3 => ?_
          rotate_left
          · refine jqs ?_
            refine jqs ?_
            refine jq jrpF ?_
            refine jq jrpF ?_
            refine seq_nil ?_
            refine jcF ?_
            refine code_skip (jbn (jtn ?_))
            refine jlend (i + (1 + j)) ?_ ?_ (h5 := ?_)
            · refine ⟨by omega, ?_⟩
              rw [← he, ref_end hne hR (by rw [List.length_drop]; omega) hq, if_neg (by rw [← hjn]; omega), List.drop_drop]
            · show l.length - (i + (1 + j)) < l.length - i; omega
            · exact .cons (CEnt.int (by omega)) .nil
          refine jq jrm ?_
          refine jq jrc ?_
          refine jq jrpT ?_
          refine jq jrpF ?_
          refine seq_nil ?_
          refine jcc (fun h32 => ?_) fun h32 => ?_
          · refine jcr ?_
            refine jq jrm ?_
            refine seq_nil ?_
            refine code_ret (jbr (jtr (jbr (jtr (jrt (hv := ?_))))))
            refine CEnt.bool ?_
            rw [← he, ref_end hne hR (by rw [List.length_drop]; omega) hq, if_pos (by rw [← hjn]; omega)]
          refine code_skip (jbn (jtn ?_))
          refine jlend (i + (1 + j)) ?_ ?_ (h5 := ?_)
          · refine ⟨by omega, ?_⟩
            rw [← he, ref_end hne hR (by rw [List.length_drop]; omega) hq, if_neg (by rw [← hjn]; omega), List.drop_drop]
          · show l.length - (i + (1 + j)) < l.length - i; omega
          · exact .cons (CEnt.int (by omega)) .nil
        refine code_skip (jtn ?_)
        refine jcs ?_
        refine code_block ?_
        refine jcs ?_
        obtain ⟨x, hx⟩ : ∃ x, x = bt (l.drop i) (j + 1) := ⟨_, rfl⟩
        have hx2 : (l.getD (i + 1 + j) 0).toNat = x := by rw [hx, bt_drop, show i + (j + 1) = i + 1 + j by omega]; rfl
        have hxl : x < 256 := by rw [hx]; exact bt_lt _ _
        refine jcr ?_
        refine jq jrm ?_
        refine jq jrm ?_
        refine jq jrls ?_
        refine jq jrc ?_
        refine jq jrm ?_
        refine jqsp 57 (fun g26 => ?_) fun g26 => ?_
        · refine jqs ?_
          refine jqs ?_
          refine jqs ?_
          refine jqs ?_
          refine jq jrpT ?_
          refine jq jrm ?_
          refine jqs ?_
          refine jqs ?_
          refine jqs ?_
          refine jqs ?_
          refine jq jrpT ?_
          refine seq_nil ?_
          refine jcT ?_
          refine jcr ?_
          refine jq jrm ?_
          refine seq_nil ?_
          refine code_ret (jtr (jbr (jtr (jtr (jbr (jtr (jbr (jtr (jbr (jtr (jrt (hv := ?_))))))))))))
          refine CEnt.bool ?_
          rw [← he, ref_cont hne hR (show j < n0 by omega) (by rw [← hx, List.length_drop]; omega)]
        refine jq jrm ?_
        refine jq jrm ?_
        refine jq jrix ?_
        refine jq jrc ?_
        refine jq jrpF ?_
        refine jq jrm ?_
        refine jqsp 63 (fun g26_2 => ?_) fun g26_2 => ?_
        · refine jqs ?_
          refine jqs ?_
          refine jqs ?_
          refine jqs ?_
          refine jq jrpT ?_
          refine seq_nil ?_
          refine jcT ?_
          refine jcr ?_
          refine jq jrm ?_
          refine seq_nil ?_
          refine code_ret (jtr (jbr (jtr (jtr (jbr (jtr (jbr (jtr (jbr (jtr (jrt (hv := ?_))))))))))))
          refine CEnt.bool ?_
          rw [← he, ref_cont hne hR (show j < n0 by omega) (by rw [← hx, List.length_drop]; omega)]
        refine jq jrm ?_
        refine jq jrm ?_
        refine jq jrix ?_
        refine jq jrc ?_
        refine jq jrpF ?_
        refine seq_nil ?_
        refine jcc (fun h26 => ?_) fun h26 => ?_
        · refine jcr ?_
          refine jq jrm ?_
          refine seq_nil ?_
          refine code_ret (jtr (jbr (jtr (jtr (jbr (jtr (jbr (jtr (jbr (jtr (jrt (hv := ?_))))))))))))
          refine CEnt.bool ?_
          rw [← he, ref_cont hne hR (show j < n0 by omega) (by rw [← hx, List.length_drop]; omega)]
        refine code_skip (jtn ?_)
        refine jcr ?_
        refine jq jrm ?_
        refine jq jra ?_
        refine jq jrm ?_
        refine jq jrm ?_
        refine jq jrix ?_
        refine jq (jrv8 .i64) ?_
        refine jq jra ?_
        refine jq jra ?_
        refine jq jrm ?_
        refine seq_nil ?_
        refine jcg ?_
        refine jq jrm ?_
        refine jq jra ?_
        refine jq jrm ?_
        refine seq_nil ?_
        refine jbn (jtn ?_)
        refine jcg ?_
        refine jq jrm ?_
        refine jq jra ?_
        refine jq jrm ?_
        refine seq_nil ?_
        refine jtn ?_
        refine jlend (j + 1) ?_ ?_ (h5 := ?_)
        · refine ⟨by omega, by omega, fun q h1 h2 => ?_⟩
          by_cases e : q = j + 1
          · rw [e, ← hx]; omega
          · exact hq q h1 (by omega)
        · show n0 - (j + 1) < n0 - j; omega
        · exact .cons (CEnt.int (by omega)) (.cons (CEnt.int (by show _ = ((cR (l.drop i) c0 j * 64 + bt (l.drop i) (j + 1) - 128 : Nat) : Int); rw [← hx]; omega)) (.cons (CEnt.int (by omega)) .nil))
end Am
end Go.Proofs.YtjckfbpdieijeaaGreatDoor

/- Chapter 7, plain: shifts and bits of numbers as the program computes them. -/
namespace Go.Proofs.YtjckfbpdieijeaaGreatDoor
namespace Am
open Go.RowKit
set_option linter.unusedVariables false
set_option maxRecDepth 100000

theorem shr_nat {M i b : Nat} (h : i ≤ b) : Int.fdiv ((M : Nat) : Int) (2 ^ (min ((i : Nat) : Int).toNat b)) = ((M / 2 ^ i : Nat) : Int) := by
  rw [Int.toNat_natCast, Nat.min_eq_left h, show ((2 : Int) ^ i) = ((2 ^ i : Nat) : Int) by push_cast; rfl, Int.fdiv_eq_ediv_of_nonneg _ (Int.natCast_nonneg _)]
  exact (Int.natCast_ediv M (2 ^ i)).symm
theorem wrap16 (n : Int) : IntKind.u16.wrap n = n % 65536 := by simp [IntKind.wrap, IntKind.bits, IntKind.signed]
theorem shl8_16 {M : Nat} (z : Int) (hz : z = 8) : IntKind.u16.wrap (((M : Nat) : Int) * 2 ^ (min z.toNat 16)) = ((M % 256 * 256 : Nat) : Int) := by
  subst hz
  rw [wrap16, show min (8 : Int).toNat 16 = 8 from rfl, show ((2 : Int) ^ 8) = 256 from rfl]
  omega
theorem shr8_16 {M : Nat} (z : Int) (hz : z = 8) : Int.fdiv ((M : Nat) : Int) (2 ^ (min z.toNat 16)) = ((M / 256 : Nat) : Int) := by
  subst hz
  rw [show min (8 : Int).toNat 16 = 8 from rfl, show ((2 : Int) ^ 8) = ((256 : Nat) : Int) from rfl, Int.fdiv_eq_ediv_of_nonneg _ (by omega)]
  exact (Int.natCast_ediv M 256).symm
theorem shr8_64 {M : Nat} (z : Int) (hz : z = 8) : Int.fdiv ((M : Nat) : Int) (2 ^ (min z.toNat 64)) = ((M / 256 : Nat) : Int) := by
  subst hz
  rw [show min (8 : Int).toNat 64 = 8 from rfl, show ((2 : Int) ^ 8) = ((256 : Nat) : Int) from rfl, Int.fdiv_eq_ediv_of_nonneg _ (by omega)]
  exact (Int.natCast_ediv M 256).symm
theorem bv16 {a : Nat} (h : a < 65536) : BitVec.ofInt 16 ((a : Nat) : Int) = BitVec.ofNat 16 a := by
  apply BitVec.eq_of_toNat_eq; simp
theorem and255 {M : Nat} (h : M < 65536) : IntKind.u16.wrap ((BitVec.ofInt 16 ((M : Nat) : Int) &&& BitVec.ofInt 16 255).toNat : Int) = ((M % 256 : Nat) : Int) := by
  have e : (BitVec.ofInt 16 ((M : Nat) : Int) &&& BitVec.ofInt 16 255).toNat = M % 256 := by
    rw [bv16 h, show BitVec.ofInt 16 (255 : Int) = BitVec.ofNat 16 255 from rfl, BitVec.toNat_and, BitVec.toNat_ofNat, BitVec.toNat_ofNat, Nat.mod_eq_of_lt (show M < 2 ^ 16 from h)]
    exact Nat.and_two_pow_sub_one_eq_mod M 8
  rw [e, wrap16]; omega
theorem or_hl {a b : Nat} (ha : a < 256) (hb : b < 256) : IntKind.u16.wrap ((BitVec.ofInt 16 ((a : Nat) : Int) ||| BitVec.ofInt 16 ((b * 256 : Nat) : Int)).toNat : Int) = ((a + 256 * b : Nat) : Int) := by
  have e : (BitVec.ofInt 16 ((a : Nat) : Int) ||| BitVec.ofInt 16 ((b * 256 : Nat) : Int)).toNat = a + 256 * b := by
    rw [bv16 (by omega), bv16 (by omega), BitVec.toNat_or, BitVec.toNat_ofNat, BitVec.toNat_ofNat, Nat.mod_eq_of_lt (show a < 2 ^ 16 by omega), Nat.mod_eq_of_lt (show b * 256 < 2 ^ 16 by omega), Nat.or_comm]
    have := Nat.two_pow_add_eq_or_of_lt (i := 8) (b := a) (by omega) b
    rw [show b * 256 = 2 ^ 8 * b by omega, ← this]; omega
  rw [e, wrap16]; omega
/-! ### the reference's reading of a body -/
/-- the bits of a body, the first one lowest -/
def bitsR (b : List UInt8) : Nat := rev8 (b.getD 1 0).toNat + 256 * (if b.length = 3 then rev8 (b.getD 2 0).toNat else 0)
theorem shr128' {z : Int} (q : Nat) (hz : z = (q : Int)) (h : q < 8) : Int.fdiv 128 (2 ^ (min z.toNat 8)) = ((2 ^ (7 - q) : Nat) : Int) := by
  subst hz
  have := all_lt (n := 8) (p := fun q => Int.fdiv 128 (2 ^ (min ((q : Nat) : Int).toNat 8)) == ((2 ^ (7 - q) : Nat) : Int)) (by decide) h
  exact eq_of_beq this
theorem shr_natI {M b : Nat} {z : Int} (q : Nat) (hz : z = (q : Int)) (h : q ≤ b) : Int.fdiv ((M : Nat) : Int) (2 ^ (min z.toNat b)) = ((M / 2 ^ q : Nat) : Int) := by
  subst hz; exact shr_nat h
theorem tab_wrap {k : IntKind} {L T : List UInt8} {i v : Nat} (h : L = T) (hv : (T.getD i 0).toNat = v) (hk : wide8 k = true) : k.wrap ((L.getD i 0).toNat : Int) = ((v : Nat) : Int) := by
  rw [h, hv]; have := UInt8.toNat_lt (T.getD i 0); exact wide8_wrap hk (by omega) (by omega)
/-- the bits of a mask, turned, while its bytes are laid -/
def turnM (m : Nat) : Nat → Nat
  | 0 => rev16 m
  | j + 1 => turnM m j % 256 * 256
def outL (m : Nat) : Nat → List UInt8
  | 0 => [UInt8.ofNat ((8 - bl m % 8) % 8)]
  | j + 1 => outL m j ++ [UInt8.ofNat (turnM m j / 256)]
theorem turnM_lt {m : Nat} (h : m < 65536) (j : Nat) : turnM m j < 65536 := by
  cases j with
  | zero => exact rev16_lt h
  | succ j => show turnM m j % 256 * 256 < 65536; omega
theorem outL_len (m j : Nat) : (outL m j).length = 1 + j := by
  induction j with
  | zero => rfl
  | succ j ih => show (outL m j ++ _).length = _; rw [List.length_append, ih, List.length_singleton]; omega
theorem outL_end {m : Nat} (h : m < 65536) : outL m ((bl m + 7) / 8) = flagsL m := by
  have h3 := (bl_is h).2
  have r1 := rev8_lt (i := m / 256) (by omega)
  have r2 := rev8_lt (i := m % 256) (by omega)
  have t0 : turnM m 0 / 256 = rev8 (m % 256) := by show rev16 m / 256 = _; unfold rev16; omega
  have t1 : turnM m 1 / 256 = rev8 (m / 256) := by show rev16 m % 256 * 256 / 256 = _; unfold rev16; omega
  unfold flagsL
  by_cases h0 : bl m = 0
  · rw [if_pos h0, h0]; simp only [Nat.reduceAdd, Nat.reduceDiv, outL, h0]
  · rw [if_neg h0]
    by_cases h8 : bl m ≤ 8
    · rw [if_pos h8, show (bl m + 7) / 8 = 1 by omega]; simp only [outL, t0]; rfl
    · rw [if_neg h8, show (bl m + 7) / 8 = 2 by omega]; simp only [outL, t0, t1]; rfl
/-- how many bits there are among the first ones -/
def bp (M : Nat) : Nat → Nat
  | 0 => 0
  | i + 1 => if M / 2 ^ i % 2 = 1 then i + 1 else bp M i
theorem bp_is (M i : Nat) : IsBl (M % 2 ^ i) (bp M i) ∧ bp M i ≤ i := by
  induction i with
  | zero => exact ⟨⟨by simp [Nat.mod_one, bp], .inl rfl⟩, Nat.le_refl _⟩
  | succ i ih => exact ⟨isBl_step ih.1 ih.2, by have h2 := ih.2; show (if M / 2 ^ i % 2 = 1 then i + 1 else bp M i) ≤ i + 1; split <;> omega⟩
theorem bp_end {M : Nat} (h : M < 32768) : bp M 15 = bl M := by
  have h1 := (bp_is M 15).1
  rw [show M % 2 ^ 15 = M by simp only [Nat.reducePow]; omega] at h1
  exact isBl_unique h1 (bl_is (by omega)).1
theorem gF_on' {M n i : Nat} (hb : M / 2 ^ i % 2 = 1) (hi : i < 15) (h : M < 32768) : gF M n i (1 + i / 8) + 2 ^ (7 - i % 8) < 256 := by
  have h1 := gF_on (n := n) (j := 1 + i / 8) hb (by omega) (by omega)
  rw [if_pos rfl] at h1
  rw [← h1]; exact gF_lt (by omega)
/-- a body's bits as a number of 16 bits, the first one highest -/
def turnedM (b : List UInt8) : Nat := (b.getD 1 0).toNat % 256 * 256 + (if b.length = 3 then (b.getD 2 0).toNat else 0)
end Am
end Go.Proofs.YtjckfbpdieijeaaGreatDoor

/- Chapter 7: bits in turn, masks and their bodies. -/
namespace Go.Proofs.YtjckfbpdieijeaaGreatDoor
set_option linter.unusedVariables false
namespace Am
variable {gs : List Nat} [OkG gs]
open Go.RowKit
set_option maxRecDepth 100000


theorem rev16_ac {gs : List Nat} (x : Nat) (hx : x < 65536) : ACp gs Tryz.prog 145 [.c (.int .u16 (x : Nat))] (.c (.int .u16 (rev16 x : Nat))) := by
  have h1 := rev8_lt (i := x / 256) (by omega)
  have h2 := rev8_lt (i := x % 256) (by omega)
  refine ac_of 13 Tryz.func145 rfl rfl rfl (fun al w0 F0 St0 => ?_)
  refine jcr ?_
  refine jq jrm ?_
  refine seq_nil ?_
  refine jcs ?_
  refine jcd (.rd 0 (.rd 1 (.rd 2 (.rd 3 (.rd 4 (.rd 5 (.rd 6 (.rd 7 (.rd 8 (.rd 9 (.rd 10 .done))))))))))) ?_
  refine jyq jrm ?_
  refine jyq (rd_shr rfl rfl rfl (by (omega)) (((x / 256 : Nat) : Int)) (shr8_16 _ rfl)) ?_
  refine jyq (rd_indexS rfl rfl rfl Tryz.underlying9 (show _ = ((x / 256 : Nat) : Int) by omega) (by exact Nat.lt_of_lt_of_eq (show x / 256 < 256 by omega) (by kernel_rfl))) ?_
  refine jyq (rd_convI rfl rfl Tryz.underlying5 Tryz.underlying181 (((rev8 (x / 256) : Nat) : Int)) (tab_wrap (T := rev8T) (by kernel_rfl) (rev8T_get (by omega)) rfl)) ?_
  refine jyq jrm ?_
  refine jyq (rd_and rfl rfl rfl (((x % 256 : Nat) : Int)) (and255 hx)) ?_
  refine jyq (rd_indexS rfl rfl rfl Tryz.underlying9 (show _ = ((x % 256 : Nat) : Int) by omega) (by exact Nat.lt_of_lt_of_eq (show x % 256 < 256 by omega) (by kernel_rfl))) ?_
  refine jyq (rd_convI rfl rfl Tryz.underlying5 Tryz.underlying181 (((rev8 (x % 256) : Nat) : Int)) (tab_wrap (T := rev8T) (by kernel_rfl) (rev8T_get (by omega)) rfl)) ?_
  refine jyq (rd_shl rfl rfl rfl (by (omega)) (((rev8 (x % 256) % 256 * 256 : Nat) : Int)) (shl8_16 _ rfl)) ?_
  refine jyq (rd_or rfl rfl rfl (((rev8 (x / 256) + 256 * (rev8 (x % 256) % 256) : Nat) : Int)) (or_hl h1 (by omega))) ?_
  refine jyq jrm ?_
  refine jyd ?_
  refine jtn ?_
  refine code_ret (jrt (hv := ?_))
  refine CEnt.int ?_
  unfold rev16; omega
theorem len64_ac {gs : List Nat} (m : Nat) (hm : m < 65536) : ACp gs Tryz.prog 163 [.c (.int .u64 (m : Nat))] (.c (.int .i64 (bl m : Nat))) := by
  refine ac_of 25 Tryz.func163 rfl rfl rfl (fun al w0 F0 St0 => ?_)
  refine jcr ?_
  refine jq jrm ?_
  refine seq_nil ?_
  refine jcs ?_
  refine jcr ?_
  refine jq jrm ?_
  refine jq jrc ?_
  refine seq_nil ?_
  refine jcc (fun h338 => ?_) fun h338 => ?_
  · exfalso; omega
  refine code_skip (jtn ?_)
  refine jcs ?_
  refine jcr ?_
  refine jq jrm ?_
  refine jq jrc ?_
  refine seq_nil ?_
  refine jcc (fun h342 => ?_) fun h342 => ?_
  · exfalso; omega
  refine code_skip (jtn ?_)
  refine jcs ?_
  refine jcr ?_
  refine jq jrm ?_
  refine jq jrc ?_
  refine seq_nil ?_
  refine jcc (fun h346 => ?_) fun h346 => ?_
  rotate_left
  · refine code_skip (jtn ?_)
    obtain ⟨q, hq, hq2⟩ : ∃ q, q = (if 256 ≤ m then m / 256 else m) ∧ q < 256 := ⟨_, rfl, by split <;> omega⟩
    refine code_ent (weaken 0 (.c (.int .u64 (q : Nat))) (CEnt.int (by rw [hq]; rw [if_neg (by omega)]))) ?_
    have hl := (len8_bd hq2).2.1
    refine jcr ?_
    refine jq jrm ?_
    refine jq jrm ?_
    refine jq (rd_convI rfl rfl Tryz.underlying165 Tryz.underlying5 (((q : Nat) : Int)) ((by rw [IntKind.wrap_u8]; omega))) ?_
    refine jq (rd_indexS rfl rfl rfl Tryz.underlying9 (show _ = ((q : Nat) : Int) by omega) (by exact Nat.lt_of_lt_of_eq hq2 (by kernel_rfl))) ?_
    refine jq (rd_convI rfl rfl Tryz.underlying5 Tryz.underlying3 (((len8 q : Nat) : Int)) (tab_wrap (T := len8T) (by kernel_rfl) (len8T_get hq2) rfl)) ?_
    refine jq jra ?_
    refine jq jrm ?_
    refine seq_nil ?_
    refine code_ret (jrt (hv := ?_))
    refine CEnt.int ?_
    unfold bl
    (rw [if_neg (by omega)] at hq ⊢; subst hq; omega)
  refine jcr ?_
  refine jq jrm ?_
  refine jq (rd_shr rfl rfl rfl (by (omega)) (((m / 256 : Nat) : Int)) (shr8_64 _ rfl)) ?_
  refine jq jrm ?_
  refine seq_nil ?_
  refine jcg ?_
  refine jq jrm ?_
  refine jq jra ?_
  refine jq jrm ?_
  refine seq_nil ?_
  refine jtn ?_
  obtain ⟨q, hq, hq2⟩ : ∃ q, q = (if 256 ≤ m then m / 256 else m) ∧ q < 256 := ⟨_, rfl, by split <;> omega⟩
  refine code_ent (weaken 0 (.c (.int .u64 (q : Nat))) (CEnt.int (by rw [hq]; rw [if_pos (by omega)]))) ?_
  have hl := (len8_bd hq2).2.1
  refine jcr ?_
  refine jq jrm ?_
  refine jq jrm ?_
  refine jq (rd_convI rfl rfl Tryz.underlying165 Tryz.underlying5 (((q : Nat) : Int)) ((by rw [IntKind.wrap_u8]; omega))) ?_
  refine jq (rd_indexS rfl rfl rfl Tryz.underlying9 (show _ = ((q : Nat) : Int) by omega) (by exact Nat.lt_of_lt_of_eq hq2 (by kernel_rfl))) ?_
  refine jq (rd_convI rfl rfl Tryz.underlying5 Tryz.underlying3 (((len8 q : Nat) : Int)) (tab_wrap (T := len8T) (by kernel_rfl) (len8T_get hq2) rfl)) ?_
  refine jq jra ?_
  refine jq jrm ?_
  refine seq_nil ?_
  refine code_ret (jrt (hv := ?_))
  refine CEnt.int ?_
  unfold bl
  (rw [if_pos (by omega)] at hq ⊢; subst hq; omega)
theorem blen_ac {gs : List Nat} (m : Nat) (hm : m < 65536) : ACp gs Tryz.prog 146 [.c (.int .u64 (m : Nat))] (.c (.int .i64 (bl m : Nat))) := by
  refine ac_of 8 Tryz.func146 rfl rfl rfl (fun al w0 F0 St0 => ?_)
  refine jcr ?_
  refine jq jrm ?_
  refine seq_nil ?_
  refine jcs ?_
  refine jcF ?_
  refine code_skip (jtn ?_)
  refine jcr ?_
  refine jq jrm ?_
  refine jqe (jecP (len64_ac m hm) ?_)
  refine jq jrm ?_
  refine seq_nil ?_
  refine code_ret (jrt (hv := CEnt.refl _))
theorem flags_bad (z : Int) (hz : z < 0 ∨ 32767 < z) : ACp gs Tryz.prog 107 [.c (.int .i64 z)] (.tup 2 (fl [bsC [], .err 1])) := by
  refine ac_of 41 Tryz.func107 rfl rfl rfl (fun al w0 F0 St0 => ?_)
  refine jcr ?_
  refine jq jrm ?_
  refine jq jrm ?_
  refine seq_nil ?_
  refine jcs ?_
  refine jcr ?_
  refine jq jrm ?_
  refine jq jrc ?_
  refine jq jrm ?_
  refine jqsp 10 (fun g76 => ?_) fun g76 => ?_
  · refine jqs ?_
    refine jqs ?_
    refine jq jrpT ?_
    refine seq_nil ?_
    refine jcT ?_
    refine jcs ?_
    refine jcd (.rd 0 (.rd 1 (.rd 2 .done))) ?_
    refine jyq (jrde 0) ?_
    refine jyq jrm ?_
    refine jyq jrm ?_
    refine jyd ?_
    refine jtn ?_
    refine code_ret (jtr (jrt (hv := CEnt.tup2 CEnt.nilB (CEnt.refl _))))
  refine jq jrm ?_
  refine jq jrc ?_
  refine jq jrpF ?_
  refine seq_nil ?_
  refine jcc (fun h76 => ?_) fun h76 => ?_
  rotate_left
  · exfalso; simp at h76; omega
  refine jcs ?_
  refine jcd (.rd 0 (.rd 1 (.rd 2 .done))) ?_
  refine jyq (jrde 0) ?_
  refine jyq jrm ?_
  refine jyq jrm ?_
  refine jyd ?_
  refine jtn ?_
  refine code_ret (jtr (jrt (hv := CEnt.tup2 CEnt.nilB (CEnt.refl _))))
theorem flags_ac {gs : List Nat} (m : Nat) (hm : m < 32768) : ACp gs Tryz.prog 107 [.c (.int .i64 (m : Nat))] (.tup 2 (fl [bsC (flagsL m), .err 0])) := by
  have hb := (bl_is (m := m) (by omega)).2
  refine ac_of 41 Tryz.func107 rfl rfl rfl (fun al w0 F0 St0 => ?_)
  refine jcr ?_
  refine jq jrm ?_
  refine jq jrm ?_
  refine seq_nil ?_
  refine jcs ?_
  refine jcr ?_
  refine jq jrm ?_
  refine jq jrc ?_
  refine jq jrm ?_
  refine jqsp 10 (fun g76 => ?_) fun g76 => ?_
  · exfalso; omega
  refine jq jrm ?_
  refine jq jrc ?_
  refine jq jrpF ?_
  refine seq_nil ?_
  refine jcc (fun h76 => ?_) fun h76 => ?_
  · exfalso; omega
  refine code_skip (jtn ?_)
  refine jcr ?_
  refine jq jrm ?_
  refine jq (jrv .i64 .u16) ?_
  refine jqe (jecP (rev16_ac m (by omega)) ?_)
  refine jq jrm ?_
  refine seq_nil ?_
  refine jcr ?_
  refine jq jrm ?_
  refine jq (jrv .i64 .u64) ?_
  refine jqe (jecP (blen_ac m (by omega)) ?_)
  refine jq jrm ?_
  refine seq_nil ?_
  refine jcr ?_
  refine jq jrm ?_
  refine jq jrr ?_
  refine jq jra ?_
  refine jq jrr ?_
  refine jq (jrv .i64 .u8) ?_
  refine jqe (jebl 1 1 zr5 fun p1 => ?_)
  refine jq jrm ?_
  refine seq_nil ?_
  refine jcs ?_
  refine jcr ?_
  refine jq jrm ?_
  refine seq_nil ?_
  refine code_block ?_
  refine code_ent (blk_ent 0 rfl (Nat.le_refl _) (fun _ => rfl) (fl_by (l2 := [UInt8.ofNat ((8 - bl m % 8) % 8)]) (.cons (CEnt.int (by rw [u8_ofNat (by omega)]; omega)) .nil))) ?_
  refine l_loop (α := Nat × Option Nat) [4, 6, 7, 27, 28, 29, 30, 31, 32, 33, 34, 35, 36, 37, 38, 39] (fun (j, g) => [(4, .c (.int .u16 (turnM m j : Nat))), (6, .os 0 g 0 (outL m j).length 1), (7, .c (.int .i64 ((8 * j : Nat) : Int)))]) (fun (j, g) => [(g, .blk (outL m j).length (byF (outL m j)))]) (fun j => j.1 ≤ (bl m + 7) / 8) (fun j => 3 - j.1) ((0, p1)) ?_ (fun _ => rfl) ?_ ?_ ?_
  · exact Nat.zero_le _
  · exact .cons (CEnt.refl _) (.cons (CEnt.refl _) (.cons (CEnt.refl _) .nil))
  · exact .same .nil
  · rintro ⟨j, g'⟩ (hj : j ≤ (bl m + 7) / 8)
    have ht := turnM_lt (m := m) (by omega) j
    have hol := outL_len m j
    refine jcs ?_
    refine jcr ?_
    refine jq jrm ?_
    refine jq jrm ?_
    refine jq jrc ?_
    refine seq_nil ?_
    refine jcc (fun h83 => ?_) fun h83 => ?_
    rotate_left
    · refine code_exit (jte (jte (jbx (jtn ?_))))
      refine jcr ?_
      refine jq jrm ?_
      refine jq jrm ?_
      refine jq jrm ?_
      refine seq_nil ?_
      refine code_ent (freeze 0 rfl) ?_
      refine code_ent (thawB 2 (outL m j) rfl rfl (by rfl) rfl) ?_
      refine code_ret (jrt (hv := ?_))
      have e : j = (bl m + 7) / 8 := by omega
      refine CEnt.tup2 (CEnt.bs ?_) CEnt.nil
      rw [e]; exact outL_end (by omega)
    refine code_skip (jtn ?_)
    refine jcs ?_
    refine code_block ?_
    refine jcr ?_
    refine jq jrm ?_
    refine jq jrm ?_
    refine jq (rd_shr rfl rfl rfl (by (omega)) (((turnM m j / 256 : Nat) : Int)) (shr8_16 _ rfl)) ?_
    refine jq (jrv .u16 .u8) ?_
    refine jqe (jebl 1 1 zr5 fun p2 => ?_)
    refine jqm (m_appendB (l2 := [UInt8.ofNat (turnM m j / 256)]) rfl rfl rfl (Nat.le_refl _) (fun _ _ => CEnt.refl _) (src_os rfl (.inl rfl) (by decide)) rfl (hh_bytes (.cons (CEnt.int ((by rw [u8_ofNat (by omega)]))) .nil)) Tryz.underlying26 nu26 sz5 zr5 by5 rfl (by (simp; omega)) (leaf_fl rfl rfl) rfl rfl (fun p3 => ?_))
    refine jq jrm ?_
    refine seq_nil ?_
    refine jcg ?_
    refine jq jrm ?_
    refine jq (rd_shl rfl rfl rfl (by (omega)) (((turnM m j % 256 * 256 : Nat) : Int)) (shl8_16 _ rfl)) ?_
    refine jq jrm ?_
    refine seq_nil ?_
    refine jbn (jtn ?_)
    refine jcg ?_
    refine jq jrm ?_
    refine jq jra ?_
    refine jq jrm ?_
    refine seq_nil ?_
    refine jtn ?_
    refine jlend ((j + 1, p3)) ?_ ?_ (h5 := ?_) (h7 := ?_)
    · show j + 1 ≤ (bl m + 7) / 8; omega
    · show 3 - (j + 1) < 3 - j; omega
    · exact .cons (CEnt.refl _) (.cons (CEnt.refl _) (.cons (CEnt.int (by omega)) .nil))
    · exact .same .nil
def rF (M n i : Nat) (j : Nat) : CV := .c (.int .u8 ((gF M n i j : Nat) : Int))
theorem rflags_ac {gs : List Nat} (m : Nat) (hm : m < 32768) : ACp gs Tryz.prog 96 [.c (.int .i64 (m : Nat))] (bsC (flagsL m)) := by
  have hb := (bl_is (m := m) (by omega)).2
  have hfl := flags_len (m := m) (by omega)
  refine ac_of 57 Tryz.func96 rfl rfl rfl (fun al w0 F0 St0 => ?_)
  refine jcr ?_
  refine jq jrm ?_
  refine seq_nil ?_
  refine jcr ?_
  refine jq jrm ?_
  refine seq_nil ?_
  refine jcs ?_
  refine jcr ?_
  refine jq jrm ?_
  refine seq_nil ?_
  refine code_block ?_
  refine l_loop (α := Nat) [3, 4, 7, 8, 9, 10, 11, 12, 13, 14, 15, 16, 17, 18] (fun i => [(3, .c (.int .i64 (bp m i : Nat))), (4, .c (.int .i64 (i : Nat)))]) (fun _ => []) (fun i => i ≤ 15) (fun i => 15 - i) (0) ?_ (fun _ => rfl) ?_ ?_ ?_
  · exact Nat.zero_le _
  · exact .cons (CEnt.refl _) (.cons (CEnt.refl _) .nil)
  · (repeat (first | exact HEnt.nil | refine HEnt.same ?_ | refine HEnt.blk rfl (fun j hj => by rcases j with _|_|_|_|_|_|_|_|j <;> first | exact CEnt.refl _ | exact CEnt.int (by omega) | omega) ?_))
  · rintro i (hi : i ≤ 15)
    have hbp := (bp_is m i).2
    obtain ⟨q, hq⟩ : ∃ q, q = m / 2 ^ i := ⟨_, rfl⟩
    refine jcs ?_
    refine jcr ?_
    refine jq jrm ?_
    refine jq jrc ?_
    refine seq_nil ?_
    refine jcc (fun h70 => ?_) fun h70 => ?_
    · refine code_skip (jtn ?_)
      refine jcs ?_
      refine code_block ?_
      refine jcr ?_
      refine jq jrm ?_
      refine jq jrm ?_
      refine jq (jrv .i64 .u64) ?_
      refine jq (rd_shr rfl rfl rfl (by (omega)) (((q : Nat) : Int)) ((by rw [hq]; exact shr_natI i rfl (by show i ≤ 64; omega)))) ?_
      refine jq jrr ?_
      refine jq jrc ?_
      refine seq_nil ?_
      refine jcc (fun h71 => ?_) fun h71 => ?_
      rotate_left
      · refine code_skip (jbn (jtn ?_))
        refine jcg ?_
        refine jq jrm ?_
        refine jq jra ?_
        refine jq jrm ?_
        refine seq_nil ?_
        refine jtn ?_
        refine jlend (i + 1) ?_ ?_ (h5 := ?_)
        · show i + 1 ≤ 15; omega
        · omega
        · exact .cons (CEnt.int (by show _ = ((if m / 2 ^ i % 2 = 1 then i + 1 else bp m i : Nat) : Int); rw [← hq]; (rw [if_neg (by omega)]))) (.cons (CEnt.int (by omega)) .nil)
      refine jcg ?_
      refine jq jrm ?_
      refine jq jra ?_
      refine jq jrm ?_
      refine seq_nil ?_
      refine jbn (jtn ?_)
      refine jcg ?_
      refine jq jrm ?_
      refine jq jra ?_
      refine jq jrm ?_
      refine seq_nil ?_
      refine jtn ?_
      refine jlend (i + 1) ?_ ?_ (h5 := ?_)
      · show i + 1 ≤ 15; omega
      · omega
      · exact .cons (CEnt.int (by show _ = ((if m / 2 ^ i % 2 = 1 then i + 1 else bp m i : Nat) : Int); rw [← hq]; (rw [if_pos (by omega)]; omega))) (.cons (CEnt.int (by omega)) .nil)
    refine code_exit (jte (jte (jbx (jtn ?_))))
    have e15 : i = 15 := by omega
    refine code_ent (weaken 3 (.c (.int .i64 (bl m : Nat))) (CEnt.int (by rw [e15, bp_end hm]))) ?_
    refine jcr ?_
    refine jq jrm ?_
    refine jq jra ?_
    refine jq jrq ?_
    refine jq jra ?_
    refine jqe (e_make (F := (fun _ => .c (.int .u8 0))) rfl rfl rfl (show _ = (((flagsL m).length : Nat) : Int) by omega) (show _ = (((flagsL m).length : Nat) : Int) by omega) (by (omega)) Tryz.underlying26 sz5 zr5 by5 (by (omega)) (by (omega)) (fun j hj => by show CEnt (.c ((#[Value.int .u8 0])[j % 1]!)) _; rw [Nat.mod_one]; exact CEnt.refl _) rfl rfl (fun p1 => ?_))
    refine jq jrm ?_
    refine seq_nil ?_
    refine jcr ?_
    refine jq jrm ?_
    refine jq jrm ?_
    refine jq jrl ?_
    refine jq jra ?_
    refine jq jra ?_
    refine jq jrm ?_
    refine jq jra ?_
    refine jq (rd_convI rfl rfl Tryz.underlying3 Tryz.underlying5 ((((8 - bl m % 8) % 8 : Nat) : Int)) ((by rw [IntKind.wrap_u8]; omega))) ?_
    refine jq (jri (i := 0)) ?_
    refine jqm (jmstF 1 (rF m (bl m) 0) ?_ ?_)
    · exact (fun j hj => CEnt.of_eq (by refine (updF_one _ 0 (.c (.int .u8 (((8 - bl m % 8) % 8 : Nat) : Int))) j).trans ?_; unfold rF; split <;> rename_i e <;> first | (rw [e]; rfl) | (rw [gF_zero e]; rfl)))
    refine seq_nil ?_
    refine jcs ?_
    refine jcr ?_
    refine jq jrm ?_
    refine seq_nil ?_
    refine code_block ?_
    refine l_loop (α := Nat) [6, 33, 34, 35, 36, 37, 38, 39, 40, 41, 42, 43, 44, 45, 46, 47, 48, 49, 50, 51, 52, 53, 54, 55] (fun i => [(6, .c (.int .i64 (i : Nat)))]) (fun i => [(p1, .blk ((flagsL m).length * 1) (rF m (bl m) i))]) (fun i => i ≤ bl m) (fun i => bl m - i) (0) ?_ (fun _ => rfl) ?_ ?_ ?_
    · exact Nat.zero_le _
    · exact .cons (CEnt.refl _) .nil
    · exact .same .nil
    · rintro i' (hi' : i' ≤ bl m)
      obtain ⟨q', hq'⟩ : ∃ q, q = m / 2 ^ i' := ⟨_, rfl⟩
      refine jcs ?_
      refine jcr ?_
      refine jq jrm ?_
      refine jq jrm ?_
      refine jq jrc ?_
      refine seq_nil ?_
      refine jcc (fun h77 => ?_) fun h77 => ?_
      rotate_left
      · refine code_exit (jte (jte (jbx (jtn ?_))))
        have e : i' = bl m := by omega
        subst e
        refine code_ent (blk_ent 0 (m := (flagsL m).length) (F := byF (flagsL m)) rfl (by omega) (fun _ => by omega) (fun j hj => CEnt.int (by rw [gF_end (by omega) (by omega)]))) ?_
        refine jcr ?_
        refine jq jrm ?_
        refine jq jrm ?_
        refine seq_nil ?_
        refine code_ent (freeze 0 rfl) ?_
        refine code_ent (thawB 2 (flagsL m) rfl rfl (by rfl) rfl) ?_
        refine code_ret (jrt (hv := CEnt.refl _))
      refine code_skip (jtn ?_)
      refine jcs ?_
      refine code_block ?_
      refine jcr ?_
      refine jq jrm ?_
      refine jq jrm ?_
      refine jq (jrv .i64 .u64) ?_
      refine jq (rd_shr rfl rfl rfl (by (omega)) (((q' : Nat) : Int)) ((by rw [hq']; exact shr_natI i' rfl (by show i' ≤ 64; omega)))) ?_
      refine jq jrr ?_
      refine jq jrc ?_
      refine seq_nil ?_
      refine jcc (fun h78 => ?_) fun h78 => ?_
      rotate_left
      · refine code_skip (jbn (jtn ?_))
        refine jcg ?_
        refine jq jrm ?_
        refine jq jra ?_
        refine jq jrm ?_
        refine seq_nil ?_
        refine jtn ?_
        refine jlend (i' + 1) ?_ ?_ (h5 := ?_) (h7 := ?_)
        · show i' + 1 ≤ bl m; omega
        · omega
        · exact .cons (CEnt.int (by omega)) .nil
        · exact .blk rfl (fun j hj => CEnt.int (by rw [gF_off (by omega)])) .nil
      have hm15 : i' < 15 := by have := (bp_is m 15).2; rw [bp_end hm] at this; omega
      have hb1 : m / 2 ^ i' % 2 = 1 := by omega
      have hgo := gF_on' (n := bl m) hb1 hm15 hm
      obtain ⟨P, hP⟩ : ∃ P, P = gF m (bl m) i' (1 + i' / 8) + 2 ^ (7 - i' % 8) := ⟨_, rfl⟩
      rw [← hP] at hgo
      refine jcg ?_
      refine jq jrm ?_
      refine jq jrm ?_
      refine jq jrq ?_
      refine jq jra ?_
      refine jq (jri (i := (1 + i' / 8)) (hz := by omega)) ?_
      refine jqo jrdo ?_
      refine jq jrm ?_
      refine jq jrr ?_
      refine jq (jrv .i64 .u64) ?_
      refine jq (rd_shr rfl rfl rfl (by (omega)) (((2 ^ (7 - i' % 8) : Nat) : Int)) (shr128' (i' % 8) (by omega) (by omega))) ?_
      refine jq (rd_addW rfl rfl rfl (((P : Nat) : Int)) ((by rw [IntKind.wrap_u8, ← Int.natCast_add, ← hP]; omega))) ?_
      refine jq (jri (i := (1 + i' / 8)) (hz := by omega)) ?_
      refine jqm (jmstF 1 (rF m (bl m) (i' + 1)) ?_ ?_)
      · exact (fun j hj => CEnt.of_eq (by refine (updF_one _ (1 + i' / 8) (.c (.int .u8 ((P : Nat) : Int))) j).trans ?_; unfold rF; rw [gF_on hb1 (by omega) (by omega)]; split <;> rename_i e <;> first | (rw [hP, e]) | rfl))
      refine seq_nil ?_
      refine jbn (jtn ?_)
      refine jcg ?_
      refine jq jrm ?_
      refine jq jra ?_
      refine jq jrm ?_
      refine seq_nil ?_
      refine jtn ?_
      refine jlend (i' + 1) ?_ ?_ (h5 := ?_) (h7 := ?_)
      · show i' + 1 ≤ bl m; omega
      · omega
      · exact .cons (CEnt.int (by omega)) .nil
      · exact .same .nil
end Am
end Go.Proofs.YtjckfbpdieijeaaGreatDoor

/- Chapter 7: the laws TextsFlags and TextsMask. -/
namespace Go.Proofs.YtjckfbpdieijeaaGreatDoor
namespace Am
variable {gs : List Nat} [OkG gs]
open Go.RowKit
set_option linter.unusedVariables false
set_option maxRecDepth 100000

end Am
end Go.Proofs.YtjckfbpdieijeaaGreatDoor

/- Chapter 9, plain: labels, subjects, their texts and parts. -/
namespace Go.Proofs.YtjckfbpdieijeaaGreatDoor
namespace Am
open Go.RowKit
set_option linter.unusedVariables false

/-! ### labels -/
def lch (c : UInt8) : Bool := (decide (97 ≤ c.toNat) && decide (c.toNat ≤ 122)) || (decide (48 ≤ c.toNat) && decide (c.toNat ≤ 57)) || decide (c.toNat = 45)
def labM (l : List UInt8) : Bool := decide (l ≠ []) && decide (l.length ≤ 24) && decide (l.getD 0 0 ≠ 45) && decide (l.getD (l.length - 1) 0 ≠ 45) && l.all lch
/-! ### subjects -/
abbrev S3 := Int × List UInt8 × List UInt8
def wordL : List (List UInt8) := [[110, 111, 100, 101], [119, 111, 114, 107, 108, 111, 97, 100], [111, 112, 101, 114, 97, 116, 111, 114], [98, 111, 111, 116], [99, 97]]
def wordM (k : Int) : List UInt8 := if k < 1 then [] else wordL.getD (k - 1).toNat []
def rightS (s : S3) : Bool := decide (1 ≤ s.1) && decide (s.1 ≤ 5) && labM s.2.2 && (if s.1 = 2 then labM s.2.1 else decide (s.2.1 = []))
theorem kinds {k : Int} (h1 : 1 ≤ k) (h5 : k ≤ 5) : k = 1 ∨ k = 2 ∨ k = 3 ∨ k = 4 ∨ k = 5 := by omega
/-- what stands before and behind the first byte c; is there one -/
def cutM (c : UInt8) : List UInt8 → List UInt8 × List UInt8 × Bool
  | [] => ([], [], false)
  | x :: l => if x = c then ([], l, true) else (x :: (cutM c l).1, (cutM c l).2.1, (cutM c l).2.2)
def textS (s : S3) : List UInt8 := wordM s.1 ++ 58 :: (if s.2.1 = [] then s.2.2 else s.2.1 ++ 47 :: s.2.2)
/-- the index of a word, from 1 on; 0: it is none -/
def idxW (w : List UInt8) : Int := if w ∈ wordL then (wordL.idxOf w : Nat) + 1 else 0
/-- what a text is taken for -/
def guessT (t : List UInt8) : S3 :=
  if (cutM 47 (cutM 58 t).2.1).2.2 = true then (idxW (cutM 58 t).1, (cutM 47 (cutM 58 t).2.1).1, (cutM 47 (cutM 58 t).2.1).2.1) else (idxW (cutM 58 t).1, [], (cutM 58 t).2.1)
def zeroS : S3 := (0, [], [])
/-- a text's subject; the error's number -/
def parseT (t : List UInt8) : S3 × Nat := if rightS (guessT t) = true ∧ textS (guessT t) = t then (guessT t, 0) else (zeroS, 9)
/-- the reference's: a text as a subject of a kind -/
def asKind (t : List UInt8) (k : Int) : S3 :=
  if k = 2 ∧ (cutM 47 (t.drop ((wordM k).length + 1))).2.2 = true then (k, (cutM 47 (t.drop ((wordM k).length + 1))).1, (cutM 47 (t.drop ((wordM k).length + 1))).2.1) else (k, [], t.drop ((wordM k).length + 1))
def isKind (t : List UInt8) (k : Int) : Prop := (wordM k).length + 1 ≤ t.length ∧ t.take ((wordM k).length + 1) = wordM k ++ [58] ∧ rightS (asKind t k) = true ∧ textS (asKind t k) = t
/-! ### parts -/
def oidB : List UInt8 := [49, 46, 51, 46, 57, 57, 57, 57, 46, 49, 46]
def oidK : List UInt8 := oidB ++ [49]
def oidS : List UInt8 := oidB ++ [50]
def oidN : List UInt8 := oidB ++ [51]
abbrev P2 := List UInt8 × List UInt8
def partsS (s : S3) : List P2 := if s.2.1 = [] then [(oidK, wordM s.1), (oidN, s.2.2)] else [(oidK, wordM s.1), (oidS, s.2.1), (oidN, s.2.2)]
/-- what parts make of a subject, part by part -/
def stepP (s : S3) (p : P2) : S3 := if p.1 = oidK then (idxW p.2, s.2.1, s.2.2) else if p.1 = oidS then (s.1, p.2, s.2.2) else if p.1 = oidN then (s.1, s.2.1, p.2) else s
def guessP (l : List P2) : S3 := l.foldl stepP zeroS
/-- the subject of parts; the error's number -/
def ofP (l : List P2) : S3 × Nat := if rightS (guessP l) = true ∧ partsS (guessP l) = l then (guessP l, 0) else (zeroS, 9)
/-- the reference's: parts as those of a subject of a kind -/
def asKindP (l : List P2) (k : Int) : S3 := (k, (if k = 2 ∧ 1 < l.length then (l.getD 1 ([], [])).2 else []), (if 0 < l.length then (l.getD (l.length - 1) ([], [])).2 else []))
def isKindP (l : List P2) (k : Int) : Prop := rightS (asKindP l k) = true ∧ partsS (asKindP l k) = l
end Am
end Go.Proofs.YtjckfbpdieijeaaGreatDoor

/- Chapter 7: labels. -/
namespace Go.Proofs.YtjckfbpdieijeaaGreatDoor
set_option linter.unusedVariables false
namespace Am
open Go.RowKit
set_option maxRecDepth 100000

/-! ### labels -/
def letL : List UInt8 := [97, 98, 99, 100, 101, 102, 103, 104, 105, 106, 107, 108, 109, 110, 111, 112, 113, 114, 115, 116, 117, 118, 119, 120, 121, 122, 48, 49, 50, 51, 52, 53, 54, 55, 56, 57]
end Am
end Go.Proofs.YtjckfbpdieijeaaGreatDoor

/- Chapter 7: labels; texts as bodies. -/
namespace Go.Proofs.YtjckfbpdieijeaaGreatDoor
set_option linter.unusedVariables false
namespace Am
variable {gs : List Nat} [OkG gs]
open Go.RowKit
set_option maxRecDepth 100000

/-! ### texts as bodies -/
theorem asked_ac [OkT gs] (l : List UInt8) (most : Int) (hl : l.length ≤ 1000000000) : ACp gs Tryz.prog 140 [strC l, .c (.int .i64 most)] (.err (askedM l most)) := by
  refine ac_of 20 Tryz.func140 rfl rfl rfl (fun al w0 F0 St0 => ?_)
  refine jcr ?_
  refine jq jrm ?_
  refine seq_nil ?_
  refine jcs ?_
  refine code_block ?_
  refine jcr ?_
  refine jq jrm ?_
  refine jq jrcs ?_
  refine jq jrm ?_
  refine seq_nil ?_
  refine jcc (fun h47 => ?_) fun h47 => ?_
  · refine jcr ?_
    refine jq (jrde 1) ?_
    refine jq jrm ?_
    refine seq_nil ?_
    refine code_ret (jbr (jtr (jrt (hv := CEnt.errN (by unfold askedM; rw [if_pos (by simpa using h47)])))))
  refine jcr ?_
  refine jq jrm ?_
  refine jq jrls ?_
  refine jq jrm ?_
  refine jq jrc ?_
  refine jq jrm ?_
  refine seq_nil ?_
  refine jcc (fun h49 => ?_) fun h49 => ?_
  · refine jcr ?_
    refine jq (jrde 2) ?_
    refine jq jrm ?_
    refine seq_nil ?_
    refine code_ret (jbr (jtr (jrt (hv := CEnt.errN (by unfold askedM; rw [if_neg (by simpa using h47), if_pos h49])))))
  refine jcr ?_
  refine jq jrm ?_
  refine jqe (jecP (plain07_ac l hl) ?_)
  refine jq jrn ?_
  refine jq jrm ?_
  refine seq_nil ?_
  refine jcc (fun h51 => ?_) fun h51 => ?_
  · refine jcr ?_
    refine jq (jrde 7) ?_
    refine jq jrm ?_
    refine seq_nil ?_
    refine code_ret (jbr (jtr (jrt (hv := CEnt.errN (by unfold askedM; rw [if_neg (by simpa using h47), if_neg h49, if_pos (by simpa using h51)])))))
  refine code_skip (jbn (jtn ?_))
  refine jcr ?_
  refine jq jrm ?_
  refine seq_nil ?_
  refine code_ret (jrt (hv := CEnt.nilE (by unfold askedM; rw [if_neg (by simpa using h47), if_neg h49, if_neg (by simpa using h51)])))
theorem asked_bd (l : List UInt8) (most : Int) : askedM l most ≤ 8 := by
  unfold askedM
  repeat' split
  all_goals omega
theorem xput_ac [OkT gs] (l : List UInt8) (most : Int) (hl : l.length ≤ 1000000000) : ACp gs Tryz.prog 103 [strC l, .c (.int .i64 most)] (.tup 2 (fl [bsC (if askedM l most = 0 then l else []), .err (askedM l most)])) := by
  refine ac_of 15 Tryz.func103 rfl rfl rfl (fun al w0 F0 St0 => ?_)
  refine jcr ?_
  refine jq jrm ?_
  refine jq jrm ?_
  refine seq_nil ?_
  refine jcs ?_
  refine jcr ?_
  refine jq jrm ?_
  refine jq jrm ?_
  refine jqe (jecP (asked_ac l most hl) ?_)
  refine jq jrm ?_
  refine seq_nil ?_
  refine jcr ?_
  refine jq jrm ?_
  refine jq jre ?_
  refine seq_nil ?_
  refine jcc (fun h59 => ?_) fun h59 => ?_
  · refine jcr ?_
    refine jq jrm ?_
    refine jq jrm ?_
    refine jq jrm ?_
    refine seq_nil ?_
    refine code_ret (jtr (jrt (hv := CEnt.tup2 (CEnt.nilS' (by rw [if_neg h59]; rfl)) (CEnt.refl _))))
  refine code_skip (jtn ?_)
  refine jcr ?_
  refine jq jrm ?_
  refine jqe (jecv ?_)
  refine jq jrm ?_
  refine jq jrm ?_
  refine seq_nil ?_
  refine code_ret (jrt (hv := ?_))
  have h : askedM l most = 0 := by omega
  exact CEnt.tup2 (CEnt.bs (by rw [if_pos h])) (CEnt.nilE h)
theorem rasked_ac {gs : List Nat} (l : List UInt8) (most : Int) (hl : l.length ≤ 1000000000) : ACp gs Tryz.prog 91 [strC l, .c (.int .i64 most)] (.c (.int .i64 (askedM l most : Nat))) := by
  refine ac_of 15 Tryz.func91 rfl rfl rfl (fun al w0 F0 St0 => ?_)
  refine jcr ?_
  refine jq jrm ?_
  refine seq_nil ?_
  refine jcs ?_
  refine jcr ?_
  refine jq jrm ?_
  refine jq jrls ?_
  refine jq jrc ?_
  refine seq_nil ?_
  refine jcc (fun h55 => ?_) fun h55 => ?_
  · refine jcr ?_
    refine jq jrm ?_
    refine seq_nil ?_
    refine code_ret (jtr (jrt (hv := CEnt.int (by unfold askedM; rw [if_pos (by omega)]; rfl))))
  refine code_skip (jtn ?_)
  refine jcs ?_
  refine jcr ?_
  refine jq jrm ?_
  refine jq jrls ?_
  refine jq jrm ?_
  refine jq jrc ?_
  refine seq_nil ?_
  refine jcc (fun h58 => ?_) fun h58 => ?_
  · refine jcr ?_
    refine jq jrm ?_
    refine seq_nil ?_
    refine code_ret (jtr (jrt (hv := CEnt.int (by unfold askedM; rw [if_neg (by omega), if_pos h58]; rfl))))
  refine code_skip (jtn ?_)
  refine jcs ?_
  refine jcr ?_
  refine jq jrm ?_
  refine jqe (jecP (rplain_ac l hl) ?_)
  refine jq jrn ?_
  refine seq_nil ?_
  refine jcc (fun h61 => ?_) fun h61 => ?_
  · refine jcr ?_
    refine jq jrm ?_
    refine seq_nil ?_
    refine code_ret (jtr (jrt (hv := CEnt.int (by unfold askedM; rw [if_neg (by omega), if_neg h58, if_pos (by simpa using h61)]; rfl))))
  refine code_skip (jtn ?_)
  refine jcr ?_
  refine jq jrm ?_
  refine seq_nil ?_
  refine code_ret (jrt (hv := CEnt.int (by unfold askedM; rw [if_neg (by omega), if_neg h58, if_neg (by simpa using h61)]; rfl)))
end Am
end Go.Proofs.YtjckfbpdieijeaaGreatDoor

/- Chapter 8: the writer: Done; values. -/
namespace Go.Proofs.YtjckfbpdieijeaaGreatDoor
set_option linter.unusedVariables false
namespace Am
variable {gs : List Nat} [OkG gs]
open Go.RowKit Cal
set_option maxRecDepth 100000

theorem doneW_ac (n : Nat) (s : W8) (hs : OkW s) : AC gs Tryz.prog 11 [wrO n s] [.op 0 (some n) 0] (fun r H' => r = .tup 2 (fl [bsC (doneB s), .err (doneK s)]) ∧ H' = [wrO n s]) := by
  have hsd := hs.d
  have bad : ∀ {e}, doneK s = e → e ≠ 0 → doneB s = [] := fun h h0 => by unfold doneB; rw [h, if_neg h0]
  refine ac_of 35 Tryz.func11 rfl rfl rfl (fun al w0 F0 St0 => ?_)
  refine jcr ?_
  refine jq jrm ?_
  refine jq jrm ?_
  refine seq_nil ?_
  refine jcs ?_
  refine code_block ?_
  refine code_openW 0 rfl fun go gd zs hzs => ?_
  refine jcr ?_
  refine jq jrm ?_
  refine jq jrnc ?_
  refine jq (jrfa 2 1 false) ?_
  refine jqo jrdo ?_
  refine jq jre ?_
  refine jq jrm ?_
  refine seq_nil ?_
  refine jcc (fun h140 => ?_) fun h140 => ?_
  · refine jcs ?_
    refine jcd (.rd 0 (.rd 1 (.rd 2 (.rd 3 (.rd 4 (.rd 5 .done)))))) ?_
    refine jyq jrm ?_
    refine jyq jrnc ?_
    refine jyq (jrfa 2 1 false) ?_
    refine jyo jrdo ?_
    refine jyq jrm ?_
    refine jyq jrm ?_
    refine jyd ?_
    refine jtn ?_
    refine code_ret (jbr (jtr ?_))
    have e : doneK s = s.k := by unfold doneK; rw [if_pos (by omega)]
    exact end_packV (gd := fun z : WZ8 s.fr => z.1.1) (E := wrE s) (.inl rfl) ⟨(n, go, gd, zs), hzs⟩ [0, 1, 2, 3] (by decide) rfl (res_2 rfl javt javt) (CEnt.tup2 (by rw [bad e (by omega)]; exact CEnt.nilB) (CEnt.err e.symm))
  refine jcr ?_
  refine jq jrm ?_
  refine jq jrnc ?_
  refine jq (jrfa 0 1 false) ?_
  refine jqo jrdo ?_
  refine jq jrl ?_
  refine jq jrc ?_
  refine jq jrm ?_
  refine seq_nil ?_
  refine jcc (fun h142 => ?_) fun h142 => ?_
  · refine jcs ?_
    refine jcd (.rd 0 (.rd 1 (.rd 2 .done))) ?_
    refine jyq (jrde 23) ?_
    refine jyq jrm ?_
    refine jyq jrm ?_
    refine jyd ?_
    refine jtn ?_
    refine code_ret (jbr (jtr ?_))
    have e : doneK s = 24 := by unfold doneK; rw [if_neg (by omega), if_pos (by intro h; rw [h] at h142; simp at h142)]
    exact end_packV (gd := fun z : WZ8 s.fr => z.1.1) (E := wrE s) (.inl rfl) ⟨(n, go, gd, zs), hzs⟩ [0, 1, 2, 3] (by decide) rfl (res_2 rfl javt javt) (CEnt.tup2 (by rw [bad e (by omega)]; exact CEnt.nilB) (CEnt.err e.symm))
  refine jcr ?_
  refine jq jrm ?_
  refine jq jrnc ?_
  refine jq (jrfa 1 1 false) ?_
  refine jqo jrdo ?_
  refine jq jrl ?_
  refine jq jrc ?_
  refine jq jrm ?_
  refine seq_nil ?_
  refine jcc (fun h144 => ?_) fun h144 => ?_
  · refine jcs ?_
    refine jcd (.rd 0 (.rd 1 (.rd 2 .done))) ?_
    refine jyq (jrde 2) ?_
    refine jyq jrm ?_
    refine jyq jrm ?_
    refine jyd ?_
    refine jtn ?_
    refine code_ret (jbr (jtr ?_))
    have hf0 : s.fr = [] := List.eq_nil_of_length_eq_zero (by omega)
    have e : doneK s = 3 := by unfold doneK; rw [if_neg (by omega), if_neg (by simp [hf0]), if_pos (by omega)]
    exact end_packV (gd := fun z : WZ8 s.fr => z.1.1) (E := wrE s) (.inl rfl) ⟨(n, go, gd, zs), hzs⟩ [0, 1, 2, 3] (by decide) rfl (res_2 rfl javt javt) (CEnt.tup2 (by rw [bad e (by omega)]; exact CEnt.nilB) (CEnt.err e.symm))
  refine code_skip (jbn (jtn ?_))
  refine jcr ?_
  refine jq jrm ?_
  refine jq jrnc ?_
  refine jq (jrfa 1 1 false) ?_
  refine jqo jrdo ?_
  refine jqm (jmcH 2 (cloneO_ac s.d gd (by omega)) ?_)
  rintro _ _ ⟨rfl, rfl⟩
  refine ⟨_, _, rfl, CEnt.refl _, ?_⟩
  refine jq jrm ?_
  refine jq jrm ?_
  refine seq_nil ?_
  refine code_ret ?_
  have hf0 : s.fr = [] := List.eq_nil_of_length_eq_zero (by omega)
  have e : doneK s = 0 := by unfold doneK; rw [if_neg (by omega), if_neg (by simp [hf0]), if_neg (by omega)]
  exact end_packV (gd := fun z : WZ8 s.fr => z.1.1) (E := wrE s) (.inl rfl) ⟨(n, go, gd, zs), hzs⟩ [0, 1, 2, 3] (by decide) rfl (res_2 rfl javt javt) (CEnt.tup2 (CEnt.bs (by unfold doneB; rw [if_pos e])) (CEnt.nilE e))
theorem intW_ac (n : Nat) (s : W8) (z : Int) (hz : -9223372036854775808 ≤ z ∧ z ≤ 9223372036854775807) (hs : OkW s) : AC gs Tryz.prog 45 [wrO n s] [.op 0 (some n) 0, .c (.int .i64 z)] (fun r H' => r = .c (.tuple #[]) ∧ H' = [wrO n (putW 2 (putN z) 0 s)]) := by
  have hl := (putN_len z hz.1 hz.2).2
  refine ac_of 8 Tryz.func45 rfl rfl rfl (fun al w0 F0 St0 => ?_)
  refine jcg ?_
  refine jq jrm ?_
  refine jq jrm ?_
  refine jqe (jecP (wput_ac z hz.1 hz.2) ?_)
  refine jqm (jmcH 0 (putW_ac n s 2 (putN z) 0 hs (by omega)) ?_)
  rintro _ _ ⟨rfl, rfl⟩
  refine ⟨_, _, rfl, CEnt.refl _, ?_⟩
  refine seq_nil ?_
  exact end_own (.inr rfl) _ [_] [0] (by decide) rfl (res_0 rfl) ⟨rfl, rfl⟩
theorem enumW_ac (n : Nat) (s : W8) (z : Int) (hz : -9223372036854775808 ≤ z ∧ z ≤ 9223372036854775807) (hs : OkW s) : AC gs Tryz.prog 55 [wrO n s] [.op 0 (some n) 0, .c (.int .i64 z)] (fun r H' => r = .c (.tuple #[]) ∧ H' = [wrO n (putW 10 (putN z) 0 s)]) := by
  have hl := (putN_len z hz.1 hz.2).2
  refine ac_of 8 Tryz.func55 rfl rfl rfl (fun al w0 F0 St0 => ?_)
  refine jcg ?_
  refine jq jrm ?_
  refine jq jrm ?_
  refine jqe (jecP (wput_ac z hz.1 hz.2) ?_)
  refine jqm (jmcH 0 (putW_ac n s 10 (putN z) 0 hs (by omega)) ?_)
  rintro _ _ ⟨rfl, rfl⟩
  refine ⟨_, _, rfl, CEnt.refl _, ?_⟩
  refine seq_nil ?_
  exact end_own (.inr rfl) _ [_] [0] (by decide) rfl (res_0 rfl) ⟨rfl, rfl⟩
theorem boolW_ac (n : Nat) (s : W8) (z : Bool) (hs : OkW s) : AC gs Tryz.prog 56 [wrO n s] [.op 0 (some n) 0, .c (.bool z)] (fun r H' => r = .c (.tuple #[]) ∧ H' = [wrO n (putW 1 [if z then 255 else 0] 0 s)]) := by
  refine ac_of 8 Tryz.func56 rfl rfl rfl (fun al w0 F0 St0 => ?_)
  refine jcg ?_
  refine jq jrm ?_
  refine jq jrm ?_
  refine jqe (jecP (truth_ac z) ?_)
  refine jqm (jmcH 0 (putW_ac n s 1 [if z then 255 else 0] 0 hs (by simp)) ?_)
  rintro _ _ ⟨rfl, rfl⟩
  refine ⟨_, _, rfl, CEnt.refl _, ?_⟩
  refine seq_nil ?_
  exact end_own (.inr rfl) _ [_] [0] (by decide) rfl (res_0 rfl) ⟨rfl, rfl⟩
theorem octetsW_ac (n : Nat) (s : W8) (b : List UInt8) (hb : b.length ≤ 1000000) (hs : OkW s) : AC gs Tryz.prog 57 [wrO n s] [.op 0 (some n) 0, bsC b] (fun r H' => r = .c (.tuple #[]) ∧ H' = [wrO n (putW 4 b 0 s)]) := by
  refine ac_of 7 Tryz.func57 rfl rfl rfl (fun al w0 F0 St0 => ?_)
  refine jcg ?_
  refine jq jrm ?_
  refine jq jrm ?_
  refine jqm (jmcH 0 (putW_ac n s 4 b 0 hs hb) ?_)
  rintro _ _ ⟨rfl, rfl⟩
  refine ⟨_, _, rfl, CEnt.refl _, ?_⟩
  refine seq_nil ?_
  exact end_own (.inr rfl) _ [_] [0] (by decide) rfl (res_0 rfl) ⟨rfl, rfl⟩
theorem textW_ac [OkT gs] (n : Nat) (s : W8) (t : List UInt8) (most : Int) (ht : t.length ≤ 1000000) (hs : OkW s) : AC gs Tryz.prog 58 [wrO n s] [.op 0 (some n) 0, strC t, .c (.int .i64 most)] (fun r H' => r = .c (.tuple #[]) ∧ H' = [wrO n (putW 12 (if askedM t most = 0 then t else []) (askedM t most) s)]) := by
  have hl : (if askedM t most = 0 then t else []).length ≤ 1000000 := by split <;> first | omega | simp
  refine ac_of 18 Tryz.func58 rfl rfl rfl (fun al w0 F0 St0 => ?_)
  refine jcr ?_
  refine jq jrm ?_
  refine jq jrm ?_
  refine jqe (jecP (xput_ac t most (by omega)) ?_)
  refine jq jrm ?_
  refine jq jrx ?_
  refine jq jrx ?_
  refine jq jrm ?_
  refine jq jrm ?_
  refine seq_nil ?_
  refine jcg ?_
  refine jq jrm ?_
  refine jq jrm ?_
  refine jq jrm ?_
  refine jqm (jmcH 0 (putW_ac n s 12 (if askedM t most = 0 then t else []) (askedM t most) hs hl) ?_)
  rintro _ _ ⟨rfl, rfl⟩
  refine ⟨_, _, rfl, CEnt.refl _, ?_⟩
  refine seq_nil ?_
  exact end_own (.inr rfl) _ [_] [0] (by decide) rfl (res_0 rfl) ⟨rfl, rfl⟩
theorem momentW_ac (n : Nat) (s : W8) (z : Int) (hs : OkW s) : AC gs Tryz.prog 60 [wrO n s] [.op 0 (some n) 0, .c (.int .i64 z)] (fun r H' => r = .c (.tuple #[]) ∧ H' = [wrO n (putW 24 (if inT z then bodyL (ofM z) else []) (ofE z) s)]) := by
  have hbl : (if inT z then bodyL (ofM z) else []).length ≤ 1000000 := by
    split
    · exact Nat.le_trans (Nat.le_of_eq (show (bodyL (ofM z)).length = 15 from rfl)) (by decide)
    · simp
  refine ac_of 15 Tryz.func60 rfl rfl rfl (fun al w0 F0 St0 => ?_)
  refine jcr ?_
  refine jq jrm ?_
  refine jqe (jecP (put_ac z) ?_)
  refine jq jrm ?_
  refine jq jrx ?_
  refine jq jrx ?_
  refine jq jrm ?_
  refine jq jrm ?_
  refine seq_nil ?_
  refine jcg ?_
  refine jq jrm ?_
  refine jq jrm ?_
  refine jq jrm ?_
  refine jqm (jmcH 0 (putW_ac n s 24 (if inT z then bodyL (ofM z) else []) (ofE z) hs hbl) ?_)
  rintro _ _ ⟨rfl, rfl⟩
  refine ⟨_, _, rfl, CEnt.refl _, ?_⟩
  refine seq_nil ?_
  exact end_own (.inr rfl) _ [_] [0] (by decide) rfl (res_0 rfl) ⟨rfl, rfl⟩
theorem oidW_ac (n : Nat) (s : W8) (t : List UInt8) (ht : t.length ≤ 1000000) (hs : OkW s) : AC gs Tryz.prog 59 [wrO n s] [.op 0 (some n) 0, strC t] (fun r H' => r = .c (.tuple #[]) ∧ H' = [wrO n (putW 6 (putM t) (parseM t).2 s)]) := by
  have hl : (putM t).length ≤ 1000000 := Nat.le_trans (put_len t) (by decide)
  refine ac_of 15 Tryz.func59 rfl rfl rfl (fun al w0 F0 St0 => ?_)
  refine jcr ?_
  refine jq jrm ?_
  refine jqe (jecP (oput_ac t (by omega)) ?_)
  refine jq jrm ?_
  refine jq jrx ?_
  refine jq jrx ?_
  refine jq jrm ?_
  refine jq jrm ?_
  refine seq_nil ?_
  refine jcg ?_
  refine jq jrm ?_
  refine jq jrm ?_
  refine jq jrm ?_
  refine jqm (jmcH 0 (putW_ac n s 6 (putM t) (parseM t).2 hs hl) ?_)
  rintro _ _ ⟨rfl, rfl⟩
  refine ⟨_, _, rfl, CEnt.refl _, ?_⟩
  refine seq_nil ?_
  exact end_own (.inr rfl) _ [_] [0] (by decide) rfl (res_0 rfl) ⟨rfl, rfl⟩
theorem flagsW_ac (n : Nat) (s : W8) (z : Int) (hs : OkW s) : AC gs Tryz.prog 62 [wrO n s] [.op 0 (some n) 0, .c (.int .i64 z)] (fun r H' => r = .c (.tuple #[]) ∧ H' = [wrO n (putW 3 (bitsL z) (bitsE z) s)]) := by
  have hf : ACp gs Tryz.prog 107 [.c (.int .i64 z)] (.tup 2 (fl [bsC (bitsL z), .err (bitsE z)])) := by
    unfold bitsL bitsE
    by_cases h : z < 0 ∨ 32767 < z
    · rw [if_pos h, if_pos h]; exact flags_bad z h
    · rw [if_neg h, if_neg h]
      have := flags_ac (gs := gs) z.toNat (by omega)
      rwa [Int.toNat_of_nonneg (by omega)] at this
  have hl : (bitsL z).length ≤ 1000000 := by
    unfold bitsL
    split
    · simp
    · rw [flags_len (by omega)]
      have := (bl_is (m := z.toNat) (by omega)).2
      omega
  refine ac_of 15 Tryz.func62 rfl rfl rfl (fun al w0 F0 St0 => ?_)
  refine jcr ?_
  refine jq jrm ?_
  refine jqe (jecP hf ?_)
  refine jq jrm ?_
  refine jq jrx ?_
  refine jq jrx ?_
  refine jq jrm ?_
  refine jq jrm ?_
  refine seq_nil ?_
  refine jcg ?_
  refine jq jrm ?_
  refine jq jrm ?_
  refine jq jrm ?_
  refine jqm (jmcH 0 (putW_ac n s 3 (bitsL z) (bitsE z) hs hl) ?_)
  rintro _ _ ⟨rfl, rfl⟩
  refine ⟨_, _, rfl, CEnt.refl _, ?_⟩
  refine seq_nil ?_
  exact end_own (.inr rfl) _ [_] [0] (by decide) rfl (res_0 rfl) ⟨rfl, rfl⟩
theorem rawW_ac (n : Nat) (s : W8) (b : List UInt8) (hb : b.length ≤ 1000000) (hs : OkW s) : AC gs Tryz.prog 61 [wrO n s] [.op 0 (some n) 0, bsC b] (fun r H' => r = .c (.tuple #[]) ∧ H' = [wrO n (rawW b s)]) := by
  refine ac_of 16 Tryz.func61 rfl rfl rfl (fun al w0 F0 St0 => ?_)
  refine jcr ?_
  refine jq jrm ?_
  refine jq jrm ?_
  refine jqe (jecP (check_ac b (by omega)) ?_)
  refine jqm (jmcH 0 (failW_ac n s (depthM b).2) ?_)
  rintro _ _ ⟨rfl, rfl⟩
  refine ⟨_, _, rfl, CEnt.refl _, ?_⟩
  refine seq_nil ?_
  refine code_openW 0 rfl fun go gd zs hzs => ?_
  refine jcr ?_
  refine jq jrm ?_
  refine jq jrnc ?_
  refine jq (jrfa 2 1 false) ?_
  refine jqo jrdo ?_
  refine jq jre ?_
  refine seq_nil ?_
  refine jcc (fun h132 => ?_) fun h132 => ?_
  rotate_left
  · refine code_skip ?_
    have hP : rawW b s = failW (depthM b).2 s := by unfold rawW; rw [if_neg (by omega)]
    rw [hP]
    exact end_pack (gd := fun z : WZ8 (failW (depthM b).2 s).fr => z.1.1) (E := wrE (failW (depthM b).2 s)) (.inr rfl) _ ⟨(n, go, gd, zs), hzs⟩ [0, 1, 2, 3] (by decide) rfl (res_0 rfl) ⟨rfl, rfl⟩
  have hk : (failW (depthM b).2 s).k = 0 := by omega
  refine code_ent (closeW n (failW (depthM b).2 s) zs 0 1 2 3 hzs rfl rfl rfl rfl (by decide) (CEnt.osI rfl) (CEnt.osI rfl) (CEnt.refl _) (Nat.le_refl _) (fun _ _ => CEnt.refl _) (Nat.le_refl _) (fun _ _ => CEnt.refl _)) ?_
  dsimp only [List.set_cons_zero, List.set_cons_succ, List.cons_append, List.nil_append, List.length_cons, List.length_nil, Nat.zero_add, Nat.reduceAdd]
  have hF : failW (depthM b).2 s = s := by
    obtain ⟨fr, d, k⟩ := s
    unfold failW at hk ⊢
    split
    · rename_i h
      rw [if_pos h] at hk
      have h : k = 0 := h
      have hk0 : (depthM b).2 = 0 := hk
      rw [h, hk0]
    · rfl
  rw [hF]
  refine jcg ?_
  refine jq jrm ?_
  refine jq jrm ?_
  refine jqm (jmcH 0 (addW_ac n s b hs (by omega)) ?_)
  rintro _ _ ⟨rfl, rfl⟩
  refine ⟨_, _, rfl, CEnt.refl _, ?_⟩
  refine seq_nil ?_
  have hP : rawW b s = addW b s := by unfold rawW; rw [if_pos hk]
  rw [hP]
  exact end_own (.inr rfl) _ [_] [0] (by decide) rfl (res_0 rfl) ⟨rfl, rfl⟩
end Am
end Go.Proofs.YtjckfbpdieijeaaGreatDoor
