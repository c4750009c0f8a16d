/- What the law leans on, part 5: W08w, W08x, P08b, W08a, W08b, W08c, W08d, W08e, W08f, SsJ, W05f, W05g, W05h, W06c, P06c, W06d, W06e, W08g, W08h, W08p, P08r, P08c, P08d, P08h, P08i, P09s, ErrN, W08y, AmN, W09s -/
import Derived.Test.YteolfpolmioalaaGreatDoorM4NamesRead

set_option maxRecDepth 100000
namespace Go.Proofs.YteolfpolmioalaaGreatDoor
set_option linter.unusedVariables false
namespace Am
section
variable {gs : List Nat} [Ok9 gs]
open Go.RowKit Cal

structure OkRD (s : R8) : Prop where
  ok : OkR s
  sum : ∀ j, sumL (s.rows.getD j []) ≤ 1000000
  tag : ∀ x ∈ s.tags, 0 ≤ x ∧ x < 256
  lt : s.tags.length ≠ 0 → s.tags.length < s.rows.length
theorem rdone08_ac {gs : List Nat} (n : Nat) (s : R8) (hs : OkRD s) : AC gs Tryz.prog 31 [rwO n s] [.op 0 (some n) 0] (fun r H' => r = .tup 2 (fl [bsC (rdoneB s), .c (.int .i64 (rdoneE s : Nat))]) ∧ H' = [rwO n s]) := by
  have hk0 := okR_at hs.ok 0
  have hs0 := hs.sum 0
  have bad : ∀ {e}, rdoneE s = e → e ≠ 0 → rdoneB s = [] := fun h h0 => by unfold rdoneB; rw [h, if_neg h0]
  refine ac_of 48 Tryz.func31 rfl rfl rfl (fun al w0 F0 St0 => ?_)
  refine jcr ?_;refine jq jrm ?_;refine jq jrm ?_;refine jN ?_;refine jcs ?_;refine code_openRW 0 rfl fun gr => ?_;refine jcr ?_;refine jq jrm ?_;refine jq jrnc ?_;refine jq (jrfa 2 1 false) ?_;refine jqo jrdo ?_;refine jq jrc ?_;refine jN ?_;refine jcc (fun h133 => ?_) fun h133 => ?_
  · refine jcs ?_;refine jcd (.rd 0 (.rd 1 (.rd 2 (.rd 3 (.rd 4 (.rd 5 .done)))))) ?_;refine jyq jrm ?_;refine jyq jrnc ?_;refine jyq (jrfa 2 1 false) ?_;refine jyo jrdo ?_;refine jyq jrm ?_;refine jyq jrm ?_;refine jyd ?_;refine jtn ?_
    refine jR (jtr ?_)
    have e : rdoneE s = s.e := by unfold rdoneE; rw [if_pos (by omega)]
    exact end_closeRW (.inl rfl) n s 1 (res_2 rfl javt javt) (CEnt.tup2 (by rw [bad e (by omega)]; exact CEnt.nilB) (CEnt.int (by rw [e]))) rfl rfl rfl (by exact cZ) (by exact CEnt.osI rfl) (by exact cZ) (Nat.le_refl _) (fun _ _ => by exact cZ)
  refine jS (jtn ?_)
  refine jcs ?_;refine jcr ?_;refine jq jrm ?_;refine jq jrnc ?_;refine jq (jrfa 0 1 false) ?_;refine jqo jrdo ?_;refine jq jrl ?_;refine jq jrc ?_;refine jN ?_;refine jcc (fun h136 => ?_) fun h136 => ?_
  · refine jcr ?_;refine jq jrm ?_;refine jq jrm ?_;refine jN ?_
    refine jR (jtr ?_)
    have e : rdoneE s = 24 := by unfold rdoneE; rw [if_neg (by omega), if_pos (by omega)]
    exact end_closeRW (.inl rfl) n s 1 (res_2 rfl javt javt) (CEnt.tup2 (by rw [bad e (by omega)]; exact CEnt.nilB) (CEnt.int (by rw [e]; rfl))) rfl rfl rfl (by exact cZ) (by exact CEnt.osI rfl) (by exact cZ) (Nat.le_refl _) (fun _ _ => by exact cZ)
  refine jS (jtn ?_)
  refine jcr ?_
  refine jqe (jebl 0 1 zr5 fun p1 => ?_)
  refine jq jrm ?_;refine jN ?_;refine jcs ?_;refine jcr ?_;refine jq jrm ?_;refine jq jrnc ?_;refine jq (jrfa 1 1 false) ?_;refine jqo jrdo ?_;refine jq jrl ?_;refine jq jrc ?_;refine jN ?_;refine jcc (fun h140 => ?_) fun h140 => ?_
  rotate_left
  · refine jS (jtn ?_)
    refine jcs ?_
    first
      | (have hiE : i = (s.rows.getD 0 []).length := by omega
         subst hiE
         dsimp only
         rw [List.take_length] at *
         have hfl := flat_len (s.rows.getD 0 []))
      | (have h00 : s.rows.getD 0 [] = [] := by rw [List.getD_eq_getElem?_getD, List.getElem?_eq_none (by omega)]; rfl
         have hfl : ((s.rows.getD 0 []).flatten).length = 0 := by rw [h00]; rfl)
    refine jcr ?_;refine jq jrm ?_;refine jq jrl ?_;refine jq jrc ?_;refine jN ?_;refine jcc (fun h145 => ?_) fun h145 => ?_
    · refine jcr ?_;refine jq jrm ?_;refine jq jrm ?_;refine jN ?_
      refine jR (jtr ?_)
      first
        | (exfalso; simp at h145; done)
        | (have e : rdoneE s = 3 := by unfold rdoneE; rw [if_neg (by omega), if_neg (by omega), if_pos (by omega)]
           exact end_closeRW (.inl rfl) n s 1 (res_2 rfl javt javt) (CEnt.tup2 (by rw [bad e (by omega)]; exact CEnt.nilB) (CEnt.int (by rw [e]; rfl))) rfl rfl rfl (by exact cZ) (by exact CEnt.osI rfl) (by exact cZ) (Nat.le_refl _) (fun _ _ => by exact cZ))
    refine jS (jtn ?_)
    refine jcr ?_;refine jq jrm ?_;refine jq jrm ?_;refine jq jrm ?_;refine jN ?_;refine jE (freeze 2 rfl) ?_
    first
      | refine jE (thawB 2 ((s.rows.getD 0 []).flatten) rfl rfl rfl rfl) ?_
      | refine jE (thawBL 2 [] rfl rfl rfl rfl .nil) ?_
    refine jR ?_
    have e : rdoneE s = 0 := by unfold rdoneE; rw [if_neg (by omega), if_neg (by omega), if_neg (by omega)]
    exact end_closeRW (.inl rfl) n s 1 (res_2 rfl javt javt) (CEnt.tup2 (CEnt.bs (by unfold rdoneB; rw [if_pos e]; (rw [h00]; rfl))) (CEnt.int (by rw [e]; rfl))) rfl rfl rfl (by exact cZ) (by exact CEnt.osI rfl) (by exact cZ) (Nat.le_refl _) (fun _ _ => by exact cZ)
  refine jcr ?_;refine jq jrm ?_;refine jq jrnc ?_;refine jq (jrfa 1 1 false) ?_;refine jqo jrdo ?_;refine jq (jri (i := 0)) ?_;refine jqo jrdo ?_;refine jq jrl ?_;refine jq jrm ?_;refine jN ?_;refine jB ?_;refine l_loop (α := Nat × Option Nat) [4, 6, 36, 37, 38, 39, 40, 41, 42, 43] (fun (i, g) => [(4, .os 2 g 0 (((s.rows.getD 0 []).take i).flatten).length 1), (36, .c (.int .i64 (i : Nat)))]) (fun (i, g) => [(some n, .blk 3 (rwB s 1 gr)), (gr, .blk s.rows.length (rowsF s.rows)), (g, .blk (((s.rows.getD 0 []).take i).flatten).length (byF ((s.rows.getD 0 []).take i).flatten))]) (fun i => i.1 ≤ (s.rows.getD 0 []).length) (fun i => (s.rows.getD 0 []).length - i.1) ((0, p1)) ?_ (fun _ => rfl) ?_ ?_ ?_
  · exact Nat.zero_le _
  · exact .cons (CEnt.osI rfl) (.cons cZ .nil)
  · exact .same (.same (.blk rfl (fun j hj => absurd hj (Nat.not_lt_zero j)) .nil))
  · rintro ⟨i, g⟩ (hi : i ≤ (s.rows.getD 0 []).length)
    refine jcr ?_;refine jq jrc ?_;refine jN ?_;refine jcs ?_;refine jcc (fun h141 => ?_) fun h141 => ?_
    · refine jS (jtn ?_)
      refine jcs ?_;refine jB ?_;refine jcr ?_;refine jq jri ?_;refine jq jrdr ?_;refine jq jrm ?_;refine jN ?_
      have hf1 := sumL_take (ls := s.rows.getD 0 []) (i := i) (by omega)
      have hf2 := sumL_le (s.rows.getD 0 []) (i + 1)
      have hf3 := flat_len ((s.rows.getD 0 []).take i)
      refine jcg ?_;refine jq jrm ?_;refine jq jrm ?_
      first | refine jqm (m_appendB rfl rfl rfl (Nat.le_refl _) (fun _ _ => cZ) (src_rs rfl) rfl (fun j hj => by simp only [Nat.div_one]; exact cZ) Tryz.underlying22 nu22 sz5 zr5 by5 rfl (by omega) (fun j hj => rfl) rfl rfl (fun p2 => ?_)) | refine jqm (m_appendB rfl rfl rfl (Nat.le_refl _) (fun _ _ => cZ) (src_str rfl) rfl (fun j hj => cZ) Tryz.underlying22 nu22 sz5 zr5 by5 rfl (by first | omega | (simp; done) | (simp; omega) | (simp at *; omega)) (fun j hj => rfl) rfl rfl (fun p2 => ?_)) | refine jqm (m_appendB rfl rfl rfl (Nat.le_refl _) (fun _ _ => cZ) (src_os rfl (.inl rfl) (by omega)) rfl (fun j hj => by rw [Nat.zero_add]; exact cZ) Tryz.underlying22 nu22 sz5 zr5 by5 rfl (by first | omega | (simp; done) | (simp; omega) | (simp at *; omega)) (fun j hj => rfl) rfl rfl (fun p2 => ?_))
      refine jq jrm ?_;refine jN ?_
      refine jbn (jtn ?_)
      refine jcg ?_;refine jq jra ?_;refine jq jrm ?_;refine jN ?_;refine jtn ?_
      refine jlend ((i + 1, p2)) ?_ ?_ (h5 := ?_) (h7 := ?_)
      · show i + 1 ≤ (s.rows.getD 0 []).length; omega
      · show (s.rows.getD 0 []).length - (i + 1) < (s.rows.getD 0 []).length - i; omega
      · simp only [flat_take (show i < (s.rows.getD 0 []).length by omega)]
        exact .cons (CEnt.osI rfl) (.cons (CEnt.int (by omega)) .nil)
      · simp only [flat_take (show i < (s.rows.getD 0 []).length by omega)]
        exact .same (.same (.same .nil))
    refine jX (jte (jte (jbx (jtn ?_))))
    refine jcs ?_
    first
      | (have hiE : i = (s.rows.getD 0 []).length := by omega
         subst hiE
         dsimp only
         rw [List.take_length] at *
         have hfl := flat_len (s.rows.getD 0 []))
      | (have h00 : s.rows.getD 0 [] = [] := by rw [List.getD_eq_getElem?_getD, List.getElem?_eq_none (by omega)]; rfl
         have hfl : ((s.rows.getD 0 []).flatten).length = 0 := by rw [h00]; rfl)
    refine jcr ?_;refine jq jrm ?_;refine jq jrl ?_;refine jq jrc ?_;refine jN ?_;refine jcc (fun h145 => ?_) fun h145 => ?_
    · refine jcr ?_;refine jq jrm ?_;refine jq jrm ?_;refine jN ?_
      refine jR (jtr ?_)
      first
        | (exfalso; simp at h145; done)
        | (have e : rdoneE s = 3 := by unfold rdoneE; rw [if_neg (by omega), if_neg (by omega), if_pos (by omega)]
           exact end_closeRW (.inl rfl) n s 1 (res_2 rfl javt javt) (CEnt.tup2 (by rw [bad e (by omega)]; exact CEnt.nilB) (CEnt.int (by rw [e]; rfl))) rfl rfl rfl (by exact cZ) (by exact CEnt.osI rfl) (by exact cZ) (Nat.le_refl _) (fun _ _ => by exact cZ))
    refine jS (jtn ?_)
    refine jcr ?_;refine jq jrm ?_;refine jq jrm ?_;refine jq jrm ?_;refine jN ?_;refine jE (freeze 2 rfl) ?_
    first
      | refine jE (thawB 2 ((s.rows.getD 0 []).flatten) rfl rfl rfl rfl) ?_
      | refine jE (thawBL 2 [] rfl rfl rfl rfl .nil) ?_
    refine jR ?_
    have e : rdoneE s = 0 := by unfold rdoneE; rw [if_neg (by omega), if_neg (by omega), if_neg (by omega)]
    exact end_closeRW (.inl rfl) n s 1 (res_2 rfl javt javt) (CEnt.tup2 (CEnt.bs (by unfold rdoneB; rw [if_pos e]; done)) (CEnt.int (by rw [e]; rfl))) rfl rfl rfl (by exact cZ) (by exact CEnt.osI rfl) (by exact cZ) (Nat.le_refl _) (fun _ _ => by exact cZ)
end
section
variable {gs : List Nat} [Ok9 gs]
open Go.RowKit Cal

theorem okRD_tail {s : R8} (h : OkRD s) : OkR ⟨s.tags.take (s.tags.length - 1), s.rows, s.e⟩ := ⟨by have := h.ok.n; simp only [List.length_take]; omega, h.ok.r, h.ok.k⟩
theorem bodyF_if (t : Int) (l : List (List UInt8)) : bodyF (t, l) = if t = 49 then (sortL l).flatten else l.flatten := rfl
theorem in_take {l : List Int} {i : Nat} (h : i < l.length - 1) : inF l i = inF (l.take (l.length - 1)) i := by
  simp only [inF, List.getD_eq_getElem?_getD, List.getElem?_take, h, if_true]
def lsF (t : Int) (l : List (List UInt8)) : List (List UInt8) := if t = 49 then sortL l else l
theorem lsF_body (t : Int) (l : List (List UInt8)) : bodyF (t, l) = (lsF t l).flatten := by unfold lsF; rw [bodyF_if]; split <;> rfl
theorem lsF_len (t : Int) (l : List (List UInt8)) : (lsF t l).length = l.length ∧ sumL (lsF t l) = sumL l := by
  unfold lsF
  split
  · exact ⟨sortL_length l, sum_perm (sortL_perm l)⟩
  · exact ⟨rfl, rfl⟩
theorem body_tag (v : VV) : 0 ≤ (bodyV v).1 ∧ (bodyV v).1 < 256 := by
  unfold bodyV
  repeat' split
  all_goals (constructor <;> dsimp only <;> omega)
theorem bodyV_len {v : VV} (h : OkV v) : (bodyV v).2.1.length ≤ 1000000 := by
  have h1 := h.b
  have h2 := h.t
  have h3 := (putN_len v.n h.n.1 h.n.2).2
  have h4 := put_len v.t
  unfold bodyV
  split
  · show (putN v.n).length ≤ _; omega
  · split
    · show (putN v.n).length ≤ _; omega
    · split
      · show [if v.is then (255 : UInt8) else 0].length ≤ _; simp
      · split
        · exact h1
        · split
          · show (if askedM v.t v.n = 0 then v.t else []).length ≤ _; split <;> first | omega | simp
          · split
            · show (putM v.t).length ≤ _; omega
            · split
              · show (if inT v.n then bodyL (ofM v.n) else []).length ≤ _
                split
                · exact Nat.le_trans (Nat.le_of_eq (show (bodyL (ofM v.n)).length = 15 from rfl)) (by decide)
                · simp
              · show (bitsL v.n).length ≤ _
                unfold bitsL
                split
                · simp
                · rw [flags_len (by omega)]
                  have := (bl_is (m := v.n.toNat) (by omega)).2
                  omega
set_option maxHeartbeats 4000000 in
theorem rdoWB_ac {gs : List Nat} (n : Nat) (s : R8) (v : VV) (hs : OkRD s) (hv : OkV v) (hB : v.kind ≠ 1 → v.kind ≠ 2 → v.kind ≠ 11 → AC gs Tryz.prog 57 [] [valC v] (BodyQ v)) : AC gs Tryz.prog 25 [rwO n s] [.op 0 (some n) 0, valC v] (fun r H' => r = .c (.tuple #[]) ∧ H' = [rwO n (rdoS v s)]) := by
  have hsn := hs.ok.n
  have hsr := hs.ok.r
  have hvb := hv.b
  have hkk := okR_at hs.ok s.tags.length
  have hss := hs.sum s.tags.length
  refine ac_of 183 Tryz.func25 rfl rfl rfl (fun al w0 F0 St0 => ?_)
  refine jcr ?_
  refine jqe (jebx 5 fun p1 => ?_)
  refine jN ?_;refine jcs ?_;refine code_openRW 0 rfl fun gr => ?_;refine jE (freeze 1 rfl) ?_;refine jE (thawP 3 (m := 5) rfl rfl (by decide)) ?_
  dsimp only [List.set_cons_zero, List.set_cons_succ, List.cons_append, List.nil_append, List.length_cons, List.length_nil, Nat.zero_add, Nat.reduceAdd]
  refine jcr ?_;refine jq jrm ?_;refine jq jrnc ?_;refine jq (jrfa 2 1 false) ?_;refine jqo jrdo ?_;refine jq jrc ?_;refine jN ?_;refine jcc (fun h81 => ?_) fun h81 => ?_
  · refine jR (jtr ?_)
    rw [show rdoS v s = s by unfold rdoS; rw [if_pos (by omega)]]
    exact end_closeRW (.inl rfl) n s 2 (res_0 rfl) cZ rfl rfl rfl (by exact cZ) (by exact CEnt.osI rfl) (by exact cZ) (Nat.le_refl _) (fun _ _ => by exact cZ)
  refine jS (jtn ?_)
  refine jcr ?_;refine jq (jrfa 0 1 false) ?_;refine jq jrdr ?_;refine jN ?_;refine jB ?_;refine jcr ?_;refine jq jrc ?_;refine jq jrm ?_;refine jN ?_;refine jcc (fun h85 => ?_) fun h85 => ?_
  · refine jcr ?_;refine jq (jrfa 1 1 false) ?_;refine jq jrdr ?_
    refine jqe (jecP (rmade_ac v.n) ?_)
    refine jq jrn ?_;refine jN ?_;refine jcc (fun h86 => ?_) fun h86 => ?_
    · refine jcg ?_;refine jq jrm ?_;refine jq jrnc ?_;refine jq (jrfa 2 1 false) ?_
      refine jqm (jmstF 1 (rwB ⟨s.tags, s.rows, 5⟩ 2 gr) ?_ ?_)
      · exact (fun j hj => by rcases j with _ | _ | _ | j <;> exact cZ)
      refine jN ?_;refine jbn ?_
      rw [show rdoS v s = ⟨s.tags, s.rows, 5⟩ by unfold rdoS; rw [if_neg (by omega), if_pos (by omega)]; unfold ropenS; rw [if_pos (by simp [madeM] at h86 ⊢; omega)]]
      exact end_closeRW (.inr rfl) n ⟨s.tags, s.rows, 5⟩ 2 (res_0 rfl) cZ rfl rfl rfl (by exact cZ) (by exact CEnt.osI rfl) (by exact cZ) (Nat.le_refl _) (fun _ _ => by exact cZ)
    refine jcr ?_;refine jq jrm ?_;refine jq jrnc ?_;refine jq (jrfa 0 1 false) ?_;refine jqo jrdo ?_;refine jq jrl ?_;refine jq jrc ?_;refine jN ?_;refine jcc (fun h88 => ?_) fun h88 => ?_
    · refine jcg ?_;refine jq jrm ?_;refine jq jrnc ?_;refine jq (jrfa 2 1 false) ?_
      refine jqm (jmstF 1 (rwB ⟨s.tags, s.rows, 6⟩ 2 gr) ?_ ?_)
      · exact (fun j hj => by rcases j with _ | _ | _ | j <;> exact cZ)
      refine jN ?_;refine jbn ?_
      rw [show rdoS v s = ⟨s.tags, s.rows, 6⟩ by unfold rdoS; rw [if_neg (by omega), if_pos (by omega)]; unfold ropenS; rw [if_neg (by simp [madeM] at h86 ⊢; omega), if_pos (by omega)]]
      exact end_closeRW (.inr rfl) n ⟨s.tags, s.rows, 6⟩ 2 (res_0 rfl) cZ rfl rfl rfl (by exact cZ) (by exact CEnt.osI rfl) (by exact cZ) (Nat.le_refl _) (fun _ _ => by exact cZ)
    refine jcs ?_;refine jB ?_;refine l_loop (α := Nat × Option Nat) [56, 57, 58, 59, 60, 61, 62, 63, 64, 65, 66, 67, 68, 69, 70, 71, 72, 73, 74, 75, 76] (fun i => []) (fun (i, g) => [(some n, .blk 3 (rwB (moreS s i) 2 g)), (p1, .frz 5 (fl [.c (.int .i64 v.kind), .c (.int .i64 v.n), .c (.bool v.is), bsC v.b, strC v.t])), (g, .blk (moreS s i).rows.length (rowsF (moreS s i).rows))]) (fun i => i.1 ≤ s.tags.length + 2 - s.rows.length) (fun i => s.tags.length + 2 - s.rows.length - i.1) ((0, gr)) ?_ (fun _ => rfl) ?_ ?_ ?_
    · exact Nat.zero_le _
    · (repeat (exact EntE.nil))
    · (show HEnt _ [(some n, Res.blk 3 (rwB (moreS s 0) 2 gr)), _, (gr, .blk (moreS s 0).rows.length (rowsF (moreS s 0).rows))]; rw [show moreS s 0 = s by unfold moreS; simp]; exact HEnt.refl _)
    · rintro ⟨i, g⟩ (hi : i ≤ s.tags.length + 2 - s.rows.length)
      have hml : (moreS s i).rows.length = s.rows.length + i := by simp [moreS]
      have hmt : (moreS s i).tags.length = s.tags.length := rfl
      refine jcs ?_;refine jcs ?_;refine jcd (.rd 0 (.rd 1 (.rd 2 (.rd 3 (.rd 4 (.rd 5 (.rd 6 (.rd 7 (.rd 8 (.rd 9 (.rd 10 (.rd 11 .done)))))))))))) ?_;refine jyq jrm ?_;refine jyq jrnc ?_;refine jyq (jrfa 1 1 false) ?_;refine jyo jrdo ?_;refine jyq jrl ?_;refine jyq jrm ?_;refine jyq jrnc ?_;refine jyq (jrfa 0 1 false) ?_;refine jyo jrdo ?_;refine jyq jrl ?_;refine jyq jra ?_;refine jyq jrc ?_;refine jyd ?_;refine jtn ?_;refine jcc (fun h91 => ?_) fun h91 => ?_
      · refine jS (jtn ?_)
        refine jB ?_;refine jcg ?_;refine jq jrm ?_;refine jq jrm ?_;refine jq jrnc ?_;refine jq (jrfa 1 1 false) ?_;refine jqo jrdo ?_
        refine jqe (jebl 1 1 zr81 fun p2 => ?_)
        refine seq_ent (weakH 3 1 (rowsF [[]]) rfl (Nat.le_refl _) (fun j hj => by rcases j with _ | j <;> first | exact CEnt.nilS _ _ | omega)) ?_
        refine jqm (m_appendC rowC_rows (l2 := [[]]) rfl rfl rfl rfl (Nat.le_of_eq (Nat.mul_one _)) (fun _ _ => cZ) (src_os rfl (.inl rfl) (by decide)) rfl (fun j hj => by rw [Nat.zero_add]; exact cZ) Tryz.underlying57 nu57 sz81 zr81 by81 rfl (by simp; omega) (by simp; omega) (fun j hj => rfl) rfl rfl (Nat.mul_one _) (fun p3 => ?_))
        refine jq jrnc ?_;refine jq (jrfa 1 1 false) ?_
        refine jqm (jmstF 1 (rwB (moreS s (i + 1)) 2 p3) ?_ ?_)
        · exact (fun j hj => by rcases j with _ | _ | _ | j <;> first | exact cZ | exact CEnt.osI (by rw [more_succ]) | omega)
        refine jN ?_
        refine jbn (jtn ?_)
        refine jlend ((i + 1, p3)) ?_ ?_ (h7 := ?_)
        · (show i + 1 ≤ _; omega)
        · (show _ - (i + 1) < _ - i; omega)
        · simp only [more_succ]; exact HEnt.refl _
      refine jX (jte (jte (jbx (jtn ?_))))
      refine jcs ?_
      have hiE : i = s.tags.length + 2 - s.rows.length := by omega
      have hpl := pad_len (s.tags.length + 2) s.rows
      dsimp only
      rw [more_pad s i _ hiE]
      rw [more_pad s i _ hiE] at hml
      have hLl : ([] ++ s.tags ++ [v.n]).length = s.tags.length + 1 := by simp
      refine jcdZ (.rd 0 (.rd 2 (.rd 3 (.rd 4 (.rd 5 (.rd 7 (.rd 8 (.two 1 (.two 6 (.one 9 (.one 10 (.rd 11 (.rd 12 (.one 13 .done))))) 9 (.one 6 (.one 10 (.rd 11 (.rd 12 (.one 13 .done)))))) 9 (.one 1 (.one 6 (.one 10 (.rd 11 (.rd 12 (.one 13 .done)))))))))))))) ?_;refine jzq jrm ?_;refine jzq jrm ?_;refine jzq jrnc ?_;refine jzq (jrfa 0 1 false) ?_;refine jzo jrdo ?_;refine jzq (jrfa 1 1 false) ?_;refine jzq jrdr ?_;refine jztwo ?_ ?_
      · refine jze (jebl 0 1 zr3 fun p2 => ?_)
        refine jztwo ?_ ?_
        · refine jzm (m_appendC rowC_in (l := []) rfl rfl rfl rfl (Nat.zero_le _) (fun j hj => absurd hj (Nat.not_lt_zero j)) (src_rs rfl) rfl (fun j hj => by simp only [Nat.div_one]; exact cZ) Tryz.underlying51 nu51 sz3 zr3 by3 rfl (by (simp; omega)) (by (simp; omega)) (fun j hj => rfl) rfl rfl (Nat.mul_one _) (fun p3 => ?_))
          refine jze (jebl 1 1 zr3 fun p4 => ?_)
          refine jzm (m_appendC rowC_in (l2 := [v.n]) rfl rfl rfl rfl (by exact Nat.le_of_eq (Nat.mul_one _)) (fun _ _ => cZ) (src_os rfl (.inl rfl) (by decide)) rfl (hh_ints (.cons (CEnt.int (rfl)) .nil)) Tryz.underlying51 nu51 sz3 zr3 by3 rfl (by (simp; omega)) (by (simp; omega)) (leaf_flk rfl rfl) rfl rfl (Nat.mul_one _) (fun p5 => ?_))
          refine jzq jrnc ?_;refine jzq (jrfa 0 1 false) ?_
          refine jzm (jmst 1 ?_)
          refine jzd ?_;refine jtn ?_
          first
            | (refine jE (freeze 3 rfl) ?_; refine jE (thawC 0 0 3 (rwB ⟨([] ++ s.tags ++ [v.n]), padR (s.tags.length + 2) s.rows, s.e⟩ 2 g) (fun i _ => inF ([] ++ s.tags ++ [v.n]) i) rfl rfl cZ cZ (fun j hj h0 => by rcases j with _ | _ | _ | j <;> first | omega | exact cZ) (by simp) (fun a c ha hc => by obtain rfl : c = 0 := (by omega); rw [Nat.zero_add, Nat.mul_one, Nat.add_zero]; exact cZ)) ?_; dsimp only [List.set_cons_zero, List.set_cons_succ, List.cons_append, List.nil_append, List.length_cons, List.length_nil, Nat.zero_add, Nat.reduceAdd])
            | (refine jE (freeze 4 rfl) ?_; refine jE (thawC 0 0 4 (rwB ⟨([] ++ s.tags ++ [v.n]), padR (s.tags.length + 2) s.rows, s.e⟩ 2 g) (fun i _ => inF ([] ++ s.tags ++ [v.n]) i) rfl rfl cZ cZ (fun j hj h0 => by rcases j with _ | _ | _ | j <;> first | omega | exact cZ) (by simp) (fun a c ha hc => by obtain rfl : c = 0 := (by omega); rw [Nat.zero_add, Nat.mul_one, Nat.add_zero]; exact cZ)) ?_; dsimp only [List.set_cons_zero, List.set_cons_succ, List.cons_append, List.nil_append, List.length_cons, List.length_nil, Nat.zero_add, Nat.reduceAdd])
          refine jcdB 10 (.rd 0 (.rd 1 (.rd 2 (.rd 3 (.rd 4 (.rd 5 (.rd 6 (.rd 7 (.rd 8 (.rd 9 .done)))))))))) ?_;refine jyq jrm ?_;refine jyq jrnc ?_;refine jyq (jrfa 1 1 false) ?_;refine jyo jrdo ?_;refine jyq jrm ?_;refine jyq jrnc ?_;refine jyq (jrfa 0 1 false) ?_;refine jyo jrdo ?_;refine jyq jrl ?_;refine jyq (jri (i := ([] ++ s.tags ++ [v.n]).length) (hz := by (simp only [List.length_append, List.length_cons, List.length_nil]; omega))) ?_;refine jyd ?_
          show ASeq _ _ _ _ _ _
          refine jqm (jmstF 1 (rowsF ((padR (s.tags.length + 2) s.rows).set ([] ++ s.tags ++ [v.n]).length [])) ?_ ?_)
          · exact (fun j hj => rows_set (CEnt.nilS _ _) hj)
          refine jN ?_;refine jbn ?_
          rw [show rdoS v s = ⟨([] ++ s.tags ++ [v.n]), (padR (s.tags.length + 2) s.rows).set (s.tags.length + 1) [], s.e⟩ by unfold rdoS; rw [if_neg (by omega), if_pos (by omega)]; unfold ropenS; rw [if_neg (by simp [madeM] at h86 ⊢; omega), if_neg (by omega)]; rfl]
          exact end_closeRW (.inr rfl) n ⟨([] ++ s.tags ++ [v.n]), (padR (s.tags.length + 2) s.rows).set (s.tags.length + 1) [], s.e⟩ 2 (res_0 rfl) cZ rfl rfl rfl (by exact cZ) (by exact CEnt.osI (by simp)) (by exact cZ) (by simp) (fun _ _ => by rw [hLl]; exact cZ)
        · refine jze (jebl 1 1 zr3 fun p3 => ?_)
          refine jzm (m_appendC rowC_in (l := []) rfl rfl rfl rfl (Nat.zero_le _) (fun j hj => absurd hj (Nat.not_lt_zero j)) (src_rs rfl) rfl (fun j hj => by simp only [Nat.div_one]; exact cZ) Tryz.underlying51 nu51 sz3 zr3 by3 rfl (by (simp; omega)) (by (simp; omega)) (fun j hj => rfl) rfl rfl (Nat.mul_one _) (fun p4 => ?_))
          refine jzm (m_appendC rowC_in (l2 := [v.n]) rfl rfl rfl rfl (by exact Nat.le_of_eq (Nat.mul_one _)) (fun _ _ => cZ) (src_os rfl (.inl rfl) (by decide)) rfl (hh_ints (.cons (CEnt.int (rfl)) .nil)) Tryz.underlying51 nu51 sz3 zr3 by3 rfl (by (simp; omega)) (by (simp; omega)) (leaf_flk rfl rfl) rfl rfl (Nat.mul_one _) (fun p5 => ?_))
          refine jzq jrnc ?_;refine jzq (jrfa 0 1 false) ?_
          refine jzm (jmst 1 ?_)
          refine jzd ?_;refine jtn ?_
          first
            | (refine jE (freeze 3 rfl) ?_; refine jE (thawC 0 0 3 (rwB ⟨([] ++ s.tags ++ [v.n]), padR (s.tags.length + 2) s.rows, s.e⟩ 2 g) (fun i _ => inF ([] ++ s.tags ++ [v.n]) i) rfl rfl cZ cZ (fun j hj h0 => by rcases j with _ | _ | _ | j <;> first | omega | exact cZ) (by simp) (fun a c ha hc => by obtain rfl : c = 0 := (by omega); rw [Nat.zero_add, Nat.mul_one, Nat.add_zero]; exact cZ)) ?_; dsimp only [List.set_cons_zero, List.set_cons_succ, List.cons_append, List.nil_append, List.length_cons, List.length_nil, Nat.zero_add, Nat.reduceAdd])
            | (refine jE (freeze 4 rfl) ?_; refine jE (thawC 0 0 4 (rwB ⟨([] ++ s.tags ++ [v.n]), padR (s.tags.length + 2) s.rows, s.e⟩ 2 g) (fun i _ => inF ([] ++ s.tags ++ [v.n]) i) rfl rfl cZ cZ (fun j hj h0 => by rcases j with _ | _ | _ | j <;> first | omega | exact cZ) (by simp) (fun a c ha hc => by obtain rfl : c = 0 := (by omega); rw [Nat.zero_add, Nat.mul_one, Nat.add_zero]; exact cZ)) ?_; dsimp only [List.set_cons_zero, List.set_cons_succ, List.cons_append, List.nil_append, List.length_cons, List.length_nil, Nat.zero_add, Nat.reduceAdd])
          refine jcdB 10 (.rd 0 (.rd 1 (.rd 2 (.rd 3 (.rd 4 (.rd 5 (.rd 6 (.rd 7 (.rd 8 (.rd 9 .done)))))))))) ?_;refine jyq jrm ?_;refine jyq jrnc ?_;refine jyq (jrfa 1 1 false) ?_;refine jyo jrdo ?_;refine jyq jrm ?_;refine jyq jrnc ?_;refine jyq (jrfa 0 1 false) ?_;refine jyo jrdo ?_;refine jyq jrl ?_;refine jyq (jri (i := ([] ++ s.tags ++ [v.n]).length) (hz := by (simp only [List.length_append, List.length_cons, List.length_nil]; omega))) ?_;refine jyd ?_
          show ASeq _ _ _ _ _ _
          refine jqm (jmstF 1 (rowsF ((padR (s.tags.length + 2) s.rows).set ([] ++ s.tags ++ [v.n]).length [])) ?_ ?_)
          · exact (fun j hj => rows_set (CEnt.nilS _ _) hj)
          refine jN ?_;refine jbn ?_
          rw [show rdoS v s = ⟨([] ++ s.tags ++ [v.n]), (padR (s.tags.length + 2) s.rows).set (s.tags.length + 1) [], s.e⟩ by unfold rdoS; rw [if_neg (by omega), if_pos (by omega)]; unfold ropenS; rw [if_neg (by simp [madeM] at h86 ⊢; omega), if_neg (by omega)]; rfl]
          exact end_closeRW (.inr rfl) n ⟨([] ++ s.tags ++ [v.n]), (padR (s.tags.length + 2) s.rows).set (s.tags.length + 1) [], s.e⟩ 2 (res_0 rfl) cZ rfl rfl rfl (by exact cZ) (by exact CEnt.osI (by simp)) (by exact cZ) (by simp) (fun _ _ => by rw [hLl]; exact cZ)
      · refine jze (jebl 1 1 zr3 fun p2 => ?_)
        refine jze (jebl 0 1 zr3 fun p3 => ?_)
        refine jzm (m_appendC rowC_in (l := []) rfl rfl rfl rfl (Nat.zero_le _) (fun j hj => absurd hj (Nat.not_lt_zero j)) (src_rs rfl) rfl (fun j hj => by simp only [Nat.div_one]; exact cZ) Tryz.underlying51 nu51 sz3 zr3 by3 rfl (by (simp; omega)) (by (simp; omega)) (fun j hj => rfl) rfl rfl (Nat.mul_one _) (fun p4 => ?_))
        refine jzm (m_appendC rowC_in (l2 := [v.n]) rfl rfl rfl rfl (by exact Nat.le_of_eq (Nat.mul_one _)) (fun _ _ => cZ) (src_os rfl (.inl rfl) (by decide)) rfl (hh_ints (.cons (CEnt.int (rfl)) .nil)) Tryz.underlying51 nu51 sz3 zr3 by3 rfl (by (simp; omega)) (by (simp; omega)) (leaf_flk rfl rfl) rfl rfl (Nat.mul_one _) (fun p5 => ?_))
        refine jzq jrnc ?_;refine jzq (jrfa 0 1 false) ?_
        refine jzm (jmst 1 ?_)
        refine jzd ?_;refine jtn ?_
        first
          | (refine jE (freeze 3 rfl) ?_; refine jE (thawC 0 0 3 (rwB ⟨([] ++ s.tags ++ [v.n]), padR (s.tags.length + 2) s.rows, s.e⟩ 2 g) (fun i _ => inF ([] ++ s.tags ++ [v.n]) i) rfl rfl cZ cZ (fun j hj h0 => by rcases j with _ | _ | _ | j <;> first | omega | exact cZ) (by simp) (fun a c ha hc => by obtain rfl : c = 0 := (by omega); rw [Nat.zero_add, Nat.mul_one, Nat.add_zero]; exact cZ)) ?_; dsimp only [List.set_cons_zero, List.set_cons_succ, List.cons_append, List.nil_append, List.length_cons, List.length_nil, Nat.zero_add, Nat.reduceAdd])
          | (refine jE (freeze 4 rfl) ?_; refine jE (thawC 0 0 4 (rwB ⟨([] ++ s.tags ++ [v.n]), padR (s.tags.length + 2) s.rows, s.e⟩ 2 g) (fun i _ => inF ([] ++ s.tags ++ [v.n]) i) rfl rfl cZ cZ (fun j hj h0 => by rcases j with _ | _ | _ | j <;> first | omega | exact cZ) (by simp) (fun a c ha hc => by obtain rfl : c = 0 := (by omega); rw [Nat.zero_add, Nat.mul_one, Nat.add_zero]; exact cZ)) ?_; dsimp only [List.set_cons_zero, List.set_cons_succ, List.cons_append, List.nil_append, List.length_cons, List.length_nil, Nat.zero_add, Nat.reduceAdd])
        refine jcdB 10 (.rd 0 (.rd 1 (.rd 2 (.rd 3 (.rd 4 (.rd 5 (.rd 6 (.rd 7 (.rd 8 (.rd 9 .done)))))))))) ?_;refine jyq jrm ?_;refine jyq jrnc ?_;refine jyq (jrfa 1 1 false) ?_;refine jyo jrdo ?_;refine jyq jrm ?_;refine jyq jrnc ?_;refine jyq (jrfa 0 1 false) ?_;refine jyo jrdo ?_;refine jyq jrl ?_;refine jyq (jri (i := ([] ++ s.tags ++ [v.n]).length) (hz := by (simp only [List.length_append, List.length_cons, List.length_nil]; omega))) ?_;refine jyd ?_
        show ASeq _ _ _ _ _ _
        refine jqm (jmstF 1 (rowsF ((padR (s.tags.length + 2) s.rows).set ([] ++ s.tags ++ [v.n]).length [])) ?_ ?_)
        · exact (fun j hj => rows_set (CEnt.nilS _ _) hj)
        refine jN ?_;refine jbn ?_
        rw [show rdoS v s = ⟨([] ++ s.tags ++ [v.n]), (padR (s.tags.length + 2) s.rows).set (s.tags.length + 1) [], s.e⟩ by unfold rdoS; rw [if_neg (by omega), if_pos (by omega)]; unfold ropenS; rw [if_neg (by simp [madeM] at h86 ⊢; omega), if_neg (by omega)]; rfl]
        exact end_closeRW (.inr rfl) n ⟨([] ++ s.tags ++ [v.n]), (padR (s.tags.length + 2) s.rows).set (s.tags.length + 1) [], s.e⟩ 2 (res_0 rfl) cZ rfl rfl rfl (by exact cZ) (by exact CEnt.osI (by simp)) (by exact cZ) (by simp) (fun _ _ => by rw [hLl]; exact cZ)
  refine jcr ?_;refine jq jrc ?_;refine jq jrm ?_;refine jN ?_;refine jcc (fun h97 => ?_) fun h97 => ?_
  rotate_left
  · refine jcr ?_;refine jq jrc ?_;refine jq jrm ?_;refine jN ?_;refine jcc (fun h114 => ?_) fun h114 => ?_
    · refine jcr ?_;refine jq (jrfa 3 1 false) ?_;refine jq jrdr ?_
      refine jqe (jecP (rcheck_ac v.b hvb) ?_)
      refine jq jrm ?_;refine jq jrx ?_;refine jq jrx ?_;refine jq jrm ?_;refine jq jrm ?_;refine jN ?_;refine jcs ?_;refine jcr ?_;refine jq jrm ?_;refine jq jrc ?_;refine jN ?_;refine jcc (fun h116 => ?_) fun h116 => ?_
      · refine jcr ?_;refine jq jrm ?_;refine jq jrm ?_;refine jq jrnc ?_;refine jq (jrfa 2 1 false) ?_
        refine jqm (jmstF 1 (rwB ⟨s.tags, s.rows, (depthM v.b).2⟩ 2 gr) ?_ ?_)
        · exact (fun j hj => by rcases j with _ | _ | _ | j <;> exact cZ)
        refine jN ?_
        refine jR (jtr (jbr ?_))
        rw [show rdoS v s = ⟨s.tags, s.rows, (depthM v.b).2⟩ by unfold rdoS; rw [if_neg (by omega), if_neg (by omega), if_neg (by omega), if_pos (by omega), if_pos (by omega)]]
        exact end_closeRW (.inl rfl) n ⟨s.tags, s.rows, (depthM v.b).2⟩ 2 (res_0 rfl) cZ rfl rfl rfl (by exact cZ) (by exact CEnt.osI rfl) (by exact cZ) (Nat.le_refl _) (fun _ _ => by exact cZ)
      refine jS (jtn ?_)
      refine jcg ?_;refine jq jrm ?_
      refine jqe (jebl 0 1 zr5 fun p2 => ?_)
      refine jq (jrfa 3 1 false) ?_;refine jq jrdr ?_
      first | refine jqm (m_appendB (l := []) rfl rfl rfl (Nat.zero_le _) (fun j hj => absurd hj (Nat.not_lt_zero j)) (src_rs rfl) rfl (fun j hj => by simp only [Nat.div_one]; exact cZ) Tryz.underlying22 nu22 sz5 zr5 by5 rfl (by (simp; omega)) (fun j hj => rfl) rfl rfl (fun p3 => ?_)) | refine jqm (m_appendB (l := []) rfl rfl rfl (Nat.zero_le _) (fun j hj => absurd hj (Nat.not_lt_zero j)) (src_str rfl) rfl (fun j hj => cZ) Tryz.underlying22 nu22 sz5 zr5 by5 rfl (by first | omega | (simp; done) | (simp; omega) | (simp at *; omega)) (fun j hj => rfl) rfl rfl (fun p3 => ?_)) | refine jqm (m_appendB (l := []) rfl rfl rfl (Nat.zero_le _) (fun j hj => absurd hj (Nat.not_lt_zero j)) (src_os rfl (.inl rfl) (by omega)) rfl (fun j hj => by rw [Nat.zero_add]; exact cZ) Tryz.underlying22 nu22 sz5 zr5 by5 rfl (by first | omega | (simp; done) | (simp; omega) | (simp at *; omega)) (fun j hj => rfl) rfl rfl (fun p3 => ?_))
      refine seq_ent (freeze 3 rfl) ?_;refine seq_ent (thawB 181 ([] ++ v.b) rfl rfl rfl rfl) ?_;refine seq_ent (closeRW n s 0 2 rfl rfl rfl cZ (CEnt.osI rfl) cZ (Nat.le_refl _) (fun _ _ => cZ)) ?_
      refine jqm (jmcH 0 (radd08_ac n s ([] ++ v.b) hs.ok) ?_)
      rintro _ _ ⟨rfl, rfl⟩
      refine ⟨_, _, rfl, cZ, ?_⟩
      refine jN ?_;refine jbn ?_
      rw [show rdoS v s = raddS ([] ++ v.b) s by unfold rdoS; rw [if_neg (by omega), if_neg (by omega), if_neg (by omega), if_pos (by omega), if_neg (by omega)]; rfl]
      exact end_own (.inr rfl) _ [_] [0] (by decide) rfl (res_0 rfl) ⟨rfl, rfl⟩
    refine jcr ?_;refine jq (jrdrA 5) ?_
    refine jqe (jecS (hB (by omega) (by omega) (by omega)) ?_)
    rintro _ _ ⟨⟨bb, rfl, hbb⟩, rfl⟩
    refine jq jrm ?_;refine jq jrx ?_;refine jq jrx ?_;refine jq jrx ?_;refine jq jrm ?_;refine jq jrm ?_;refine jq jrm ?_;refine jN ?_;refine jcs ?_;refine jcr ?_;refine jq jrm ?_;refine jq jrc ?_;refine jN ?_;refine jcc (fun h123 => ?_) fun h123 => ?_
    · refine jcr ?_;refine jq jrm ?_;refine jq jrm ?_;refine jq jrnc ?_;refine jq (jrfa 2 1 false) ?_
      refine jqm (jmstF 1 (rwB ⟨s.tags, s.rows, (bodyV v).2.2⟩ 2 gr) ?_ ?_)
      · exact (fun j hj => by rcases j with _ | _ | _ | j <;> exact cZ)
      refine jN ?_
      refine jR (jtr (jbr ?_))
      rw [show rdoS v s = ⟨s.tags, s.rows, (bodyV v).2.2⟩ by unfold rdoS; rw [if_neg (by omega), if_neg (by omega), if_neg (by omega), if_neg (by omega), if_pos (by omega)]]
      exact end_closeRW (.inl rfl) n ⟨s.tags, s.rows, (bodyV v).2.2⟩ 2 (res_0 rfl) cZ rfl rfl rfl (by exact cZ) (by exact CEnt.osI rfl) (by exact cZ) (Nat.le_refl _) (fun _ _ => by exact cZ)
    refine jS (jtn ?_)
    have hb0 : bb = (bodyV v).2.1 := hbb (by omega)
    subst hb0
    refine jE (closeRW n s 0 2 rfl rfl rfl cZ (CEnt.osI rfl) cZ (Nat.le_refl _) (fun _ _ => cZ)) ?_
    dsimp only [List.set_cons_zero, List.set_cons_succ, List.cons_append, List.nil_append, List.length_cons, List.length_nil, Nat.zero_add, Nat.reduceAdd]
    refine jcg ?_;refine jq jrm ?_;refine jq jrm ?_;refine jq jrm ?_
    refine jqm (jmcH 0 (rput08_ac n s (bodyV v).1 (bodyV v).2.1 hs.ok (body_tag v) (bodyV_len hv)) ?_)
    rintro _ _ ⟨rfl, rfl⟩
    refine ⟨_, _, rfl, cZ, ?_⟩
    refine jN ?_;refine jbn ?_
    rw [show rdoS v s = rputS (bodyV v).1 (bodyV v).2.1 s by unfold rdoS; rw [if_neg (by omega), if_neg (by omega), if_neg (by omega), if_neg (by omega), if_neg (by omega)]]
    exact end_own (.inr rfl) _ [_] [0] (by decide) rfl (res_0 rfl) ⟨rfl, rfl⟩
  refine jcr ?_;refine jq jrm ?_;refine jq jrnc ?_;refine jq (jrfa 0 1 false) ?_;refine jqo jrdo ?_;refine jq jrl ?_;refine jq jrm ?_;refine jN ?_;refine jcs ?_;refine jcr ?_;refine jq jrm ?_;refine jq jrc ?_;refine jN ?_;refine jcc (fun h99 => ?_) fun h99 => ?_
  · refine jcr ?_;refine jq jrm ?_;refine jq jrnc ?_;refine jq (jrfa 2 1 false) ?_
    refine jqm (jmstF 1 (rwB ⟨s.tags, s.rows, 24⟩ 2 gr) ?_ ?_)
    · exact (fun j hj => by rcases j with _ | _ | _ | j <;> exact cZ)
    refine jN ?_
    refine jR (jtr (jbr ?_))
    rw [show rdoS v s = ⟨s.tags, s.rows, 24⟩ by unfold rdoS; rw [if_neg (by omega), if_neg (by omega), if_pos (by omega)]; unfold rcloseS; rw [if_pos (by omega)]]
    exact end_closeRW (.inl rfl) n ⟨s.tags, s.rows, 24⟩ 2 (res_0 rfl) cZ rfl rfl rfl (by exact cZ) (by exact CEnt.osI rfl) (by exact cZ) (Nat.le_refl _) (fun _ _ => by exact cZ)
  refine jS (jtn ?_)
  have hlt := hs.lt (by omega)
  have hmem : (s.tags.getD (s.tags.length - 1) 0) ∈ s.tags := getD_mem' 0 (by omega)
  have htg := hs.tag _ hmem
  have hll := lsF_len (s.tags.getD (s.tags.length - 1) 0) (s.rows.getD s.tags.length [])
  refine jcr ?_;refine jq jrm ?_;refine jq jrnc ?_;refine jq (jrfa 1 1 false) ?_;refine jqo jrdo ?_;refine jq jrm ?_;refine jq jri ?_;refine jqo jrdo ?_;refine jq jrm ?_;refine jN ?_;refine jcs ?_;refine jcr ?_;refine jq jrm ?_;refine jq jrnc ?_;refine jq (jrfa 0 1 false) ?_;refine jqo jrdo ?_;refine jq jrm ?_;refine jq jra ?_;refine jq (jri (i := (s.tags.length - 1)) (hz := by omega)) ?_;refine jq jrdr ?_;refine jq jrc ?_;refine jN ?_;refine jcc (fun h104 => ?_) fun h104 => ?_
  rotate_left
  · refine jS (jtn ?_)
    first
      | refine jE (weaken 5 (lbC (lsF (s.tags.getD (s.tags.length - 1) 0) (s.rows.getD s.tags.length []))) (by unfold lsF; rw [if_pos h104]; exact cZ)) ?_
      | refine jE (weaken 5 (lbC (lsF (s.tags.getD (s.tags.length - 1) 0) (s.rows.getD s.tags.length []))) (by unfold lsF; rw [if_neg h104]; exact cZ)) ?_
    refine jcr ?_
    refine jqe (jebl 0 1 zr5 fun p2 => ?_)
    refine jq jrm ?_;refine jN ?_;refine jcs ?_;refine jcr ?_;refine jq jrm ?_;refine jq jrl ?_;refine jq jrm ?_;refine jN ?_;refine jB ?_;refine l_loop (α := Nat × Option Nat) [6, 8, 133, 134, 135, 136, 137, 138, 139, 140] (fun (i, g) => [(6, .os 3 g 0 (((lsF (s.tags.getD (s.tags.length - 1) 0) (s.rows.getD s.tags.length [])).take i).flatten).length 1), (133, .c (.int .i64 (i : Nat)))]) (fun (i, g) => [(some n, .blk 3 (rwB s 2 gr)), (p1, .frz 5 (fl [.c (.int .i64 v.kind), .c (.int .i64 v.n), .c (.bool v.is), bsC v.b, strC v.t])), (gr, .blk s.rows.length (rowsF s.rows)), (g, .blk (((lsF (s.tags.getD (s.tags.length - 1) 0) (s.rows.getD s.tags.length [])).take i).flatten).length (byF ((lsF (s.tags.getD (s.tags.length - 1) 0) (s.rows.getD s.tags.length [])).take i).flatten))]) (fun i => i.1 ≤ (lsF (s.tags.getD (s.tags.length - 1) 0) (s.rows.getD s.tags.length [])).length) (fun i => (lsF (s.tags.getD (s.tags.length - 1) 0) (s.rows.getD s.tags.length [])).length - i.1) ((0, p2)) ?_ (fun _ => rfl) ?_ ?_ ?_
    · exact Nat.zero_le _
    · exact .cons (CEnt.osI rfl) (.cons cZ .nil)
    · exact .same (.same (.same (.blk rfl (fun j hj => absurd hj (Nat.not_lt_zero j)) .nil)))
    · rintro ⟨i, g⟩ (hi : i ≤ (lsF (s.tags.getD (s.tags.length - 1) 0) (s.rows.getD s.tags.length [])).length)
      refine jcr ?_;refine jq jrc ?_;refine jN ?_;refine jcs ?_;refine jcc (fun h108 => ?_) fun h108 => ?_
      · refine jS (jtn ?_)
        refine jcs ?_;refine jB ?_;refine jcr ?_;refine jq jri ?_;refine jq jrdr ?_;refine jq jrm ?_;refine jN ?_
        have hf1 := sumL_take (ls := (lsF (s.tags.getD (s.tags.length - 1) 0) (s.rows.getD s.tags.length []))) (i := i) (by omega)
        have hf2 := sumL_le (lsF (s.tags.getD (s.tags.length - 1) 0) (s.rows.getD s.tags.length [])) (i + 1)
        have hf3 := flat_len ((lsF (s.tags.getD (s.tags.length - 1) 0) (s.rows.getD s.tags.length [])).take i)
        refine jcg ?_;refine jq jrm ?_;refine jq jrm ?_
        first | refine jqm (m_appendB rfl rfl rfl (Nat.le_refl _) (fun _ _ => cZ) (src_rs rfl) rfl (fun j hj => by simp only [Nat.div_one]; exact cZ) Tryz.underlying22 nu22 sz5 zr5 by5 rfl (by omega) (fun j hj => rfl) rfl rfl (fun p3 => ?_)) | refine jqm (m_appendB rfl rfl rfl (Nat.le_refl _) (fun _ _ => cZ) (src_str rfl) rfl (fun j hj => cZ) Tryz.underlying22 nu22 sz5 zr5 by5 rfl (by first | omega | (simp; done) | (simp; omega) | (simp at *; omega)) (fun j hj => rfl) rfl rfl (fun p3 => ?_)) | refine jqm (m_appendB rfl rfl rfl (Nat.le_refl _) (fun _ _ => cZ) (src_os rfl (.inl rfl) (by omega)) rfl (fun j hj => by rw [Nat.zero_add]; exact cZ) Tryz.underlying22 nu22 sz5 zr5 by5 rfl (by first | omega | (simp; done) | (simp; omega) | (simp at *; omega)) (fun j hj => rfl) rfl rfl (fun p3 => ?_))
        refine jq jrm ?_;refine jN ?_
        refine jbn (jtn ?_)
        refine jcg ?_;refine jq jra ?_;refine jq jrm ?_;refine jN ?_;refine jtn ?_
        refine jlend ((i + 1, p3)) ?_ ?_ (h5 := ?_) (h7 := ?_)
        · show i + 1 ≤ (lsF (s.tags.getD (s.tags.length - 1) 0) (s.rows.getD s.tags.length [])).length; omega
        · show (lsF (s.tags.getD (s.tags.length - 1) 0) (s.rows.getD s.tags.length [])).length - (i + 1) < (lsF (s.tags.getD (s.tags.length - 1) 0) (s.rows.getD s.tags.length [])).length - i; omega
        · simp only [flat_take (show i < (lsF (s.tags.getD (s.tags.length - 1) 0) (s.rows.getD s.tags.length [])).length by omega)]
          exact .cons (CEnt.osI rfl) (.cons (CEnt.int (by omega)) .nil)
        · simp only [flat_take (show i < (lsF (s.tags.getD (s.tags.length - 1) 0) (s.rows.getD s.tags.length [])).length by omega)]
          exact .same (.same (.same (.same .nil)))
      refine jX (jte (jte (jbx (jtn ?_))))
      have hiE : i = (lsF (s.tags.getD (s.tags.length - 1) 0) (s.rows.getD s.tags.length [])).length := by omega
      subst hiE
      dsimp only
      rw [List.take_length]
      refine jcr ?_;refine jq jrm ?_;refine jq jrnc ?_;refine jq (jrfa 0 1 false) ?_;refine jqo jrdo ?_;refine jq jrm ?_;refine jq jra ?_;refine jq (jri (i := (s.tags.length - 1)) (hz := by omega)) ?_;refine jq jrdr ?_;refine jq jrm ?_;refine jN ?_;refine jcr ?_;refine jq jrm ?_;refine jq jrm ?_;refine jq jrnc ?_;refine jq (jrfa 0 1 false) ?_;refine jqo jrdo ?_;refine jq jrm ?_;refine jq jra ?_;refine jq (jrsr (hl := (bd_none _ _)) (hu := (bd_some rfl (show _ = (((s.tags.length - 1) : Nat) : Int) by omega)))) ?_;refine jq jrnc ?_;refine jq (jrfa 0 1 false) ?_
      refine jqm (jmstF 1 (rwB ⟨s.tags.take (s.tags.length - 1), s.rows, s.e⟩ 2 gr) ?_ ?_)
      · exact (fun j hj => by rcases j with _ | _ | _ | j <;> first | exact CEnt.rs (by rw [List.length_take]; omega) (fun i q hi hq => CEnt.of_eq (by rw [Nat.zero_add]; exact in_take hi)) | exact cZ | omega)
      refine jN ?_;refine jE (freeze 3 rfl) ?_;refine jE (thawB 6 ((lsF (s.tags.getD (s.tags.length - 1) 0) (s.rows.getD s.tags.length [])).flatten) rfl rfl rfl rfl) ?_;refine jE (closeRW n ⟨s.tags.take (s.tags.length - 1), s.rows, s.e⟩ 0 2 rfl rfl rfl cZ (CEnt.osI rfl) cZ (Nat.le_refl _) (fun _ _ => cZ)) ?_
      dsimp only [List.set_cons_zero, List.set_cons_succ, List.cons_append, List.nil_append, List.length_cons, List.length_nil, Nat.zero_add, Nat.reduceAdd]
      refine jcg ?_;refine jq jrm ?_;refine jq jrm ?_;refine jq jrm ?_
      refine jqm (jmcH 0 (rput08_ac n ⟨s.tags.take (s.tags.length - 1), s.rows, s.e⟩ (s.tags.getD (s.tags.length - 1) 0) ((lsF (s.tags.getD (s.tags.length - 1) 0) (s.rows.getD s.tags.length [])).flatten) (okRD_tail hs) htg (by rw [flat_len]; omega)) ?_)
      rintro _ _ ⟨rfl, rfl⟩
      refine ⟨_, _, rfl, cZ, ?_⟩
      refine jN ?_;refine jbn ?_
      rw [show rdoS v s = rputS (s.tags.getD (s.tags.length - 1) 0) ((lsF (s.tags.getD (s.tags.length - 1) 0) (s.rows.getD s.tags.length [])).flatten) ⟨s.tags.take (s.tags.length - 1), s.rows, s.e⟩ by unfold rdoS; rw [if_neg (by omega), if_neg (by omega), if_pos (by omega)]; unfold rcloseS; rw [if_neg (by omega), lsF_body]]
      exact end_own (.inr rfl) _ [_] [0] (by decide) rfl (res_0 rfl) ⟨rfl, rfl⟩
  refine jcg ?_;refine jq jrm ?_
  refine jqe (jecP (rsorted07_ac (s.rows.getD s.tags.length []) hkk) ?_)
  refine jq jrm ?_;refine jN ?_;refine jtn ?_
  first
    | refine jE (weaken 5 (lbC (lsF (s.tags.getD (s.tags.length - 1) 0) (s.rows.getD s.tags.length []))) (by unfold lsF; rw [if_pos h104]; exact cZ)) ?_
    | refine jE (weaken 5 (lbC (lsF (s.tags.getD (s.tags.length - 1) 0) (s.rows.getD s.tags.length []))) (by unfold lsF; rw [if_neg h104]; exact cZ)) ?_
  refine jcr ?_
  refine jqe (jebl 0 1 zr5 fun p2 => ?_)
  refine jq jrm ?_;refine jN ?_;refine jcs ?_;refine jcr ?_;refine jq jrm ?_;refine jq jrl ?_;refine jq jrm ?_;refine jN ?_;refine jB ?_;refine l_loop (α := Nat × Option Nat) [6, 8, 133, 134, 135, 136, 137, 138, 139, 140] (fun (i, g) => [(6, .os 3 g 0 (((lsF (s.tags.getD (s.tags.length - 1) 0) (s.rows.getD s.tags.length [])).take i).flatten).length 1), (133, .c (.int .i64 (i : Nat)))]) (fun (i, g) => [(some n, .blk 3 (rwB s 2 gr)), (p1, .frz 5 (fl [.c (.int .i64 v.kind), .c (.int .i64 v.n), .c (.bool v.is), bsC v.b, strC v.t])), (gr, .blk s.rows.length (rowsF s.rows)), (g, .blk (((lsF (s.tags.getD (s.tags.length - 1) 0) (s.rows.getD s.tags.length [])).take i).flatten).length (byF ((lsF (s.tags.getD (s.tags.length - 1) 0) (s.rows.getD s.tags.length [])).take i).flatten))]) (fun i => i.1 ≤ (lsF (s.tags.getD (s.tags.length - 1) 0) (s.rows.getD s.tags.length [])).length) (fun i => (lsF (s.tags.getD (s.tags.length - 1) 0) (s.rows.getD s.tags.length [])).length - i.1) ((0, p2)) ?_ (fun _ => rfl) ?_ ?_ ?_
  · exact Nat.zero_le _
  · exact .cons (CEnt.osI rfl) (.cons cZ .nil)
  · exact .same (.same (.same (.blk rfl (fun j hj => absurd hj (Nat.not_lt_zero j)) .nil)))
  · rintro ⟨i, g⟩ (hi : i ≤ (lsF (s.tags.getD (s.tags.length - 1) 0) (s.rows.getD s.tags.length [])).length)
    refine jcr ?_;refine jq jrc ?_;refine jN ?_;refine jcs ?_;refine jcc (fun h108 => ?_) fun h108 => ?_
    · refine jS (jtn ?_)
      refine jcs ?_;refine jB ?_;refine jcr ?_;refine jq jri ?_;refine jq jrdr ?_;refine jq jrm ?_;refine jN ?_
      have hf1 := sumL_take (ls := (lsF (s.tags.getD (s.tags.length - 1) 0) (s.rows.getD s.tags.length []))) (i := i) (by omega)
      have hf2 := sumL_le (lsF (s.tags.getD (s.tags.length - 1) 0) (s.rows.getD s.tags.length [])) (i + 1)
      have hf3 := flat_len ((lsF (s.tags.getD (s.tags.length - 1) 0) (s.rows.getD s.tags.length [])).take i)
      refine jcg ?_;refine jq jrm ?_;refine jq jrm ?_
      first | refine jqm (m_appendB rfl rfl rfl (Nat.le_refl _) (fun _ _ => cZ) (src_rs rfl) rfl (fun j hj => by simp only [Nat.div_one]; exact cZ) Tryz.underlying22 nu22 sz5 zr5 by5 rfl (by omega) (fun j hj => rfl) rfl rfl (fun p3 => ?_)) | refine jqm (m_appendB rfl rfl rfl (Nat.le_refl _) (fun _ _ => cZ) (src_str rfl) rfl (fun j hj => cZ) Tryz.underlying22 nu22 sz5 zr5 by5 rfl (by first | omega | (simp; done) | (simp; omega) | (simp at *; omega)) (fun j hj => rfl) rfl rfl (fun p3 => ?_)) | refine jqm (m_appendB rfl rfl rfl (Nat.le_refl _) (fun _ _ => cZ) (src_os rfl (.inl rfl) (by omega)) rfl (fun j hj => by rw [Nat.zero_add]; exact cZ) Tryz.underlying22 nu22 sz5 zr5 by5 rfl (by first | omega | (simp; done) | (simp; omega) | (simp at *; omega)) (fun j hj => rfl) rfl rfl (fun p3 => ?_))
      refine jq jrm ?_;refine jN ?_
      refine jbn (jtn ?_)
      refine jcg ?_;refine jq jra ?_;refine jq jrm ?_;refine jN ?_;refine jtn ?_
      refine jlend ((i + 1, p3)) ?_ ?_ (h5 := ?_) (h7 := ?_)
      · show i + 1 ≤ (lsF (s.tags.getD (s.tags.length - 1) 0) (s.rows.getD s.tags.length [])).length; omega
      · show (lsF (s.tags.getD (s.tags.length - 1) 0) (s.rows.getD s.tags.length [])).length - (i + 1) < (lsF (s.tags.getD (s.tags.length - 1) 0) (s.rows.getD s.tags.length [])).length - i; omega
      · simp only [flat_take (show i < (lsF (s.tags.getD (s.tags.length - 1) 0) (s.rows.getD s.tags.length [])).length by omega)]
        exact .cons (CEnt.osI rfl) (.cons (CEnt.int (by omega)) .nil)
      · simp only [flat_take (show i < (lsF (s.tags.getD (s.tags.length - 1) 0) (s.rows.getD s.tags.length [])).length by omega)]
        exact .same (.same (.same (.same .nil)))
    refine jX (jte (jte (jbx (jtn ?_))))
    have hiE : i = (lsF (s.tags.getD (s.tags.length - 1) 0) (s.rows.getD s.tags.length [])).length := by omega
    subst hiE
    dsimp only
    rw [List.take_length]
    refine jcr ?_;refine jq jrm ?_;refine jq jrnc ?_;refine jq (jrfa 0 1 false) ?_;refine jqo jrdo ?_;refine jq jrm ?_;refine jq jra ?_;refine jq (jri (i := (s.tags.length - 1)) (hz := by omega)) ?_;refine jq jrdr ?_;refine jq jrm ?_;refine jN ?_;refine jcr ?_;refine jq jrm ?_;refine jq jrm ?_;refine jq jrnc ?_;refine jq (jrfa 0 1 false) ?_;refine jqo jrdo ?_;refine jq jrm ?_;refine jq jra ?_;refine jq (jrsr (hl := (bd_none _ _)) (hu := (bd_some rfl (show _ = (((s.tags.length - 1) : Nat) : Int) by omega)))) ?_;refine jq jrnc ?_;refine jq (jrfa 0 1 false) ?_
    refine jqm (jmstF 1 (rwB ⟨s.tags.take (s.tags.length - 1), s.rows, s.e⟩ 2 gr) ?_ ?_)
    · exact (fun j hj => by rcases j with _ | _ | _ | j <;> first | exact CEnt.rs (by rw [List.length_take]; omega) (fun i q hi hq => CEnt.of_eq (by rw [Nat.zero_add]; exact in_take hi)) | exact cZ | omega)
    refine jN ?_;refine jE (freeze 3 rfl) ?_;refine jE (thawB 6 ((lsF (s.tags.getD (s.tags.length - 1) 0) (s.rows.getD s.tags.length [])).flatten) rfl rfl rfl rfl) ?_;refine jE (closeRW n ⟨s.tags.take (s.tags.length - 1), s.rows, s.e⟩ 0 2 rfl rfl rfl cZ (CEnt.osI rfl) cZ (Nat.le_refl _) (fun _ _ => cZ)) ?_
    dsimp only [List.set_cons_zero, List.set_cons_succ, List.cons_append, List.nil_append, List.length_cons, List.length_nil, Nat.zero_add, Nat.reduceAdd]
    refine jcg ?_;refine jq jrm ?_;refine jq jrm ?_;refine jq jrm ?_
    refine jqm (jmcH 0 (rput08_ac n ⟨s.tags.take (s.tags.length - 1), s.rows, s.e⟩ (s.tags.getD (s.tags.length - 1) 0) ((lsF (s.tags.getD (s.tags.length - 1) 0) (s.rows.getD s.tags.length [])).flatten) (okRD_tail hs) htg (by rw [flat_len]; omega)) ?_)
    rintro _ _ ⟨rfl, rfl⟩
    refine ⟨_, _, rfl, cZ, ?_⟩
    refine jN ?_;refine jbn ?_
    rw [show rdoS v s = rputS (s.tags.getD (s.tags.length - 1) 0) ((lsF (s.tags.getD (s.tags.length - 1) 0) (s.rows.getD s.tags.length [])).flatten) ⟨s.tags.take (s.tags.length - 1), s.rows, s.e⟩ by unfold rdoS; rw [if_neg (by omega), if_neg (by omega), if_pos (by omega)]; unfold rcloseS; rw [if_neg (by omega), lsF_body]]
    exact end_own (.inr rfl) _ [_] [0] (by decide) rfl (res_0 rfl) ⟨rfl, rfl⟩
end
section
open Go.RowKit Cal
structure SmallV (v : VV) : Prop where
  n : -9223372036854775808 ≤ v.n ∧ v.n ≤ 9223372036854775807
  b : v.b.length ≤ 300
  t : v.t.length ≤ 300
theorem SmallV.ok {v : VV} (h : SmallV v) : OkV v := ⟨h.n, by have := h.b; omega, by have := h.t; omega⟩
def frW (fr : List (Int × List (List UInt8))) : Nat := (fr.map fun x => sumL x.2 + 6).sum
def wtW (s : W8) : Nat := s.d.length + frW s.fr
theorem frW_cons (x : Int × List (List UInt8)) (fr : List (Int × List (List UInt8))) : frW (x :: fr) = sumL x.2 + 6 + frW fr := by simp [frW]
theorem sumL_snoc (l : List (List UInt8)) (b : List UInt8) : sumL (l ++ [b]) = sumL l + b.length := by rw [sumL_app]; simp [sumL]
theorem putL_len (tag : Int) (b : List UInt8) : (putL tag b).length ≤ b.length + 6 := by
  unfold putL
  have := lenL_bd b.length
  simp only [List.length_cons, List.length_append]
  omega
theorem wt_add (b : List UInt8) (s : W8) : wtW (addW b s) = wtW s + b.length := by
  obtain ⟨fr, d, k⟩ := s
  cases fr with
  | nil => simp [wtW, addW, frW]
  | cons x fr =>
    show d.length + frW ((x.1, x.2 ++ [b]) :: fr) = d.length + frW (x :: fr) + _
    rw [frW_cons, frW_cons]
    show d.length + (sumL (x.2 ++ [b]) + 6 + frW fr) = _
    rw [sumL_snoc]
    omega
theorem wt_fail (e : Nat) (s : W8) : wtW (failW e s) = wtW s := by unfold failW; split <;> rfl
theorem wt_put (tag : Int) (b : List UInt8) (e : Nat) (s : W8) : wtW (putW tag b e s) ≤ wtW s + b.length + 6 := by
  unfold putW
  split
  · rw [wt_fail]; omega
  · split
    · show s.d.length + frW s.fr ≤ _; unfold wtW; omega
    · rw [wt_add]; have := putL_len tag b; omega
theorem bodyV_small {v : VV} (h : SmallV v) : (bodyV v).2.1.length ≤ 300 := by
  have h1 := h.b
  have h2 := h.t
  have h3 := (putN_len v.n h.n.1 h.n.2).2
  have h4 := put_len v.t
  unfold bodyV
  split
  · show (putN v.n).length ≤ _; omega
  · split
    · show (putN v.n).length ≤ _; omega
    · split
      · show [if v.is then (255 : UInt8) else 0].length ≤ _; simp
      · split
        · exact h1
        · split
          · show (if askedM v.t v.n = 0 then v.t else []).length ≤ _; split <;> first | omega | simp
          · split
            · show (putM v.t).length ≤ _; omega
            · split
              · show (if inT v.n then bodyL (ofM v.n) else []).length ≤ _
                split
                · exact Nat.le_trans (Nat.le_of_eq (show (bodyL (ofM v.n)).length = 15 from rfl)) (by decide)
                · simp
              · show (bitsL v.n).length ≤ _
                unfold bitsL
                split
                · simp
                · rw [flags_len (by omega)]
                  have := (bl_is (m := v.n.toNat) (by omega)).2
                  omega
theorem wt_do {v : VV} (h : SmallV v) (s : W8) : wtW (doW v s) ≤ wtW s + 400 := by
  have hb := h.b
  unfold doW
  split
  · unfold openW
    split
    · omega
    · split
      · show s.d.length + frW s.fr ≤ _; unfold wtW; omega
      · split
        · show s.d.length + frW s.fr ≤ _; unfold wtW; omega
        · show s.d.length + frW _ ≤ _
          rw [frW_cons]
          unfold wtW
          simp [sumL]; omega
  · split
    · unfold closeV
      split
      · omega
      · obtain ⟨fr, d, k⟩ := s
        cases fr with
        | nil => show d.length + frW [] ≤ d.length + frW [] + _; omega
        | cons x fr =>
          have h1 := wt_put x.1 (bodyF x) 0 ⟨fr, d, k⟩
          rw [bodyF_len] at h1
          refine Nat.le_trans h1 ?_
          show d.length + frW fr + _ + _ ≤ d.length + frW (x :: fr) + _
          rw [frW_cons]
          omega
    · split
      · unfold rawW
        split
        · rw [wt_add]; omega
        · rw [wt_fail]; omega
      · have h1 := wt_put (bodyV v).1 (bodyV v).2.1 (bodyV v).2.2 s
        have h2 := bodyV_small h
        omega
theorem pad_mem {m : Nat} {r : List (List (List UInt8))} {x : List (List UInt8)} (h : x ∈ padR m r) : x ∈ r ∨ x = [] := by
  unfold padR at h
  rcases List.mem_append.1 h with h | h
  · exact .inl h
  · exact .inr (List.eq_of_mem_replicate h)
theorem at_mem (r : List (List (List UInt8))) (j : Nat) : r.getD j [] ∈ r ∨ r.getD j [] = [] := by
  rw [List.getD_eq_getElem?_getD]
  cases e : r[j]? with
  | none => exact .inr rfl
  | some x => exact .inl (List.mem_of_getElem? e)
def Grown (r r' : R8) : Prop := (r'.rows.length ≤ max r.rows.length (r'.tags.length + 1)) ∧ ∀ x ∈ r'.rows, x ∈ r.rows ∨ x = [] ∨ ∃ y b, (y ∈ r.rows ∨ y = []) ∧ x = y ++ [b] ∧ x = r'.rows.getD r'.tags.length []
theorem grown_rows {r r' : R8} (h : r'.rows = r.rows) : Grown r r' := ⟨by rw [h]; omega, fun x hx => .inl (h ▸ hx)⟩
theorem grown_add (b : List UInt8) (r : R8) : Grown r (raddS b r) := by
  have hp : r.tags.length < (padR (r.tags.length + 1) r.rows).length := by rw [pad_len]; omega
  refine ⟨?_, fun x hx => ?_⟩
  · show (List.set _ _ _).length ≤ max _ (r.tags.length + 1)
    rw [List.length_set, pad_len]
    omega
  · rcases List.mem_or_eq_of_mem_set hx with h | h
    · rcases pad_mem h with h | h
      · exact .inl h
      · exact .inr (.inl h)
    · refine .inr (.inr ⟨_, b, ?_, h, ?_⟩)
      · rw [pad_get]; exact at_mem _ _
      · show x = List.getD (List.set _ _ _) r.tags.length []
        rw [set_get _ _ _ _ hp, if_pos rfl]
        exact h
theorem grown_put (t : Int) (b : List UInt8) (r : R8) : Grown r (rputS t b r) := by
  unfold rputS
  split
  · exact grown_rows rfl
  · exact grown_add _ r
theorem grown_do (v : VV) (r : R8) : Grown r (rdoS v r) := by
  unfold rdoS
  split
  · exact grown_rows rfl
  · split
    · unfold ropenS
      split
      · exact grown_rows rfl
      · split
        · exact grown_rows rfl
        · refine ⟨?_, fun x hx => ?_⟩
          · show (List.set _ _ _).length ≤ max _ ((r.tags ++ [v.n]).length + 1)
            rw [List.length_set, pad_len, List.length_append, List.length_singleton]
            omega
          · rcases List.mem_or_eq_of_mem_set hx with h | h
            · rcases pad_mem h with h | h
              · exact .inl h
              · exact .inr (.inl h)
            · exact .inr (.inl h)
    · split
      · unfold rcloseS
        split
        · exact grown_rows rfl
        · exact grown_put _ _ ⟨_, r.rows, r.e⟩
      · split
        · split
          · exact grown_rows rfl
          · exact grown_add _ r
        · split
          · exact grown_rows rfl
          · exact grown_put _ _ r
theorem frW_mem {fr : List (Int × List (List UInt8))} {x : Int × List (List UInt8)} (h : x ∈ fr) : sumL x.2 ≤ frW fr := by
  induction fr with
  | nil => cases h
  | cons y fr ih =>
    rw [frW_cons]
    rcases List.mem_cons.1 h with rfl | h
    · omega
    · have := ih h; omega
theorem active_sum {r : R8} {s : W8} (h : Same8 r s) : sumL (r.rows.getD r.tags.length []) ≤ wtW s := by
  have hl : r.tags.length = s.fr.length := by rw [h.tags]; simp
  obtain ⟨fr, d, k⟩ := s
  cases fr with
  | nil =>
    rw [hl]
    show sumL (r.rows.getD 0 []) ≤ _
    rw [← flat_len, h.row0]
    unfold wtW
    omega
  | cons x fr =>
    have hr := h.row fr.length (by simp)
    rw [hl]
    show sumL (r.rows.getD (fr.length + 1) []) ≤ _
    rw [hr]
    have e : ((x :: fr).map Prod.snd).reverse.getD fr.length [] = x.2 := by simp [List.getD_eq_getElem?_getD]
    show sumL (((x :: fr).map Prod.snd).reverse.getD fr.length []) ≤ _
    rw [e]
    have := frW_mem (fr := x :: fr) (x := x) List.mem_cons_self
    unfold wtW
    show _ ≤ d.length + frW (x :: fr)
    omega
structure Inv8 (i : Nat) (r : R8) (s : W8) : Prop where
  same : Same8 r s
  w : wtW s ≤ 400 * i
  rows : ∀ x ∈ r.rows, x.length ≤ i ∧ sumL x ≤ 400 * i
  n : r.rows.length ≤ 18
theorem inv_zero : Inv8 0 ⟨[], [], 0⟩ ⟨[], [], 0⟩ := ⟨same_zero, by decide, fun _ h => (by cases h), by decide⟩
theorem inv_do {i : Nat} {r : R8} {s : W8} (h : Inv8 i r s) {v : VV} (hv : SmallV v) : Inv8 (i + 1) (rdoS v r) (doW v s) := by
  have hs := same_do h.same v
  have hw := wt_do hv s
  have hg := grown_do v r
  have h0 := h.w
  have hl : (rdoS v r).tags.length ≤ 16 := by rw [hs.tags]; simpa using hs.lim
  refine ⟨hs, by omega, fun x hx => ?_, ?_⟩
  · rcases hg.2 x hx with h1 | h1 | ⟨y, b, h1, h2, h3⟩
    · have := h.rows x h1; omega
    · subst h1; simp [sumL]
    · have ha := active_sum hs
      rw [← h3] at ha
      refine ⟨?_, by omega⟩
      rw [h2, List.length_append, List.length_singleton]
      rcases h1 with h1 | h1
      · have := h.rows y h1; omega
      · subst h1; simp
  · have := hg.1
    have := h.n
    omega
theorem inv_fail {i : Nat} {r : R8} {s : W8} (h : Inv8 i r s) (e : Nat) : Inv8 i ⟨r.tags, r.rows, if r.e = 0 then e else r.e⟩ (failW e s) := by
  have hs := h.same
  refine ⟨?_, by rw [wt_fail]; exact h.w, h.rows, h.n⟩
  unfold failW
  rw [hs.e]
  split
  · exact ⟨hs.tags, rfl, hs.row0, hs.row, hs.len, hs.known, hs.lim⟩
  · exact ⟨hs.tags, rfl, hs.row0, hs.row, hs.len, hs.known, hs.lim⟩
theorem inv_okR {i : Nat} {r : R8} {s : W8} (h : Inv8 i r s) (hi : i ≤ 1000) : OkRD r := by
  have hl : r.tags.length = s.fr.length := by rw [h.same.tags]; simp
  have hlim := h.same.lim
  have hn := h.n
  refine ⟨⟨by omega, by omega, fun x hx => by have := h.rows x hx; omega⟩, fun j => ?_, fun x hx => ?_, h.same.len⟩
  · rcases at_mem r.rows j with h1 | h1
    · have := h.rows _ h1; omega
    · rw [h1]; simp [sumL]
  · rw [h.same.tags] at hx
    obtain ⟨y, hy, rfl⟩ := List.mem_map.1 (List.mem_reverse.1 hx)
    exact known_bd (made_known (h.same.known y hy))
end
section
open Go.RowKit
def rdE (l : List (List UInt8)) (k : Nat) (z : Nat × Option Nat) : List (Option Nat × Res) := [(some z.1, .blk 2 (fl [.os 1 z.2 0 l.length 1, .err k])), (z.2, .blk l.length (lbF l))]
def rdO (n : Nat) (l : List (List UInt8)) (k : Nat) : Option Nat × Res := objE n (fun z : Nat × Option Nat => z.1) (rdE l k)
section
variable {P : Program} {G : Gh} {s : AS} {c : Code} {R : Exit → AS → Prop} {n k : Nat} {l : List (List UInt8)}
theorem code_openR0 (i : Nat) (hi : s.H[i]? = some (rdO n l k)) (h : ∀ gl, ACode P G c ⟨s.env, s.b, s.H.set i (some n, .blk 2 (fl [.os s.H.length gl 0 l.length 1, .err k])) ++ [(gl, .blk l.length (lbF l))]⟩ R) : ACode P G c s R := by
  have hlt := (List.getElem?_eq_some_iff.1 hi).1
  refine code_unpack i hi fun z hz => ?_
  obtain ⟨n', gl⟩ := z
  obtain rfl : n' = n := hz
  refine jE (weakH i 2 (fl [.os s.H.length gl 0 l.length 1, .err k]) (n := 2) (g := some n') (f := fl [.os 1 gl 0 l.length 1, .err k]) ?_ (Nat.le_refl _) fun j hj => ?_) ?_
  · show (s.H.set i _ ++ _)[i]? = _
    rw [List.getElem?_append_left (by simpa using hlt)]
    simp [hlt]
  · rcases j with _ | _ | j
    · exact CEnt.osI rfl
    · exact cZ
    · omega
  · have e : (s.H.set i (some n', Res.blk 2 (fl [.os 1 gl 0 l.length 1, .err k])) ++ [(gl, Res.blk l.length (lbF l))]).set i (some n', .blk 2 (fl [.os s.H.length gl 0 l.length 1, .err k])) = s.H.set i (some n', .blk 2 (fl [.os s.H.length gl 0 l.length 1, .err k])) ++ [(gl, .blk l.length (lbF l))] := by
      rw [List.set_append_left _ _ (by simpa using hlt), List.set_set]
    have := h gl
    rw [← e] at this
    exact this
theorem closeR0 (n k : Nat) (l : List (List UInt8)) (i j : Nat) {gl : Option Nat} {N : Nat} {f F : Nat → CV} (hi : s.H[i]? = some (some n, .blk 2 f)) (hj : s.H[j]? = some (gl, .blk N F)) (hij : Nat.beq i j = false) (h0 : CEnt (f 0) (.os 1 gl 0 l.length 1)) (h1 : CEnt (f 1) (.err k)) (hN : l.length ≤ N) (hF : ∀ a, a < l.length → CEnt (F a) (lbF l a)) :
    EntS G s ⟨s.env, s.b, (s.H.set i (rdO n l k)).set j (none, .dead)⟩ := by
  have hij := Nat.ne_of_beq_eq_false hij
  have hil := (List.getElem?_eq_some_iff.1 hi).1
  have hjl := (List.getElem?_eq_some_iff.1 hj).1
  refine EntS.hrel fun h => ?_
  have h2 := h.weak (F := fl [.os 1 gl 0 l.length 1, .err k]) hi (Nat.le_refl _) fun a ha => by
    rcases a with _ | _ | a
    · exact h0
    · exact h1
    · omega
  have h3 := h2.weak (i := j) (F := lbF l) (by rw [List.getElem?_set_ne hij]; exact hj) hN hF
  have h4 := h3.closeN (gd := fun z : Nat × Option Nat => z.1) (E := rdE l k) (n, gl) i [j] (by simp [hij]) (by simp [hil, hjl]) (by
    simp only [pickL, List.map_cons, List.map_nil, List.getD_eq_getElem?_getD]
    rw [List.getElem?_set_ne (Ne.symm hij)]
    simp [hil, hjl, rdE])
  have e : killL (((s.H.set i (some n, Res.blk 2 (fl [CV.os 1 gl 0 l.length 1, CV.err k]))).set j (gl, Res.blk l.length (lbF l))).set i (objE n (fun z : Nat × Option Nat => z.1) (rdE l k))) [j] = (s.H.set i (rdO n l k)).set j (none, .dead) := by
    show ((((s.H.set i _).set j _).set i _).set j _) = _
    rw [List.set_comm _ _ (Ne.symm hij), List.set_set, List.set_set]
    rfl
  rw [← e]
  exact h4
theorem code_openR {env : List (Nat × CV)} {b0 : Nat → CV} {H : List (Option Nat × Res)} (i : Nat) (hi : H[i]? = some (rdO n l k)) (h : ∀ gl, ACode P G c ⟨env, b0, H.set i (some n, .blk 2 (fl [.os H.length gl 0 l.length 1, .err k])) ++ [(gl, .blk l.length (lbF l))]⟩ R) : ACode P G c ⟨env, b0, H⟩ R := code_openR0 i hi h
theorem closeR {env : List (Nat × CV)} {b0 : Nat → CV} {H : List (Option Nat × Res)} (n k : Nat) (l : List (List UInt8)) (i j : Nat) {gl : Option Nat} {N : Nat} {f F : Nat → CV} (hi : H[i]? = some (some n, .blk 2 f)) (hj : H[j]? = some (gl, .blk N F)) (hij : Nat.beq i j = false) (h0 : CEnt (f 0) (.os 1 gl 0 l.length 1)) (h1 : CEnt (f 1) (.err k)) (hN : l.length ≤ N) (hF : ∀ a, a < l.length → CEnt (F a) (lbF l a)) :
    EntS G ⟨env, b0, H⟩ ⟨env, b0, (H.set i (rdO n l k)).set j (none, .dead)⟩ := closeR0 n k l i j hi hj hij h0 h1 hN hF
end
def nowL (l : List (List UInt8)) : List UInt8 := l.getD (l.length - 1) []
def moreM (l : List (List UInt8)) (k : Nat) : Bool := decide (k = 0) && decide (0 < (nowL l).length)
theorem now_ac {gs : List Nat} (n : Nat) (l : List (List UInt8)) (k : Nat) (hl : 0 < l.length ∧ l.length ≤ 1000000) : AC gs Tryz.prog 68 [rdO n l k] [.op 0 (some n) 0] (fun r H' => r = bsC (nowL l) ∧ H' = [rdO n l k]) := by
  refine ac_of 15 Tryz.func68 rfl rfl rfl (fun al w0 F0 St0 => ?_)
  refine code_openR 0 rfl fun gl => ?_;refine jcr ?_;refine jq jrm ?_;refine jN ?_;refine jcs ?_
  skip
  refine jcd (.rd 0 (.rd 1 (.rd 2 (.rd 3 (.rd 4 (.rd 5 (.rd 6 (.rd 7 (.rd 8 (.rd 9 (.rd 10 (.rd 11 (.rd 12 .done))))))))))))) ?_;refine jyq jrm ?_;refine jyq jrnc ?_;refine jyq (jrfa 0 1 false) ?_;refine jyo jrdo ?_;refine jyq jrm ?_;refine jyq jrnc ?_;refine jyq (jrfa 0 1 false) ?_;refine jyo jrdo ?_;refine jyq jrl ?_;refine jyq jra ?_;refine jyq (jri (i := (l.length - 1)) (hz := by omega)) ?_;refine jyo jrdo ?_;refine jyq jrm ?_;refine jyd ?_;refine jtn ?_;refine jR ?_
  exact end_pack (gd := fun z : Nat × Option Nat => z.1) (E := rdE l k) (.inl rfl) _ (n, gl) [0, 1] (by decide) rfl (res_1 rfl (arv_tmp rfl)) ⟨rfl, rfl⟩
theorem fail08_ac {gs : List Nat} (n : Nat) (l : List (List UInt8)) (k e : Nat) : AC gs Tryz.prog 74 [rdO n l k] [.op 0 (some n) 0, .err e] (fun r H' => r = .c (.tuple #[]) ∧ H' = [rdO n l (if k = 0 then e else k)]) := by
  refine ac_of 13 Tryz.func74 rfl rfl rfl (fun al w0 F0 St0 => ?_)
  refine code_openR 0 rfl fun gl => ?_;refine jcr ?_;refine jq jrm ?_;refine jq jrnc ?_;refine jq (jrfa 1 1 false) ?_;refine jqo jrdo ?_;refine jq jre ?_;refine jN ?_;refine jcc (fun h161 => ?_) fun h161 => ?_
  rotate_left
  · refine jS ?_
    rw [if_neg (by omega)]
    exact end_pack (gd := fun z : Nat × Option Nat => z.1) (E := rdE l k) (.inr rfl) _ (n, gl) [0, 1] (by decide) rfl (res_0 rfl) ⟨rfl, rfl⟩
  refine jcg ?_;refine jq jrm ?_;refine jq jrm ?_;refine jq jrnc ?_;refine jq (jrfa 1 1 false) ?_
  refine jqm (jmstF 1 (fl [.os 1 gl 0 l.length 1, .err e]) ?_ ?_)
  · exact (fun j hj => by rcases j with _ | _ | j <;> exact cZ)
  refine jN ?_
  rw [if_pos (by omega)]
  exact end_pack (gd := fun z : Nat × Option Nat => z.1) (E := rdE l e) (.inr rfl) _ (n, gl) [0, 1] (by decide) rfl (res_0 rfl) ⟨rfl, rfl⟩
theorem err08_ac {gs : List Nat} (n : Nat) (l : List (List UInt8)) (k : Nat) : AC gs Tryz.prog 39 [rdO n l k] [.op 0 (some n) 0] (fun r H' => r = .err k ∧ H' = [rdO n l k]) := by
  refine ac_of 7 Tryz.func39 rfl rfl rfl (fun al w0 F0 St0 => ?_)
  refine code_openR 0 rfl fun gl => ?_;refine jcr ?_;refine jq jrm ?_;refine jN ?_
  skip
  refine jcr ?_;refine jq jrm ?_;refine jq jrnc ?_;refine jq (jrfa 1 1 false) ?_;refine jqo jrdo ?_;refine jq jrm ?_;refine jN ?_;refine jR ?_
  exact end_pack (gd := fun z : Nat × Option Nat => z.1) (E := rdE l k) (.inl rfl) _ (n, gl) [0, 1] (by decide) rfl (res_1 rfl (arv_tmp rfl)) ⟨rfl, rfl⟩
theorem more_pos {l : List (List UInt8)} {k : Nat} (h : moreM l k = true) : k = 0 ∧ 0 < (nowL l).length := by simpa [moreM] using h
theorem more_ac {gs : List Nat} (n : Nat) (l : List (List UInt8)) (k : Nat) (hl : 0 < l.length ∧ l.length ≤ 1000000) : AC gs Tryz.prog 111 [rdO n l k] [.op 0 (some n) 0] (fun r H' => r = .c (.bool (moreM l k)) ∧ H' = [rdO n l k]) := by
  refine ac_of 14 Tryz.func111 rfl rfl rfl (fun al w0 F0 St0 => ?_)
  refine code_openR 0 rfl fun gl => ?_;refine jcr ?_;refine jq jrm ?_;refine jN ?_
  skip
  refine jcr ?_;refine jq jrm ?_;refine jq jrnc ?_;refine jq (jrfa 1 1 false) ?_;refine jqo jrdo ?_;refine seq_ent (closeR n k l 0 1 rfl rfl rfl cZ cZ (Nat.le_refl _) (fun _ _ => cZ)) ?_;refine jq jre ?_;refine jq jrm ?_;refine jqsp 8 (fun g173 => ?_) fun g173 => ?_
  rotate_left
  · refine jqs ?_;refine jqs ?_;refine jqs ?_;refine jqs ?_;refine jq jrpF ?_;refine jq jrm ?_;refine jN ?_;refine jR ?_
    exact end_H (.inl rfl) rfl (res_1 rfl (arv_tmp rfl)) (CEnt.bool (by unfold moreM; (simp [g173]; done)))
  refine jq jrm ?_
  refine jqm (jmcH 0 (now_ac n l k hl) ?_)
  rintro _ _ ⟨rfl, rfl⟩
  refine ⟨_, _, rfl, cZ, ?_⟩
  refine jq jrl ?_;refine jq jrc ?_;refine jq jrpT ?_;refine jq jrm ?_;refine jN ?_;refine jR ?_
  exact end_H (.inl rfl) rfl (res_1 rfl (arv_tmp rfl)) (CEnt.bool (by unfold moreM; (simp [g173]; done)))
end
section
variable {gs : List Nat} [Ok9 gs]
open Go.RowKit

structure NR where
  l : List (List UInt8)
  k : Nat
  tag : Nat
  body : List UInt8
  raw : List UInt8
  is : Bool
def nextR (tag : Int) (l : List (List UInt8)) (k : Nat) : NR :=
  if k ≠ 0 then ⟨l, k, 0, [], [], false⟩ else
  if (nextM (nowL l)).e ≠ 0 then ⟨l, (nextM (nowL l)).e, 0, [], [], false⟩ else
  if tag ≠ 0 ∧ ((nextM (nowL l)).tag : Int) ≠ tag then ⟨l, 5, 0, [], [], false⟩ else
  ⟨l.set (l.length - 1) (nextM (nowL l)).rest, 0, (nextM (nowL l)).tag, (nextM (nowL l)).body, (nowL l).take ((nowL l).length - (nextM (nowL l)).rest.length), true⟩
theorem lb_set {l : List (List UInt8)} {i : Nat} {x : List UInt8} {j : Nat} (hj : j < l.length) : CEnt (updF (lbF l) i [bsC x] j) (lbF (l.set i x) j) := by
  refine CEnt.of_eq ?_
  rw [updF_get]
  simp only [lbF, List.length_singleton, List.getD_eq_getElem?_getD, List.getElem?_set]
  by_cases h : i = j
  · subst h
    rw [if_pos (by omega), if_pos rfl, if_pos hj, Nat.sub_self]
    rfl
  · rw [if_neg (by omega), if_neg h]
theorem nextR_ac (n : Nat) (l : List (List UInt8)) (k : Nat) (tag : Int) (hl : 0 < l.length ∧ l.length ≤ 1000000) (hb : (nowL l).length ≤ 10000000) : AC gs Tryz.prog 69 [rdO n l k] [.op 0 (some n) 0, .c (.int .i64 tag)]
    (fun r H' => r = .tup 3 (fl [elC (nextR tag l k).tag (nextR tag l k).body, bsC (nextR tag l k).raw, .c (.bool (nextR tag l k).is)]) ∧ H' = [rdO n (nextR tag l k).l (nextR tag l k).k]) := by
  have hnb := nextM_bd (nowL l)
  refine ac_of 67 Tryz.func69 rfl rfl rfl (fun al w0 F0 St0 => ?_)
  refine jcr ?_
  refine jqe (jeal (n := 2) zr118 rfl fun p1 => ?_)
  refine jq jrm ?_;refine jq jrm ?_;refine jN ?_;refine jcs ?_;refine code_openR 0 rfl fun gl => ?_;refine jcr ?_;refine jq jrm ?_;refine jq jrnc ?_;refine jq (jrfa 1 1 false) ?_;refine jqo jrdo ?_;refine jq jre ?_;refine jN ?_;refine jcc (fun h185 => ?_) fun h185 => ?_
  · refine jE (closeR n k l 0 2 rfl rfl rfl (CEnt.osI rfl) cZ (Nat.le_refl _) (fun _ _ => cZ)) ?_
    dsimp only [List.set_cons_zero, List.set_cons_succ, List.cons_append, List.nil_append, List.length_cons, List.length_nil, Nat.zero_add, Nat.reduceAdd]
    refine jcr ?_;refine jq (rd_build (n := 2) rfl zr118 pl118 rfl rfl) ?_
    refine jqm (jmst 2 ?_)
    refine jq jrm ?_;refine jq jrm ?_;refine jN ?_
    refine jR (jtr ?_)
    have hN : nextR tag l k = ⟨l, k, 0, [], [], false⟩ := by unfold nextR; rw [if_pos (by omega)]
    rw [hN]
    refine end_H (.inl rfl) rfl (res_3 rfl (javA 2) javt javt) ?_
    exact CEnt.tup3 (CEnt.agg2 cZ CEnt.nilB) CEnt.nilB cZ
  refine jS (jtn ?_)
  obtain rfl : k = 0 := by omega
  refine jE (closeR n 0 l 0 2 rfl rfl rfl (CEnt.osI rfl) cZ (Nat.le_refl _) (fun _ _ => cZ)) ?_
  dsimp only [List.set_cons_zero, List.set_cons_succ, List.cons_append, List.nil_append, List.length_cons, List.length_nil, Nat.zero_add, Nat.reduceAdd]
  refine jcr ?_;refine jq jrm ?_
  refine jqm (jmcH 0 (now_ac n l 0 hl) ?_)
  rintro _ _ ⟨rfl, rfl⟩
  refine ⟨_, _, rfl, cZ, ?_⟩
  refine jqe (jecP (next_ac (nowL l) hb) ?_)
  refine jq jrm ?_;refine jq jrx ?_;refine jq jrx ?_;refine jq jrx ?_
  refine jqe (jeal (n := 2) zr118 rfl fun p3 => ?_)
  refine jqm (jmst 2 ?_)
  refine jq jrm ?_;refine jq jrm ?_;refine jN ?_;refine jcs ?_;refine jB ?_;refine jcr ?_;refine jq jrm ?_;refine jq jre ?_;refine jq jrm ?_;refine jN ?_;refine jcc (fun h190 => ?_) fun h190 => ?_
  · refine code_openR 0 rfl fun gl2 => ?_;refine jcg ?_;refine jq jrm ?_;refine jq jrm ?_;refine jq jrnc ?_;refine jq (jrfa 1 1 false) ?_
    refine jqm (jmstF 1 (fl [.os 4 gl2 0 l.length 1, .err (nextM (nowL l)).e]) ?_ ?_)
    · exact (fun j hj => by rcases j with _ | _ | j <;> exact cZ)
    refine jN ?_
    refine jbn (jtn ?_)
    first
      | refine jE (closeR n (nextM (nowL l)).e l 0 4 rfl rfl rfl (CEnt.osI rfl) cZ (Nat.le_refl _) (fun _ _ => cZ)) ?_
      | refine jE (closeR n 5 l 0 4 rfl rfl rfl (CEnt.osI rfl) cZ (Nat.le_refl _) (fun _ _ => cZ)) ?_
    refine jcr ?_;refine jq (rd_build (n := 2) rfl zr118 pl118 rfl rfl) ?_
    refine jqm (jmst 2 ?_)
    refine jq jrm ?_;refine jq jrm ?_;refine jN ?_;refine jR ?_
    first
      | (have hN : nextR tag l 0 = ⟨l, (nextM (nowL l)).e, 0, [], [], false⟩ := by unfold nextR; rw [if_neg (by omega), if_pos (by omega)])
      | (have hN : nextR tag l 0 = ⟨l, 5, 0, [], [], false⟩ := by unfold nextR; rw [if_neg (by omega), if_neg (by omega), if_pos (by omega)])
    rw [hN]
    refine end_H (.inl rfl) rfl (res_3 rfl (javA 2) javt javt) ?_
    exact CEnt.tup3 (CEnt.agg2 cZ CEnt.nilB) CEnt.nilB cZ
  refine jcr ?_;refine jq jrm ?_;refine jq jrc ?_;refine jq jrm ?_;refine jqsp 56 (fun g192 => ?_) fun g192 => ?_
  rotate_left
  · refine jqs ?_;refine jqs ?_;refine jqs ?_;refine jqs ?_;refine jq jrpF ?_;refine jq jrm ?_;refine jN ?_;refine jcF ?_;refine jcr ?_;refine jq jrm ?_
    refine jqm (jmcH 0 (now_ac n l 0 hl) ?_)
    rintro _ _ ⟨rfl, rfl⟩
    refine ⟨_, _, rfl, cZ, ?_⟩
    refine jq jrm ?_;refine jN ?_;refine jcs ?_;refine code_openR 0 rfl fun gl2 => ?_;refine jcdB 12 (.rd 0 (.rd 1 (.rd 2 (.rd 3 (.rd 4 (.rd 5 (.rd 6 (.rd 7 (.rd 8 (.rd 9 (.rd 10 (.rd 11 .done)))))))))))) ?_;refine jyq jrm ?_;refine jyq jrnc ?_;refine jyq (jrfa 0 1 false) ?_;refine jyo jrdo ?_;refine jyq jrm ?_;refine jyq jrnc ?_;refine jyq (jrfa 0 1 false) ?_;refine jyo jrdo ?_;refine jyq jrl ?_;refine jyq jra ?_;refine jyq jrm ?_;refine jyq (jri (i := (l.length - 1)) (hz := by omega)) ?_;refine jyd ?_
    show ASeq _ _ _ _ _ _
    refine jqm (jmstF 1 (lbF (l.set (l.length - 1) (nextM (nowL l)).rest)) ?_ ?_)
    · exact (fun j hj => lb_set hj)
    refine jN ?_;refine jtn ?_;refine jcs ?_;refine jE (closeR n 0 (l.set (l.length - 1) (nextM (nowL l)).rest) 0 4 rfl rfl rfl (CEnt.osI (by simp)) cZ (by simp) (fun _ _ => cZ)) ?_
    dsimp only [List.set_cons_zero, List.set_cons_succ, List.cons_append, List.nil_append, List.length_cons, List.length_nil, Nat.zero_add, Nat.reduceAdd]
    refine jE (freeze 3 rfl) ?_;refine jE (thawP 7 (m := 2) rfl rfl (by decide)) ?_;refine jcdZ (.rd 0 (.rd 1 (.rd 2 (.rd 3 (.rd 4 (.rd 5 (.rd 6 (.rd 7 (.one 8 (.rd 9 (.rd 10 .done))))))))))) ?_;refine jzq (jrdrA 2) ?_;refine jzq jrm ?_;refine jzq jrm ?_;refine jzq jrl ?_;refine jzq jrm ?_;refine jzq jrl ?_;refine jzq jra ?_;refine jzq jrst ?_
    refine jzm (jmst 2 ?_)
    refine jzq jrm ?_;refine jzq jrm ?_;refine jzd ?_;refine jtn ?_
    refine jR (jbr (jtr ?_))
    have hN : nextR tag l 0 = ⟨l.set (l.length - 1) (nextM (nowL l)).rest, 0, (nextM (nowL l)).tag, (nextM (nowL l)).body, (nowL l).take ((nowL l).length - (nextM (nowL l)).rest.length), true⟩ := by unfold nextR; rw [if_neg (by omega), if_neg (by omega), if_neg (by omega)]
    rw [hN]
    refine end_H (.inl rfl) rfl (res_3 rfl (javA 2) javt javt) ?_
    exact CEnt.tup3 (CEnt.agg2 cZ cZ) (CEnt.bs (by congr 1; omega)) cZ
  refine jq (jrfa 0 1 false) ?_;refine jqo jrdo ?_;refine jq jrm ?_;refine jq jrc ?_;refine jq jrpT ?_;refine jq jrm ?_;refine jN ?_;refine jcc (fun h192 => ?_) fun h192 => ?_
  · refine code_openR 0 rfl fun gl2 => ?_;refine jcg ?_;refine jq jrm ?_;refine jq (jrde 4) ?_;refine jq jrnc ?_;refine jq (jrfa 1 1 false) ?_
    refine jqm (jmstF 1 (fl [.os 4 gl2 0 l.length 1, .err 5]) ?_ ?_)
    · exact (fun j hj => by rcases j with _ | _ | j <;> exact cZ)
    refine jN ?_
    refine jbn (jtn ?_)
    first
      | refine jE (closeR n (nextM (nowL l)).e l 0 4 rfl rfl rfl (CEnt.osI rfl) cZ (Nat.le_refl _) (fun _ _ => cZ)) ?_
      | refine jE (closeR n 5 l 0 4 rfl rfl rfl (CEnt.osI rfl) cZ (Nat.le_refl _) (fun _ _ => cZ)) ?_
    refine jcr ?_;refine jq (rd_build (n := 2) rfl zr118 pl118 rfl rfl) ?_
    refine jqm (jmst 2 ?_)
    refine jq jrm ?_;refine jq jrm ?_;refine jN ?_;refine jR ?_
    first
      | (have hN : nextR tag l 0 = ⟨l, (nextM (nowL l)).e, 0, [], [], false⟩ := by unfold nextR; rw [if_neg (by omega), if_pos (by omega)])
      | (have hN : nextR tag l 0 = ⟨l, 5, 0, [], [], false⟩ := by unfold nextR; rw [if_neg (by omega), if_neg (by omega), if_pos (by omega)])
    rw [hN]
    refine end_H (.inl rfl) rfl (res_3 rfl (javA 2) javt javt) ?_
    exact CEnt.tup3 (CEnt.agg2 cZ CEnt.nilB) CEnt.nilB cZ
  refine jcr ?_;refine jq jrm ?_
  refine jqm (jmcH 0 (now_ac n l 0 hl) ?_)
  rintro _ _ ⟨rfl, rfl⟩
  refine ⟨_, _, rfl, cZ, ?_⟩
  refine jq jrm ?_;refine jN ?_;refine jcs ?_;refine code_openR 0 rfl fun gl2 => ?_;refine jcdB 12 (.rd 0 (.rd 1 (.rd 2 (.rd 3 (.rd 4 (.rd 5 (.rd 6 (.rd 7 (.rd 8 (.rd 9 (.rd 10 (.rd 11 .done)))))))))))) ?_;refine jyq jrm ?_;refine jyq jrnc ?_;refine jyq (jrfa 0 1 false) ?_;refine jyo jrdo ?_;refine jyq jrm ?_;refine jyq jrnc ?_;refine jyq (jrfa 0 1 false) ?_;refine jyo jrdo ?_;refine jyq jrl ?_;refine jyq jra ?_;refine jyq jrm ?_;refine jyq (jri (i := (l.length - 1)) (hz := by omega)) ?_;refine jyd ?_
  show ASeq _ _ _ _ _ _
  refine jqm (jmstF 1 (lbF (l.set (l.length - 1) (nextM (nowL l)).rest)) ?_ ?_)
  · exact (fun j hj => lb_set hj)
  refine jN ?_;refine jtn ?_;refine jcs ?_;refine jE (closeR n 0 (l.set (l.length - 1) (nextM (nowL l)).rest) 0 4 rfl rfl rfl (CEnt.osI (by simp)) cZ (by simp) (fun _ _ => cZ)) ?_
  dsimp only [List.set_cons_zero, List.set_cons_succ, List.cons_append, List.nil_append, List.length_cons, List.length_nil, Nat.zero_add, Nat.reduceAdd]
  refine jE (freeze 3 rfl) ?_;refine jE (thawP 7 (m := 2) rfl rfl (by decide)) ?_;refine jcdZ (.rd 0 (.rd 1 (.rd 2 (.rd 3 (.rd 4 (.rd 5 (.rd 6 (.rd 7 (.one 8 (.rd 9 (.rd 10 .done))))))))))) ?_;refine jzq (jrdrA 2) ?_;refine jzq jrm ?_;refine jzq jrm ?_;refine jzq jrl ?_;refine jzq jrm ?_;refine jzq jrl ?_;refine jzq jra ?_;refine jzq jrst ?_
  refine jzm (jmst 2 ?_)
  refine jzq jrm ?_;refine jzq jrm ?_;refine jzd ?_;refine jtn ?_
  refine jR (jbr (jtr ?_))
  have hN : nextR tag l 0 = ⟨l.set (l.length - 1) (nextM (nowL l)).rest, 0, (nextM (nowL l)).tag, (nextM (nowL l)).body, (nowL l).take ((nowL l).length - (nextM (nowL l)).rest.length), true⟩ := by unfold nextR; rw [if_neg (by omega), if_neg (by omega), if_neg (by omega)]
  rw [hN]
  refine end_H (.inl rfl) rfl (res_3 rfl (javA 2) javt javt) ?_
  exact CEnt.tup3 (CEnt.agg2 cZ cZ) (CEnt.bs (by congr 1; omega)) cZ
end
section
variable {gs : List Nat} [Ok9 gs]
open Go.RowKit

def enterR (tag : Int) (l : List (List UInt8)) (k : Nat) : NR :=
  nextR tag l (if moreM l k = true ∧ madeM tag = false then 5 else k)
def enterL (tag : Int) (l : List (List UInt8)) (k : Nat) : List (List UInt8) := if (enterR tag l k).is = true then (enterR tag l k).l ++ [(enterR tag l k).body] else (enterR tag l k).l
theorem enter_ac (n : Nat) (l : List (List UInt8)) (k : Nat) (tag : Int) (hl : 0 < l.length ∧ l.length ≤ 1000000) (hb : (nowL l).length ≤ 10000000) : AC gs Tryz.prog 34 [rdO n l k] [.op 0 (some n) 0, .c (.int .i64 tag)]
    (fun r H' => r = .c (.bool (enterR tag l k).is) ∧ H' = [rdO n (enterL tag l k) (enterR tag l k).k]) := by
  have hnl : ∀ k, 0 < (nextR tag l k).l.length ∧ (nextR tag l k).l.length ≤ 1000000 := fun k => by
    unfold nextR
    split
    · exact hl
    · split
      · exact hl
      · split
        · exact hl
        · simp only [List.length_set]; exact hl
  refine ac_of 48 Tryz.func34 rfl rfl rfl (fun al w0 F0 St0 => ?_)
  refine jcr ?_;refine jq jrm ?_;refine jN ?_;refine jcs ?_;refine code_openR 0 rfl fun gl => ?_;refine jcr ?_;refine jq jrm ?_;refine jq jrnc ?_;refine jq (jrfa 1 1 false) ?_;refine jqo jrdo ?_;refine seq_ent (closeR n k l 0 1 rfl rfl rfl (CEnt.osI rfl) cZ (Nat.le_refl _) (fun _ _ => cZ)) ?_;refine jq jre ?_;refine jq jrm ?_;refine jqsp 13 (fun g204 => ?_) fun g204 => ?_
  rotate_left
  · refine jqs ?_;refine jqs ?_;refine jqs ?_;refine jqs ?_;refine jq jrpF ?_;refine jq jrm ?_;refine jqs ?_;refine jqs ?_;refine jqs ?_;refine jq jrpF ?_;refine jN ?_;refine jcF ?_
    refine jS (jtn ?_)
    first
      | (refine jE (closeR n 5 l 0 2 rfl rfl rfl (CEnt.osI rfl) cZ (Nat.le_refl _) (fun _ _ => cZ)) ?_; refine jE (pick_ent (H' := [rdO n l 5]) [0] (by decide) rfl) ?_; have hE : enterR tag l k = nextR tag l 5 := by unfold enterR; rw [if_pos (by simp_all [moreM, madeM])])
      | (refine jE (pick_ent (H' := [rdO n l k]) [0] (by decide) rfl) ?_; have hE : enterR tag l k = nextR tag l k := by unfold enterR; rw [if_neg (by simp_all [moreM, madeM])])
    refine jcr ?_;refine jq jrm ?_;refine jq jrm ?_
    refine jqm (jmcH 0 (nextR_ac n l _ tag hl hb) ?_)
    rintro _ _ ⟨rfl, rfl⟩
    refine ⟨_, _, rfl, cZ, ?_⟩
    refine jq jrm ?_;refine jq jrx ?_;refine jq jrx ?_;refine jq jrx ?_
    refine jqe (jeal (n := 2) zr118 rfl fun p2 => ?_)
    refine jqm (jmst 2 ?_)
    refine jq jrm ?_;refine jq jrm ?_;refine jN ?_;refine jcs ?_
    rw [← hE]
    have hel : 0 < (enterR tag l k).l.length ∧ (enterR tag l k).l.length ≤ 1000000 := by rw [hE]; exact hnl _
    refine jcr ?_;refine jq jrm ?_;refine jN ?_;refine jcc (fun h208 => ?_) fun h208 => ?_
    rotate_left
    · refine jS (jtn ?_)
      first
        | (refine jE (closeR n (enterR tag l k).k ((enterR tag l k).l ++ [(enterR tag l k).body]) 0 2 rfl rfl rfl (CEnt.osI (by simp)) cZ (by simp) (fun _ _ => cZ)) ?_; have hL : enterL tag l k = (enterR tag l k).l ++ [(enterR tag l k).body] := by unfold enterL; rw [if_pos (by simpa using h208)])
        | have hL : enterL tag l k = (enterR tag l k).l := by unfold enterL; rw [if_neg (by simpa using h208)]
      refine jcr ?_;refine jq jrm ?_;refine jq jrm ?_;refine jN ?_;refine jR ?_
      rw [hL]
      exact end_H (.inl rfl) rfl (res_1 rfl (arv_tmp rfl)) cZ
    refine jE (freeze 1 rfl) ?_;refine jE (thawP 5 (m := 2) rfl rfl (by decide)) ?_
    dsimp only [List.set_cons_zero, List.set_cons_succ, List.cons_append, List.nil_append, List.length_cons, List.length_nil, Nat.zero_add, Nat.reduceAdd]
    refine code_openR 0 rfl fun gl3 => ?_;refine jcdZ (.rd 0 (.rd 1 (.rd 2 (.rd 3 (.rd 4 (.rd 5 (.rd 6 (.one 7 (.one 8 (.rd 9 (.rd 10 (.one 11 .done)))))))))))) ?_;refine jzq jrm ?_;refine jzq jrm ?_;refine jzq jrnc ?_;refine jzq (jrfa 0 1 false) ?_;refine jzo jrdo ?_;refine jzq (jrfa 1 1 false) ?_;refine jzq jrdr ?_
    refine jze (jebl 1 1 zr22 fun p3 => ?_)
    refine jzm (m_appendC (rowC_lb) (l2 := [(enterR tag l k).body]) rfl rfl rfl rfl (by omega) (fun _ _ => cZ) (src_os rfl (.inl rfl) (by decide)) rfl (fun j hj => by rcases j with _|j <;> first | exact cZ | exact CEnt.int (by omega) | (exfalso; simp at hj <;> omega)) Tryz.underlying81 nu81 sz22 zr22 by22 rfl (by (simp; omega)) (by (simp; omega)) (leaf_flk rfl rfl) rfl rfl rfl (fun p4 => ?_))
    refine jzq jrnc ?_;refine jzq (jrfa 0 1 false) ?_
    refine jzm (jmst 1 ?_)
    refine jzd ?_;refine jtn ?_
    first
      | (refine jE (closeR n (enterR tag l k).k ((enterR tag l k).l ++ [(enterR tag l k).body]) 0 2 rfl rfl rfl (CEnt.osI (by simp)) cZ (by simp) (fun _ _ => cZ)) ?_; have hL : enterL tag l k = (enterR tag l k).l ++ [(enterR tag l k).body] := by unfold enterL; rw [if_pos (by simpa using h208)])
      | have hL : enterL tag l k = (enterR tag l k).l := by unfold enterL; rw [if_neg (by simpa using h208)]
    refine jcr ?_;refine jq jrm ?_;refine jq jrm ?_;refine jN ?_;refine jR ?_
    rw [hL]
    exact end_H (.inl rfl) rfl (res_1 rfl (arv_tmp rfl)) cZ
  refine jq jrm ?_
  refine jqm (jmcH 0 (now_ac n l k hl) ?_)
  rintro _ _ ⟨rfl, rfl⟩
  refine ⟨_, _, rfl, cZ, ?_⟩
  refine jq jrl ?_;refine jq jrc ?_;refine jq jrpT ?_;refine jq jrm ?_;refine jqsp 19 (fun g204_2 => ?_) fun g204_2 => ?_
  rotate_left
  · refine jqs ?_;refine jqs ?_;refine jqs ?_;refine jq jrpF ?_;refine jN ?_;refine jcF ?_
    refine jS (jtn ?_)
    first
      | (refine jE (closeR n 5 l 0 2 rfl rfl rfl (CEnt.osI rfl) cZ (Nat.le_refl _) (fun _ _ => cZ)) ?_; refine jE (pick_ent (H' := [rdO n l 5]) [0] (by decide) rfl) ?_; have hE : enterR tag l k = nextR tag l 5 := by unfold enterR; rw [if_pos (by simp_all [moreM, madeM])])
      | (refine jE (pick_ent (H' := [rdO n l k]) [0] (by decide) rfl) ?_; have hE : enterR tag l k = nextR tag l k := by unfold enterR; rw [if_neg (by simp_all [moreM, madeM])])
    refine jcr ?_;refine jq jrm ?_;refine jq jrm ?_
    refine jqm (jmcH 0 (nextR_ac n l _ tag hl hb) ?_)
    rintro _ _ ⟨rfl, rfl⟩
    refine ⟨_, _, rfl, cZ, ?_⟩
    refine jq jrm ?_;refine jq jrx ?_;refine jq jrx ?_;refine jq jrx ?_
    refine jqe (jeal (n := 2) zr118 rfl fun p3 => ?_)
    refine jqm (jmst 2 ?_)
    refine jq jrm ?_;refine jq jrm ?_;refine jN ?_;refine jcs ?_
    rw [← hE]
    have hel : 0 < (enterR tag l k).l.length ∧ (enterR tag l k).l.length ≤ 1000000 := by rw [hE]; exact hnl _
    refine jcr ?_;refine jq jrm ?_;refine jN ?_;refine jcc (fun h208 => ?_) fun h208 => ?_
    rotate_left
    · refine jS (jtn ?_)
      first
        | (refine jE (closeR n (enterR tag l k).k ((enterR tag l k).l ++ [(enterR tag l k).body]) 0 2 rfl rfl rfl (CEnt.osI (by simp)) cZ (by simp) (fun _ _ => cZ)) ?_; have hL : enterL tag l k = (enterR tag l k).l ++ [(enterR tag l k).body] := by unfold enterL; rw [if_pos (by simpa using h208)])
        | have hL : enterL tag l k = (enterR tag l k).l := by unfold enterL; rw [if_neg (by simpa using h208)]
      refine jcr ?_;refine jq jrm ?_;refine jq jrm ?_;refine jN ?_;refine jR ?_
      rw [hL]
      exact end_H (.inl rfl) rfl (res_1 rfl (arv_tmp rfl)) cZ
    refine jE (freeze 1 rfl) ?_;refine jE (thawP 5 (m := 2) rfl rfl (by decide)) ?_
    dsimp only [List.set_cons_zero, List.set_cons_succ, List.cons_append, List.nil_append, List.length_cons, List.length_nil, Nat.zero_add, Nat.reduceAdd]
    refine code_openR 0 rfl fun gl3 => ?_;refine jcdZ (.rd 0 (.rd 1 (.rd 2 (.rd 3 (.rd 4 (.rd 5 (.rd 6 (.one 7 (.one 8 (.rd 9 (.rd 10 (.one 11 .done)))))))))))) ?_;refine jzq jrm ?_;refine jzq jrm ?_;refine jzq jrnc ?_;refine jzq (jrfa 0 1 false) ?_;refine jzo jrdo ?_;refine jzq (jrfa 1 1 false) ?_;refine jzq jrdr ?_
    refine jze (jebl 1 1 zr22 fun p4 => ?_)
    refine jzm (m_appendC (rowC_lb) (l2 := [(enterR tag l k).body]) rfl rfl rfl rfl (by omega) (fun _ _ => cZ) (src_os rfl (.inl rfl) (by decide)) rfl (fun j hj => by rcases j with _|j <;> first | exact cZ | exact CEnt.int (by omega) | (exfalso; simp at hj <;> omega)) Tryz.underlying81 nu81 sz22 zr22 by22 rfl (by (simp; omega)) (by (simp; omega)) (leaf_flk rfl rfl) rfl rfl rfl (fun p5 => ?_))
    refine jzq jrnc ?_;refine jzq (jrfa 0 1 false) ?_
    refine jzm (jmst 1 ?_)
    refine jzd ?_;refine jtn ?_
    first
      | (refine jE (closeR n (enterR tag l k).k ((enterR tag l k).l ++ [(enterR tag l k).body]) 0 2 rfl rfl rfl (CEnt.osI (by simp)) cZ (by simp) (fun _ _ => cZ)) ?_; have hL : enterL tag l k = (enterR tag l k).l ++ [(enterR tag l k).body] := by unfold enterL; rw [if_pos (by simpa using h208)])
      | have hL : enterL tag l k = (enterR tag l k).l := by unfold enterL; rw [if_neg (by simpa using h208)]
    refine jcr ?_;refine jq jrm ?_;refine jq jrm ?_;refine jN ?_;refine jR ?_
    rw [hL]
    exact end_H (.inl rfl) rfl (res_1 rfl (arv_tmp rfl)) cZ
  refine jq jrm ?_
  refine jqe (jecP (made_ac _) ?_)
  refine jq jrn ?_;refine jq jrpT ?_;refine jN ?_;refine jcc (fun h204 => ?_) fun h204 => ?_
  rotate_left
  · refine jS (jtn ?_)
    first
      | (refine jE (closeR n 5 l 0 2 rfl rfl rfl (CEnt.osI rfl) cZ (Nat.le_refl _) (fun _ _ => cZ)) ?_; refine jE (pick_ent (H' := [rdO n l 5]) [0] (by decide) rfl) ?_; have hE : enterR tag l k = nextR tag l 5 := by unfold enterR; rw [if_pos (by simp_all [moreM, madeM])])
      | (refine jE (pick_ent (H' := [rdO n l k]) [0] (by decide) rfl) ?_; have hE : enterR tag l k = nextR tag l k := by unfold enterR; rw [if_neg (by simp_all [moreM, madeM])])
    refine jcr ?_;refine jq jrm ?_;refine jq jrm ?_
    refine jqm (jmcH 0 (nextR_ac n l _ tag hl hb) ?_)
    rintro _ _ ⟨rfl, rfl⟩
    refine ⟨_, _, rfl, cZ, ?_⟩
    refine jq jrm ?_;refine jq jrx ?_;refine jq jrx ?_;refine jq jrx ?_
    refine jqe (jeal (n := 2) zr118 rfl fun p3 => ?_)
    refine jqm (jmst 2 ?_)
    refine jq jrm ?_;refine jq jrm ?_;refine jN ?_;refine jcs ?_
    rw [← hE]
    have hel : 0 < (enterR tag l k).l.length ∧ (enterR tag l k).l.length ≤ 1000000 := by rw [hE]; exact hnl _
    refine jcr ?_;refine jq jrm ?_;refine jN ?_;refine jcc (fun h208 => ?_) fun h208 => ?_
    rotate_left
    · refine jS (jtn ?_)
      first
        | (refine jE (closeR n (enterR tag l k).k ((enterR tag l k).l ++ [(enterR tag l k).body]) 0 2 rfl rfl rfl (CEnt.osI (by simp)) cZ (by simp) (fun _ _ => cZ)) ?_; have hL : enterL tag l k = (enterR tag l k).l ++ [(enterR tag l k).body] := by unfold enterL; rw [if_pos (by simpa using h208)])
        | have hL : enterL tag l k = (enterR tag l k).l := by unfold enterL; rw [if_neg (by simpa using h208)]
      refine jcr ?_;refine jq jrm ?_;refine jq jrm ?_;refine jN ?_;refine jR ?_
      rw [hL]
      exact end_H (.inl rfl) rfl (res_1 rfl (arv_tmp rfl)) cZ
    refine jE (freeze 1 rfl) ?_;refine jE (thawP 5 (m := 2) rfl rfl (by decide)) ?_
    dsimp only [List.set_cons_zero, List.set_cons_succ, List.cons_append, List.nil_append, List.length_cons, List.length_nil, Nat.zero_add, Nat.reduceAdd]
    refine code_openR 0 rfl fun gl3 => ?_;refine jcdZ (.rd 0 (.rd 1 (.rd 2 (.rd 3 (.rd 4 (.rd 5 (.rd 6 (.one 7 (.one 8 (.rd 9 (.rd 10 (.one 11 .done)))))))))))) ?_;refine jzq jrm ?_;refine jzq jrm ?_;refine jzq jrnc ?_;refine jzq (jrfa 0 1 false) ?_;refine jzo jrdo ?_;refine jzq (jrfa 1 1 false) ?_;refine jzq jrdr ?_
    refine jze (jebl 1 1 zr22 fun p4 => ?_)
    refine jzm (m_appendC (rowC_lb) (l2 := [(enterR tag l k).body]) rfl rfl rfl rfl (by omega) (fun _ _ => cZ) (src_os rfl (.inl rfl) (by decide)) rfl (fun j hj => by rcases j with _|j <;> first | exact cZ | exact CEnt.int (by omega) | (exfalso; simp at hj <;> omega)) Tryz.underlying81 nu81 sz22 zr22 by22 rfl (by (simp; omega)) (by (simp; omega)) (leaf_flk rfl rfl) rfl rfl rfl (fun p5 => ?_))
    refine jzq jrnc ?_;refine jzq (jrfa 0 1 false) ?_
    refine jzm (jmst 1 ?_)
    refine jzd ?_;refine jtn ?_
    first
      | (refine jE (closeR n (enterR tag l k).k ((enterR tag l k).l ++ [(enterR tag l k).body]) 0 2 rfl rfl rfl (CEnt.osI (by simp)) cZ (by simp) (fun _ _ => cZ)) ?_; have hL : enterL tag l k = (enterR tag l k).l ++ [(enterR tag l k).body] := by unfold enterL; rw [if_pos (by simpa using h208)])
      | have hL : enterL tag l k = (enterR tag l k).l := by unfold enterL; rw [if_neg (by simpa using h208)]
    refine jcr ?_;refine jq jrm ?_;refine jq jrm ?_;refine jN ?_;refine jR ?_
    rw [hL]
    exact end_H (.inl rfl) rfl (res_1 rfl (arv_tmp rfl)) cZ
  refine code_openR 0 rfl fun gl2 => ?_;refine jcg ?_;refine jq jrm ?_;refine jq (jrde 4) ?_;refine jq jrnc ?_;refine jq (jrfa 1 1 false) ?_
  refine jqm (jmstF 1 (fl [.os 2 gl2 0 l.length 1, .err 5]) ?_ ?_)
  · exact (fun j hj => by rcases j with _ | _ | j <;> exact cZ)
  refine jN ?_;refine jtn ?_
  first
    | (refine jE (closeR n 5 l 0 2 rfl rfl rfl (CEnt.osI rfl) cZ (Nat.le_refl _) (fun _ _ => cZ)) ?_; refine jE (pick_ent (H' := [rdO n l 5]) [0] (by decide) rfl) ?_; have hE : enterR tag l k = nextR tag l 5 := by unfold enterR; rw [if_pos (by simp_all [moreM, madeM])])
    | (refine jE (pick_ent (H' := [rdO n l k]) [0] (by decide) rfl) ?_; have hE : enterR tag l k = nextR tag l k := by unfold enterR; rw [if_neg (by simp_all [moreM, madeM])])
  refine jcr ?_;refine jq jrm ?_;refine jq jrm ?_
  refine jqm (jmcH 0 (nextR_ac n l _ tag hl hb) ?_)
  rintro _ _ ⟨rfl, rfl⟩
  refine ⟨_, _, rfl, cZ, ?_⟩
  refine jq jrm ?_;refine jq jrx ?_;refine jq jrx ?_;refine jq jrx ?_
  refine jqe (jeal (n := 2) zr118 rfl fun p3 => ?_)
  refine jqm (jmst 2 ?_)
  refine jq jrm ?_;refine jq jrm ?_;refine jN ?_;refine jcs ?_
  rw [← hE]
  have hel : 0 < (enterR tag l k).l.length ∧ (enterR tag l k).l.length ≤ 1000000 := by rw [hE]; exact hnl _
  refine jcr ?_;refine jq jrm ?_;refine jN ?_;refine jcc (fun h208 => ?_) fun h208 => ?_
  rotate_left
  · refine jS (jtn ?_)
    first
      | (refine jE (closeR n (enterR tag l k).k ((enterR tag l k).l ++ [(enterR tag l k).body]) 0 2 rfl rfl rfl (CEnt.osI (by simp)) cZ (by simp) (fun _ _ => cZ)) ?_; have hL : enterL tag l k = (enterR tag l k).l ++ [(enterR tag l k).body] := by unfold enterL; rw [if_pos (by simpa using h208)])
      | have hL : enterL tag l k = (enterR tag l k).l := by unfold enterL; rw [if_neg (by simpa using h208)]
    refine jcr ?_;refine jq jrm ?_;refine jq jrm ?_;refine jN ?_;refine jR ?_
    rw [hL]
    exact end_H (.inl rfl) rfl (res_1 rfl (arv_tmp rfl)) cZ
  refine jE (freeze 1 rfl) ?_;refine jE (thawP 5 (m := 2) rfl rfl (by decide)) ?_
  dsimp only [List.set_cons_zero, List.set_cons_succ, List.cons_append, List.nil_append, List.length_cons, List.length_nil, Nat.zero_add, Nat.reduceAdd]
  refine code_openR 0 rfl fun gl3 => ?_;refine jcdZ (.rd 0 (.rd 1 (.rd 2 (.rd 3 (.rd 4 (.rd 5 (.rd 6 (.one 7 (.one 8 (.rd 9 (.rd 10 (.one 11 .done)))))))))))) ?_;refine jzq jrm ?_;refine jzq jrm ?_;refine jzq jrnc ?_;refine jzq (jrfa 0 1 false) ?_;refine jzo jrdo ?_;refine jzq (jrfa 1 1 false) ?_;refine jzq jrdr ?_
  refine jze (jebl 1 1 zr22 fun p4 => ?_)
  refine jzm (m_appendC (rowC_lb) (l2 := [(enterR tag l k).body]) rfl rfl rfl rfl (by omega) (fun _ _ => cZ) (src_os rfl (.inl rfl) (by decide)) rfl (fun j hj => by rcases j with _|j <;> first | exact cZ | exact CEnt.int (by omega) | (exfalso; simp at hj <;> omega)) Tryz.underlying81 nu81 sz22 zr22 by22 rfl (by (simp; omega)) (by (simp; omega)) (leaf_flk rfl rfl) rfl rfl rfl (fun p5 => ?_))
  refine jzq jrnc ?_;refine jzq (jrfa 0 1 false) ?_
  refine jzm (jmst 1 ?_)
  refine jzd ?_;refine jtn ?_
  first
    | (refine jE (closeR n (enterR tag l k).k ((enterR tag l k).l ++ [(enterR tag l k).body]) 0 2 rfl rfl rfl (CEnt.osI (by simp)) cZ (by simp) (fun _ _ => cZ)) ?_; have hL : enterL tag l k = (enterR tag l k).l ++ [(enterR tag l k).body] := by unfold enterL; rw [if_pos (by simpa using h208)])
    | have hL : enterL tag l k = (enterR tag l k).l := by unfold enterL; rw [if_neg (by simpa using h208)]
  refine jcr ?_;refine jq jrm ?_;refine jq jrm ?_;refine jN ?_;refine jR ?_
  rw [hL]
  exact end_H (.inl rfl) rfl (res_1 rfl (arv_tmp rfl)) cZ
def leaveK (l : List (List UInt8)) (k : Nat) : Nat := if k ≠ 0 then k else if l.length = 1 then 24 else if 0 < (nowL l).length then 4 else 0
def leaveL (l : List (List UInt8)) (k : Nat) : List (List UInt8) := if leaveK l k = 0 then l.take (l.length - 1) else l
theorem lbF_take {l : List (List UInt8)} {m j : Nat} (h : j < m) : CEnt (lbF l j) (lbF (l.take m) j) := by
  refine CEnt.of_eq ?_
  simp [lbF, List.getD_eq_getElem?_getD, List.getElem?_take, h]
theorem leave_ac (n : Nat) (l : List (List UInt8)) (k : Nat) (hl : 0 < l.length ∧ l.length ≤ 1000000) : AC gs Tryz.prog 40 [rdO n l k] [.op 0 (some n) 0]
    (fun r H' => r = .c (.tuple #[]) ∧ H' = [rdO n (leaveL l k) (leaveK l k)]) := by
  have stay : ∀ {e}, leaveK l k = e → e ≠ 0 → leaveL l k = l := fun h h0 => by unfold leaveL; rw [h, if_neg h0]
  refine ac_of 45 Tryz.func40 rfl rfl rfl (fun al w0 F0 St0 => ?_)
  refine code_openR 0 rfl fun gl => ?_;refine jcr ?_;refine jq jrm ?_;refine jq jrnc ?_;refine jq (jrfa 0 1 false) ?_;refine jqo jrdo ?_;refine jq jrl ?_;refine jq jra ?_;refine jq jrm ?_;refine jN ?_;refine jB ?_;refine jcr ?_;refine jq jrm ?_;refine jq jrnc ?_;refine jq (jrfa 1 1 false) ?_;refine jqo jrdo ?_;refine jq jre ?_;refine jq jrm ?_;refine jN ?_;refine jcc (fun h218 => ?_) fun h218 => ?_
  · refine jS (jbn ?_)
    have e : leaveK l k = k := by unfold leaveK; rw [if_pos (by omega)]
    rw [stay e (by omega), e]
    exact end_pack (gd := fun z : Nat × Option Nat => z.1) (E := rdE l k) (.inr rfl) _ (n, gl) [0, 1] (by decide) rfl (res_0 rfl) ⟨rfl, rfl⟩
  refine jcr ?_;refine jq jrm ?_;refine jq jrc ?_;refine jq jrm ?_;refine jN ?_;refine jcc (fun h219 => ?_) fun h219 => ?_
  · refine jcg ?_;refine jq jrm ?_;refine jq (jrde 23) ?_;refine jq jrnc ?_;refine jq (jrfa 1 1 false) ?_
    refine jqm (jmstF 1 (fl [.os 1 gl 0 l.length 1, .err 24]) ?_ ?_)
    · exact (fun j hj => by rcases j with _ | _ | j <;> exact cZ)
    refine jN ?_;refine jbn ?_
    have e : leaveK l k = 24 := by unfold leaveK; rw [if_neg (by omega), if_pos (by omega)]
    rw [stay e (by omega), e]
    exact end_pack (gd := fun z : Nat × Option Nat => z.1) (E := rdE l 24) (.inr rfl) _ (n, gl) [0, 1] (by decide) rfl (res_0 rfl) ⟨rfl, rfl⟩
  refine jcr ?_;refine jq jrm ?_;refine jq jrnc ?_;refine jq (jrfa 0 1 false) ?_;refine jqo jrdo ?_;refine jq jrm ?_;refine jq (jri (i := (l.length - 1)) (hz := by omega)) ?_;refine jqo jrdo ?_;refine jq jrl ?_;refine jq jrc ?_;refine jq jrm ?_;refine jN ?_;refine jcc (fun h221 => ?_) fun h221 => ?_
  · refine jcg ?_;refine jq jrm ?_;refine jq (jrde 3) ?_;refine jq jrnc ?_;refine jq (jrfa 1 1 false) ?_
    refine jqm (jmstF 1 (fl [.os 1 gl 0 l.length 1, .err 4]) ?_ ?_)
    · exact (fun j hj => by rcases j with _ | _ | j <;> exact cZ)
    refine jN ?_;refine jbn ?_
    have e : leaveK l k = 4 := by unfold leaveK; rw [if_neg (by omega), if_neg (by omega), if_pos (by unfold nowL; omega)]
    rw [stay e (by omega), e]
    exact end_pack (gd := fun z : Nat × Option Nat => z.1) (E := rdE l 4) (.inr rfl) _ (n, gl) [0, 1] (by decide) rfl (res_0 rfl) ⟨rfl, rfl⟩
  refine jcg ?_;refine jq jrm ?_;refine jq jrm ?_;refine jq jrnc ?_;refine jq (jrfa 0 1 false) ?_;refine jqo jrdo ?_;refine jq jrm ?_;refine jq jrso ?_;refine jq jrnc ?_;refine jq (jrfa 0 1 false) ?_
  have hk0 : k = 0 := by omega
  refine seq_ent (weakH 1 (l.length - 1) (lbF (l.take (l.length - 1))) rfl (by omega) (fun j hj => lbF_take hj)) ?_
  refine jqm (jmstF 1 (fl [.os 1 gl 0 (l.length - 1) 1, .err 0]) ?_ ?_)
  · exact (fun j hj => by rcases j with _ | _ | j <;> first | exact cZ | exact CEnt.osI (by omega) | exact CEnt.err hk0 | omega)
  refine jN ?_;refine jbn ?_
  have e : leaveK l k = 0 := by unfold leaveK; rw [if_neg (by omega), if_neg (by omega), if_neg (by unfold nowL; omega)]
  have e2 : leaveL l k = l.take (l.length - 1) := by unfold leaveL; rw [if_pos e]
  have e3 : (l.take (l.length - 1)).length = l.length - 1 := by rw [List.length_take]; omega
  rw [e2, e]
  exact end_pack (gd := fun z : Nat × Option Nat => z.1) (E := rdE (l.take (l.length - 1)) 0) (.inr rfl) _ (n, gl) [0, 1] (by decide) (by unfold rdE; rw [e3]; rfl) (res_0 rfl) ⟨rfl, rfl⟩
def endK (l : List (List UInt8)) (k : Nat) : Nat := if k ≠ 0 then k else if 1 < l.length then 24 else if 0 < (l.getD 0 []).length then 4 else 0
theorem end08_ac (n : Nat) (l : List (List UInt8)) (k : Nat) (hl : 0 < l.length ∧ l.length ≤ 1000000) : AC gs Tryz.prog 41 [rdO n l k] [.op 0 (some n) 0]
    (fun r H' => r = .err (endK l k) ∧ H' = [rdO n l k]) := by
  refine ac_of 31 Tryz.func41 rfl rfl rfl (fun al w0 F0 St0 => ?_)
  refine jcr ?_;refine jq jrm ?_;refine jN ?_;refine jcs ?_;refine jB ?_;refine code_openR 0 rfl fun gl => ?_;refine jcr ?_;refine jq jrm ?_;refine jq jrnc ?_;refine jq (jrfa 1 1 false) ?_;refine jqo jrdo ?_;refine jq jre ?_;refine jq jrm ?_;refine jN ?_;refine jcc (fun h292 => ?_) fun h292 => ?_
  · refine jcr ?_;refine jq jrm ?_;refine jq jrnc ?_;refine jq (jrfa 1 1 false) ?_;refine jqo jrdo ?_;refine jq jrm ?_;refine jN ?_
    refine jR (jbr (jtr ?_))
    exact end_packV (gd := fun z : Nat × Option Nat => z.1) (E := rdE l k) (.inl rfl) (n, gl) [0, 1] (by decide) rfl (res_1 rfl (arv_tmp rfl)) (CEnt.err (by unfold endK; rw [if_pos (by omega)]))
  refine jcr ?_;refine jq jrm ?_;refine jq jrnc ?_;refine jq (jrfa 0 1 false) ?_;refine jqo jrdo ?_;refine jq jrl ?_;refine jq jrc ?_;refine jq jrm ?_;refine jN ?_;refine jcc (fun h294 => ?_) fun h294 => ?_
  · refine jcr ?_;refine jq (jrde 23) ?_;refine jq jrm ?_;refine jN ?_
    refine jR (jbr (jtr ?_))
    exact end_packV (gd := fun z : Nat × Option Nat => z.1) (E := rdE l k) (.inl rfl) (n, gl) [0, 1] (by decide) rfl (res_1 rfl (arv_tmp rfl)) (CEnt.err (by unfold endK; rw [if_neg (by omega), if_pos (by omega)]))
  refine jcr ?_;refine jq jrm ?_;refine jq jrnc ?_;refine jq (jrfa 0 1 false) ?_;refine jqo jrdo ?_;refine jq (jri (i := 0)) ?_;refine jqo jrdo ?_;refine jq jrl ?_;refine jq jrc ?_;refine jq jrm ?_;refine jN ?_;refine jcc (fun h296 => ?_) fun h296 => ?_
  · refine jcr ?_;refine jq (jrde 3) ?_;refine jq jrm ?_;refine jN ?_
    refine jR (jbr (jtr ?_))
    exact end_packV (gd := fun z : Nat × Option Nat => z.1) (E := rdE l k) (.inl rfl) (n, gl) [0, 1] (by decide) rfl (res_1 rfl (arv_tmp rfl)) (CEnt.err (by unfold endK; rw [if_neg (by omega), if_neg (by omega), if_pos (by omega)]))
  refine jS (jbn (jtn ?_))
  refine jcr ?_;refine jq jrm ?_;refine jN ?_;refine jR ?_
  have e : endK l k = 0 := by unfold endK; rw [if_neg (by omega), if_neg (by omega), if_neg (by omega)]
  rw [e]
  exact end_packV (gd := fun z : Nat × Option Nat => z.1) (E := rdE l k) (.inl rfl) (n, gl) [0, 1] (by decide) rfl (res_1 rfl (arv_tmp rfl)) CEnt.nil
end
section
variable {gs : List Nat} [Ok9 gs]
open Go.RowKit

theorem nextR_is {tag : Int} {l : List (List UInt8)} {k : Nat} (h : (nextR tag l k).is = true) : (nextR tag l k).k = 0 ∧ (nextR tag l k).body.length ≤ 65530 := by
  have hb := nextM_bd (nowL l)
  unfold nextR at h ⊢
  split
  · rename_i h1; rw [if_pos h1] at h; cases h
  · rename_i h1; rw [if_neg h1] at h
    split
    · rename_i h2; rw [if_pos h2] at h; cases h
    · rename_i h2; rw [if_neg h2] at h
      split
      · rename_i h3; rw [if_pos h3] at h; cases h
      · exact ⟨rfl, hb.2.2.1⟩
def valK (tag : Int) (l : List (List UInt8)) (k : Nat) (e : List UInt8 → Nat) : Nat := if (nextR tag l k).is = true then e (nextR tag l k).body else (nextR tag l k).k
theorem nextR_len {tag : Int} {l : List (List UInt8)} {k : Nat} : (nextR tag l k).l.length = l.length := by
  unfold nextR
  split
  · rfl
  · split
    · rfl
    · split
      · rfl
      · simp
theorem int_box {z : Int} : ∀ j, j < 1 → CEnt (fl [CV.c (.int .i64 z)] (0 + j)) (CV.c (.int .i64 z)) := fun j hj => by
  obtain rfl : j = 0 := by omega
  exact cZ
def twoF (a b : Int) : Nat → CV := fl [.rp 1 fun _ => .c (.int .i64 a), .rp 1 fun _ => .c (.int .i64 b)]
end
section
variable {gs : List Nat} [Ok9 gs]
open Go.RowKit

theorem read08_ac (b : List UInt8) (hb : b.length ≤ 10000000) : AC gs Tryz.prog 32 [] [bsC b] (fun r H' => ∃ n, r = .op 0 (some n) 0 ∧ H' = [rdO n [b] (depthM b).2]) := by
  refine ac_of 10 Tryz.func32 rfl rfl rfl (fun al w0 F0 St0 => ?_)
  refine jcr ?_;refine jq jrm ?_;refine jN ?_;refine jcr ?_;refine jq jrm ?_
  refine jqe (jecP (clone8_ac b (by omega)) ?_)
  refine jqe (jebl 1 1 zr22 fun p1 => ?_)
  refine jq jrm ?_
  refine jqe (jecP (check_ac b hb) ?_)
  refine jq (rd_build (n := 2) rfl zr116 pl116 rfl rfl) ?_
  refine jqe (jebx 2 fun p2 => ?_)
  refine jq jrm ?_;refine jN ?_;refine code_knowG (know_op 2 rfl) fun hn => ?_
  obtain ⟨n, rfl⟩ := hn
  refine jE (closeR n (depthM b).2 [b] 1 0 rfl rfl rfl (CEnt.osI rfl) cZ (Nat.le_refl _) (fun a ha => by obtain rfl : a = 0 := (by simpa using ha); exact cZ)) ?_;refine jR ?_
  exact end_ownV (.inl rfl) [1] (by decide) rfl (res_1 rfl (arv_tmp rfl)) (CEnt.opI (j := 0)) ⟨n, rfl, rfl⟩
end
section
variable {gs : List Nat} [Ok9 gs]
open Go.RowKit

theorem valueS_ac {gs : List Nat} [Ok9 gs] {f : FuncId} {m : Nat} {fv : Nat → CV} (hc : calleeB Tryz.prog f = true) (n : Nat) (l : List (List UInt8)) (k : Nat) (tag : Int) (get : List UInt8 → (List UInt8) × Nat) (hl : 0 < l.length ∧ l.length ≤ 1000000) (hb : (nowL l).length ≤ 10000000) (hp : ∀ b : List UInt8, b.length ≤ 65530 → ACp gs Tryz.prog f (bsC b :: (List.range m).map fv) (.tup 2 (fl [strC (get b).1, .err (get b).2]))) :
    AC gs Tryz.prog 142 [rdO n l k] [.op 0 (some n) 0, .c (.int .i64 tag), .fn f m fv]
      (fun r H' => r = strC (if (nextR tag l k).is = true ∧ (get (nextR tag l k).body).2 = 0 then (get (nextR tag l k).body).1 else []) ∧ H' = [rdO n (nextR tag l k).l (valK tag l k fun b => (get b).2)]) := by
  have hln : (nextR tag l k).l.length = l.length := nextR_len
  refine ac_of 38 Tryz.func142 rfl rfl rfl (fun al w0 F0 St0 => ?_)
  refine jcr ?_;refine jq jrm ?_;refine jN ?_;refine jcr ?_;refine jq jrm ?_;refine jN ?_;refine jcr ?_;refine jq jrm ?_;refine jq jrm ?_
  refine jqm (jmcH 0 (nextR_ac n l k tag hl hb) ?_)
  rintro _ _ ⟨rfl, rfl⟩
  refine ⟨_, _, rfl, cZ, ?_⟩
  refine jq jrm ?_;refine jq jrx ?_;refine jq jrx ?_;refine jq jrx ?_
  refine jqe (jeal (n := 2) zr118 rfl fun p2 => ?_)
  refine jqm (jmst 2 ?_)
  refine jq jrm ?_;refine jq jrm ?_;refine jN ?_;refine jcs ?_;refine jcr ?_;refine jq jrm ?_;refine jq jrn ?_;refine jN ?_;refine jcc (fun h232 => ?_) fun h232 => ?_
  · refine jcr ?_;refine jq jrm ?_;refine jq jrm ?_;refine jN ?_
    refine jR (jtr ?_)
    rw [if_neg (by simp_all)]
    have e : (valK tag l k fun b => (get b).2) = (nextR tag l k).k := by unfold valK; rw [if_neg (by simpa using h232)]
    rw [e]
    exact end_H (.inl rfl) rfl (res_1 rfl (arv_tmp rfl)) cZ
  refine jS (jtn ?_)
  have his := nextR_is (by simpa using h232)
  refine jcr ?_;refine jq jrm ?_;refine jq (jrfa 1 1 false) ?_
  first | refine jqo jrdo ?_ | refine jq jrdr ?_
  refine jqe (e_callV rfl rfl (by first | assumption | kernel_rfl) (hp (nextR tag l k).body his.2) (entL_fn cZ _) rfl rfl ?_)
  rintro _ _ ⟨rfl, rfl⟩
  refine jq jrm ?_;refine jq jrx ?_;refine jq jrx ?_;refine jq jrm ?_;refine jq jrm ?_;refine jN ?_;refine jcs ?_;refine jcr ?_;refine jq jrm ?_;refine jq jre ?_;refine jN ?_;refine jcc (fun h236 => ?_) fun h236 => ?_
  rotate_left
  · refine jS (jtn ?_)
    refine jcr ?_;refine jq jrm ?_;refine jq jrm ?_;refine jN ?_;refine jR ?_
    have h0 : (get (nextR tag l k).body).2 = 0 := by omega
    rw [if_pos ⟨by simpa using h232, h0⟩]
    have e : (valK tag l k fun b => (get b).2) = (nextR tag l k).k := by unfold valK; rw [if_pos (by simpa using h232), his.1]; exact h0
    rw [e]
    exact end_H (.inl rfl) rfl (res_1 rfl (arv_tmp rfl)) cZ
  refine code_openR 0 rfl fun gl => ?_;refine jcr ?_;refine jq jrm ?_;refine jq jrm ?_;refine jq jrnc ?_;refine jq (jrfa 1 1 false) ?_
  refine jqm (jmst 1 ?_)
  refine jN ?_;refine jE (closeR n (get (nextR tag l k).body).2 (nextR tag l k).l 0 2 rfl rfl rfl (CEnt.osI rfl) cZ (Nat.le_refl _) (fun _ _ => cZ)) ?_;refine jcr ?_;refine jq jrm ?_;refine jq jrm ?_;refine jN ?_
  refine jR (jtr ?_)
  rw [if_neg (by omega)]
  have e : (valK tag l k fun b => (get b).2) = (get (nextR tag l k).body).2 := by unfold valK; rw [if_pos (by simpa using h232)]
  rw [e]
  exact end_H (.inl rfl) rfl (res_1 rfl (arv_tmp rfl)) cZ
end
section
open Go.RowKit
def ssF (ls : List (List UInt8)) (j : Nat) : CV := strC (ls.getD j [])
def ssC (ls : List (List UInt8)) : CV := .rs 1 ls.length fun i _ => strC (ls.getD i [])
theorem rowC_ss : RowC 1 ssF := fun l l2 j hj => by
  simp only [ssF, List.getD_eq_getElem?_getD]
  split
  · rw [List.getElem?_append_left (by omega)]
  · rw [List.getElem?_append_right (by omega), Nat.mul_one]
theorem ss_thaw {ls : List (List UInt8)} : ∀ a b, a < ls.length → b < 1 → CEnt (ssF ls (0 + (a * 1 + b))) (strC (ls.getD a [])) := fun a b ha hb => CEnt.of_eq (by rw [show 0 + (a * 1 + b) = a by omega]; rfl)

theorem join_ac {gs : List Nat} (ls : List (List UInt8)) (sep : List UInt8) (h1 : ls.length ≤ 1000000000) (h2 : (Lib.join ls sep).length ≤ 100000000000) : ACp gs Tryz.prog 184 [ssC ls, strC sep] (strC (Lib.join ls sep)) :=
  ac_old fun al w St vals hs hv hr => by
    obtain ⟨ao, cap, k1, k2, k3, k4, k5⟩ := hr 0
    rw [vals2 hv, show vals.getD 0 undef = .slice ao ls.length cap from k1, show vals.getD 1 undef = .string ⟨sep.toArray⟩ from hr 1]
    by_cases hn : ls = []
    · subst hn
      exact (Tryz.strings_Join_none ao cap _ w).mono (by rintro e w' ⟨rfl, rfl⟩; exact ⟨rfl, Below.refl _ _⟩)
    · have hp : 0 < ls.length := List.length_pos_iff.2 hn
      obtain ⟨a, rfl⟩ : ∃ a, ao = some a := by
        cases ao with
        | none => have := k4 rfl; omega
        | some a => exact ⟨a, rfl⟩
      obtain ⟨e1, e2, e3⟩ := k5 a rfl hp
      obtain ⟨bk, o, sp⟩ := a
      obtain rfl : sp = none := e1
      have hm : (ls.map fun l => (⟨l.toArray⟩ : ByteArray)).map (·.data.toList) = ls := by
        rw [List.map_map]
        exact (List.map_congr_left fun x _ => by simp).trans (List.map_id ls)
      have hc : ∀ (j : Nat) x, (ls.map fun l => (⟨l.toArray⟩ : ByteArray))[j]? = some x → w.cell? ⟨bk, o + j, none⟩ = some (.string x) := fun j x hx => by
        rw [List.getElem?_map] at hx
        obtain ⟨y, hy, rfl⟩ := Option.map_eq_some_iff.1 hx
        have hj : j < ls.length := (List.getElem?_eq_some_iff.1 hy).1
        obtain ⟨v, hv1, hv2⟩ := e3 j 0 hj (by omega)
        rw [show o + (j * 1 + 0) = o + j by omega] at hv1
        rw [hv1]
        have : v = .string ⟨(ls.getD j []).toArray⟩ := hv2
        rw [this, List.getD_eq_getElem?_getD, hy]; rfl
      have hb : bk < w.heap.size := by
        obtain ⟨v, hv1, hv2⟩ := e3 0 0 hp (by omega)
        exact World.block_lt_of_cell? w _ hv1
      have hj := Tryz.strings_Join bk o cap (ls.map fun l => (⟨l.toArray⟩ : ByteArray)) ⟨sep.toArray⟩ w hc hb (by rw [List.length_map]; omega) (by rw [List.length_map]; exact k2) (by rw [hm]; show (Lib.join ls sep).length ≤ _; omega)
      rw [hm, List.length_map] at hj
      exact hj
end
section
variable {gs : List Nat} [Ok2 gs]
open Go.RowKit

def inR (n : Int) : Bool := decide (0 ≤ n) && decide (n ≤ 2147483647)
theorem rightA_not {l : List Int} (h : (l.length : Int) < 2 ∨ (16 : Int) < l.length ∨ l.getD 0 0 < 0 ∨ 2 < l.getD 0 0 ∨ (l.getD 0 0 < 2 ∧ 39 < l.getD 1 0) ∨ l.all inR = false) : rightA l = false := by
  cases e : rightA l with
  | false => rfl
  | true =>
    obtain ⟨h1, h2, h3, h4, h5⟩ := right_at e
    rcases h with h | h | h | h | h | h
    · omega
    · omega
    · have := h3 _ (getD_mem' (l := l) (k := 0) 0 (by omega)); omega
    · omega
    · omega
    · have : l.all inR = true := List.all_eq_true.2 fun n hn => by have := h3 n hn; unfold inR; simp; omega
      rw [this] at h; cases h
theorem rightA_yes {l : List Int} (h1 : ¬ (l.length : Int) < 2) (h2 : ¬ (16 : Int) < l.length) (h3 : ¬ 2 < l.getD 0 0) (h4 : ¬ (l.getD 0 0 < 2 ∧ 39 < l.getD 1 0)) (h5 : l.all inR = true) : rightA l = true := by
  unfold rightA
  have e : l.all (fun n => decide (0 ≤ n) && decide (n ≤ 2147483647)) = true := h5
  rw [e, decide_eq_true (show 2 ≤ l.length by omega), decide_eq_true (show l.length ≤ 16 by omega), decide_eq_true (show l.getD 0 0 ≤ 2 by omega)]
  by_cases h6 : l.getD 0 0 = 2
  · rw [decide_eq_true h6]; rfl
  · rw [decide_eq_true (show l.getD 1 0 < 40 by omega), Bool.or_true]; rfl
theorem inR_yes {n : Int} (h1 : ¬ n < 0) (h2 : ¬ 2147483647 < n) : inR n = true := by
  unfold inR
  simp only [Bool.and_eq_true, decide_eq_true_eq]
  omega
theorem inR_no {n : Int} (h : n < 0 ∨ 2147483647 < n) : inR n = false := by
  cases e : inR n with
  | false => rfl
  | true =>
    unfold inR at e
    simp only [Bool.and_eq_true, decide_eq_true_eq] at e
    omega
theorem figR_two (p : List UInt8) : ((figR p).2 = true ↔ (figM p).2 = 0) ∧ ((figR p).2 = true → (figR p).1 = (figM p).1) := by
  unfold figR
  split
  · rename_i h; exact ⟨⟨fun _ => h, fun _ => rfl⟩, fun _ => rfl⟩
  · rename_i h; exact ⟨⟨fun e => (by cases e), fun e => absurd e h⟩, fun e => (by cases e)⟩
theorem okP_bad {p : List UInt8} (h : (figR p).2 = false ∨ (10 : Int) < p.length) : okP p = false := by
  cases e : okP p with
  | false => rfl
  | true =>
    unfold okP at e
    simp only [Bool.and_eq_true, decide_eq_true_eq] at e
    have := (figR_two p).1.2 e.1
    rcases h with h | h
    · rw [h] at this; cases this
    · omega
theorem okP_good {p : List UInt8} (h : (figR p).2 = true) (h2 : ¬ (10 : Int) < p.length) : okP p = true ∧ ((figR p).1 : Int) = valP p := by
  refine ⟨?_, by rw [(figR_two p).2 h]; rfl⟩
  unfold okP
  simp only [Bool.and_eq_true, decide_eq_true_eq]
  exact ⟨(figR_two p).1.1 h, by omega⟩
theorem take_allO {α : Type} {p : α → Bool} {l : List α} {i : Nat} (d : α) (h : i < l.length) (h1 : (l.take i).all p = true) (h2 : p (l.getD i d) = true) : (l.take (i + 1)).all p = true := by
  rw [take_get d h, List.all_append, h1, List.all_cons, h2]
  rfl
theorem rright5_ac {gs : List Nat} (l : List Int) : ACp gs Tryz.prog 124 [isC l] (.c (.bool (rightA l))) := by
  refine ac_len 0 rfl fun hlen => ?_
  refine ac_of 50 Tryz.func124 rfl rfl rfl (fun al w0 F0 St0 => ?_)
  refine jcr ?_;refine jq jrm ?_;refine jN ?_;refine jcs ?_;refine jcr ?_;refine jq jrm ?_;refine jq jrl ?_;refine jq jrc ?_;refine jq jrm ?_;refine jqsp 8 (fun g11 => ?_) fun g11 => ?_
  · refine jqs ?_;refine jqs ?_;refine jqs ?_;refine jq jrpT ?_;refine jq jrm ?_;refine jqs ?_;refine jqs ?_;refine jqs ?_;refine jqs ?_;refine jq jrpT ?_;refine jq jrm ?_;refine jqs ?_;refine jqs ?_;refine jqs ?_;refine jqs ?_;refine jq jrpT ?_;refine jq jrm ?_;refine jqs ?_;refine jqs ?_;refine jqs ?_;refine jqs ?_;refine jqs ?_;refine jqs ?_;refine jqs ?_;refine jqs ?_;refine jqs ?_;refine jqs ?_;refine jq jrpT ?_;refine jN ?_;refine jcT ?_;refine jcr ?_;refine jq jrm ?_;refine jN ?_
    refine jR (jtr (jrt (hv := ?_)))
    refine CEnt.bool ?_
    refine (rightA_not ?_).symm
    omega
  refine jq jrm ?_;refine jq jrl ?_;refine jq jrc ?_;refine jq jrpF ?_;refine jq jrm ?_;refine jqsp 13 (fun g11_2 => ?_) fun g11_2 => ?_
  · refine jqs ?_;refine jqs ?_;refine jqs ?_;refine jqs ?_;refine jq jrpT ?_;refine jq jrm ?_;refine jqs ?_;refine jqs ?_;refine jqs ?_;refine jqs ?_;refine jq jrpT ?_;refine jq jrm ?_;refine jqs ?_;refine jqs ?_;refine jqs ?_;refine jqs ?_;refine jqs ?_;refine jqs ?_;refine jqs ?_;refine jqs ?_;refine jqs ?_;refine jqs ?_;refine jq jrpT ?_;refine jN ?_;refine jcT ?_;refine jcr ?_;refine jq jrm ?_;refine jN ?_
    refine jR (jtr (jrt (hv := ?_)))
    refine CEnt.bool ?_
    refine (rightA_not ?_).symm
    omega
  refine jq jrm ?_;refine jq (jri (i := 0)) ?_;refine jq jrdr ?_;refine jq jrc ?_;refine jq jrpF ?_;refine jq jrm ?_;refine jqsp 19 (fun g11_3 => ?_) fun g11_3 => ?_
  · refine jqs ?_;refine jqs ?_;refine jqs ?_;refine jqs ?_;refine jq jrpT ?_;refine jq jrm ?_;refine jqs ?_;refine jqs ?_;refine jqs ?_;refine jqs ?_;refine jqs ?_;refine jqs ?_;refine jqs ?_;refine jqs ?_;refine jqs ?_;refine jqs ?_;refine jq jrpT ?_;refine jN ?_;refine jcT ?_;refine jcr ?_;refine jq jrm ?_;refine jN ?_
    refine jR (jtr (jrt (hv := ?_)))
    refine CEnt.bool ?_
    refine (rightA_not ?_).symm
    omega
  refine jq jrm ?_;refine jq (jri (i := 0)) ?_;refine jq jrdr ?_;refine jq jrc ?_;refine jq jrpF ?_;refine jq jrm ?_;refine jqsp 25 (fun g11_4 => ?_) fun g11_4 => ?_
  · refine jqs ?_;refine jqs ?_;refine jqs ?_;refine jqs ?_;refine jqs ?_;refine jqs ?_;refine jqs ?_;refine jqs ?_;refine jqs ?_;refine jqs ?_;refine jq jrpT ?_;refine jN ?_;refine jcT ?_;refine jcr ?_;refine jq jrm ?_;refine jN ?_
    refine jR (jtr (jrt (hv := ?_)))
    refine CEnt.bool ?_
    refine (rightA_not ?_).symm
    omega
  refine jq jrm ?_;refine jq (jri (i := 0)) ?_;refine jq jrdr ?_;refine jq jrc ?_;refine jq jrm ?_;refine jqsp 30 (fun g11_5 => ?_) fun g11_5 => ?_
  rotate_left
  · refine jqs ?_;refine jqs ?_;refine jqs ?_;refine jqs ?_;refine jq jrpF ?_;refine jq jrpF ?_;refine jN ?_;refine jcF ?_
    refine jS (jtn ?_)
    refine jcs ?_;refine jcr ?_;refine jq jrm ?_;refine jq jrl ?_;refine jq jrm ?_;refine jN ?_;refine jB ?_;refine l_loop (α := Nat) [2, 4, 39, 40, 41, 42, 43, 44, 45, 46, 47, 48, 49] (fun i => [(39, .c (.int .i64 (i : Nat)))]) (fun _ => []) (fun i => i ≤ l.length ∧ (l.take i).all inR = true) (fun i => l.length - i) (0) ?_ (fun _ => rfl) ?_ ?_ ?_
    · exact ⟨Nat.zero_le _, rfl⟩
    · (repeat (first | exact EntE.nil | refine EntE.cons cZ ?_ | refine EntE.cons (CEnt.int (by omega)) ?_))
    · (repeat (first | exact HEnt.nil | refine HEnt.same ?_ | refine HEnt.blk rfl (fun j hj => by rcases j with _|_|_|_|_|_|_|_|j <;> first | exact cZ | exact CEnt.int (by omega) | omega) ?_))
    · rintro i ⟨(hi : i ≤ l.length), hall⟩
      refine jcr ?_;refine jq jrc ?_;refine jN ?_;refine jcs ?_;refine jcc (fun h14 => ?_) fun h14 => ?_
      rotate_left
      · refine jX (jte (jte (jbx (jtn ?_))))
        refine jcr ?_;refine jq jrm ?_;refine jN ?_
        refine jR (jrt (hv := ?_))
        refine CEnt.bool ?_
        rw [show i = l.length by omega, List.take_length] at hall
        exact (rightA_yes (by omega) (by omega) (by omega) (by omega) hall).symm
      refine jS (jtn ?_)
      refine jcs ?_;refine jB ?_;refine jcr ?_;refine jq jri ?_;refine jq jrdr ?_;refine jq jrm ?_;refine jN ?_;refine jcr ?_;refine jq jrm ?_;refine jq jrc ?_;refine jq jrm ?_;refine jqsp 45 (fun g15 => ?_) fun g15 => ?_
      · refine jqs ?_;refine jqs ?_;refine jq jrpT ?_;refine jN ?_;refine jcT ?_;refine jcr ?_;refine jq jrm ?_;refine jN ?_
        refine jR (jbr (jtr (jtr (jbr (jtr (jrt (hv := ?_)))))))
        refine CEnt.bool ?_
        exact (rightA_not (.inr (.inr (.inr (.inr (.inr (all_false (k := i) 0 (by omega) (inR_no (by omega))))))))).symm
      refine jq jrm ?_;refine jq jrc ?_;refine jq jrpF ?_;refine jN ?_;refine jcc (fun h15 => ?_) fun h15 => ?_
      · refine jcr ?_;refine jq jrm ?_;refine jN ?_
        refine jR (jbr (jtr (jtr (jbr (jtr (jrt (hv := ?_)))))))
        refine CEnt.bool ?_
        exact (rightA_not (.inr (.inr (.inr (.inr (.inr (all_false (k := i) 0 (by omega) (inR_no (by omega))))))))).symm
      refine jS (jbn (jtn ?_))
      refine jcg ?_;refine jq jra ?_;refine jq jrm ?_;refine jN ?_;refine jtn ?_;refine jlend (i + 1) ?_ ?_
      · exact ⟨by omega, take_allO 0 (by omega) hall (inR_yes (by omega) (by omega))⟩
      · show l.length - (i + 1) < l.length - i; omega
  refine jq jrm ?_;refine jq (jri (i := 1)) ?_;refine jq jrdr ?_;refine jq jrc ?_;refine jq jrpT ?_;refine jq jrpF ?_;refine jN ?_;refine jcc (fun h11 => ?_) fun h11 => ?_
  · refine jcr ?_;refine jq jrm ?_;refine jN ?_
    refine jR (jtr (jrt (hv := ?_)))
    refine CEnt.bool ?_
    refine (rightA_not ?_).symm
    omega
  refine jS (jtn ?_)
  refine jcs ?_;refine jcr ?_;refine jq jrm ?_;refine jq jrl ?_;refine jq jrm ?_;refine jN ?_;refine jB ?_;refine l_loop (α := Nat) [2, 4, 39, 40, 41, 42, 43, 44, 45, 46, 47, 48, 49] (fun i => [(39, .c (.int .i64 (i : Nat)))]) (fun _ => []) (fun i => i ≤ l.length ∧ (l.take i).all inR = true) (fun i => l.length - i) (0) ?_ (fun _ => rfl) ?_ ?_ ?_
  · exact ⟨Nat.zero_le _, rfl⟩
  · (repeat (first | exact EntE.nil | refine EntE.cons cZ ?_ | refine EntE.cons (CEnt.int (by omega)) ?_))
  · (repeat (first | exact HEnt.nil | refine HEnt.same ?_ | refine HEnt.blk rfl (fun j hj => by rcases j with _|_|_|_|_|_|_|_|j <;> first | exact cZ | exact CEnt.int (by omega) | omega) ?_))
  · rintro i ⟨(hi : i ≤ l.length), hall⟩
    refine jcr ?_;refine jq jrc ?_;refine jN ?_;refine jcs ?_;refine jcc (fun h14 => ?_) fun h14 => ?_
    rotate_left
    · refine jX (jte (jte (jbx (jtn ?_))))
      refine jcr ?_;refine jq jrm ?_;refine jN ?_
      refine jR (jrt (hv := ?_))
      refine CEnt.bool ?_
      rw [show i = l.length by omega, List.take_length] at hall
      exact (rightA_yes (by omega) (by omega) (by omega) (by omega) hall).symm
    refine jS (jtn ?_)
    refine jcs ?_;refine jB ?_;refine jcr ?_;refine jq jri ?_;refine jq jrdr ?_;refine jq jrm ?_;refine jN ?_;refine jcr ?_;refine jq jrm ?_;refine jq jrc ?_;refine jq jrm ?_;refine jqsp 45 (fun g15 => ?_) fun g15 => ?_
    · refine jqs ?_;refine jqs ?_;refine jq jrpT ?_;refine jN ?_;refine jcT ?_;refine jcr ?_;refine jq jrm ?_;refine jN ?_
      refine jR (jbr (jtr (jtr (jbr (jtr (jrt (hv := ?_)))))))
      refine CEnt.bool ?_
      exact (rightA_not (.inr (.inr (.inr (.inr (.inr (all_false (k := i) 0 (by omega) (inR_no (by omega))))))))).symm
    refine jq jrm ?_;refine jq jrc ?_;refine jq jrpF ?_;refine jN ?_;refine jcc (fun h15 => ?_) fun h15 => ?_
    · refine jcr ?_;refine jq jrm ?_;refine jN ?_
      refine jR (jbr (jtr (jtr (jbr (jtr (jrt (hv := ?_)))))))
      refine CEnt.bool ?_
      exact (rightA_not (.inr (.inr (.inr (.inr (.inr (all_false (k := i) 0 (by omega) (inR_no (by omega))))))))).symm
    refine jS (jbn (jtn ?_))
    refine jcg ?_;refine jq jra ?_;refine jq jrm ?_;refine jN ?_;refine jtn ?_;refine jlend (i + 1) ?_ ?_
    · exact ⟨by omega, take_allO 0 (by omega) hall (inR_yes (by omega) (by omega))⟩
    · show l.length - (i + 1) < l.length - i; omega

theorem split_stepO {c : UInt8} {s : List UInt8} {a i : Nat} (hai : a ≤ i) (hi : i < s.length) (hno : c ∉ (s.take i).drop a) (hc : s.getD i 0 = c) : splitC c (s.drop a) = (s.take i).drop a :: splitC c (s.drop (i + 1)) := by
  have e : s.drop a = (s.take i).drop a ++ c :: s.drop (i + 1) := by
    have h1 : s = s.take i ++ s.drop i := (List.take_append_drop i s).symm
    have h2 : s.drop i = c :: s.drop (i + 1) := by
      rw [List.drop_eq_getElem_cons hi, ← hc]
      simp [List.getD, hi]
    conv => lhs; rw [h1, List.drop_append_of_le_length (by rw [List.length_take]; omega), h2]
  rw [e, splitC_at _ hno]
theorem notin_step {c : UInt8} {s : List UInt8} {a i : Nat} (hai : a ≤ i) (hi : i < s.length) (hno : c ∉ (s.take i).drop a) (hc : s.getD i 0 ≠ c) : c ∉ (s.take (i + 1)).drop a := by
  rw [take_get 0 hi, List.drop_append_of_le_length (by rw [List.length_take]; omega)]
  intro h
  rcases List.mem_append.1 h with h | h
  · exact hno h
  · exact hc (List.mem_singleton.1 h).symm
theorem u8_eqO {c d : UInt8} (h : (c.toNat : Int) = d.toNat) : c = d := UInt8.toNat_inj.1 (by omega)
theorem rsplit_ac {gs : List Nat} (s : List UInt8) (hs : s.length ≤ 1000000000) : ACp gs Tryz.prog 122 [strC s] (ssC (splitC 46 s)) := by
  have hpl := split_len 46 s
  refine ac_of 32 Tryz.func122 rfl rfl rfl (fun al w0 F0 St0 => ?_)
  refine jcr ?_;refine jq jrm ?_;refine jN ?_;refine jcr ?_
  refine jqe (jebl 0 1 zr9 fun p1 => ?_)
  refine jq jrm ?_;refine jq jrm ?_;refine jN ?_;refine jcs ?_;refine jcr ?_;refine jq jrm ?_;refine jN ?_;refine jB ?_;refine l_loop (α := Nat × Nat × List (List UInt8) × Option Nat) [3, 4, 5, 7, 8, 9, 10, 11, 12, 13, 14, 15, 16, 17, 18, 19, 20, 21, 22, 23, 24, 25] (fun (i, a, X, g) => [(5, .c (.int .i64 (i : Nat))), (4, .c (.int .i64 (a : Nat))), (3, .os 0 g 0 X.length 1)]) (fun (i, a, X, g) => [(g, .blk (X.length * 1) (ssF X))]) (fun (i, a, X, g) => i ≤ s.length ∧ a ≤ i ∧ X.length ≤ i ∧ splitC 46 s = X ++ splitC 46 (s.drop a) ∧ (46 : UInt8) ∉ (s.take i).drop a) (fun (i, a, X, g) => s.length - i) ((0, 0, [], p1)) ?_ (fun _ => rfl) ?_ ?_ ?_
  · exact ⟨Nat.zero_le _, Nat.le_refl _, Nat.le_refl _, by simp, by simp⟩
  · exact .cons cZ (.cons cZ (.cons cZ .nil))
  · exact .blk rfl (fun j hj => absurd hj (Nat.not_lt_zero j)) .nil
  · rintro ⟨i, a, X, g⟩ ⟨(hi : i ≤ s.length), (ha : a ≤ i), (hX : X.length ≤ i), hsp, hno⟩
    refine jcs ?_;refine jcr ?_;refine jq jrm ?_;refine jq jrm ?_;refine jq jrls ?_;refine jq jrc ?_;refine jN ?_;refine jcc (fun h25 => ?_) fun h25 => ?_
    rotate_left
    · refine jX (jte (jte (jbx (jtn ?_))))
      refine jcr ?_;refine jq jrm ?_;refine jq jrm ?_;refine jq jrm ?_;refine jq (rd_sliceLF rfl rfl Tryz.underlying9 rfl (show _ = ((a : Nat) : Int) by omega) (by (omega))) ?_
      refine jqe (jebl 1 1 zr9 fun p2 => ?_)
      refine jqm (m_appendC (rowC_ss) (l2 := [s.drop a]) rfl rfl rfl rfl (by exact Nat.le_refl _) (fun _ _ => cZ) (src_os rfl (.inl rfl) (by decide)) rfl (fun j hj => by rcases j with _|j <;> first | exact cZ | exact CEnt.int (by omega) | (exfalso; simp at hj <;> omega)) Tryz.underlying88 nu88 sz9 zr9 by9 rfl (by (simp; omega)) (by (simp; omega)) (leaf_flk rfl rfl) rfl rfl rfl (fun p3 => ?_))
      refine jq jrm ?_;refine jN ?_
      have hi2 : i = s.length := by omega
      rw [hi2, List.take_length] at hno
      rw [splitC_none hno] at hsp
      refine jE (freeze 0 rfl) ?_;refine jE (thaw 2 (fun b _ => strC ((X ++ [s.drop a]).getD b [])) rfl rfl (by omega) ss_thaw) ?_
      refine jR (jrt (hv := ?_))
      rw [hsp]
      exact cZ
    refine jS (jtn ?_)
    refine jcs ?_;refine jB ?_;refine jcr ?_;refine jq jrm ?_;refine jq jrm ?_;refine jq jrix ?_;refine jq jrc ?_;refine jN ?_;refine jcc (fun h26 => ?_) fun h26 => ?_
    rotate_left
    · refine jS (jbn (jtn ?_))
      refine jcg ?_;refine jq jrm ?_;refine jq jra ?_;refine jq jrm ?_;refine jN ?_;refine jtn ?_
      refine jlend ((i + 1, a, X, g)) ?_ ?_ (h5 := ?_) (h7 := ?_)
      · exact ⟨by omega, by omega, by omega, hsp, notin_step ha (by omega) hno (fun e => h26 (by rw [e]; rfl))⟩
      · show s.length - (i + 1) < s.length - i; omega
      · exact .cons (CEnt.int (by omega)) (.cons cZ (.cons cZ .nil))
      · exact .same .nil
    refine jcr ?_;refine jq jrm ?_;refine jq jrm ?_;refine jq jrm ?_;refine jq jrm ?_;refine jq (rd_sliceL rfl rfl Tryz.underlying9 (bd_some rfl (show _ = ((a : Nat) : Int) by omega)) (bd_some rfl (show _ = ((i : Nat) : Int) by omega)) (by (omega)) (by (omega))) ?_
    refine jqe (jebl 1 1 zr9 fun p2 => ?_)
    refine jqm (m_appendC (rowC_ss) (l2 := [(s.take i).drop a]) rfl rfl rfl rfl (by exact Nat.le_refl _) (fun _ _ => cZ) (src_os rfl (.inl rfl) (by decide)) rfl (fun j hj => by rcases j with _|j <;> first | exact cZ | exact CEnt.int (by omega) | (exfalso; simp at hj <;> omega)) Tryz.underlying88 nu88 sz9 zr9 by9 rfl (by (simp; omega)) (by (simp; omega)) (leaf_flk rfl rfl) rfl rfl rfl (fun p3 => ?_))
    refine jq jrm ?_;refine jN ?_;refine jcg ?_;refine jq jrm ?_;refine jq jra ?_;refine jq jrm ?_;refine jN ?_
    refine jbn (jtn ?_)
    refine jcg ?_;refine jq jrm ?_;refine jq jra ?_;refine jq jrm ?_;refine jN ?_;refine jtn ?_
    refine jlend ((i + 1, i + 1, X ++ [(s.take i).drop a], p3)) ?_ ?_ (h5 := ?_) (h7 := ?_)
    · exact ⟨by omega, by omega, by simp; omega, by rw [hsp, split_stepO ha (by omega) hno (u8_eqO (d := 46) h26)]; simp, by rw [List.drop_eq_nil_of_le (by simp only [List.length_take]; omega)]; exact List.not_mem_nil⟩
    · show s.length - (i + 1) < s.length - i; omega
    · exact .cons (CEnt.int (by omega)) (.cons (CEnt.int (by omega)) (.cons cZ .nil))
    · exact .same .nil
set_option maxHeartbeats 1000000 in
theorem rparse_ac {gs : List Nat} (s : List UInt8) (hs : s.length ≤ 1000000000) : ACp gs Tryz.prog 91 [strC s] (.tup 2 (fl [isC (parseM s).1, .c (.int .i64 ((parseM s).2 : Nat))])) := by
  have hpl := split_len 46 s
  refine ac_of 38 Tryz.func91 rfl rfl rfl (fun al w0 F0 St0 => ?_)
  refine jcr ?_;refine jq jrm ?_;refine jq jrm ?_;refine jN ?_;refine jcr ?_
  refine jqe (jebl 0 1 zr3 fun p1 => ?_)
  refine jq jrm ?_;refine jN ?_;refine jcs ?_;refine jcr ?_;refine jq jrm ?_
  refine jqe (jecP (rsplit_ac s hs) ?_)
  refine jq jrl ?_;refine jq jrm ?_;refine jN ?_;refine jB ?_;refine l_loop (α := Nat × List Int × Option Nat) [2, 3, 4, 6, 7, 8, 13, 14, 15, 16, 17, 18, 19, 20, 21, 22, 23, 24, 25, 26, 27, 28, 29, 30, 31, 32, 33] (fun (k, X, g) => [(13, .c (.int .i64 (k : Nat))), (4, .os 0 g 0 X.length 1)]) (fun (k, X, g) => [(g, .blk X.length (inF X))]) (fun (k, X, g) => k ≤ (splitC 46 s).length ∧ X = ((splitC 46 s).take k).map valP ∧ ((splitC 46 s).take k).all okP = true) (fun (k, X, g) => (splitC 46 s).length - k) ((0, [], p1)) ?_ (fun _ => rfl) ?_ ?_ ?_
  · exact ⟨Nat.zero_le _, rfl, rfl⟩
  · exact .cons cZ (.cons cZ .nil)
  · exact .blk rfl (fun j hj => absurd hj (Nat.not_lt_zero j)) .nil
  · rintro ⟨k, X, g⟩ ⟨(hk : k ≤ _), hX, hall⟩
    have hXl : X.length ≤ k := by rw [hX, List.length_map, List.length_take]; omega
    refine jcr ?_;refine jq jrc ?_;refine jN ?_;refine jcs ?_;refine jcc (fun h37 => ?_) fun h37 => ?_
    rotate_left
    · refine jX (jte (jte (jbx (jtn ?_))))
      refine jcs ?_
      have hk2 : k = (splitC 46 s).length := by omega
      rw [hk2, List.take_length] at hX hall
      refine jE (freeze 0 rfl) ?_;refine jE (thawIL 4 X rfl rfl rfl (Nat.ble_eq_true_of_le (Nat.le_refl _)) (fun j hj => cZ)) ?_;refine jcr ?_;refine jq jrm ?_
      refine jqe (jecP (rright5_ac X) ?_)
      refine jq jrn ?_;refine jN ?_;refine jcc (fun h44 => ?_) fun h44 => ?_
      · refine jcr ?_;refine jq jrm ?_;refine jq jrm ?_;refine jN ?_
        refine jR (jtr (jrt (hv := ?_)))
        have hb := parse_wrong hall (by rw [← hX]; simpa using h44)
        exact CEnt.tup2 (CEnt.nilS' (by rw [hb.1]; rfl)) (CEnt.int (by rw [hb.2]; rfl))
      refine jS (jtn ?_)
      refine jcr ?_;refine jq jrm ?_;refine jq jrm ?_;refine jq jrm ?_;refine jN ?_
      refine jR (jrt (hv := ?_))
      have hb := parse_good hall (by rw [← hX]; simpa using h44)
      exact CEnt.tup2 (show CEnt (isC X) _ from CEnt.of_eq (by rw [hb.1, hX])) (CEnt.int (by rw [hb.2]; rfl))
    refine jS (jtn ?_)
    refine jcs ?_;refine jB ?_;refine jcr ?_;refine jq jri ?_;refine jq jrdr ?_;refine jq jrm ?_;refine jN ?_;refine jcr ?_;refine jq jrm ?_
    refine jqe (jecP (rfig_ac ((splitC 46 s).getD k [])) ?_)
    refine jq jrm ?_;refine jq jrx ?_;refine jq jrx ?_;refine jq jrm ?_;refine jq jrm ?_;refine jN ?_;refine jcs ?_;refine jcr ?_;refine jq jrm ?_;refine jq jrn ?_;refine jq jrm ?_;refine jqsp 24 (fun g39 => ?_) fun g39 => ?_
    · refine jqs ?_;refine jqs ?_;refine jqs ?_;refine jq jrpT ?_;refine jN ?_;refine jcT ?_;refine jcr ?_;refine jq jrm ?_;refine jq jrm ?_;refine jN ?_
      refine jR (jtr (jbr (jtr (jtr (jbr (jtr (jrt (hv := ?_))))))))
      have hb := parse_bad (s := s) (all_false (k := k) [] (by omega) (by exact okP_bad (.inl (by simpa using g39))))
      exact CEnt.tup2 (CEnt.nilS' (by rw [hb.1]; rfl)) (CEnt.int (by rw [hb.2]; rfl))
    refine jq jrm ?_;refine jq jrls ?_;refine jq jrc ?_;refine jq jrpF ?_;refine jN ?_;refine jcc (fun h39 => ?_) fun h39 => ?_
    · refine jcr ?_;refine jq jrm ?_;refine jq jrm ?_;refine jN ?_
      refine jR (jtr (jbr (jtr (jtr (jbr (jtr (jrt (hv := ?_))))))))
      have hb := parse_bad (s := s) (all_false (k := k) [] (by omega) (by exact okP_bad (.inr (by omega))))
      exact CEnt.tup2 (CEnt.nilS' (by rw [hb.1]; rfl)) (CEnt.int (by rw [hb.2]; rfl))
    refine jS (jtn ?_)
    refine jcg ?_;refine jq jrm ?_;refine jq jrm ?_
    refine jqe (jebl 1 1 zr3 fun p2 => ?_)
    refine jqm (m_appendC rowC_in (l2 := [valP ((splitC 46 s).getD k [])]) rfl rfl rfl rfl (by exact Nat.le_of_eq (Nat.mul_one _)) (fun _ _ => cZ) (src_os rfl (.inl rfl) (by decide)) rfl (hh_ints (.cons (CEnt.int ((okP_good (by simpa using g39) h39).2)) .nil)) Tryz.underlying51 nu51 sz3 zr3 by3 rfl (by (simp; omega)) (by (simp; omega)) (leaf_flk rfl rfl) rfl rfl (Nat.mul_one _) (fun p3 => ?_))
    refine jq jrm ?_;refine jN ?_
    refine jbn (jtn ?_)
    refine jcg ?_;refine jq jra ?_;refine jq jrm ?_;refine jN ?_;refine jtn ?_
    refine jlend ((k + 1, X ++ [valP ((splitC 46 s).getD k [])], p3)) ?_ ?_ (h5 := ?_) (h7 := ?_)
    · exact ⟨by omega, by rw [hX, take_get [] (by omega), List.map_append]; rfl, take_allO [] (by omega) hall (okP_good (by simpa using g39) h39).1⟩
    · show (splitC 46 s).length - (k + 1) < (splitC 46 s).length - k; omega
    · exact .cons (CEnt.int (by omega)) (.cons cZ .nil)
    · exact .same .nil
end
section
variable {gs : List Nat} [Ok9 gs]
open Go.RowKit

theorem u8idx_ac {gs : List Nat} {g : FuncId} {n : Nat} {fv : Nat → CV} (hc : calleeB Tryz.prog g = true) (l : List (UInt8)) (p : (UInt8) → Bool) (hp : ∀ r, ACp gs Tryz.prog g ((fun z : UInt8 => .c (.int .u8 (z.toNat : Nat))) r :: (List.range n).map fv) (.c (.bool (p r)))) :
    ACp gs Tryz.prog 181 [bsC l, .fn g n fv] (.c (.int .i64 (firstI p l))) := by
  refine ac_len 0 rfl fun hlen => ?_
  refine ac_of 19 Tryz.func181 rfl rfl rfl (fun al w0 F0 St0 => ?_)
  refine jcr ?_;refine jq jrm ?_;refine jN ?_;refine jcs ?_;refine jcr ?_;refine jq jrm ?_;refine jq jrl ?_;refine jq jrm ?_;refine jN ?_;refine jB ?_;refine l_loop (α := Nat) [4, 5, 8, 9, 10, 11, 12, 13, 14, 15, 16, 17, 18] (fun i => [(8, .c (.int .i64 (i : Nat)))]) (fun _ => []) (fun i => i ≤ l.length ∧ ∀ j (hj : j < l.length), j < i → p l[j] = false) (fun i => l.length - i) (0) ?_ (fun _ => rfl) ?_ ?_ ?_
  · exact ⟨by omega, fun j _ hj => absurd hj (Nat.not_lt_zero j)⟩
  · (repeat (first | exact EntE.nil | refine EntE.cons cZ ?_ | refine EntE.cons (CEnt.int (by omega)) ?_))
  · (repeat (first | exact HEnt.nil | refine HEnt.same ?_ | refine HEnt.blk rfl (fun j hj => by rcases j with _|_|_|_|_|_|_|_|j <;> first | exact cZ | exact CEnt.int (by omega) | omega) ?_))
  · rintro i ⟨hi, he⟩
    refine jcr ?_;refine jq jrc ?_;refine jN ?_;refine jcs ?_;refine jcc (fun h108 => ?_) fun h108 => ?_
    rotate_left
    · refine jX (jte (jte (jbx (jtn ?_))))
      refine jcr ?_;refine jq jrm ?_;refine jN ?_
      refine jR (jrt (hv := ?_))
      refine CEnt.int ?_
      exact (firstI_none fun j hj => he j hj (by omega)).symm
    refine jS (jtn ?_)
    refine jcs ?_;refine jB ?_;refine jcr ?_;refine jq jrm ?_;refine jq jrm ?_;refine jN ?_;refine jcr ?_;refine jq jrm ?_;refine jq jrm ?_;refine jq jrm ?_;refine jq jri ?_;refine jq jrdr ?_
    refine jqe (e_callV rfl rfl (by assumption) (hp (l.getD i 0)) (entL_fn cZ _) rfl rfl ?_)
    rintro _ _ ⟨rfl, rfl⟩
    refine jN ?_;refine jcc (fun h109 => ?_) fun h109 => ?_
    · refine jcr ?_;refine jq jrm ?_;refine jq jrm ?_;refine jN ?_
      refine jR (jbr (jtr (jtr (jbr (jtr (jrt (hv := ?_)))))))
      refine CEnt.int ?_
      have hlt : i < l.length := by omega
      exact (firstI_at i hlt (by simpa [List.getD, hlt] using h109) (fun j hj => he j (by omega) hj)).symm
    refine jS (jbn (jtn ?_))
    refine jcg ?_;refine jq jra ?_;refine jq jrm ?_;refine jN ?_;refine jtn ?_;refine jlend (i + 1) ?_ ?_
    · exact ⟨by omega, fun j hj hj1 => by
        by_cases e : j = i
        · subst e
          simpa [List.getD, hj] using h109
        · exact he j hj (by omega)⟩
    · omega
theorem low_ac {gs : List Nat} (c : UInt8) : ACp gs Tryz.prog 182 (.c (.int .u8 (c.toNat : Nat)) :: (List.range 0).map fun _ => .top) (.c (.bool (decide (c.toNat < 128)))) := by
  refine ac_of 5 Tryz.func182 rfl rfl rfl (fun al w0 F0 St0 => ?_)
  refine jcr ?_;refine jq jrm ?_;refine jN ?_;refine jcr ?_;refine jq jrm ?_;refine jq jrc ?_;refine jq jrm ?_;refine jN ?_
  refine jR (jrt (hv := ?_))
  refine CEnt.bool ?_
  (simp_all; omega)
def runsF (f : FuncId) (g : Option Nat) : CV := .fn f 1 (fl [.op 0 g 0])
theorem runs_ac {gs : List Nat} (b : List UInt8) : AC gs Tryz.prog 160 [] [bsC b] (fun r H' => ∃ g, r = runsF 180 g ∧ H' = [(g, .blk 1 (fun _ => bsC b))]) := by
  refine ac_of 4 Tryz.func160 rfl rfl rfl (fun al w0 F0 St0 => ?_)
  refine jcr ?_
  refine jqe (jebx 1 fun p1 => ?_)
  refine jq jrm ?_;refine jN ?_;refine jE (blk_ent 0 (m := 1) (F := fun _ => bsC b) rfl (Nat.le_refl _) (fun _ => rfl) (fun j hj => by obtain rfl : j = 0 := (by omega); exact cZ)) ?_;refine jcr ?_;refine jq jrmf ?_;refine jq jrm ?_;refine jN ?_;refine jR ?_
  exact end_own (.inl rfl) (runsF 180 p1) _ [0] (by decide) rfl ((res_1 rfl (arv_tmp rfl)).ent (by refine CEnt.fn1 ?_; exact CEnt.opI)) ⟨_, rfl, rfl⟩
theorem runs_drop {b rest : List UInt8} {k : Nat} (h : (runsL b).drop k = runsL rest) (hr : rest ≠ []) : k < (runsL b).length ∧ (runsL b).getD k [] = rest.take (runLen rest) ∧ (runsL b).drop (k + 1) = runsL (rest.drop (runLen rest)) := by
  rw [runsL_cons hr] at h
  have h2 := drop_getD (d := []) h
  refine ⟨?_, h2.1, h2.2⟩
  apply Classical.byContradiction
  intro hn
  rw [List.drop_eq_nil_of_le (by omega)] at h
  cases h
theorem runs_all {b rest : List UInt8} {k : Nat} (h : (runsL b).drop k = runsL rest) (hr : rest = []) (hk : k ≤ (runsL b).length) : k = (runsL b).length := by
  subst hr
  rw [runsL_nil] at h
  have := List.drop_eq_nil_iff.1 h
  omega
theorem runs_iter {gs : List Nat} (b : List UInt8) (g : Option Nat) (hb : b.length ≤ 100000000000) : IterC gs Tryz.prog 180 [(g, .blk 1 (fun _ => bsC b))] ((List.range 1).map (fl [.op 0 g 0])) (runsL b).length (fun k => [bsC ((runsL b).getD k [])]) := fun l J Jx hY => by
  refine ac_ofY true 23 Tryz.func180 rfl rfl rfl (fun al w0 F0 St0 => ?_)
  refine jB ?_;refine l_loop (α := Nat × List UInt8) [3, 4, 5, 6, 7, 8, 9, 10, 11, 12, 13, 14, 15, 16, 17, 18, 19, 20, 21, 22] (fun _ => []) (fun (k, rest) => [(g, .blk 1 (fun _ => bsC rest)), (some l, .obj (J k))]) (fun (k, rest) => (runsL b).drop k = runsL rest ∧ rest.length ≤ b.length ∧ k ≤ (runsL b).length) (fun (k, rest) => rest.length) ((0, b)) ?_ (fun _ => rfl) ?_ ?_ ?_
  · exact ⟨rfl, Nat.le_refl _, Nat.zero_le _⟩
  · exact .nil
  · exact .same (.same .nil)
  · rintro ⟨k, rest⟩ ⟨hk, hlen, hkn⟩
    refine jcs ?_;refine jcr ?_;refine jqo jrdo ?_;refine jq jrl ?_;refine jq jrc ?_;refine jN ?_;refine jcc (fun h83 => ?_) fun h83 => ?_
    rotate_left
    · refine jX (jte (jte (jbx ?_)))
      exact end_own (.inr rfl) _ _ [1] (by decide) rfl (res_0 rfl) (.inl (by rw [← runs_all hk (List.length_eq_zero_iff.1 (by omega)) hkn]; rfl))
    refine jS (jtn ?_)
    refine jB ?_
    have hne : rest ≠ [] := List.length_pos_iff.1 (by omega)
    have hk2 := runs_drop hk hne
    have hrl := low_run rest (fun c => decide (c.toNat < 128)) (fun _ => rfl)
    have hrp := runLen_pos hne
    have hrn := runLen_le rest
    have hfb := firstI_bd (fun c : UInt8 => decide (c.toNat < 128)) rest
    refine jcr ?_;refine jqo jrdo ?_
    refine jqe (jecP (u8idx_ac (n := 0) (fv := fun _ => .top) (by kernel_rfl) rest (fun c => decide (c.toNat < 128)) low_ac) ?_ (ho := rfl) (he := (.cons (se rfl cZ) (.cons (se rfl CEnt.fn0) .nil))))
    refine jq jra ?_;refine jq jrm ?_;refine jN ?_;refine code_join (α := Unit) [3, 10, 11, 12, 13] (fun _ => [(3, .c (.int .i64 (runLen rest : Nat)))]) (fun _ => [(g, .blk 1 (fun _ => bsC rest)), (some l, .obj (J k))]) (fun _ => True) (fun _ => rfl) ?_ ?_
    · refine jcr ?_;refine jq jrm ?_;refine jq jrc ?_;refine jN ?_;refine jcc (fun h85 => ?_) fun h85 => ?_
      rotate_left
      · refine jS (jtn ?_)
        refine jjend (()) ?_ (h5 := ?_) (h7 := ?_)
        · trivial
        · exact .cons (CEnt.int (by omega)) .nil
        · exact .same (.same .nil)
      refine jcg ?_;refine jqo jrdo ?_;refine jq jrl ?_;refine jq jrm ?_;refine jN ?_;refine jtn ?_
      refine jjend (()) ?_ (h5 := ?_) (h7 := ?_)
      · trivial
      · exact .cons (CEnt.int (by omega)) .nil
      · exact .same (.same .nil)
    · rintro u _
      refine jcs ?_;refine jcr ?_;refine jq jrm ?_;refine jqo jrdo ?_;refine jq jrm ?_;refine jq (jrst (hz2 := (show _ = (((runLen rest) : Nat) : Int) by omega))) ?_
      refine seq_mdI (wanted_none rfl) rfl (m_callY (i := 1) rfl rfl rfl (hY k hk2.1) (.cons (se rfl (CEnt.bs hk2.2.1.symm)) .nil) rfl rfl ?_)
      rintro _ _ (⟨rfl, rfl⟩ | ⟨rfl, rfl⟩)
      · refine ⟨_, _, rfl, cZ, ?_⟩
        refine jq jrn ?_;refine jN ?_;refine jcF ?_
        refine jS (jtn ?_)
        refine jcg ?_;refine jqo jrdo ?_;refine jq jrm ?_;refine jq (jrsf (hz1 := (show _ = (((runLen rest) : Nat) : Int) by omega))) ?_
        refine jqm (jmst 1 ?_)
        refine jN ?_
        refine jbn (jtn ?_)
        refine jlend ((k + 1, rest.drop (runLen rest))) ?_ ?_ (h5 := ?_) (h7 := ?_)
        · exact ⟨hk2.2.2, by rw [List.length_drop]; omega, by omega⟩
        · show (rest.drop (runLen rest)).length < rest.length; rw [List.length_drop]; omega
        · exact .nil
        · exact .blk rfl (fun j hj => by obtain rfl : j = 0 := (by omega); exact cZ) (.same .nil)
      · refine ⟨_, _, rfl, cZ, ?_⟩
        refine jq jrn ?_;refine jN ?_;refine jcT ?_
        refine jR (jtr (jbr (jtr (jbr ?_))))
        exact end_own (.inl rfl) _ _ [1] (by decide) rfl (res_0 rfl) (.inr rfl)

theorem ser_take {l : List Int} {i : Nat} (h : i < l.length) : ((l.take (i + 1)).map fun n => dec n.toNat) = ((l.take i).map fun n => dec n.toNat) ++ [dec (l.getD i 0).toNat] := by
  rw [take_get 0 h, List.map_append]; rfl
theorem otext_ac (l : List Int) : ACp gs Tryz.prog 162 [isC l] (.tup 2 (fl [strC (textM l).1, .err (textM l).2])) := by
  refine ac_len 0 rfl fun hlen => ?_
  refine ac_of 25 Tryz.func162 rfl rfl rfl (fun al w0 F0 St0 => ?_)
  refine jcr ?_;refine jq jrm ?_;refine jq jrm ?_;refine jN ?_;refine jcs ?_;refine jcr ?_;refine jq jrm ?_
  refine jqe (jecP (oright_ac l) ?_)
  refine jq jrn ?_;refine jN ?_;refine jcc (fun h47 => ?_) fun h47 => ?_
  · refine jcs ?_;refine jcd (.rd 0 (.rd 1 (.rd 2 .done))) ?_;refine jyq (jrde 0) ?_;refine jyq jrm ?_;refine jyq jrm ?_;refine jyd ?_;refine jtn ?_
    refine jR (jtr (jrt (hv := ?_)))
    have hb : textM l = ([], 1) := by unfold textM; rw [if_neg (by simp_all)]
    exact CEnt.tup2 (CEnt.strL (by rw [hb])) (CEnt.errN (by rw [hb]))
  refine jS (jtn ?_)
  refine jcr ?_;refine jq jrm ?_;refine jN ?_;refine jcs ?_;refine jE (ent_none (ssF [])) ?_;refine jcr ?_;refine jq jrm ?_;refine jq jrl ?_;refine jq jrm ?_;refine jN ?_;refine jB ?_;refine l_loop (α := Nat × List (List UInt8) × Option Nat) [4, 6, 13, 14, 15, 16, 17, 18, 19, 20, 21, 22] (fun (i, X, g) => [(13, .c (.int .i64 (i : Nat))), (4, .os 0 g 0 X.length 1)]) (fun (i, X, g) => [(g, .blk (X.length * 1) (ssF X))]) (fun (i, X, g) => i ≤ l.length ∧ X = (l.take i).map fun n => dec n.toNat) (fun (i, X, g) => l.length - i) ((0, [], none)) ?_ (fun _ => rfl) ?_ ?_ ?_
  · exact ⟨Nat.zero_le _, rfl⟩
  · exact .cons cZ (.cons CEnt.nilO .nil)
  · exact .blk rfl (fun j hj => absurd hj (Nat.not_lt_zero j)) .nil
  · rintro ⟨i, X, g⟩ ⟨(hi : i ≤ l.length), hX⟩
    have hXl : X.length = i := by rw [hX, List.length_map, List.length_take]; omega
    obtain ⟨r1, r2, r3, _, _⟩ := right_at (l := l) (by simp_all)
    refine jE (ent_none (ssF [])) ?_;refine jcr ?_;refine jq jrc ?_;refine jN ?_;refine jcs ?_;refine jcc (fun h51 => ?_) fun h51 => ?_
    rotate_left
    · refine jX (jte (jte (jbx (jtn ?_))))
      have hi2 : i = l.length := by omega
      rw [hi2, List.take_length] at hX
      have hb : textM l = (textL l, 0) := by unfold textM; rw [if_pos (by simp_all)]
      obtain ⟨q1, q2, q3, _, _⟩ := right_at (l := l) (by simp_all)
      have hjl := join_len (c := 46) (m := 10) (ls := X) (fun p hp => by
        rw [hX] at hp
        obtain ⟨n, hn, rfl⟩ := List.mem_map.1 hp
        exact dec_len 9 n.toNat (by have := q3 n hn; omega))
      have hjo := join_lib 46 X
      refine jE (freeze 0 rfl) ?_;refine jE (thaw 4 (fun b _ => strC (X.getD b [])) rfl rfl (by omega) ss_thaw) ?_;refine jcr ?_;refine jq jrm ?_
      refine jqe (jecP (join_ac X [46] (by omega) (by rw [hjo]; omega)) ?_)
      refine jq jrm ?_;refine jq jrm ?_;refine jN ?_
      refine jR (jrt (hv := CEnt.tup2 (CEnt.strL (by rw [hb, hjo, hX]; rfl)) (CEnt.nilE (by rw [hb]))))
    refine jS (jtn ?_)
    refine jcs ?_;refine jB ?_;refine jE (ent_none (ssF [])) ?_;refine jcr ?_;refine jq jri ?_;refine jq jrdr ?_;refine jq jrm ?_;refine jN ?_
    have hn := r3 _ (getD_mem' (l := l) (k := i) 0 (by omega))
    refine jcg ?_;refine jq jrm ?_;refine jq jrm ?_
    refine jqe (jecP (wser_ac (l.getD i 0).toNat (by omega)) ?_ (ho := rfl) (he := (.cons (se rfl (CEnt.int (by omega))) .nil)))
    refine jqe (jebl 1 1 zr9 fun p1 => ?_)
    refine jqm (m_appendC (rowC_ss) (l2 := [dec (l.getD i 0).toNat]) rfl rfl rfl rfl (by exact Nat.le_refl _) (fun _ _ => cZ) (src_os rfl (.inl rfl) (by decide)) rfl (fun j hj => by rcases j with _|j <;> first | exact cZ | exact CEnt.int (by omega) | (exfalso; simp at hj <;> omega)) Tryz.underlying88 nu88 sz9 zr9 by9 rfl (by (simp; omega)) (by (simp; omega)) (leaf_flk rfl rfl) rfl rfl rfl (fun p2 => ?_))
    refine jq jrm ?_;refine jN ?_
    refine jbn (jtn ?_)
    refine jE (ent_none (ssF [])) ?_;refine jcg ?_;refine jq jra ?_;refine jq jrm ?_;refine jN ?_;refine jtn ?_
    refine jlend ((i + 1, X ++ [dec (l.getD i 0).toNat], p2)) ?_ ?_ (h5 := ?_) (h7 := ?_)
    · exact ⟨by omega, by rw [hX, ser_take (by omega)]⟩
    · show l.length - (i + 1) < l.length - i; omega
    · exact .cons (CEnt.int (by omega)) (.cons cZ .nil)
    · exact .same .nil
end
section
variable {gs : List Nat} [Ok9 gs]
open Go.RowKit

theorem res_at {b : List UInt8} {k : Nat} (hk : k < (runsL b).length) : (resB b).getD k (0, 0) = numM ((runsL b).getD k []) (if k = 0 then 2147483727 else 2147483647) := resL_get _ _ _ hk
theorem res_take {b : List UInt8} {k : Nat} (hk : k < (runsL b).length) : (((resB b).take (k + 1)).map (·.1)) = (((resB b).take k).map (·.1)) ++ [((resB b).getD k (0, 0)).1] := by
  rw [take_get (0, 0) (by rw [resB_len]; exact hk), List.map_append]; rfl
theorem numM_bd (r : List UInt8) (most : Nat) : (numM r most).1 ≤ most := by
  unfold numM
  split
  · exact Nat.zero_le _
  split
  · exact Nat.zero_le _
  split
  · exact Nat.zero_le _
  · show valSO r ≤ most; omega
theorem two_ent {a b c d : Int} (h1 : a = c) (h2 : b = d) : ∀ j, j < [c, d].length → CEnt (fl [.c (.int .i64 a), .c (.int .i64 b)] j) (inF [c, d] j) := fun j hj => by
  rcases j with _ | _ | j
  · exact CEnt.int h1
  · exact CEnt.int h2
  · exact absurd hj (by simp)
section
variable {b : List UInt8} {k : Nat} {X : List Int}
theorem badKE (hk : k < (runsL b).length) (h0 : 0 < k) (herr : errL ((resB b).take k) = 0) (h : (numM ((runsL b).getD k []) 2147483647).2 ≠ 0) : (numM ((runsL b).getD k []) 2147483647).2 = errL (resB b) := by
  have hat := res_at hk
  rw [if_neg (by omega)] at hat
  rw [← hat] at h ⊢
  exact (errL_bad (by rw [resB_len]; exact hk) herr h).symm
theorem bad0E (hk : k < (runsL b).length) (h0 : k = 0) (herr : errL ((resB b).take k) = 0) (h : (numM ((runsL b).getD k []) 2147483727).2 ≠ 0) : (numM ((runsL b).getD k []) 2147483727).2 = errL (resB b) := by
  have hat := res_at hk
  rw [if_pos h0] at hat
  rw [← hat] at h ⊢
  exact (errL_bad (by rw [resB_len]; exact hk) herr h).symm
theorem badK (hk : k < (runsL b).length) (h0 : 0 < k) (herr : errL ((resB b).take k) = 0) (h : (numM ((runsL b).getD k []) 2147483647).2 ≠ 0) : errL (resB b) ≠ 0 := by
  rw [← badKE hk h0 herr h]; exact h
theorem bad0 (hk : k < (runsL b).length) (h0 : k = 0) (herr : errL ((resB b).take k) = 0) (h : (numM ((runsL b).getD k []) 2147483727).2 ≠ 0) : errL (resB b) ≠ 0 := by
  rw [← bad0E hk h0 herr h]; exact h
theorem keepK (hk : k < (runsL b).length) (h0 : 0 < k) (hX : X = arcsOf (((resB b).take k).map (·.1))) (herr : errL ((resB b).take k) = 0) (h : (numM ((runsL b).getD k []) 2147483647).2 = 0) : X ++ [((numM ((runsL b).getD k []) 2147483647).1 : Int)] = arcsOf (((resB b).take (k + 1)).map (·.1)) ∧ errL ((resB b).take (k + 1)) = 0 := by
  have hat := res_at hk
  rw [if_neg (by omega)] at hat
  have hkR : k < (resB b).length := by rw [resB_len]; exact hk
  refine ⟨?_, by rw [errL_one hkR herr, hat, h]⟩
  rw [res_take hk, hat, arcs_snoc _ (fun e => by have := congrArg List.length e; rw [List.length_map, List.length_take, List.length_nil] at this; omega), hX]
theorem keep0 (hk : k < (runsL b).length) (h0 : k = 0) (herr : errL ((resB b).take k) = 0) (h : (numM ((runsL b).getD k []) 2147483727).2 = 0) : [((min ((numM ((runsL b).getD k []) 2147483727).1 / 40) 2 : Nat) : Int), ((numM ((runsL b).getD k []) 2147483727).1 : Int) - 40 * ((min ((numM ((runsL b).getD k []) 2147483727).1 / 40) 2 : Nat) : Int)] = arcsOf (((resB b).take (k + 1)).map (·.1)) ∧ errL ((resB b).take (k + 1)) = 0 := by
  have hat := res_at hk
  rw [if_pos h0] at hat
  have hkR : k < (resB b).length := by rw [resB_len]; exact hk
  refine ⟨?_, by rw [errL_one hkR herr, hat, h]⟩
  rw [res_take hk, hat, h0]
  rfl
end
set_option maxHeartbeats 1000000 in
theorem oget_ac (b : List UInt8) (hb : b.length ≤ 1000000) : ACp gs Tryz.prog 143 [bsC b] (.tup 2 (fl [strC (ogetM b).1, .err (ogetM b).2])) := by
  have hrl := runs_len b.length b (Nat.le_refl _)
  have hRl := resB_len b
  refine ac_of 54 Tryz.func143 rfl rfl rfl (fun al w0 F0 St0 => ?_)
  refine jcr ?_
  refine jqe (jeal (n := 1) zr9 rfl fun p1 => ?_)
  refine jqe (jeal (n := 1) zr28 rfl fun p2 => ?_)
  refine jN ?_;refine jcs ?_;refine jcr ?_;refine jq jrm ?_;refine jq jrl ?_;refine jq jrc ?_;refine jN ?_;refine jcc (fun h116 => ?_) fun h116 => ?_
  · refine jcs ?_;refine jcdZ (.rd 0 (.one 1 (.one 2 .done))) ?_;refine jzq (jrde 1) ?_
    refine jzm (jmst 1 ?_)
    refine jzm (jmst 1 ?_)
    refine jzd ?_;refine jtn ?_
    refine jR (jtr (jrt (hres := res_2 rfl javc javc) (hv := ?_)))
    have h0 : ogetM b = ([], 2) := by rw [List.length_eq_zero_iff.1 (show b.length = 0 by omega), get_nil]
    exact CEnt.tup2 (CEnt.strL (by rw [h0])) (CEnt.errN (by rw [h0]))
  refine jS (jtn ?_)
  have hne : b ≠ [] := fun e => by subst e; simp_all
  refine jcr ?_
  refine jqe (jeal (n := 1) zr51 rfl fun p3 => ?_)
  refine jN ?_;refine jcs ?_;refine jcr ?_;refine jq jrm ?_
  refine jqe (jecS (runs_ac b) ?_)
  rintro _ _ ⟨gS, rfl, rfl⟩
  refine jN ?_;refine jB ?_;refine jE (blk_ent 0 (m := 1) (F := fun _ => strC []) rfl (Nat.le_refl _) (fun _ => rfl) (fun j hj => by obtain rfl : j = 0 := (by omega); exact cZ)) ?_;refine jE (blk_ent 1 (m := 1) (F := fun _ => .c .nilIface) rfl (Nat.le_refl _) (fun _ => rfl) (fun j hj => by obtain rfl : j = 0 := (by omega); exact cZ)) ?_;refine jE (blk_ent 2 (m := 1) (F := fun _ => .os 3 none 0 0 1) rfl (Nat.le_refl _) (fun _ => rfl) (fun j hj => by obtain rfl : j = 0 := (by omega); exact CEnt.nilO)) ?_;refine jE (ent_none (inF [])) ?_;refine code_range (π := List Int × Option Nat) (q := List Int × Option Nat) ((runsL b).length) (fun k => [bsC ((runsL b).getD k [])]) ([(gS, .blk 1 (fun _ => bsC b))]) (fun (X, ga) => [(p1, .blk 1 (fun _ => strC [])), (p2, .blk 1 (fun _ => .c .nilIface)), (p3, .blk 1 (fun _ => .os 3 ga 0 X.length 1)), (ga, .blk X.length (inF X))]) (fun k (X, ga) => X = arcsOf (((resB b).take k).map (·.1)) ∧ errL ((resB b).take k) = 0) (fun (X, ga) => [(p1, .blk 1 (fun _ => strC [])), (p2, .blk 1 (fun _ => .err (errL (resB b)))), (p3, .blk 1 (fun _ => .os 3 ga 0 X.length 1)), (ga, .blk X.length (inF X))]) (fun c _ => c = .ret ∧ errL (resB b) ≠ 0) (([], none)) [3, 0, 1, 2, 4] rfl rfl (by kernel_rfl) (runs_iter b gS (by omega)) (⟨rfl, rfl⟩) (by decide) rfl (fun _ _ => rfl) rfl ?_ ?_ ?_
  · intro k hk l al2 w2 F2 S2 R0 R1
    rintro ⟨X, ga⟩ ⟨hX, herr⟩
    have hXl := arcs_len (((resB b).take k).map (·.1))
    rw [← hX, List.length_map, List.length_take] at hXl
    have hkR : k < (resB b).length := by omega
    have hrun : 0 < ((runsL b).getD k []).length := runs_pos b.length b (Nat.le_refl _) _ (getD_mem' [] hk)
    have hat := res_at hk
    have hX0 : X.length > 0 ↔ 0 < k := ⟨fun h => Nat.pos_of_ne_zero fun e => by subst e; rw [hX] at h; simp [arcsOf] at h, fun h => by have := hXl.2 (fun e => by have := congrArg List.length e; rw [List.length_map, List.length_take, List.length_nil] at this; omega); omega⟩
    refine jcg ?_;refine jq jrm ?_;refine jN ?_;refine assign_norm ?_;refine jB ?_;refine jcs ?_;refine jcr ?_;refine jqo jrdo ?_;refine jq jrl ?_;refine jq jrc ?_;refine jN ?_;refine jcc (fun h121 => ?_) fun h121 => ?_
    · refine jcr ?_;refine jq jrm ?_
      refine jqe (jecP (number_ac ((runsL b).getD k []) 2147483647 hrun (by omega)) ?_)
      refine jq jrm ?_;refine jq jrx ?_;refine jq jrx ?_;refine jq jrm ?_;refine jq jrm ?_;refine jN ?_;refine jcs ?_;refine jcr ?_;refine jq jrm ?_;refine jq jre ?_;refine jN ?_;refine jcc (fun h123 => ?_) fun h123 => ?_
      · refine jcr ?_;refine jq jrm ?_
        refine jqm (jmst 1 ?_)
        refine jqm (jmst 1 ?_)
        refine jN ?_
        refine jR (jtr (jtr (jbr ?_)))
        refine round_ret ((X, ga)) ?_ rfl ?_
        · exact ⟨rfl, badK hk (by omega) herr (by assumption)⟩
        · exact .blk rfl (fun j hj => by obtain rfl : j = 0 := (by omega); exact cZ) (.blk rfl (fun j hj => by obtain rfl : j = 0 := (by omega); exact CEnt.errN (badKE hk (by omega) herr (by assumption)).symm) (.same (.same (.same .nil))))
      refine jS (jtn ?_)
      refine jcr ?_;refine jqo jrdo ?_;refine jq jrm ?_
      refine jqe (jebl 1 1 zr3 fun p4 => ?_)
      refine jqm (m_appendC rowC_in (l2 := [((numM ((runsL b).getD k []) 2147483647).1 : Int)]) rfl rfl rfl rfl (by exact Nat.le_of_eq (Nat.mul_one _)) (fun _ _ => cZ) (src_os rfl (.inl rfl) (by decide)) rfl (hh_ints (.cons (CEnt.int (rfl)) .nil)) Tryz.underlying51 nu51 sz3 zr3 by3 rfl (by (simp; omega)) (by (simp; omega)) (leaf_flk rfl rfl) rfl rfl (Nat.mul_one _) (fun p5 => ?_))
      refine jqm (jmst 1 ?_)
      refine jN ?_
      refine jX (jte (jbx ?_))
      refine round_norm ((X ++ [((numM ((runsL b).getD k []) 2147483647).1 : Int)], p5)) ?_ rfl ?_
      · exact keepK hk (by omega) hX herr (by omega)
      · exact .same (.same (.blk rfl (fun j hj => by obtain rfl : j = 0 := (by omega); exact cZ) (.same (.same .nil))))
    refine jS (jtn ?_)
    refine jcr ?_;refine jq jrm ?_
    refine jqe (jecP (number_ac ((runsL b).getD k []) 2147483727 hrun (by omega)) ?_)
    refine jq jrm ?_;refine jq jrx ?_;refine jq jrx ?_;refine jq jrm ?_;refine jq jrm ?_;refine jN ?_;refine jcs ?_;refine jcr ?_;refine jq jrm ?_;refine jq jre ?_;refine jN ?_;refine jcc (fun h130 => ?_) fun h130 => ?_
    · refine jcr ?_;refine jq jrm ?_
      refine jqm (jmst 1 ?_)
      refine jqm (jmst 1 ?_)
      refine jN ?_
      refine jR (jtr (jbr ?_))
      refine round_ret ((X, ga)) ?_ rfl ?_
      · exact ⟨rfl, bad0 hk (by omega) herr (by assumption)⟩
      · exact .blk rfl (fun j hj => by obtain rfl : j = 0 := (by omega); exact cZ) (.blk rfl (fun j hj => by obtain rfl : j = 0 := (by omega); exact CEnt.errN (bad0E hk (by omega) herr (by assumption)).symm) (.same (.same (.same .nil))))
    refine jS (jtn ?_)
    have hbd := numM_bd ((runsL b).getD k []) 2147483727
    refine jcr ?_;refine jq jrm ?_;refine jq jrq ?_;refine jq (rd_min2 rfl rfl rfl) ?_;refine jq jrm ?_;refine jN ?_;refine jcg ?_;refine jq jrm ?_;refine jq jrm ?_;refine jq jrm ?_;refine jq jra ?_;refine jq jra ?_
    refine jqe (jebl 2 1 zr3 fun p4 => ?_)
    refine seq_ent (pick_ent [0, 1, 2, 5, 4] (by decide) rfl) ?_
    refine jqm (jmst 1 ?_)
    refine jN ?_;refine jbn ?_;refine round_norm (([((min ((numM ((runsL b).getD k []) 2147483727).1 / 40) 2 : Nat) : Int), ((numM ((runsL b).getD k []) 2147483727).1 : Int) - 40 * ((min ((numM ((runsL b).getD k []) 2147483727).1 / 40) 2 : Nat) : Int)], p4)) ?_ rfl ?_
    · exact keep0 hk (by omega) herr (by omega)
    · exact .same (.same (.blk rfl (fun j hj => by obtain rfl : j = 0 := (by omega); exact CEnt.osI rfl) (.blk rfl (two_ent (by omega) (by omega)) (.same .nil))))
  · rintro ⟨X, ga⟩ ⟨hX, herr⟩
    rw [List.take_of_length_le (by omega)] at hX herr
    refine jbn (jtn ?_)
    refine jcr ?_;refine jqo jrdo ?_;refine seq_ent (freeze 3 rfl) ?_;refine seq_ent (thawIL 50 X rfl rfl rfl (Nat.ble_eq_true_of_le (Nat.le_refl _)) (fun j hj => cZ)) ?_
    refine jqe (jecP (otext_ac X) ?_)
    refine jq jrx ?_;refine jq jrx ?_
    refine jqm (jmst 1 ?_)
    refine jqm (jmst 1 ?_)
    refine jN ?_
    refine jR (jrt (hres := res_2 rfl javc javc) (hv := ?_))
    have hg := get_text hne herr
    rw [← hX] at hg
    exact CEnt.tup2 (CEnt.strL (by rw [hg])) (CEnt.errN (by rw [hg]))
  · rintro _ ⟨X, ga⟩ ⟨rfl, hbad⟩
    refine .inl ⟨rfl, ?_⟩
    refine jbr (jtr (jrt (hres := res_2 rfl javc javc) (hv := ?_)))
    have hb := get_err hne hbad
    exact CEnt.tup2 (CEnt.strL (by rw [hb])) (CEnt.errN (by rw [hb]))
end
section
variable {gs : List Nat} [Ok9 gs]
open Go.RowKit Cal
set_option linter.unusedVariables false
end
section
open Go.RowKit Cal
def dg (b : List UInt8) (i : Nat) : Int := ((b.getD i 0).toNat : Int) - 48
def isDg (b : List UInt8) (i : Nat) : Prop := 48 ≤ ((b.getD i 0).toNat : Int) ∧ ((b.getD i 0).toNat : Int) ≤ 57
instance (b : List UInt8) (i : Nat) : Decidable (isDg b i) := by unfold isDg; infer_instance
def two (b : List UInt8) (j : Nat) : Int := 10 * dg b (2 * j) + dg b (2 * j + 1)
def getD6 (b : List UInt8) : D6 := ⟨100 * two b 0 + two b 1, two b 2, two b 3, two b 4, two b 5, two b 6⟩
def formP (b : List UInt8) : Prop := b.length = 15 ∧ ((b.getD 14 0).toNat : Int) = 90 ∧ ∀ i, i < 14 → isDg b i
instance (b : List UInt8) : Decidable (formP b) := by unfold formP; infer_instance
def getE (b : List UInt8) : Nat := if formP b then (if RightP (getD6 b) then 0 else 1) else 4
def getV (b : List UInt8) : Int := if formP b ∧ RightP (getD6 b) then secM (getD6 b) else 0

def texF (x : D6) : List Int := [x.y / 100, x.y % 100, x.m, x.d, x.h, x.mi, x.s]
def texL (x : D6) (i : Nat) : List UInt8 := ((texF x).take i).flatMap fun n => [figc n 10, figc n 1]
end
section
variable {gs : List Nat} [Ok9 gs]
open Go.RowKit Cal
set_option linter.unusedVariables false
end
section
variable {gs : List Nat} [Ok9 gs]
open Go.RowKit Cal
set_option linter.unusedVariables false

def twoI (b : List UInt8) (i j : Nat) : Int := if 2 * j + 1 < i then two b j else if 2 * j < i then dg b (2 * j) else 0
def twF (b : List UInt8) (i j : Nat) : CV := .c (.int .i64 (twoI b i j))

def twL (b : List UInt8) (i : Nat) : List Int := (List.range i).map (two b)
end
section
variable {gs : List Nat} [Ok9 gs]
open Go.RowKit

theorem oid08_ac (n : Nat) (l : List (List UInt8)) (k : Nat) (hl : 0 < l.length ∧ l.length ≤ 1000000) (hb : (nowL l).length ≤ 10000000) :
    AC gs Tryz.prog 112 [rdO n l k] [.op 0 (some n) 0]
      (fun r H' => r = strC (if (nextR 6 l k).is = true ∧ (ogetM (nextR 6 l k).body).2 = 0 then (ogetM (nextR 6 l k).body).1 else []) ∧ H' = [rdO n (nextR 6 l k).l (valK 6 l k fun b => (ogetM b).2)]) := by
  refine ac_of 5 Tryz.func112 rfl rfl rfl (fun al w0 F0 St0 => ?_)
  refine jcr ?_;refine jq jrm ?_;refine jN ?_;refine jcr ?_;refine jq jrm ?_
  refine jqm (jmcH 0 (valueS_ac (m := 0) (fv := fun _ => .top) (by kernel_rfl) n l k 6 ogetM hl hb (fun b h => oget_ac b (by omega))) ?_ (ho := rfl) (he := (.cons (se rfl CEnt.opI) (.cons (se rfl cZ) (.cons (se rfl CEnt.fn0) .nil)))))
  rintro _ _ ⟨rfl, rfl⟩
  refine ⟨_, _, rfl, cZ, ?_⟩
  refine jq jrm ?_;refine jN ?_;refine jR ?_
  exact end_H (.inl rfl) rfl (res_1 rfl (arv_tmp rfl)) cZ
end
section
variable {gs : List Nat} [Ok9 gs]
open Go.RowKit

def octM (least most : Int) (b : List UInt8) : List UInt8 × Nat := if (b.length : Int) < least then ([], 2) else if most < (b.length : Int) then ([], 3) else (b, 0)
theorem text08_ac [OkT gs] (n : Nat) (l : List (List UInt8)) (k : Nat) (most : Int) (hl : 0 < l.length ∧ l.length ≤ 1000000) (hb : (nowL l).length ≤ 10000000) :
    AC gs Tryz.prog 113 [rdO n l k] [.op 0 (some n) 0, .c (.int .i64 most)]
      (fun r H' => r = strC (if (nextR 12 l k).is = true ∧ askedM (nextR 12 l k).body most = 0 then (if askedM (nextR 12 l k).body most = 0 then (nextR 12 l k).body else []) else []) ∧ H' = [rdO n (nextR 12 l k).l (valK 12 l k fun b => askedM b most)]) := by
  have g : ∀ b : List UInt8, b.length ≤ 65530 → ACp gs Tryz.prog 144 (bsC b :: (List.range 1).map (fl [.rp 1 fun _ => .c (.int .i64 most)])) (.tup 2 (fl [strC (if askedM b most = 0 then b else []), .err (askedM b most)])) := fun b hb => by
    refine ac_of 10 Tryz.func144 rfl rfl rfl (fun al w0 F0 St0 => ?_)
    refine jcr ?_;refine jq jrm ?_;refine jq jrm ?_;refine jN ?_;refine jcr ?_;refine jq jrm ?_
    first | refine jqo jrdo ?_ | refine jq jrdr ?_
    refine jqe (jecP (xget_ac b most (by omega)) ?_)
    refine jq jrx ?_;refine jq jrx ?_;refine jq jrm ?_;refine jq jrm ?_;refine jN ?_
    refine jR jrt
  refine ac_of 8 Tryz.func113 rfl rfl rfl (fun al w0 F0 St0 => ?_)
  refine jcr ?_
  refine jqe (jebx 1 fun p1 => ?_)
  refine jq jrm ?_;refine jN ?_;refine jE (freeze 1 rfl) ?_;refine jE (thawP 3 (m := 1) rfl rfl (by decide)) ?_;refine jcr ?_;refine jq jrm ?_;refine jq jrmf ?_
  refine jqm (jmcH 0 (valueS_ac (fv := fl [.rp 1 fun _ => .c (.int .i64 most)]) (by kernel_rfl) n l k 12 (fun b => (if askedM b most = 0 then b else [], askedM b most)) hl hb g) ?_ (ho := rfl) (he := (.cons (se rfl CEnt.opI) (.cons (se rfl cZ) (.cons (se rfl (CEnt.fn1 (CEnt.rp int_box))) .nil)))))
  rintro _ _ ⟨rfl, rfl⟩
  refine ⟨_, _, rfl, cZ, ?_⟩
  refine jq jrm ?_;refine jN ?_;refine jR ?_
  exact end_H (.inl rfl) rfl (res_1 rfl (arv_tmp rfl)) cZ
end
section
variable {gs : List Nat} [Ok9 gs]
open Go.RowKit Cal

structure AA where
  kind : Int
  tag : Int
  least : Int
  most : Int
def askC (a : AA) : CV := .agg 4 (fl [.c (.int .i64 a.kind), .c (.int .i64 a.tag), .c (.int .i64 a.least), .c (.int .i64 a.most)])
def vN (n : Int) : VV := ⟨0, n, false, [], []⟩
def vI (b : Bool) : VV := ⟨0, 0, b, [], []⟩
def vB (b : List UInt8) : VV := ⟨0, 0, false, b, []⟩
def vT (t : List UInt8) : VV := ⟨0, 0, false, [], t⟩
def saidM (a : AA) (b : List UInt8) : VV × Nat :=
  if a.kind = 3 then (vN (rangeM b a.least a.most).1, (rangeM b a.least a.most).2) else
  if a.kind = 4 then (vN (rangeM b a.least a.most).1, (rangeM b a.least a.most).2) else
  if a.kind = 5 then (vI (isTrueM b).1, (isTrueM b).2) else
  if a.kind = 6 then (vB (octM a.least a.most b).1, (octM a.least a.most b).2) else
  if a.kind = 7 then (vT (if askedM b a.most = 0 then b else []), askedM b a.most) else
  if a.kind = 8 then (vT (ogetM b).1, (ogetM b).2) else
  if a.kind = 9 then (vN (getV b), getE b) else (vN ((maskM b).1 : Nat), (maskM b).2)
def tagA (a : AA) : Int := if a.kind = 3 then 2 else if a.kind = 4 then 10 else if a.kind = 5 then 1 else if a.kind = 6 then 4 else if a.kind = 7 then 12 else if a.kind = 8 then 6 else if a.kind = 9 then 24 else 3
structure R8R where
  l : List (List UInt8)
  k : Nat
  v : VV
def readV (tag : Int) (said : List UInt8 → VV × Nat) (l : List (List UInt8)) (k : Nat) : R8R :=
  ⟨(nextR tag l k).l, valK tag l k fun b => (said b).2, if (nextR tag l k).is = true ∧ (said (nextR tag l k).body).2 = 0 then (said (nextR tag l k).body).1 else VV.none⟩
def readR (a : AA) (l : List (List UInt8)) (k : Nat) : R8R :=
  if a.kind = 1 then ⟨enterL a.tag l k, (enterR a.tag l k).k, vI (enterR a.tag l k).is⟩ else
  if a.kind = 2 then ⟨leaveL l k, leaveK l k, VV.none⟩ else
  if a.kind = 11 then ⟨(nextR 0 l k).l, (nextR 0 l k).k, vB (nextR 0 l k).raw⟩ else readV (tagA a) (saidM a) l k
theorem readR_g {α : Type} (c : α → VV) (z : α) (hz : c z = VV.none) {a : AA} {l : List (List UInt8)} {k : Nat} {t : Int} {f : List UInt8 → α × Nat} (h1 : a.kind ≠ 1) (h2 : a.kind ≠ 2) (h3 : a.kind ≠ 11) (hs : saidM a = fun b => (c (f b).1, (f b).2)) (ht : tagA a = t) :
    readR a l k = ⟨(nextR t l k).l, valK t l k fun b => (f b).2, c (if (nextR t l k).is = true ∧ (f (nextR t l k).body).2 = 0 then (f (nextR t l k).body).1 else z)⟩ := by
  subst ht
  unfold readR
  rw [if_neg h1, if_neg h2, if_neg h3]
  unfold readV
  rw [hs]
  simp only
  split
  · rfl
  · rw [hz]
end
section
open Go.RowKit Cal
def muS (l : List (List UInt8)) (k : Nat) : Nat := sumL l + if k = 0 then 1 else 0
theorem sumL_set (x : List UInt8) : ∀ {l : List (List UInt8)} {i : Nat}, i < l.length → sumL (l.set i x) + (l.getD i []).length = sumL l + x.length
  | y :: l, 0, _ => by simp only [List.set_cons_zero, List.getD_cons_zero, sumL, List.map_cons, List.sum_cons]; omega
  | y :: l, i + 1, h => by
    have := sumL_set x (l := l) (i := i) (by simpa using h)
    simp only [List.set_cons_succ, List.getD_cons_succ, sumL, List.map_cons, List.sum_cons] at this ⊢
    omega
theorem now_sum (l : List (List UInt8)) : (nowL l).length ≤ sumL l := by
  unfold nowL
  by_cases h : l.length - 1 < l.length
  · have := sumL_set [] h
    simp only [List.length_nil] at this
    omega
  · rw [List.getD_eq_getElem?_getD, List.getElem?_eq_none (by omega)]
    simp
theorem next_mu {t : Int} {l : List (List UInt8)} {k : Nat} (hl : 0 < l.length) : (k ≠ 0 → nextR t l k = ⟨l, k, 0, [], [], false⟩) ∧ (nextR t l k).l.length = l.length ∧ muS (nextR t l k).l (nextR t l k).k ≤ muS l k ∧ (k = 0 → muS (nextR t l k).l (nextR t l k).k < muS l k) ∧
    ((nextR t l k).is = true ↔ (nextR t l k).k = 0) ∧ ((nextR t l k).is = true → k = 0) ∧ ((nextR t l k).is = false → (nextR t l k).l = l) := by
  have hb := nextM_bd (nowL l)
  have hs := sumL_set (nextM (nowL l)).rest (show l.length - 1 < l.length by omega)
  unfold nextR
  by_cases h0 : k ≠ 0
  · rw [if_pos h0]
    exact ⟨fun _ => rfl, rfl, Nat.le_refl _, fun h => absurd h h0, by simp [h0], by simp, fun _ => rfl⟩
  · have hk : k = 0 := by omega
    subst hk
    rw [if_neg h0]
    by_cases h1 : (nextM (nowL l)).e ≠ 0
    · rw [if_pos h1]
      refine ⟨fun h => absurd rfl h, rfl, ?_, fun _ => ?_, by simp [h1], by simp, fun _ => rfl⟩ <;> (unfold muS; dsimp only; rw [if_neg h1]; simp)
    · rw [if_neg h1]
      by_cases h2 : t ≠ 0 ∧ ((nextM (nowL l)).tag : Int) ≠ t
      · rw [if_pos h2]
        refine ⟨fun h => absurd rfl h, rfl, ?_, fun _ => ?_, by simp, by simp, fun _ => rfl⟩ <;> (unfold muS; dsimp only; rw [if_neg (by decide)]; simp)
      · rw [if_neg h2]
        have hr := hb.2.2.2.2.2 (by omega)
        have e : (l.getD (l.length - 1) []).length = (nowL l).length := rfl
        refine ⟨fun h => absurd rfl h, by simp, ?_, fun _ => ?_, by simp, by simp, fun h => absurd h (by simp)⟩ <;> (unfold muS; dsimp only; rw [if_pos rfl]; omega)
theorem nextM_sum (b : List UInt8) (h : (nextM b).e = 0) : (nextM b).body.length + (nextM b).rest.length < b.length := by
  have hm := measM_rest (b.drop 1)
  revert h
  unfold nextM
  by_cases h0 : b.length = 0
  · rw [if_pos h0]; intro h; cases h
  · rw [if_neg h0]
    by_cases h1 : knownM ((b.getD 0 0).toNat : Nat) = false
    · rw [if_pos h1]; intro h; cases h
    · rw [if_neg h1]
      dsimp only
      by_cases h2 : (measM (b.drop 1)).e ≠ 0
      · rw [if_pos h2]; intro h; exact absurd h h2
      · rw [if_neg h2]
        by_cases h3 : 65530 < (measM (b.drop 1)).n
        · rw [if_pos h3]; intro h; cases h
        · rw [if_neg h3]
          by_cases h4 : (measM (b.drop 1)).rest.length < (measM (b.drop 1)).n
          · rw [if_pos h4]; intro h; cases h
          · rw [if_neg h4]
            intro _
            have := hm.1
            rw [List.length_drop] at this
            simp only [List.length_take, List.length_drop]
            omega
theorem enter_mu {t : Int} {l : List (List UInt8)} {k : Nat} (hl : 0 < l.length) : (k ≠ 0 → enterL t l k = l ∧ (enterR t l k).k = k) ∧ muS (enterL t l k) (enterR t l k).k ≤ muS l k ∧ (k = 0 → muS (enterL t l k) (enterR t l k).k < muS l k) ∧
    ((enterR t l k).k = 0 → (enterL t l k).length = l.length + 1) ∧ ((enterR t l k).k ≠ 0 → (enterL t l k).length = l.length) ∧ ((enterR t l k).is = true ↔ (enterR t l k).k = 0) := by
  have hq : ∀ q, q = (if moreM l k = true ∧ madeM t = false then 5 else k) → (k ≠ 0 → q = k) ∧ (k = 0 → q = 0 ∨ q = 5) := by
    rintro _ rfl
    refine ⟨fun h => if_neg ?_, fun h => ?_⟩
    · rintro ⟨h1, _⟩
      unfold moreM at h1
      simp [h] at h1
    · subst h; split <;> simp
  unfold enterL enterR
  generalize hk : (if moreM l k = true ∧ madeM t = false then 5 else k) = q
  obtain ⟨q1, q2⟩ := hq q hk.symm
  obtain ⟨n1, n2, n3, n4, n5, n6, n7⟩ := next_mu (t := t) (l := l) (k := q) hl
  by_cases hi : (nextR t l q).is = true
  · have hk0 := n5.1 hi
    have hq0 := n6 hi
    subst hq0
    have hkz : k = 0 := by rcases Nat.eq_zero_or_pos k with h | h; exact h; exact (q1 (by omega)).symm
    subst hkz
    have hb : muS ((nextR t l 0).l ++ [(nextR t l 0).body]) (nextR t l 0).k < muS l 0 := by
      rw [hk0]
      revert hi
      unfold nextR
      rw [if_neg (by decide)]
      by_cases h1 : (nextM (nowL l)).e ≠ 0
      · rw [if_pos h1]; intro h; cases h
      · rw [if_neg h1]
        by_cases h2 : t ≠ 0 ∧ ((nextM (nowL l)).tag : Int) ≠ t
        · rw [if_pos h2]; intro h; cases h
        · rw [if_neg h2]
          intro _
          have h3 := nextM_sum (nowL l) (by omega)
          have h4 := sumL_set (nextM (nowL l)).rest (show l.length - 1 < l.length by omega)
          have e : (l.getD (l.length - 1) []).length = (nowL l).length := rfl
          unfold muS
          dsimp only
          rw [sumL_app, if_pos rfl]
          simp only [sumL, List.map_cons, List.map_nil, List.sum_cons, List.sum_nil] at h4 ⊢
          omega
    rw [if_pos hi]
    refine ⟨fun h => absurd rfl h, by omega, fun _ => hb, fun _ => by rw [List.length_append, n2]; rfl, fun h => absurd hk0 h, n5⟩
  · have hi' : (nextR t l q).is = false := by simpa using hi
    have hl' := n7 hi'
    have hk0 : (nextR t l q).k ≠ 0 := fun h => hi (n5.2 h)
    rw [if_neg hi, hl']
    refine ⟨fun h => ⟨rfl, ?_⟩, ?_, fun h => ?_, fun h => absurd h hk0, fun _ => rfl, n5⟩
    · have hq := q1 h
      rw [n1 (by omega)]
      exact hq
    · unfold muS; rw [if_neg hk0]; simp
    · unfold muS; rw [if_neg hk0, if_pos h]; simp
theorem leave_mu {l : List (List UInt8)} {k : Nat} (hl : 0 < l.length) : (k ≠ 0 → leaveL l k = l ∧ leaveK l k = k) ∧ muS (leaveL l k) (leaveK l k) ≤ muS l k ∧ (leaveK l k = 0 → k = 0 ∧ (leaveL l k).length + 1 = l.length ∧ 1 < l.length) ∧ (leaveK l k ≠ 0 → leaveL l k = l) := by
  have hk : (k ≠ 0 → leaveK l k = k) := fun h => by unfold leaveK; rw [if_pos h]
  have h0 : leaveK l k = 0 → k = 0 ∧ 1 < l.length := fun h => by
    unfold leaveK at h
    by_cases h1 : k ≠ 0
    · rw [if_pos h1] at h; exact absurd h h1
    · rw [if_neg h1] at h
      by_cases h2 : l.length = 1
      · rw [if_pos h2] at h; cases h
      · exact ⟨by omega, by omega⟩
  refine ⟨fun h => ⟨by unfold leaveL; rw [hk h, if_neg h], hk h⟩, ?_, fun h => ?_, fun h => by unfold leaveL; rw [if_neg h]⟩
  · unfold leaveL
    by_cases h : leaveK l k = 0
    · have h1 := h0 h
      rw [if_pos h]
      unfold muS
      rw [if_pos h, if_pos h1.1]
      have h2 := sumL_take (ls := l) (i := l.length - 1) (by omega)
      have h3 : l.take (l.length - 1 + 1) = l := List.take_of_length_le (by omega)
      rw [h3] at h2
      omega
    · rw [if_neg h]
      unfold muS
      rw [if_neg h]
      omega
  · have h1 := h0 h
    unfold leaveL
    rw [if_pos h, List.length_take]
    exact ⟨h1.1, by omega, h1.2⟩
theorem read_mu (a : AA) {l : List (List UInt8)} {k : Nat} (hl : 0 < l.length) : (k ≠ 0 → (readR a l k).l = l ∧ (readR a l k).k = k) ∧ muS (readR a l k).l (readR a l k).k ≤ muS l k ∧ (k = 0 → a.kind ≠ 2 → muS (readR a l k).l (readR a l k).k < muS l k) ∧
    (a.kind = 1 → ((readR a l k).k = 0 → (readR a l k).l.length = l.length + 1) ∧ ((readR a l k).k ≠ 0 → (readR a l k).l.length = l.length)) ∧
    (a.kind = 2 → ((readR a l k).k = 0 → (readR a l k).l.length + 1 = l.length ∧ 1 < l.length) ∧ ((readR a l k).k ≠ 0 → (readR a l k).l.length = l.length)) ∧
    (a.kind ≠ 1 → a.kind ≠ 2 → (readR a l k).l.length = l.length) ∧ ((readR a l k).k = 0 → k = 0) := by
  unfold readR
  by_cases h1 : a.kind = 1
  · rw [if_pos h1]
    obtain ⟨e1, e2, e3, e4, e5, e6⟩ := enter_mu (t := a.tag) (l := l) (k := k) hl
    exact ⟨e1, e2, fun h _ => e3 h, fun _ => ⟨e4, e5⟩, fun h => by omega, fun h => absurd h1 h, fun h => Nat.eq_zero_of_not_pos fun hk => by have h3 := (e1 (by omega)).2; have h4 : (enterR a.tag l k).k = 0 := h; omega⟩
  · rw [if_neg h1]
    by_cases h2 : a.kind = 2
    · rw [if_pos h2]
      obtain ⟨e1, e2, e3, e4⟩ := leave_mu (l := l) (k := k) hl
      exact ⟨e1, e2, fun _ h => absurd h2 h, fun h => by omega, fun _ => ⟨fun h => (e3 h).2, fun h => by dsimp only; rw [e4 h]⟩, fun _ h => absurd h2 h, fun h => (e3 h).1⟩
    · rw [if_neg h2]
      have key : ∀ (t : Int) (e : Nat), (k ≠ 0 → e = (nextR t l k).k) → (e = 0 → (nextR t l k).k = 0) → (k ≠ 0 → (nextR t l k).l = l ∧ e = k) ∧ muS (nextR t l k).l e ≤ muS l k ∧ (k = 0 → muS (nextR t l k).l e < muS l k) ∧ (nextR t l k).l.length = l.length ∧ (e = 0 → k = 0) := fun t e h3 h4 => by
        obtain ⟨n1, n2, n3, n4, n5, n6, n7⟩ := next_mu (t := t) (l := l) (k := k) hl
        have hm : muS (nextR t l k).l e ≤ muS (nextR t l k).l (nextR t l k).k := by
          unfold muS
          by_cases h : e = 0
          · rw [if_pos h, if_pos (h4 h)]; exact Nat.le_refl _
          · rw [if_neg h]; omega
        refine ⟨fun h => ⟨by rw [n1 h], by rw [h3 h, n1 h]⟩, by omega, fun h => by have := n4 h; omega, n2, fun h => n6 (n5.2 (h4 h))⟩
      by_cases h3 : a.kind = 11
      · rw [if_pos h3]
        obtain ⟨e1, e2, e3, e4, e5⟩ := key 0 (nextR 0 l k).k (fun _ => rfl) id
        exact ⟨e1, e2, fun h _ => e3 h, fun h => absurd h h1, fun h => absurd h h2, fun _ _ => e4, e5⟩
      · rw [if_neg h3]
        unfold readV
        have hv : ∀ f : List UInt8 → Nat, (k ≠ 0 → valK (tagA a) l k f = (nextR (tagA a) l k).k) ∧ (valK (tagA a) l k f = 0 → (nextR (tagA a) l k).k = 0) := fun f => by
          obtain ⟨n1, n2, n3, n4, n5, n6, n7⟩ := next_mu (t := tagA a) (l := l) (k := k) hl
          unfold valK
          refine ⟨fun h => if_neg fun hi => h (n6 hi), fun h => ?_⟩
          by_cases hi : (nextR (tagA a) l k).is = true
          · exact n5.1 hi
          · rw [if_neg hi] at h; exact h
        obtain ⟨e1, e2, e3, e4, e5⟩ := key (tagA a) (valK (tagA a) l k fun b => (saidM a b).2) (hv _).1 (hv _).2
        exact ⟨e1, e2, fun h _ => e3 h, fun h => absurd h h1, fun h => absurd h h2, fun _ _ => e4, e5⟩
abbrev StepR (α : Type) := List (List UInt8) → Nat → (List (List UInt8) × Nat) × α
structure StepOk {α : Type} (sp : StepR α) : Prop where
  mu : ∀ l k, 0 < l.length → moreM l k = true → muS (sp l k).1.1 (sp l k).1.2 < muS l k
  len : ∀ l k, 0 < l.length → moreM l k = true → (sp l k).1.2 = 0 → (sp l k).1.1.length = l.length
  grow : ∀ l k, 0 < l.length → moreM l k = true → l.length ≤ (sp l k).1.1.length ∧ (sp l k).1.1.length ≤ l.length + 16
section
variable {α : Type} (sp : StepR α) (l0 : List (List UInt8)) (k0 : Nat) (most : Int)
def stG : Nat → (List (List UInt8) × Nat) × List α
  | 0 => ((l0, k0), [])
  | j + 1 => ((sp (stG j).1.1 (stG j).1.2).1, (stG j).2 ++ [(sp (stG j).1.1 (stG j).1.2).2])
def goB (j : Nat) : Bool := moreM (stG sp l0 k0 j).1.1 (stG sp l0 k0 j).1.2 && decide ((j : Int) < most)
def firstG (p : Nat → Bool) : Nat → Nat → Nat
  | 0, j => j
  | n + 1, j => if p j = true then firstG p n (j + 1) else j
theorem firstG_spec (p : Nat → Bool) : ∀ n j, (∀ i, i < j → p i = true) → (∀ i, i < firstG p n j → p i = true) ∧ (p (firstG p n j) = false ∨ firstG p n j = j + n)
  | 0, j, h => ⟨h, .inr rfl⟩
  | n + 1, j, h => by
    unfold firstG
    by_cases hp : p j = true
    · rw [if_pos hp]
      obtain ⟨h1, h2⟩ := firstG_spec p n (j + 1) (fun i hi => if e : i = j then e ▸ hp else h i (by omega))
      exact ⟨h1, h2.imp id (fun e => by omega)⟩
    · rw [if_neg hp]
      exact ⟨h, .inl (by simpa using hp)⟩
def jG : Nat := firstG (goB sp l0 k0 most) (muS l0 k0 + 1) 0
def endG : List (List UInt8) × Nat :=
  let s := (stG sp l0 k0 (jG sp l0 k0 most)).1
  if moreM s.1 s.2 = true then (leaveL s.1 3, leaveK s.1 3) else (leaveL s.1 s.2, leaveK s.1 s.2)
theorem stG_out : ∀ j, (stG sp l0 k0 j).2.length = j
  | 0 => rfl
  | j + 1 => by
    show (_ ++ [_]).length = _
    rw [List.length_append, stG_out j]; rfl
variable {sp l0 k0 most}
theorem stG_bd (ok : StepOk sp) (hl : 0 < l0.length) : ∀ j, (∀ i, i < j → goB sp l0 k0 most i = true) → muS (stG sp l0 k0 j).1.1 (stG sp l0 k0 j).1.2 + j ≤ muS l0 k0 ∧ ((stG sp l0 k0 j).1.2 = 0 → (stG sp l0 k0 j).1.1.length = l0.length) ∧ l0.length ≤ (stG sp l0 k0 j).1.1.length ∧ (stG sp l0 k0 j).1.1.length ≤ l0.length + 16
  | 0, _ => ⟨Nat.le_refl _, fun _ => rfl, Nat.le_refl _, by show l0.length ≤ l0.length + 16; omega⟩
  | j + 1, h => by
    obtain ⟨h1, h2, h3, h4⟩ := stG_bd ok hl j fun i hi => h i (by omega)
    have hg := h j (by omega)
    unfold goB at hg
    rw [Bool.and_eq_true] at hg
    have hk := (more_pos hg.1).1
    have hlen := h2 hk
    have hp : 0 < (stG sp l0 k0 j).1.1.length := by omega
    have m1 := ok.mu _ _ hp hg.1
    have m2 := ok.len _ _ hp hg.1
    have m3 := ok.grow _ _ hp hg.1
    show muS (sp (stG sp l0 k0 j).1.1 (stG sp l0 k0 j).1.2).1.1 (sp (stG sp l0 k0 j).1.1 (stG sp l0 k0 j).1.2).1.2 + (j + 1) ≤ _ ∧ ((sp (stG sp l0 k0 j).1.1 (stG sp l0 k0 j).1.2).1.2 = 0 → (sp (stG sp l0 k0 j).1.1 (stG sp l0 k0 j).1.2).1.1.length = _) ∧ _ ≤ (sp (stG sp l0 k0 j).1.1 (stG sp l0 k0 j).1.2).1.1.length ∧ (sp (stG sp l0 k0 j).1.1 (stG sp l0 k0 j).1.2).1.1.length ≤ _
    exact ⟨by omega, fun e => by rw [m2 e, hlen], by omega, by omega⟩
theorem jG_stop (ok : StepOk sp) (hl : 0 < l0.length) : (∀ i, i < jG sp l0 k0 most → goB sp l0 k0 most i = true) ∧ goB sp l0 k0 most (jG sp l0 k0 most) = false := by
  obtain ⟨h1, h2⟩ := firstG_spec (goB sp l0 k0 most) (muS l0 k0 + 1) 0 (fun i hi => absurd hi (Nat.not_lt_zero i))
  refine ⟨h1, ?_⟩
  rcases h2 with h2 | h2
  · exact h2
  · have := (stG_bd ok hl _ h1).1
    rw [h2] at this
    omega
theorem jG_one (ok : StepOk sp) (hl : 0 < l0.length) {j : Nat} (h1 : ∀ i, i < j → goB sp l0 k0 most i = true) (h2 : goB sp l0 k0 most j = false) : jG sp l0 k0 most = j := by
  obtain ⟨h3, h4⟩ := jG_stop (k0 := k0) (most := most) ok hl
  rcases Nat.lt_trichotomy (jG sp l0 k0 most) j with h | h | h
  · rw [h1 _ h] at h4; cases h4
  · exact h
  · rw [h3 _ h] at h2; cases h2
end
end
section
open Go.RowKit Cal
theorem b8_eq {n : Nat} {x : UInt8} (h : n % 256 = x.toNat) : b8 n = x := UInt8.toNat_inj.1 (by rw [b8_mod, h])
theorem list_one {x : List UInt8} (h : x.length = 1) : x = [x.getD 0 0] := by
  match x, h with
  | [a], _ => rfl
theorem list_two {x : List UInt8} (h : x.length = 2) : x = [x.getD 0 0, x.getD 1 0] := by
  match x, h with
  | [a, b], _ => rfl
theorem list_three {x : List UInt8} (h : x.length = 3) : x = [x.getD 0 0, x.getD 1 0, x.getD 2 0] := by
  match x, h with
  | [a, b, c], _ => rfl
theorem list_four {x : List UInt8} (h : x.length = 4) : x = [x.getD 0 0, x.getD 1 0, x.getD 2 0, x.getD 3 0] := by
  match x, h with
  | [a, b, c, d], _ => rfl
theorem meas_canon {b : List UInt8} (h : (measM b).e = 0) : b = lenL (measM b).n ++ (measM b).rest := by
  revert h
  unfold measM
  by_cases h0 : b.length = 0
  · rw [if_pos h0]; intro h; cases h
  · rw [if_neg h0]
    dsimp only
    have hb : b = b.getD 0 0 :: b.drop 1 := by
      match b, h0 with
      | c :: r, _ => rfl
    generalize hc : b.getD 0 0 = c at hb ⊢
    generalize hr : b.drop 1 = r at hb ⊢
    subst hb
    have hc8 := c.toNat_lt
    by_cases h1 : c.toNat ≤ 127
    · rw [if_pos h1]
      intro _
      unfold lenL
      dsimp only
      rw [if_pos (by omega)]
      rw [b8_eq (show c.toNat % 256 = c.toNat by omega)]
      rfl
    · rw [if_neg h1]
      by_cases h2 : c.toNat = 128 ∨ 132 < c.toNat
      · rw [if_pos h2]; intro h; cases h
      · rw [if_neg h2]
        by_cases h3 : r.length < c.toNat - 128
        · rw [if_pos h3]; intro h; cases h
        · rw [if_neg h3]
          by_cases h4 : beN (r.take (c.toNat - 128)) ≤ 127 ∨ (r.getD 0 0).toNat = 0
          · rw [if_pos h4]; intro h; cases h
          · rw [if_neg h4]
            intro _
            dsimp only
            obtain ⟨h5, h6⟩ := not_or.1 h4
            have hd : c :: r = c :: (r.take (c.toNat - 128) ++ r.drop (c.toNat - 128)) := by rw [List.take_append_drop]
            have hl : (r.take (c.toNat - 128)).length = c.toNat - 128 := by rw [List.length_take]; omega
            have h0r : (r.take (c.toNat - 128)).getD 0 0 = r.getD 0 0 := by
              simp only [List.getD_eq_getElem?_getD, List.getElem?_take]
              rw [if_pos (by omega)]
            rw [hd]
            rw [← h0r] at h6
            generalize r.drop (c.toNat - 128) = q at *
            generalize r.take (c.toNat - 128) = x at *
            have hcx : c = b8 c.toNat := (b8_eq (by omega)).symm
            obtain e | e | e | e : c.toNat = 129 ∨ c.toNat = 130 ∨ c.toNat = 131 ∨ c.toNat = 132 := by omega
            · have hx := list_one (x := x) (by omega)
              generalize x.getD 0 0 = x0 at hx h6
              subst hx
              have h7 := x0.toNat_lt
              simp only [beN, List.foldl_cons, List.foldl_nil, Nat.zero_mul, Nat.zero_add] at h5 ⊢
              unfold lenL
              rw [if_neg (by omega), if_pos (by omega), b8_eq (show x0.toNat % 256 = x0.toNat by omega), hcx, e]
              rfl
            · have hx := list_two (x := x) (by omega)
              generalize x.getD 0 0 = x0 at hx h6
              generalize x.getD 1 0 = x1 at hx
              subst hx
              have h7 := x0.toNat_lt
              have h8 := x1.toNat_lt
              simp only [beN, List.foldl_cons, List.foldl_nil, Nat.zero_mul, Nat.zero_add] at h5 ⊢
              unfold lenL
              rw [if_neg (by omega), if_neg (by omega), if_pos (by omega), b8_eq (show (x0.toNat * 256 + x1.toNat) / 256 % 256 = x0.toNat by omega), b8_eq (show (x0.toNat * 256 + x1.toNat) % 256 = x1.toNat by omega), hcx, e]
              rfl
            · have hx := list_three (x := x) (by omega)
              generalize x.getD 0 0 = x0 at hx h6
              generalize x.getD 1 0 = x1 at hx
              generalize x.getD 2 0 = x2 at hx
              subst hx
              have h7 := x0.toNat_lt
              have h8 := x1.toNat_lt
              have h9 := x2.toNat_lt
              simp only [beN, List.foldl_cons, List.foldl_nil, Nat.zero_mul, Nat.zero_add] at h5 ⊢
              unfold lenL
              rw [if_neg (by omega), if_neg (by omega), if_neg (by omega), if_pos (by omega), b8_eq (show ((x0.toNat * 256 + x1.toNat) * 256 + x2.toNat) / 65536 % 256 = x0.toNat by omega), b8_eq (show ((x0.toNat * 256 + x1.toNat) * 256 + x2.toNat) / 256 % 256 = x1.toNat by omega), b8_eq (show ((x0.toNat * 256 + x1.toNat) * 256 + x2.toNat) % 256 = x2.toNat by omega), hcx, e]
              rfl
            · have hx := list_four (x := x) (by omega)
              generalize x.getD 0 0 = x0 at hx h6
              generalize x.getD 1 0 = x1 at hx
              generalize x.getD 2 0 = x2 at hx
              generalize x.getD 3 0 = x3 at hx
              subst hx
              have h7 := x0.toNat_lt
              have h8 := x1.toNat_lt
              have h9 := x2.toNat_lt
              have h10 := x3.toNat_lt
              simp only [beN, List.foldl_cons, List.foldl_nil, Nat.zero_mul, Nat.zero_add] at h5 ⊢
              unfold lenL
              rw [if_neg (by omega), if_neg (by omega), if_neg (by omega), if_neg (by omega), b8_eq (show (((x0.toNat * 256 + x1.toNat) * 256 + x2.toNat) * 256 + x3.toNat) / 16777216 % 256 = x0.toNat by omega), b8_eq (show (((x0.toNat * 256 + x1.toNat) * 256 + x2.toNat) * 256 + x3.toNat) / 65536 % 256 = x1.toNat by omega), b8_eq (show (((x0.toNat * 256 + x1.toNat) * 256 + x2.toNat) * 256 + x3.toNat) / 256 % 256 = x2.toNat by omega), b8_eq (show (((x0.toNat * 256 + x1.toNat) * 256 + x2.toNat) * 256 + x3.toNat) % 256 = x3.toNat by omega), hcx, e]
              rfl
theorem nx_known {b : List UInt8} (h : (nextM b).e = 0) : knownM ((nextM b).tag : Nat) = true := by
  revert h
  unfold nextM
  by_cases h0 : b.length = 0
  · rw [if_pos h0]; intro h; cases h
  · rw [if_neg h0]
    by_cases h1 : knownM ((b.getD 0 0).toNat : Nat) = false
    · rw [if_pos h1]; intro h; cases h
    · rw [if_neg h1]
      dsimp only
      by_cases h2 : (measM (b.drop 1)).e ≠ 0
      · rw [if_pos h2]; intro h; exact absurd h h2
      · rw [if_neg h2]
        by_cases h3 : 65530 < (measM (b.drop 1)).n
        · rw [if_pos h3]; intro h; cases h
        · rw [if_neg h3]
          by_cases h4 : (measM (b.drop 1)).rest.length < (measM (b.drop 1)).n
          · rw [if_pos h4]; intro h; cases h
          · rw [if_neg h4]
            intro _
            simpa using h1
theorem next_canon {b : List UInt8} (h : (nextM b).e = 0) : b = putL ((nextM b).tag : Nat) (nextM b).body ++ (nextM b).rest ∧ knownM ((nextM b).tag : Nat) = true ∧ (nextM b).body.length ≤ 65530 := by
  refine ⟨?_, nx_known h, (nextM_bd b).2.2.1⟩
  revert h
  unfold nextM
  by_cases h0 : b.length = 0
  · rw [if_pos h0]; intro h; cases h
  · rw [if_neg h0]
    by_cases h1 : knownM ((b.getD 0 0).toNat : Nat) = false
    · rw [if_pos h1]; intro h; cases h
    · rw [if_neg h1]
      dsimp only
      by_cases h2 : (measM (b.drop 1)).e ≠ 0
      · rw [if_pos h2]; intro h; exact absurd h h2
      · rw [if_neg h2]
        have hm := meas_canon (b := b.drop 1) (by omega)
        by_cases h3 : 65530 < (measM (b.drop 1)).n
        · rw [if_pos h3]; intro h; cases h
        · rw [if_neg h3]
          by_cases h4 : (measM (b.drop 1)).rest.length < (measM (b.drop 1)).n
          · rw [if_pos h4]; intro h; cases h
          · rw [if_neg h4]
            intro _
            dsimp only
            have hb : b = b.getD 0 0 :: b.drop 1 := by
              match b, h0 with
              | c :: r, _ => rfl
            have hc8 := (b.getD 0 0).toNat_lt
            have e : UInt8.ofNat (((b.getD 0 0).toNat : Nat) : Int).toNat = b.getD 0 0 := by
              rw [Int.toNat_natCast, UInt8.ofNat_toNat]
            have hl : ((measM (b.drop 1)).rest.take (measM (b.drop 1)).n).length = (measM (b.drop 1)).n := by rw [List.length_take]; omega
            unfold putL
            rw [e, hl, List.cons_append, List.append_assoc, List.take_append_drop, ← hm]
            exact hb
theorem nextR_canon {t : Int} {l : List (List UInt8)} {k : Nat} (ht : t ≠ 0) (h : (nextR t l k).k = 0) : k = 0 ∧ nowL l = putL t (nextR t l k).body ++ (nextM (nowL l)).rest ∧ (nextR t l k).l = l.set (l.length - 1) (nextM (nowL l)).rest ∧ knownM t = true ∧ (nextR t l k).body.length ≤ 65530 ∧ (nextR t l k).is = true := by
  revert h
  unfold nextR
  by_cases h0 : k ≠ 0
  · rw [if_pos h0]; intro h; exact absurd h h0
  · rw [if_neg h0]
    by_cases h1 : (nextM (nowL l)).e ≠ 0
    · rw [if_pos h1]; intro h; exact absurd h h1
    · rw [if_neg h1]
      by_cases h2 : t ≠ 0 ∧ ((nextM (nowL l)).tag : Int) ≠ t
      · rw [if_pos h2]; intro h; cases h
      · rw [if_neg h2]
        intro _
        have h3 := next_canon (b := nowL l) (by omega)
        have e : ((nextM (nowL l)).tag : Int) = t := Classical.byContradiction fun e => h2 ⟨ht, e⟩
        rw [e] at h3
        exact ⟨by omega, h3.1, rfl, h3.2.1, h3.2.2, rfl⟩
theorem oget_canon {b : List UInt8} (h : (ogetM b).2 = 0) : putM (ogetM b).1 = b ∧ (parseM (ogetM b).1).2 = 0 := by
  unfold ogetM at h ⊢
  by_cases h0 : (getA b).2 = 0
  · rw [if_pos h0]
    obtain ⟨h1, h2⟩ := put_get (b := b) (l := (getA b).1) (by rw [← h0])
    have h3 := parse_text h2
    unfold putM
    dsimp only
    rw [h3]
    exact ⟨by rw [if_pos rfl]; exact h1, rfl⟩
  · rw [if_neg h0] at h; exact absurd h h0
end
section
open Go.RowKit Cal
structure Elt (x : List UInt8) (t : Nat) (b : List UInt8) : Prop where
  nx : ∀ r, nextM (x ++ r) = ⟨0, t, b, r⟩
  pos : 0 < x.length
  wh : ∀ lv, lv ≤ 16 → (wholeM lv t b).2 = 0 ∨ (wholeM lv t b).2 = 6
def IsE (x : List UInt8) : Prop := ∃ t b, Elt x t b
structure GoodW (s : W8) : Prop where
  fr : ∀ f ∈ s.fr, madeM f.1 = true ∧ ∀ y ∈ f.2, IsE y
  d : ∃ xs : List (List UInt8), s.d = xs.flatten ∧ ∀ x ∈ xs, IsE x
end
section
open Go.RowKit Cal
def doAll (vs : List VV) (s : W8) : W8 := vs.foldl (fun s v => doW v s) s
def rdoAll (vs : List VV) (r : R8) : R8 := vs.foldl (fun r v => rdoS v r) r
theorem doAll_app (a b : List VV) (s : W8) : doAll (a ++ b) s = doAll b (doAll a s) := by unfold doAll; rw [List.foldl_append]
theorem rdoAll_app (a b : List VV) (r : R8) : rdoAll (a ++ b) r = rdoAll b (rdoAll a r) := by unfold rdoAll; rw [List.foldl_append]
theorem inv_mono {i j : Nat} {r : R8} {s : W8} (h : Inv8 i r s) (hij : i ≤ j) : Inv8 j r s :=
  ⟨h.same, by have := h.w; omega, fun x hx => by have := h.rows x hx; omega, h.n⟩
theorem inv_all : ∀ (vs : List VV) {i : Nat} {r : R8} {s : W8}, Inv8 i r s → (∀ v ∈ vs, SmallV v) → Inv8 (i + vs.length) (rdoAll vs r) (doAll vs s)
  | [], i, r, s, h, _ => h
  | v :: vs, i, r, s, h, hv => by
    have := inv_all vs (inv_do h (hv v List.mem_cons_self)) fun x hx => hv x (List.mem_cons_of_mem _ hx)
    rw [List.length_cons, show i + (vs.length + 1) = i + 1 + vs.length by omega]
    exact this
theorem rdo_bad {v : VV} {r : R8} (h : r.e ≠ 0) : rdoS v r = r := by unfold rdoS; rw [if_pos h]
theorem rdoAll_bad : ∀ (vs : List VV) {r : R8}, r.e ≠ 0 → rdoAll vs r = r
  | [], r, _ => rfl
  | v :: vs, r, h => by
    show rdoAll vs (rdoS v r) = r
    rw [rdo_bad h]
    exact rdoAll_bad vs h
theorem failW_zero (s : W8) : failW 0 s = s := by
  unfold failW
  split
  · rename_i h; rw [← h]
  · rfl
theorem open_ok {t : Int} {s : W8} (hk : s.k = 0) (ht : madeM t = true) (hl : s.fr.length < 16) : openW t s = ⟨(t, []) :: s.fr, s.d, 0⟩ := by
  unfold openW
  rw [if_neg (by omega), if_neg (by rw [ht]; decide), if_neg (by omega), hk]
theorem put_ok {t : Int} {b : List UInt8} {s : W8} (hk : s.k = 0) (ht : knownM t = true) (hb : b.length ≤ 65530) : putW t b 0 s = addW (putL t b) s := by
  unfold putW
  rw [failW_zero, if_neg (by omega), if_neg (by unfold putE; rw [if_neg (by rw [ht]; decide), if_neg (by omega)]; decide)]
theorem close_ok {t : Int} {ls : List (List UInt8)} {fr : List (Int × List (List UInt8))} {d : List UInt8} (ht : knownM t = true) (h9 : t ≠ 49) (hb : ls.flatten.length ≤ 65530) : closeV ⟨(t, ls) :: fr, d, 0⟩ = addW (putL t ls.flatten) ⟨fr, d, 0⟩ := by
  have hf : bodyF (t, ls) = ls.flatten := by unfold bodyF; rw [if_neg h9]
  show putW t (bodyF (t, ls)) 0 ⟨fr, d, 0⟩ = _
  rw [hf, put_ok rfl ht hb]
def elB (x : Int × List UInt8) : List UInt8 := putL x.1 x.2
structure Lev (d : Nat) (x : Int × List UInt8) : Prop where
  known : knownM x.1 = true
  len : x.2.length ≤ 65530
  wh : ∀ lv, d ≤ lv → (wholeM lv x.1.toNat x.2).2 = 0
theorem Lev.mono {d e : Nat} {x : Int × List UInt8} (h : Lev d x) (hd : d ≤ e) : Lev e x := ⟨h.known, h.len, fun lv hl => h.wh lv (by omega)⟩
theorem elB_pos (x : Int × List UInt8) : 0 < (elB x).length := by unfold elB putL; simp
theorem nowL_snoc (ls : List (List UInt8)) (x : List UInt8) : nowL (ls ++ [x]) = x := by unfold nowL; simp
theorem set_snoc (ls : List (List UInt8)) (x y : List UInt8) : (ls ++ [x]).set ((ls ++ [x]).length - 1) y = ls ++ [y] := by simp
theorem nextR_fwd (ls : List (List UInt8)) {t : Int} {b : List UInt8} (r : List UInt8) (hk : knownM t = true) (hb : b.length ≤ 65530) : ∃ tg raw, nextR t (ls ++ [putL t b ++ r]) 0 = ⟨ls ++ [r], 0, tg, b, raw, true⟩ := by
  have hn := next_put (r := r) hk hb
  have h0 := (known_bd hk).1
  unfold nextR
  rw [nowL_snoc, hn, set_snoc, if_neg (by decide), if_neg (by simp), if_neg (by dsimp only; rw [Int.toNat_of_nonneg h0]; simp)]
  exact ⟨_, _, rfl⟩
theorem nextR_back {ls : List (List UInt8)} {x : List UInt8} {t : Int} {k : Nat} (ht : t ≠ 0) (h : (nextR t (ls ++ [x]) k).k = 0) : k = 0 ∧ knownM t = true ∧ ∃ b r tg raw, x = putL t b ++ r ∧ b.length ≤ 65530 ∧ nextR t (ls ++ [x]) k = ⟨ls ++ [r], 0, tg, b, raw, true⟩ := by
  obtain ⟨h1, h2, h3, h4, h5, h6⟩ := nextR_canon ht h
  rw [nowL_snoc] at h2 h3
  rw [set_snoc] at h3
  refine ⟨h1, h4, (nextR t (ls ++ [x]) k).body, (nextM x).rest, (nextR t (ls ++ [x]) k).tag, (nextR t (ls ++ [x]) k).raw, h2, h5, ?_⟩
  rw [← h3]
  conv => rhs; arg 2; rw [← h]
  conv => rhs; arg 6; rw [← h6]
theorem enter_fwd (ls : List (List UInt8)) {t : Int} {b : List UInt8} (r : List UInt8) (hm : madeM t = true) (hb : b.length ≤ 65530) : enterL t (ls ++ [putL t b ++ r]) 0 = ls ++ [r] ++ [b] ∧ (enterR t (ls ++ [putL t b ++ r]) 0).k = 0 ∧ (enterR t (ls ++ [putL t b ++ r]) 0).is = true := by
  obtain ⟨tg, raw, hN⟩ := nextR_fwd ls r (made_known hm) hb
  have hE : enterR t (ls ++ [putL t b ++ r]) 0 = ⟨ls ++ [r], 0, tg, b, raw, true⟩ := by
    unfold enterR
    rw [if_neg (by rintro ⟨_, h⟩; rw [hm] at h; cases h), hN]
  unfold enterL
  rw [hE, if_pos rfl]
  exact ⟨rfl, rfl, rfl⟩
theorem enter_back {ls : List (List UInt8)} {x : List UInt8} {t : Int} {k : Nat} (ht : t ≠ 0) (h : (enterR t (ls ++ [x]) k).k = 0) : k = 0 ∧ ∃ b r, x = putL t b ++ r ∧ b.length ≤ 65530 ∧ enterL t (ls ++ [x]) k = ls ++ [r] ++ [b] ∧ (enterR t (ls ++ [x]) k).is = true := by
  have hc : k = 0 ∧ enterR t (ls ++ [x]) k = nextR t (ls ++ [x]) k := by
    unfold enterR at h ⊢
    by_cases hc : moreM (ls ++ [x]) k = true ∧ madeM t = false
    · rw [if_pos hc] at h
      exact absurd (nextR_back ht h).1 (by decide)
    · rw [if_neg hc] at h ⊢
      exact ⟨(nextR_back ht h).1, rfl⟩
  obtain ⟨hk, hE⟩ := hc
  rw [hE] at h
  obtain ⟨_, _, b, r, tg, raw, h1, h2, h3⟩ := nextR_back ht h
  refine ⟨hk, b, r, h1, h2, ?_, ?_⟩
  · unfold enterL
    rw [hE, h3, if_pos rfl]
  · rw [hE, h3]
theorem read_enter (a : AA) (ha : a.kind = 1) (l : List (List UInt8)) (k : Nat) : (readR a l k).l = enterL a.tag l k ∧ (readR a l k).k = (enterR a.tag l k).k := by unfold readR; rw [if_pos ha]; exact ⟨rfl, rfl⟩
theorem read_leave (a : AA) (ha : a.kind = 2) (l : List (List UInt8)) (k : Nat) : (readR a l k).l = leaveL l k ∧ (readR a l k).k = leaveK l k := by unfold readR; rw [if_neg (by omega), if_pos ha]; exact ⟨rfl, rfl⟩
theorem leave_fwd {ls : List (List UInt8)} (h : 0 < ls.length) : leaveL (ls ++ [[]]) 0 = ls ∧ leaveK (ls ++ [[]]) 0 = 0 := by
  have hk : leaveK (ls ++ [[]]) 0 = 0 := by
    unfold leaveK
    rw [if_neg (by decide), if_neg (by rw [List.length_append, List.length_singleton]; omega), nowL_snoc, if_neg (by decide)]
  unfold leaveL
  rw [hk, if_pos rfl]
  exact ⟨by simp, rfl⟩
theorem leave_back {ls : List (List UInt8)} {x : List UInt8} {k : Nat} (h : leaveK (ls ++ [x]) k = 0) : k = 0 ∧ x = [] ∧ 0 < ls.length ∧ leaveL (ls ++ [x]) k = ls := by
  have h0 := h
  unfold leaveK at h
  by_cases h1 : k ≠ 0
  · rw [if_pos h1] at h; exact absurd h h1
  · rw [if_neg h1] at h
    by_cases h2 : (ls ++ [x]).length = 1
    · rw [if_pos h2] at h; cases h
    · rw [if_neg h2, nowL_snoc] at h
      by_cases h3 : 0 < x.length
      · rw [if_pos h3] at h; cases h
      · refine ⟨by omega, List.eq_nil_of_length_eq_zero (by omega), by rw [List.length_append, List.length_singleton] at h2; omega, ?_⟩
        unfold leaveL
        rw [h0, if_pos rfl]
        simp
theorem read_fwd (a : AA) (ls : List (List UInt8)) {b : List UInt8} (r : List UInt8) (ha : 3 ≤ a.kind ∧ a.kind ≤ 10) (hb : b.length ≤ 65530) (h : (saidM a b).2 = 0) : readR a (ls ++ [putL (tagA a) b ++ r]) 0 = ⟨ls ++ [r], 0, (saidM a b).1⟩ := by
  have hk : knownM (tagA a) = true := by
    unfold tagA
    repeat' split
    all_goals decide
  obtain ⟨tg, raw, hN⟩ := nextR_fwd ls r hk hb
  unfold readR readV valK
  rw [if_neg (by omega), if_neg (by omega), if_neg (by omega), hN]
  dsimp only
  rw [if_pos rfl, if_pos ⟨rfl, h⟩, h]
theorem read_back {a : AA} {ls : List (List UInt8)} {x : List UInt8} {k : Nat} (ha : 3 ≤ a.kind ∧ a.kind ≤ 10) (h : (readR a (ls ++ [x]) k).k = 0) : k = 0 ∧ ∃ b r, x = putL (tagA a) b ++ r ∧ b.length ≤ 65530 ∧ (saidM a b).2 = 0 ∧ readR a (ls ++ [x]) k = ⟨ls ++ [r], 0, (saidM a b).1⟩ := by
  have ht : tagA a ≠ 0 := by
    unfold tagA
    repeat' split
    all_goals decide
  have e : readR a (ls ++ [x]) k = readV (tagA a) (saidM a) (ls ++ [x]) k := by unfold readR; rw [if_neg (by omega), if_neg (by omega), if_neg (by omega)]
  have hn : (nextR (tagA a) (ls ++ [x]) k).k = 0 := by
    rw [e] at h
    unfold readV valK at h
    dsimp only at h
    by_cases hi : (nextR (tagA a) (ls ++ [x]) k).is = true
    · exact (next_mu (by simp)).2.2.2.2.1.1 hi
    · rw [if_neg hi] at h; exact h
  obtain ⟨h1, h2, b, r, tg, raw, h3, h4, h5⟩ := nextR_back ht hn
  rw [e] at h ⊢
  unfold readV valK at h ⊢
  rw [h5] at h ⊢
  dsimp only at h ⊢
  rw [if_pos rfl] at h
  exact ⟨h1, b, r, h3, h4, h, by rw [if_pos rfl, if_pos ⟨rfl, h⟩, h]⟩
theorem end_back {l : List (List UInt8)} {k : Nat} (hl : 0 < l.length) (h : endK l k = 0) : k = 0 ∧ l = [[]] := by
  unfold endK at h
  by_cases h1 : k ≠ 0
  · rw [if_pos h1] at h; exact absurd h h1
  · rw [if_neg h1] at h
    by_cases h2 : 1 < l.length
    · rw [if_pos h2] at h; cases h
    · rw [if_neg h2] at h
      by_cases h3 : 0 < (l.getD 0 []).length
      · rw [if_pos h3] at h; cases h
      · refine ⟨by omega, ?_⟩
        obtain ⟨x, rfl⟩ := List.length_eq_one_iff.1 (show l.length = 1 by omega)
        have : x = [] := List.eq_nil_of_length_eq_zero (by simpa using h3)
        rw [this]
end
section
open Go.RowKit Cal
structure StepFB {α : Type} (sp : StepR α) (enc : α → List UInt8) (good : α → Prop) : Prop where
  fwd : ∀ (ls : List (List UInt8)) a r, good a → sp (ls ++ [enc a ++ r]) 0 = ((ls ++ [r], 0), a)
  back : ∀ (ls : List (List UInt8)) x k, (sp (ls ++ [x]) k).1.2 = 0 → k = 0 ∧ ∃ a r, good a ∧ x = enc a ++ r ∧ sp (ls ++ [x]) k = ((ls ++ [r], 0), a)
  pos : ∀ a, good a → 0 < (enc a).length
section
variable {α : Type} {sp : StepR α} {enc : α → List UInt8} {good : α → Prop}
theorem st_back (h : StepFB sp enc good) {most : Int} {k0 : Nat} (ls : List (List UInt8)) (x : List UInt8) : ∀ j, (∀ i, i < j → goB sp (ls ++ [x]) k0 most i = true) → (stG sp (ls ++ [x]) k0 j).1.2 = 0 → ∃ y, (stG sp (ls ++ [x]) k0 j).1.1 = ls ++ [y] ∧ x = ((stG sp (ls ++ [x]) k0 j).2.map enc).flatten ++ y ∧ ∀ a ∈ (stG sp (ls ++ [x]) k0 j).2, good a
  | 0, _, hk => ⟨x, rfl, rfl, fun a ha => by cases ha⟩
  | j + 1, hgo, hk => by
    have hg := hgo j (by omega)
    unfold goB at hg
    rw [Bool.and_eq_true] at hg
    have hkj := (more_pos hg.1).1
    obtain ⟨y, h1, h2, h3⟩ := st_back h (most := most) ls x j (fun i hi => hgo i (by omega)) hkj
    have hk' : (sp (stG sp (ls ++ [x]) k0 j).1.1 (stG sp (ls ++ [x]) k0 j).1.2).1.2 = 0 := hk
    rw [h1] at hk'
    obtain ⟨_, a, r, h4, h5, h6⟩ := h.back ls y _ hk'
    refine ⟨r, ?_, ?_, ?_⟩
    · show (sp (stG sp (ls ++ [x]) k0 j).1.1 (stG sp (ls ++ [x]) k0 j).1.2).1.1 = _
      rw [h1, h6]
    · show x = (((stG sp (ls ++ [x]) k0 j).2 ++ [(sp (stG sp (ls ++ [x]) k0 j).1.1 (stG sp (ls ++ [x]) k0 j).1.2).2]).map enc).flatten ++ r
      rw [h1, h6, List.map_append, List.flatten_append, List.append_assoc]
      rw [h5] at h2
      simpa using h2
    · intro b hb
      have hb' : b ∈ (stG sp (ls ++ [x]) k0 j).2 ++ [(sp (stG sp (ls ++ [x]) k0 j).1.1 (stG sp (ls ++ [x]) k0 j).1.2).2] := hb
      rw [h1, h6] at hb'
      rcases List.mem_append.1 hb' with hb' | hb'
      · exact h3 b hb'
      · rw [List.mem_singleton.1 hb']; exact h4
theorem row_back (ok : StepOk sp) (h : StepFB sp enc good) {tag most : Int} {k : Nat} (ls : List (List UInt8)) (x : List UInt8) (ht : tag ≠ 0) (he : (endG sp (enterL tag (ls ++ [x]) k) (enterR tag (ls ++ [x]) k).k most).2 = 0) :
    k = 0 ∧ ∃ xs r, (∀ a ∈ xs, good a) ∧ (xs = [] ∨ (xs.length : Int) ≤ most) ∧ ((xs.map enc).flatten).length ≤ 65530 ∧ x = putL tag (xs.map enc).flatten ++ r ∧ endG sp (enterL tag (ls ++ [x]) k) (enterR tag (ls ++ [x]) k).k most = (ls ++ [r], 0) ∧
      (stG sp (enterL tag (ls ++ [x]) k) (enterR tag (ls ++ [x]) k).k (jG sp (enterL tag (ls ++ [x]) k) (enterR tag (ls ++ [x]) k).k most)).2 = xs := by
  have hlen : 0 < (enterL tag (ls ++ [x]) k).length := by
    obtain ⟨_, _, _, e4, e5, _⟩ := enter_mu (t := tag) (l := ls ++ [x]) (k := k) (by simp)
    by_cases h0 : (enterR tag (ls ++ [x]) k).k = 0
    · rw [e4 h0]; omega
    · rw [e5 h0]; simp
  obtain ⟨hgo, hstop⟩ := jG_stop (k0 := (enterR tag (ls ++ [x]) k).k) (most := most) ok hlen
  have hbd := stG_bd (k0 := (enterR tag (ls ++ [x]) k).k) (most := most) ok hlen
  have hE : endG sp (enterL tag (ls ++ [x]) k) (enterR tag (ls ++ [x]) k).k most = (leaveL (stG sp (enterL tag (ls ++ [x]) k) (enterR tag (ls ++ [x]) k).k (jG sp (enterL tag (ls ++ [x]) k) (enterR tag (ls ++ [x]) k).k most)).1.1 (stG sp (enterL tag (ls ++ [x]) k) (enterR tag (ls ++ [x]) k).k (jG sp (enterL tag (ls ++ [x]) k) (enterR tag (ls ++ [x]) k).k most)).1.2, leaveK (stG sp (enterL tag (ls ++ [x]) k) (enterR tag (ls ++ [x]) k).k (jG sp (enterL tag (ls ++ [x]) k) (enterR tag (ls ++ [x]) k).k most)).1.1 (stG sp (enterL tag (ls ++ [x]) k) (enterR tag (ls ++ [x]) k).k (jG sp (enterL tag (ls ++ [x]) k) (enterR tag (ls ++ [x]) k).k most)).1.2) := by
    unfold endG at he ⊢
    dsimp only at he ⊢
    split at he
    · exfalso
      dsimp only at he
      unfold leaveK at he
      rw [if_pos (by decide)] at he
      cases he
    · rename_i hm
      rw [if_neg hm]
  rw [hE] at he
  dsimp only at he
  have hkJ : (stG sp (enterL tag (ls ++ [x]) k) (enterR tag (ls ++ [x]) k).k (jG sp (enterL tag (ls ++ [x]) k) (enterR tag (ls ++ [x]) k).k most)).1.2 = 0 := by
    refine Nat.eq_zero_of_not_pos fun hp => ?_
    have hp' : (stG sp (enterL tag (ls ++ [x]) k) (enterR tag (ls ++ [x]) k).k (jG sp (enterL tag (ls ++ [x]) k) (enterR tag (ls ++ [x]) k).k most)).1.2 ≠ 0 := by omega
    unfold leaveK at he
    rw [if_pos hp'] at he
    exact hp' he
  have hk0 : (enterR tag (ls ++ [x]) k).k = 0 := by
    rcases Nat.eq_zero_or_pos (jG sp (enterL tag (ls ++ [x]) k) (enterR tag (ls ++ [x]) k).k most) with hz | hz
    · rw [hz] at hkJ; exact hkJ
    · have hg := hgo 0 hz
      unfold goB at hg
      rw [Bool.and_eq_true] at hg
      exact (more_pos hg.1).1
  obtain ⟨hk, b, r, h1, h2, h3, h4⟩ := enter_back ht hk0
  have hJlen : jG sp (enterL tag (ls ++ [x]) k) (enterR tag (ls ++ [x]) k).k most = 0 ∨ ((jG sp (enterL tag (ls ++ [x]) k) (enterR tag (ls ++ [x]) k).k most : Nat) : Int) ≤ most := by
    rcases Nat.eq_zero_or_pos (jG sp (enterL tag (ls ++ [x]) k) (enterR tag (ls ++ [x]) k).k most) with hz | hz
    · exact .inl hz
    · have hg := hgo (jG sp (enterL tag (ls ++ [x]) k) (enterR tag (ls ++ [x]) k).k most - 1) (by omega)
      unfold goB at hg
      rw [Bool.and_eq_true, decide_eq_true_eq] at hg
      exact .inr (by omega)
  rw [hE]
  rw [hk0, h3] at hgo hkJ he hJlen ⊢
  obtain ⟨y, h5, h6, h7⟩ := st_back h (ls ++ [r]) b _ hgo hkJ
  have hso := stG_out sp (ls ++ [r] ++ [b]) 0 (jG sp (ls ++ [r] ++ [b]) 0 most)
  generalize jG sp (ls ++ [r] ++ [b]) 0 most = J at *
  rw [h5] at he
  obtain ⟨_, h8, _, h9⟩ := leave_back he
  subst h8
  rw [List.append_nil] at h6
  refine ⟨hk, (stG sp (ls ++ [r] ++ [b]) 0 J).2, r, h7, ?_, by rw [← h6]; exact h2, by rw [← h6]; exact h1, ?_, rfl⟩
  · rcases hJlen with h | h
    · exact .inl (List.eq_nil_of_length_eq_zero (by omega))
    · exact .inr (by rw [hso]; exact h)
  · rw [h5, h9, he]
end
end
section
open Go.RowKit Cal
def v8 (t : List UInt8) : VV := ⟨8, 0, false, [], t⟩
def v7 (t : List UInt8) (most : Int) : VV := ⟨7, most, false, [], t⟩
def w1 (tag : Int) : VV := ⟨1, tag, false, [], []⟩
def w2 : VV := ⟨2, 0, false, [], []⟩
def pv (p : P2) : List VV := [w1 48, v8 p.1, v7 p.2 64, w2]
def namesV (s : S3) : List VV := w1 48 :: ((partsS s).flatMap pv ++ [w2])
def putS (s : S3) (w : W8) : W8 := if rightS s = true then doAll (namesV s) w else failW 9 w
def rputS9 (s : S3) (r : R8) : R8 := if rightS s = true then rdoAll (namesV s) r else ⟨r.tags, r.rows, if r.e = 0 then 9 else r.e⟩
theorem do_w1 (tag : Int) (s : W8) : doW (w1 tag) s = openW tag s := by unfold doW; rw [if_pos (show (w1 tag).kind = 1 from rfl)]; rfl
theorem do_w2 (s : W8) : doW w2 s = closeV s := by unfold doW; rw [if_neg (show ¬ w2.kind = 1 by decide), if_pos (show w2.kind = 2 from rfl)]
theorem do_v8 (t : List UInt8) (s : W8) : doW (v8 t) s = putW 6 (putM t) (parseM t).2 s := by
  unfold doW
  rw [if_neg (show ¬ (v8 t).kind = 1 by show ¬ (8 : Int) = 1; decide), if_neg (show ¬ (v8 t).kind = 2 by show ¬ (8 : Int) = 2; decide), if_neg (show ¬ (v8 t).kind = 11 by show ¬ (8 : Int) = 11; decide)]
  rfl
theorem do_v7 (t : List UInt8) (m : Int) (s : W8) : doW (v7 t m) s = putW 12 (if askedM t m = 0 then t else []) (askedM t m) s := by
  unfold doW
  rw [if_neg (show ¬ (v7 t m).kind = 1 by show ¬ (7 : Int) = 1; decide), if_neg (show ¬ (v7 t m).kind = 2 by show ¬ (7 : Int) = 2; decide), if_neg (show ¬ (v7 t m).kind = 11 by show ¬ (7 : Int) = 11; decide)]
  rfl
theorem lab_ascii {l : List UInt8} (h : labM l = true) : (∀ c ∈ l, 32 ≤ c.toNat ∧ c.toNat < 127) ∧ l ≠ [] ∧ l.length ≤ 24 := by
  simp only [labM, Bool.and_eq_true, decide_eq_true_eq, List.all_eq_true] at h
  obtain ⟨⟨⟨⟨h1, h2⟩, _⟩, _⟩, h5⟩ := h
  refine ⟨fun c hc => ?_, h1, h2⟩
  have := h5 c hc
  simp only [lch, Bool.or_eq_true, Bool.and_eq_true, decide_eq_true_eq] at this
  omega
theorem plain_ascii : ∀ {l : List UInt8}, (∀ c ∈ l, 32 ≤ c.toNat ∧ c.toNat < 127) → plainM l = true
  | [], _ => rfl
  | c :: l, h => by
    have hc := h c List.mem_cons_self
    have e : bt (c :: l) 0 = c.toNat := rfl
    rw [ref_ascii (by simp) (by rw [e]; omega), e, if_neg (by omega)]
    exact plain_ascii fun d hd => h d (List.mem_cons_of_mem _ hd)
theorem asked_ascii {l : List UInt8} {m : Int} (h : ∀ c ∈ l, 32 ≤ c.toNat ∧ c.toNat < 127) (h0 : l ≠ []) (hm : (l.length : Int) ≤ m) : askedM l m = 0 := by
  have hp := List.length_pos_iff.2 h0
  unfold askedM
  rw [if_neg (by omega), if_neg (by omega), if_neg (by rw [plain_ascii h]; decide)]
theorem asked_len {l : List UInt8} {m : Int} (h : askedM l m = 0) : (l.length : Int) ≤ m := by
  unfold askedM at h
  by_cases h0 : l.length = 0
  · rw [if_pos h0] at h; cases h
  · rw [if_neg h0] at h
    by_cases h1 : m < l.length
    · rw [if_pos h1] at h; cases h
    · omega
def GoodP (p : P2) : Prop := (parseM p.1).2 = 0 ∧ askedM p.2 64 = 0
def innerX (p : P2) : List (Int × List UInt8) := [(6, putM p.1), (12, p.2)]
def partX (p : P2) : Int × List UInt8 := (48, ((innerX p).map elB).flatten)
def partB (p : P2) : List UInt8 := elB (partX p)
def subX (s : S3) : Int × List UInt8 := (48, (((partsS s).map partX).map elB).flatten)
def subB (s : S3) : List UInt8 := elB (subX s)
theorem oids_good : (parseM oidK).2 = 0 ∧ (parseM oidS).2 = 0 ∧ (parseM oidN).2 = 0 := by decide +kernel
theorem word_ascii {k : Int} (h1 : 1 ≤ k) (h5 : k ≤ 5) : (∀ c ∈ wordM k, 32 ≤ c.toNat ∧ c.toNat < 127) ∧ wordM k ≠ [] ∧ (wordM k).length ≤ 8 := by
  obtain rfl | rfl | rfl | rfl | rfl := kinds h1 h5 <;> decide
theorem good_parts {s : S3} (h : rightS s = true) : (∀ p ∈ partsS s, GoodP p ∧ p.1.length = 12 ∧ p.2.length ≤ 24) ∧ (partsS s).length ≤ 3 := by
  obtain ⟨h1, h5, hn, h2, hs⟩ := (right_iff s).1 h
  have hw := word_ascii h1 h5
  have hn' := lab_ascii hn
  have gk : GoodP (oidK, wordM s.1) ∧ (oidK, wordM s.1).1.length = 12 ∧ (oidK, wordM s.1).2.length ≤ 24 := ⟨⟨oids_good.1, asked_ascii hw.1 hw.2.1 (by have := hw.2.2; show ((wordM s.1).length : Int) ≤ 64; omega)⟩, rfl, by have := hw.2.2; dsimp only; omega⟩
  have gn : GoodP (oidN, s.2.2) ∧ (oidN, s.2.2).1.length = 12 ∧ (oidN, s.2.2).2.length ≤ 24 := ⟨⟨oids_good.2.2, asked_ascii hn'.1 hn'.2.1 (by have := hn'.2.2; show (s.2.2.length : Int) ≤ 64; omega)⟩, rfl, hn'.2.2⟩
  rw [parts_ref h]
  by_cases hk : s.1 = 2
  · have hsp := lab_ascii (h2 hk)
    have gs : GoodP (oidS, s.2.1) ∧ (oidS, s.2.1).1.length = 12 ∧ (oidS, s.2.1).2.length ≤ 24 := ⟨⟨oids_good.2.1, asked_ascii hsp.1 hsp.2.1 (by have := hsp.2.2; show (s.2.1.length : Int) ≤ 64; omega)⟩, rfl, hsp.2.2⟩
    rw [if_pos hk]
    refine ⟨fun p hp => ?_, by simp⟩
    rcases List.mem_cons.1 hp with rfl | hp
    · exact gk
    · rcases List.mem_cons.1 hp with rfl | hp
      · exact gs
      · rw [List.mem_singleton.1 hp]; exact gn
  · rw [if_neg hk]
    refine ⟨fun p hp => ?_, by simp⟩
    rcases List.mem_cons.1 hp with rfl | hp
    · exact gk
    · rw [List.mem_singleton.1 hp]; exact gn
theorem part9_len {p : P2} (h : GoodP p) (h1 : p.1.length ≤ 300) : (((innerX p).map elB).flatten).length ≤ 1000 ∧ (putM p.1).length ≤ 600 ∧ p.2.length ≤ 64 := by
  have h2 := put_len p.1
  have h3 := asked_len h.2
  have h4 := putL_len 6 (putM p.1)
  have h5 := putL_len 12 p.2
  simp only [innerX, elB, List.map_cons, List.map_nil, List.flatten_cons, List.flatten_nil, List.append_nil, List.length_append]
  omega
theorem addW_in (b : List UInt8) {t : Int} {ls : List (List UInt8)} {fr : List (Int × List (List UInt8))} {d : List UInt8} : addW b ⟨(t, ls) :: fr, d, 0⟩ = ⟨(t, ls ++ [b]) :: fr, d, 0⟩ := rfl
theorem do_part {p : P2} (h : GoodP p) (h1 : p.1.length ≤ 300) {s : W8} (hk : s.k = 0) (hf : s.fr.length < 16) : doAll (pv p) s = addW (partB p) s := by
  obtain ⟨l1, l2, l3⟩ := part9_len h h1
  obtain ⟨fr, d, k⟩ := s
  simp only at hk hf
  subst hk
  show doW w2 (doW (v7 p.2 64) (doW (v8 p.1) (doW (w1 48) ⟨fr, d, 0⟩))) = _
  rw [do_w1, open_ok rfl (by decide) hf, do_v8, h.1, put_ok rfl (by decide) (by omega), addW_in, do_v7, h.2, if_pos rfl, put_ok rfl (by decide) (by omega), addW_in, do_w2]
  have e : ([] ++ [putL 6 (putM p.1)] ++ [putL 12 p.2] : List (List UInt8)).flatten = ((innerX p).map elB).flatten := rfl
  rw [close_ok (by decide) (by decide) (by rw [e]; omega), e]
  rfl
theorem do_parts : ∀ (ps : List P2) {ls : List (List UInt8)} {fr : List (Int × List (List UInt8))} {d : List UInt8}, (∀ p ∈ ps, GoodP p ∧ p.1.length ≤ 300) → fr.length < 15 → doAll (ps.flatMap pv) ⟨(48, ls) :: fr, d, 0⟩ = ⟨(48, ls ++ ps.map partB) :: fr, d, 0⟩
  | [], ls, fr, d, _, _ => by simp [doAll]
  | p :: ps, ls, fr, d, h, hf => by
    rw [List.flatMap_cons, doAll_app, do_part (h p List.mem_cons_self).1 (h p List.mem_cons_self).2 rfl (by simp only [List.length_cons]; omega), addW_in, do_parts ps (fun q hq => h q (List.mem_cons_of_mem _ hq)) hf]
    simp
theorem sub_len {s : S3} (h : rightS s = true) : (((partsS s).map partX).map elB).flatten.length ≤ 4000 ∧ (subB s).length ≤ 4100 := by
  obtain ⟨h1, h2⟩ := good_parts h
  have key : ∀ ps : List P2, (∀ p ∈ ps, GoodP p ∧ p.1.length = 12 ∧ p.2.length ≤ 24) → ((ps.map partX).map elB).flatten.length ≤ 1010 * ps.length := fun ps => by
    induction ps with
    | nil => intro _; simp
    | cons p ps ih =>
      intro h
      have h3 := ih fun q hq => h q (List.mem_cons_of_mem _ hq)
      obtain ⟨h4, h5, _⟩ := h p List.mem_cons_self
      have h6 := part9_len h4 (by omega)
      have h7 := putL_len 48 ((innerX p).map elB).flatten
      have h8 : (elB (partX p)).length = (putL 48 ((innerX p).map elB).flatten).length := rfl
      simp only [List.map_cons, List.flatten_cons, List.length_append, List.length_cons]
      omega
  have h3 := key _ h1
  have h4 := putL_len 48 (((partsS s).map partX).map elB).flatten
  have h5 : (subB s).length = (putL 48 (((partsS s).map partX).map elB).flatten).length := rfl
  omega
theorem putS_ok {s : S3} (h : rightS s = true) {w : W8} (hk : w.k = 0) (hf : w.fr.length < 15) : putS s w = addW (subB s) w := by
  obtain ⟨h1, h2⟩ := good_parts h
  obtain ⟨l1, l2⟩ := sub_len h
  obtain ⟨fr, d, k⟩ := w
  simp only at hk hf
  subst hk
  unfold putS
  rw [if_pos h]
  show doAll ((partsS s).flatMap pv ++ [w2]) (doW (w1 48) ⟨fr, d, 0⟩) = _
  rw [do_w1, open_ok rfl (by decide) (by dsimp only; omega), doAll_app, do_parts _ (fun p hp => ⟨(h1 p hp).1, by have := (h1 p hp).2.1; omega⟩) hf]
  rw [show ∀ X, doAll [w2] X = doW w2 X from fun _ => rfl, do_w2]
  have e : ([] ++ (partsS s).map partB : List (List UInt8)).flatten = (((partsS s).map partX).map elB).flatten := by rw [List.nil_append, List.map_map]; rfl
  rw [close_ok (by decide) (by decide) (by rw [e]; omega), e]
  rfl
def w00 : W8 := ⟨[], [], 0⟩
theorem putS_new {s : S3} (h : rightS s = true) : doneK (putS s w00) = 0 ∧ doneB (putS s w00) = subB s := by
  have e : putS s w00 = ⟨[], subB s, 0⟩ := by rw [putS_ok h rfl (by decide)]; rfl
  have hl := (sub_len h).2
  have hk : doneK (⟨[], subB s, 0⟩ : W8) = 0 := by
    unfold doneK
    rw [if_neg (by simp), if_neg (by simp), if_neg (by dsimp only; omega)]
  rw [e]
  refine ⟨hk, ?_⟩
  unfold doneB
  rw [if_pos hk]
theorem small_w1 {t : Int} (h : -9223372036854775808 ≤ t ∧ t ≤ 9223372036854775807) : SmallV (w1 t) := ⟨h, by simp [w1], by simp [w1]⟩
theorem small_w2 : SmallV w2 := ⟨by simp [w2], by simp [w2], by simp [w2]⟩
theorem small_v8 {t : List UInt8} (h : t.length ≤ 300) : SmallV (v8 t) := ⟨by simp [v8], by simp [v8], h⟩
theorem small_v7 {t : List UInt8} (h : t.length ≤ 300) : SmallV (v7 t 64) := ⟨by simp [v7], by simp [v7], h⟩
theorem small_pv {p : P2} (h1 : p.1.length ≤ 300) (h2 : p.2.length ≤ 300) : ∀ v ∈ pv p, SmallV v := fun v hv => by
  simp only [pv, List.mem_cons, List.not_mem_nil, or_false] at hv
  rcases hv with rfl | rfl | rfl | rfl
  · exact small_w1 (by decide)
  · exact small_v8 h1
  · exact small_v7 h2
  · exact small_w2
theorem pvs_len : ∀ ps : List P2, (ps.flatMap pv).length = 4 * ps.length
  | [] => rfl
  | p :: ps => by
    rw [List.flatMap_cons, List.length_append, pvs_len ps, List.length_cons]
    show 4 + _ = _
    omega
theorem inv_putS {i : Nat} {r : R8} {w : W8} (hI : Inv8 i r w) (s : S3) : Inv8 (i + 14) (rputS9 s r) (putS s w) := by
  unfold rputS9 putS
  by_cases h : rightS s = true
  · rw [if_pos h, if_pos h]
    obtain ⟨h1, h2⟩ := good_parts h
    have hl : (namesV s).length ≤ 14 := by
      unfold namesV
      rw [List.length_cons, List.length_append, pvs_len]
      simp only [List.length_singleton]
      omega
    refine inv_mono (inv_all (namesV s) hI fun v hv => ?_) (by omega)
    unfold namesV at hv
    rcases List.mem_cons.1 hv with rfl | hv
    · exact small_w1 (by decide)
    · rcases List.mem_append.1 hv with hv | hv
      · obtain ⟨p, hp, hv⟩ := List.mem_flatMap.1 hv
        obtain ⟨_, h3, h4⟩ := h1 p hp
        exact small_pv (by omega) (by omega) v hv
      · rw [List.mem_singleton.1 hv]; exact small_w2
  · rw [if_neg h, if_neg h]
    exact inv_mono (inv_fail hI 9) (by omega)
def aL : AA := ⟨1, 48, 0, 0⟩
def aO : AA := ⟨8, 0, 0, 0⟩
def aT : AA := ⟨7, 0, 0, 64⟩
def aE : AA := ⟨2, 0, 0, 0⟩
def partSp : StepR P2 := fun l k =>
  let r1 := readR aL l k
  let r2 := readR aO r1.l r1.k
  let r3 := readR aT r2.l r2.k
  let r4 := readR aE r3.l r3.k
  ((r4.l, r4.k), (r2.v.t, r3.v.t))
theorem said_O (b : List UInt8) : saidM aO b = (vT (ogetM b).1, (ogetM b).2) := rfl
theorem said_T (b : List UInt8) : saidM aT b = (vT (if askedM b 64 = 0 then b else []), askedM b 64) := rfl
theorem part_ok : StepOk partSp := by
  have key : ∀ l k, 0 < l.length → moreM l k = true → muS (partSp l k).1.1 (partSp l k).1.2 < muS l k ∧ ((partSp l k).1.2 = 0 → (partSp l k).1.1.length = l.length) ∧ l.length ≤ (partSp l k).1.1.length ∧ (partSp l k).1.1.length ≤ l.length + 16 := by
    intro l k hl hm
    have hk := (more_pos hm).1
    obtain ⟨a1, a2, a3, a4, a5, a6, a7⟩ := read_mu aL (l := l) (k := k) hl
    have a3' := a3 hk (by decide)
    obtain ⟨a41, a42⟩ := a4 rfl
    have p1 : l.length ≤ (readR aL l k).l.length ∧ (readR aL l k).l.length ≤ l.length + 1 := by
      by_cases h : (readR aL l k).k = 0
      · have := a41 h; omega
      · have := a42 h; omega
    obtain ⟨b1, b2, b3, b4, b5, b6, b7⟩ := read_mu aO (l := (readR aL l k).l) (k := (readR aL l k).k) (by omega)
    have b6' := b6 (by decide) (by decide)
    obtain ⟨c1, c2, c3, c4, c5, c6, c7⟩ := read_mu aT (l := (readR aO (readR aL l k).l (readR aL l k).k).l) (k := (readR aO (readR aL l k).l (readR aL l k).k).k) (by omega)
    have c6' := c6 (by decide) (by decide)
    obtain ⟨d1, d2, d3, d4, d5, d6, d7⟩ := read_mu aE (l := (readR aT (readR aO (readR aL l k).l (readR aL l k).k).l (readR aO (readR aL l k).l (readR aL l k).k).k).l) (k := (readR aT (readR aO (readR aL l k).l (readR aL l k).k).l (readR aO (readR aL l k).l (readR aL l k).k).k).k) (by omega)
    obtain ⟨d51, d52⟩ := d5 rfl
    show muS (readR aE _ _).l (readR aE _ _).k < _ ∧ ((readR aE _ _).k = 0 → (readR aE _ _).l.length = _) ∧ _ ≤ (readR aE _ _).l.length ∧ (readR aE _ _).l.length ≤ _
    refine ⟨by omega, fun h => ?_, ?_, ?_⟩
    · have := d51 h
      have := a41 (b7 (c7 (d7 h)))
      omega
    · by_cases h : (readR aE (readR aT (readR aO (readR aL l k).l (readR aL l k).k).l (readR aO (readR aL l k).l (readR aL l k).k).k).l (readR aT (readR aO (readR aL l k).l (readR aL l k).k).l (readR aO (readR aL l k).l (readR aL l k).k).k).k).k = 0
      · have := d51 h
        have := a41 (b7 (c7 (d7 h)))
        omega
      · have := d52 h; omega
    · by_cases h : (readR aE (readR aT (readR aO (readR aL l k).l (readR aL l k).k).l (readR aO (readR aL l k).l (readR aL l k).k).k).l (readR aT (readR aO (readR aL l k).l (readR aL l k).k).l (readR aO (readR aL l k).l (readR aL l k).k).k).k).k = 0
      · have := d51 h; omega
      · have := d52 h; omega
  exact ⟨fun l k h1 h2 => (key l k h1 h2).1, fun l k h1 h2 => (key l k h1 h2).2.1, fun l k h1 h2 => (key l k h1 h2).2.2⟩
theorem part_body (p : P2) : ((innerX p).map elB).flatten = putL 6 (putM p.1) ++ (putL 12 p.2 ++ []) := by simp [innerX, elB]
def GoodR (p : P2) : Prop := GoodP p ∧ (putM p.1).length ≤ 65530 ∧ (((innerX p).map elB).flatten).length ≤ 65530
theorem part_fb : StepFB partSp partB GoodR := by
  refine ⟨fun ls p r h => ?_, fun ls x k h => ?_, fun p _ => elB_pos _⟩
  · obtain ⟨⟨h1, h2⟩, h3, h4⟩ := h
    have h5 := asked_len h2
    obtain ⟨e1, e2, _⟩ := enter_fwd ls (t := 48) (b := ((innerX p).map elB).flatten) r (by decide) h4
    obtain ⟨f1, f2⟩ := read_enter aL rfl (ls ++ [partB p ++ r]) 0
    have g1 : (readR aL (ls ++ [partB p ++ r]) 0).l = ls ++ [r] ++ [putL 6 (putM p.1) ++ (putL 12 p.2 ++ [])] := by rw [f1, ← part_body]; exact e1
    have g2 : (readR aL (ls ++ [partB p ++ r]) 0).k = 0 := f2.trans e2
    have hpm : putM p.1 = putA (parseM p.1).1 := by unfold putM; rw [if_pos h1]
    have hO : saidM aO (putM p.1) = (vT p.1, 0) := by rw [said_O, hpm, get_of_put h1]
    have hT : saidM aT p.2 = (vT p.2, 0) := by rw [said_T, h2, if_pos rfl]
    have g3 := read_fwd aO (ls ++ [r]) (b := putM p.1) (putL 12 p.2 ++ []) (by decide) h3 (by rw [hO])
    have g4 := read_fwd aT (ls ++ [r]) (b := p.2) [] (by decide) (by omega) (by rw [hT])
    have g5 := leave_fwd (ls := ls ++ [r]) (by simp)
    obtain ⟨g6, g7⟩ := read_leave aE rfl (ls ++ [r] ++ [[]]) 0
    have tO : tagA aO = 6 := rfl
    have tT : tagA aT = 12 := rfl
    rw [tO] at g3
    rw [tT] at g4
    unfold partSp
    dsimp only
    rw [g1, g2, g3]
    dsimp only
    rw [g4]
    dsimp only
    rw [g6, g7, g5.1, g5.2, hO, hT]
    rfl
  · have hk4 : (readR aE (readR aT (readR aO (readR aL (ls ++ [x]) k).l (readR aL (ls ++ [x]) k).k).l (readR aO (readR aL (ls ++ [x]) k).l (readR aL (ls ++ [x]) k).k).k).l (readR aT (readR aO (readR aL (ls ++ [x]) k).l (readR aL (ls ++ [x]) k).k).l (readR aO (readR aL (ls ++ [x]) k).l (readR aL (ls ++ [x]) k).k).k).k).k = 0 := h
    have len1 : 0 < (readR aL (ls ++ [x]) k).l.length := by
      obtain ⟨a1, a2, a3, a4, _⟩ := read_mu aL (l := ls ++ [x]) (k := k) (by simp)
      obtain ⟨a41, a42⟩ := a4 rfl
      by_cases h : (readR aL (ls ++ [x]) k).k = 0
      · rw [a41 h]; omega
      · rw [a42 h]; simp
    obtain ⟨_, _, _, _, _, b6, b7⟩ := read_mu aO (l := (readR aL (ls ++ [x]) k).l) (k := (readR aL (ls ++ [x]) k).k) len1
    have b6' := b6 (by decide) (by decide)
    obtain ⟨_, _, _, _, _, c6, c7⟩ := read_mu aT (l := (readR aO (readR aL (ls ++ [x]) k).l (readR aL (ls ++ [x]) k).k).l) (k := (readR aO (readR aL (ls ++ [x]) k).l (readR aL (ls ++ [x]) k).k).k) (by omega)
    have c6' := c6 (by decide) (by decide)
    obtain ⟨_, _, _, _, _, _, d7⟩ := read_mu aE (l := (readR aT (readR aO (readR aL (ls ++ [x]) k).l (readR aL (ls ++ [x]) k).k).l (readR aO (readR aL (ls ++ [x]) k).l (readR aL (ls ++ [x]) k).k).k).l) (k := (readR aT (readR aO (readR aL (ls ++ [x]) k).l (readR aL (ls ++ [x]) k).k).l (readR aO (readR aL (ls ++ [x]) k).l (readR aL (ls ++ [x]) k).k).k).k) (by omega)
    have hk3 := d7 hk4
    have hk2 := c7 hk3
    have hk1 := b7 hk2
    obtain ⟨f1, f2⟩ := read_enter aL rfl (ls ++ [x]) k
    obtain ⟨hk0, b, r, e1, e2, e3, e4⟩ := enter_back (t := 48) (by decide) (show (enterR 48 (ls ++ [x]) k).k = 0 from f2.symm.trans hk1)
    have g1 : (readR aL (ls ++ [x]) k).l = ls ++ [r] ++ [b] := f1.trans e3
    rw [g1, hk1] at hk2 hk3 hk4
    obtain ⟨_, o, r2, o1, o2, o3, o4⟩ := read_back (a := aO) (by decide) hk2
    rw [o4] at hk3 hk4
    obtain ⟨_, t, r3, t1, t2, t3, t4⟩ := read_back (a := aT) (by decide) hk3
    rw [t4] at hk4
    obtain ⟨f3, f4⟩ := read_leave aE rfl (ls ++ [r] ++ [r3]) 0
    dsimp only at hk4
    rw [f4] at hk4
    obtain ⟨_, u1, u2, u3⟩ := leave_back hk4
    subst u1
    have o3' : (ogetM o).2 = 0 := o3
    have t3' : askedM t 64 = 0 := t3
    obtain ⟨q1, q2⟩ := oget_canon o3'
    have hO : (saidM aO o).1.t = (ogetM o).1 := rfl
    have hT : (saidM aT t).1.t = t := by rw [said_T]; show (if askedM t 64 = 0 then t else []) = t; rw [if_pos t3']
    have hb : b = ((innerX ((ogetM o).1, t)).map elB).flatten := by
      rw [part_body, o1, t1]
      show putL 6 o ++ (putL 12 t ++ []) = putL 6 (putM (ogetM o).1) ++ _
      rw [q1]
    refine ⟨hk0, ((ogetM o).1, t), r, ⟨⟨q2, t3'⟩, by rw [q1]; exact o2, by rw [← hb]; exact e2⟩, ?_, ?_⟩
    · rw [e1, hb]; rfl
    · unfold partSp
      dsimp only
      rw [g1, hk1, o4]
      dsimp only
      rw [t4]
      dsimp only
      rw [f3, f4, u3, hk4, hO, hT]
def endP (l : List (List UInt8)) (k : Nat) : List (List UInt8) × Nat := endG partSp (enterL 48 l k) (enterR 48 l k).k 8
def listP (l : List (List UInt8)) (k : Nat) : List P2 := (stG partSp (enterL 48 l k) (enterR 48 l k).k (jG partSp (enterL 48 l k) (enterR 48 l k).k 8)).2
def getS (l : List (List UInt8)) (k : Nat) : (List (List UInt8) × Nat) × S3 :=
  if (endP l k).2 ≠ 0 then (endP l k, zeroS) else (((endP l k).1, (ofP (listP l k)).2), (ofP (listP l k)).1)
def readS (b : List UInt8) : S3 × Nat :=
  let g := getS [b] (depthM b).2
  if endK g.1.1 g.1.2 ≠ 0 then (zeroS, endK g.1.1 g.1.2) else (g.2, 0)
theorem parts_enc (s : S3) : ((partsS s).map partB).flatten = (((partsS s).map partX).map elB).flatten := by rw [List.map_map]; rfl
theorem getS_back {ls : List (List UInt8)} {x : List UInt8} {k : Nat} (h : (getS (ls ++ [x]) k).1.2 = 0) : k = 0 ∧ ∃ s r, rightS s = true ∧ x = subB s ++ r ∧ getS (ls ++ [x]) k = ((ls ++ [r], 0), s) := by
  unfold getS at h ⊢
  by_cases h0 : (endP (ls ++ [x]) k).2 ≠ 0
  · rw [if_pos h0] at h; exact absurd h h0
  · rw [if_neg h0] at h ⊢
    obtain ⟨hk, xs, r, g1, g2, g3, g4, g5, g6⟩ := row_back part_ok part_fb (tag := 48) (most := 8) (k := k) ls x (by decide) (by exact Classical.not_not.1 h0)
    have hE : endP (ls ++ [x]) k = (ls ++ [r], 0) := g5
    have hL : listP (ls ++ [x]) k = xs := g6
    rw [hE, hL] at h ⊢
    dsimp only at h ⊢
    have ho : ofP xs = ((ofP xs).1, 0) := Prod.ext rfl h
    obtain ⟨hr, hp⟩ := (ofP_iff _ _).1 ho
    refine ⟨hk, (ofP xs).1, r, hr, ?_, by rw [h]⟩
    have hsb : subB (ofP xs).1 = putL 48 (xs.map partB).flatten := by
      show putL 48 (((partsS (ofP xs).1).map partX).map elB).flatten = _
      rw [← parts_enc, hp]
    rw [g4, hsb]
theorem readS_back {b : List UInt8} (h : (readS b).2 = 0) : rightS (readS b).1 = true ∧ subB (readS b).1 = b := by
  unfold readS at h ⊢
  dsimp only at h ⊢
  by_cases h0 : endK (getS [b] (depthM b).2).1.1 (getS [b] (depthM b).2).1.2 ≠ 0
  · rw [if_pos h0] at h; exact absurd h h0
  · rw [if_neg h0]
    dsimp only
    have hk : (getS [b] (depthM b).2).1.2 = 0 := by
      refine Classical.byContradiction fun hk => h0 ?_
      unfold endK
      rw [if_pos hk]
      exact hk
    obtain ⟨h1, s, r, h2, h3, h4⟩ := getS_back (ls := []) hk
    have h4' : getS [b] (depthM b).2 = (([r], 0), s) := h4
    rw [h4'] at h0 ⊢
    have h5 := (end_back (l := [r]) (k := 0) (by simp) (Classical.not_not.1 h0)).2
    have hr : r = [] := by simpa using h5
    subst hr
    rw [List.append_nil] at h3
    exact ⟨h2, h3.symm⟩
end
section
variable {gs : List Nat} [OkG gs]
open Go.RowKit
end
section
variable {gs : List Nat} [Ok9 gs]
open Go.RowKit Cal

def valF (v : VV) : Nat → CV := fl [.c (.int .i64 v.kind), .c (.int .i64 v.n), .c (.bool v.is), bsC v.b, strC v.t]
def vsC (vs : List VV) : CV := .rs 5 vs.length fun i j => valF (vs.getD i VV.none) j
def bigV (v : VV) : Bool := decide (300 < v.b.length) || decide (300 < v.t.length)
def longM (vs : List VV) : Bool := decide (60 < vs.length) || vs.any bigV
def r0W : R8 := ⟨[], [], 0⟩
theorem newRW {G : Gh} {env : List (Nat × CV)} {b0 : Nat → CV} {H : List (Option Nat × Res)} (n i : Nat) {f : Nat → CV} (hi : H[i]? = some (some n, .blk 3 f)) (h0 : CEnt (f 0) (.c (.slice none 0 0))) (h1 : CEnt (f 1) (.c (.slice none 0 0))) (h2 : CEnt (f 2) (.c (.int .i64 0))) : EntS G ⟨env, b0, H⟩ ⟨env, b0, H.set i (rwO n r0W)⟩ := by
  have hil := (List.getElem?_eq_some_iff.1 hi).1
  have os0 : ∀ {j k : Nat}, CEnt (.c (.slice none 0 0)) (.os j none 0 0 k) := fun al St w v h => ⟨rfl, h⟩
  intro St a w hr
  obtain ⟨S1, s1, r1⟩ := ent_none (G := G) (s := ⟨env, b0, H⟩) (rowsF []) St a w hr
  obtain ⟨S4, s4, r4⟩ := closeRW (G := G) (env := env) (b0 := b0) (H := H ++ [(none, .blk 0 (rowsF []))]) n r0W i H.length (gr := none) (N := 0) (f := f) (F := rowsF [])
    (by rw [List.getElem?_append_left hil]; exact hi) (by simp) (by cases e : Nat.beq i H.length with | false => rfl | true => have := Nat.eq_of_beq_eq_true e; omega) (h0.trans (CEnt.nilS _ _)) (h1.trans os0) h2 (Nat.le_refl _) (fun a h => absurd h (Nat.not_lt_zero a)) S1 a w r1
  obtain ⟨S5, s5, r5⟩ := pick_ent (G := G) (H' := H.set i (rwO n r0W)) (List.range H.length) (range_nodup _) (by
    rw [pickL_range _ _ (by simp)]
    rw [take_set_out _ _ _ _ (by omega), List.take_set, List.take_left]) S4 a w r4
  exact ⟨S5, fun b hb => s5 b (s4 b (s1 b hb)), r5⟩
end
section
open Go.RowKit
section
variable {P : Program} {G : Gh} {o : Oper} {env : List (Nat × CV)} {b0 : Nat → CV} {H : List (Option Nat × Res)} {K : AS → Prop}
theorem m_callHV1 {f : FuncId} {v : Operand} {n d : Nat} {fv : Nat → CV} {xs : Array Operand} {ats : Array TypeId} {args : List CV} {Q : CV → List (Option Nat × Res) → Prop} {i : Nat} {x0 : Option Nat × Res} (ho : o.op = .call ⟨.value v, xs, ats⟩) (hv : (⟨env, b0, H⟩ : AS).eval v = .fn f n fv) (hc : calleeB P f = true) (hi : H[i]? = some x0) (hA : AC G.gs P f [x0] args Q)
    (he : EntL (xs.toList.map (⟨env, b0, H⟩ : AS).eval ++ (List.range n).map fv) args) (hd : o.dst = some d) (hN : Nat.blt d G.N = true)
    (hK : ∀ r H', Q r H' → ∃ x, H' = [x] ∧ K ⟨(d, r) :: env, b0, H.set i x⟩) : AMd P G o ⟨env, b0, H⟩ K :=
  m_callHV ho hv hc hi hA he (dst_s hd hN) (fun r H' hq => by obtain ⟨x, h1, h2⟩ := hK r H' hq; exact ⟨x, h1, by rw [with_some hd]; exact h2⟩)
end
end
section
variable {gs : List Nat} [OkG gs] [OkT gs]
open Go.RowKit Cal

def partV (p : P2) : CV := .agg 2 (partE p)
def r00 : R8 := ⟨[], [], 0⟩
theorem inv_00 : Inv8 0 r00 w00 := inv_zero
end
end Am
end Go.Proofs.YteolfpolmioalaaGreatDoor
