/- What the law leans on, part 5: P08b, W08a, W08b, W08c, W08d, W08e, ErrN, W08y, AmN, W08f, SsJ, W05f, W05g, W05h, W06c, P06c, W06d, W06e, W08g, W08h, W08p, W08q, W08r, W08s, W08t, W08z, W08za, L08r, Open, Open2 -/
import Derived.Test.YtjckfbpdieijeaaGreatDoorM4DerRows
import Derived.ChangeArms
import Derived.ChangeOld
import Derived.OpenShut

/- Chapter 8, plain: writers stay small. -/
namespace Go.Proofs.YtjckfbpdieijeaaGreatDoor
set_option linter.unusedVariables false
namespace Am
open Go.RowKit Cal
set_option maxRecDepth 100000

/-- a value of a guarded list -/
structure SmallV (v : VV) : Prop where
  n : -9223372036854775808 ≤ v.n ∧ v.n ≤ 9223372036854775807
  b : v.b.length ≤ 300
  t : v.t.length ≤ 300
theorem SmallV.ok {v : VV} (h : SmallV v) : OkV v := ⟨h.n, by have := h.b; omega, by have := h.t; omega⟩
def frW (fr : List (Int × List (List UInt8))) : Nat := (fr.map fun x => sumL x.2 + 6).sum
def wtW (s : W8) : Nat := s.d.length + frW s.fr
theorem frW_cons (x : Int × List (List UInt8)) (fr : List (Int × List (List UInt8))) : frW (x :: fr) = sumL x.2 + 6 + frW fr := by simp [frW]
theorem sumL_snoc (l : List (List UInt8)) (b : List UInt8) : sumL (l ++ [b]) = sumL l + b.length := by rw [sumL_app]; simp [sumL]
theorem putL_len (tag : Int) (b : List UInt8) : (putL tag b).length ≤ b.length + 6 := by
  unfold putL
  have := lenL_bd b.length
  simp only [List.length_cons, List.length_append]
  omega
theorem wt_add (b : List UInt8) (s : W8) : wtW (addW b s) = wtW s + b.length := by
  obtain ⟨fr, d, k⟩ := s
  cases fr with
  | nil => simp [wtW, addW, frW]
  | cons x fr =>
    show d.length + frW ((x.1, x.2 ++ [b]) :: fr) = d.length + frW (x :: fr) + _
    rw [frW_cons, frW_cons]
    show d.length + (sumL (x.2 ++ [b]) + 6 + frW fr) = _
    rw [sumL_snoc]
    omega
theorem wt_fail (e : Nat) (s : W8) : wtW (failW e s) = wtW s := by unfold failW; split <;> rfl
theorem wt_put (tag : Int) (b : List UInt8) (e : Nat) (s : W8) : wtW (putW tag b e s) ≤ wtW s + b.length + 6 := by
  unfold putW
  split
  · rw [wt_fail]; omega
  · split
    · show s.d.length + frW s.fr ≤ _; unfold wtW; omega
    · rw [wt_add]; have := putL_len tag b; omega
theorem bodyV_small {v : VV} (h : SmallV v) : (bodyV v).2.1.length ≤ 300 := by
  have h1 := h.b
  have h2 := h.t
  have h3 := (putN_len v.n h.n.1 h.n.2).2
  have h4 := put_len v.t
  unfold bodyV
  split
  · show (putN v.n).length ≤ _; omega
  · split
    · show (putN v.n).length ≤ _; omega
    · split
      · show [if v.is then (255 : UInt8) else 0].length ≤ _; simp
      · split
        · exact h1
        · split
          · show (if askedM v.t v.n = 0 then v.t else []).length ≤ _; split <;> first | omega | simp
          · split
            · show (putM v.t).length ≤ _; omega
            · split
              · show (if inT v.n then bodyL (ofM v.n) else []).length ≤ _
                split
                · exact Nat.le_trans (Nat.le_of_eq (show (bodyL (ofM v.n)).length = 15 from rfl)) (by decide)
                · simp
              · show (bitsL v.n).length ≤ _
                unfold bitsL
                split
                · simp
                · rw [flags_len (by omega)]
                  have := (bl_is (m := v.n.toNat) (by omega)).2
                  omega
theorem wt_do {v : VV} (h : SmallV v) (s : W8) : wtW (doW v s) ≤ wtW s + 400 := by
  have hb := h.b
  unfold doW
  split
  · unfold openW
    split
    · omega
    · split
      · show s.d.length + frW s.fr ≤ _; unfold wtW; omega
      · split
        · show s.d.length + frW s.fr ≤ _; unfold wtW; omega
        · show s.d.length + frW _ ≤ _
          rw [frW_cons]
          unfold wtW
          simp [sumL]; omega
  · split
    · unfold closeV
      split
      · omega
      · obtain ⟨fr, d, k⟩ := s
        cases fr with
        | nil => show d.length + frW [] ≤ d.length + frW [] + _; omega
        | cons x fr =>
          have h1 := wt_put x.1 (bodyF x) 0 ⟨fr, d, k⟩
          rw [bodyF_len] at h1
          refine Nat.le_trans h1 ?_
          show d.length + frW fr + _ + _ ≤ d.length + frW (x :: fr) + _
          rw [frW_cons]
          omega
    · split
      · unfold rawW
        split
        · rw [wt_add]; omega
        · rw [wt_fail]; omega
      · have h1 := wt_put (bodyV v).1 (bodyV v).2.1 (bodyV v).2.2 s
        have h2 := bodyV_small h
        omega
/-! ### the rows -/
theorem pad_mem {m : Nat} {r : List (List (List UInt8))} {x : List (List UInt8)} (h : x ∈ padR m r) : x ∈ r ∨ x = [] := by
  unfold padR at h
  rcases List.mem_append.1 h with h | h
  · exact .inl h
  · exact .inr (List.eq_of_mem_replicate h)
theorem at_mem (r : List (List (List UInt8))) (j : Nat) : r.getD j [] ∈ r ∨ r.getD j [] = [] := by
  rw [List.getD_eq_getElem?_getD]
  cases e : r[j]? with
  | none => exact .inr rfl
  | some x => exact .inl (List.mem_of_getElem? e)
/-- each row is an old one, or empty, or the innermost one with one element more -/
def Grown (r r' : R8) : Prop := (r'.rows.length ≤ max r.rows.length (r'.tags.length + 1)) ∧ ∀ x ∈ r'.rows, x ∈ r.rows ∨ x = [] ∨ ∃ y b, (y ∈ r.rows ∨ y = []) ∧ x = y ++ [b] ∧ x = r'.rows.getD r'.tags.length []
theorem grown_rows {r r' : R8} (h : r'.rows = r.rows) : Grown r r' := ⟨by rw [h]; omega, fun x hx => .inl (h ▸ hx)⟩
theorem grown_add (b : List UInt8) (r : R8) : Grown r (raddS b r) := by
  have hp : r.tags.length < (padR (r.tags.length + 1) r.rows).length := by rw [pad_len]; omega
  refine ⟨?_, fun x hx => ?_⟩
  · show (List.set _ _ _).length ≤ max _ (r.tags.length + 1)
    rw [List.length_set, pad_len]
    omega
  · rcases List.mem_or_eq_of_mem_set hx with h | h
    · rcases pad_mem h with h | h
      · exact .inl h
      · exact .inr (.inl h)
    · refine .inr (.inr ⟨_, b, ?_, h, ?_⟩)
      · rw [pad_get]; exact at_mem _ _
      · show x = List.getD (List.set _ _ _) r.tags.length []
        rw [set_get _ _ _ _ hp, if_pos rfl]
        exact h
theorem grown_put (t : Int) (b : List UInt8) (r : R8) : Grown r (rputS t b r) := by
  unfold rputS
  split
  · exact grown_rows rfl
  · exact grown_add _ r
theorem grown_do (v : VV) (r : R8) : Grown r (rdoS v r) := by
  unfold rdoS
  split
  · exact grown_rows rfl
  · split
    · unfold ropenS
      split
      · exact grown_rows rfl
      · split
        · exact grown_rows rfl
        · refine ⟨?_, fun x hx => ?_⟩
          · show (List.set _ _ _).length ≤ max _ ((r.tags ++ [v.n]).length + 1)
            rw [List.length_set, pad_len, List.length_append, List.length_singleton]
            omega
          · rcases List.mem_or_eq_of_mem_set hx with h | h
            · rcases pad_mem h with h | h
              · exact .inl h
              · exact .inr (.inl h)
            · exact .inr (.inl h)
    · split
      · unfold rcloseS
        split
        · exact grown_rows rfl
        · exact grown_put _ _ ⟨_, r.rows, r.e⟩
      · split
        · split
          · exact grown_rows rfl
          · exact grown_add _ r
        · split
          · exact grown_rows rfl
          · exact grown_put _ _ r
theorem frW_mem {fr : List (Int × List (List UInt8))} {x : Int × List (List UInt8)} (h : x ∈ fr) : sumL x.2 ≤ frW fr := by
  induction fr with
  | nil => cases h
  | cons y fr ih =>
    rw [frW_cons]
    rcases List.mem_cons.1 h with rfl | h
    · omega
    · have := ih h; omega
theorem active_sum {r : R8} {s : W8} (h : Same8 r s) : sumL (r.rows.getD r.tags.length []) ≤ wtW s := by
  have hl : r.tags.length = s.fr.length := by rw [h.tags]; simp
  obtain ⟨fr, d, k⟩ := s
  cases fr with
  | nil =>
    rw [hl]
    show sumL (r.rows.getD 0 []) ≤ _
    rw [← flat_len, h.row0]
    unfold wtW
    omega
  | cons x fr =>
    have hr := h.row fr.length (by simp)
    rw [hl]
    show sumL (r.rows.getD (fr.length + 1) []) ≤ _
    rw [hr]
    have e : ((x :: fr).map Prod.snd).reverse.getD fr.length [] = x.2 := by simp [List.getD_eq_getElem?_getD]
    show sumL (((x :: fr).map Prod.snd).reverse.getD fr.length []) ≤ _
    rw [e]
    have := frW_mem (fr := x :: fr) (x := x) List.mem_cons_self
    unfold wtW
    show _ ≤ d.length + frW (x :: fr)
    omega
/-- both writers behind i values -/
structure Inv8 (i : Nat) (r : R8) (s : W8) : Prop where
  same : Same8 r s
  w : wtW s ≤ 400 * i
  rows : ∀ x ∈ r.rows, x.length ≤ i ∧ sumL x ≤ 400 * i
  n : r.rows.length ≤ 18
theorem inv_zero : Inv8 0 ⟨[], [], 0⟩ ⟨[], [], 0⟩ := ⟨same_zero, by decide, fun _ h => (by cases h), by decide⟩
theorem inv_do {i : Nat} {r : R8} {s : W8} (h : Inv8 i r s) {v : VV} (hv : SmallV v) : Inv8 (i + 1) (rdoS v r) (doW v s) := by
  have hs := same_do h.same v
  have hw := wt_do hv s
  have hg := grown_do v r
  have h0 := h.w
  have hl : (rdoS v r).tags.length ≤ 16 := by rw [hs.tags]; simpa using hs.lim
  refine ⟨hs, by omega, fun x hx => ?_, ?_⟩
  · rcases hg.2 x hx with h1 | h1 | ⟨y, b, h1, h2, h3⟩
    · have := h.rows x h1; omega
    · subst h1; simp [sumL]
    · have ha := active_sum hs
      rw [← h3] at ha
      refine ⟨?_, by omega⟩
      rw [h2, List.length_append, List.length_singleton]
      rcases h1 with h1 | h1
      · have := h.rows y h1; omega
      · subst h1; simp
  · have := hg.1
    have := h.n
    omega
theorem inv_okW {i : Nat} {r : R8} {s : W8} (h : Inv8 i r s) (hi : i ≤ 100) : OkW s := by
  have hw := h.w
  refine ⟨h.same.lim, fun x hx => ?_, by unfold wtW at hw; omega⟩
  obtain ⟨j, hj⟩ := List.mem_iff_getElem?.1 hx
  have hjl := (List.getElem?_eq_some_iff.1 hj).1
  have hr := h.same.row (s.fr.length - 1 - j) (by omega)
  have e : (s.fr.map Prod.snd).reverse.getD (s.fr.length - 1 - j) [] = x.2 := by
    rw [List.getD_eq_getElem?_getD, List.getElem?_reverse (by simp; omega)]
    simp only [List.length_map, List.getElem?_map]
    rw [show s.fr.length - 1 - (s.fr.length - 1 - j) = j by omega, hj]
    rfl
  rw [e] at hr
  have hs := frW_mem hx
  unfold wtW at hw
  refine ⟨?_, by omega⟩
  rcases at_mem r.rows (s.fr.length - 1 - j + 1) with h1 | h1
  · have := (h.rows _ h1).1
    rw [hr] at this
    omega
  · rw [hr] at h1
    rw [h1]; simp
theorem inv_okR {i : Nat} {r : R8} {s : W8} (h : Inv8 i r s) (hi : i ≤ 100) : OkRD r := by
  have hl : r.tags.length = s.fr.length := by rw [h.same.tags]; simp
  have hlim := h.same.lim
  have hn := h.n
  refine ⟨⟨by omega, by omega, fun x hx => by have := h.rows x hx; omega⟩, fun j => ?_, fun x hx => ?_, h.same.len⟩
  · rcases at_mem r.rows j with h1 | h1
    · have := h.rows _ h1; omega
    · rw [h1]; simp [sumL]
  · rw [h.same.tags] at hx
    obtain ⟨y, hy, rfl⟩ := List.mem_map.1 (List.mem_reverse.1 hx)
    exact known_bd (made_known (h.same.known y hy))
end Am
end Go.Proofs.YtjckfbpdieijeaaGreatDoor

/- Chapter 8: the reader as one thing; what it reads of itself. -/
namespace Go.Proofs.YtjckfbpdieijeaaGreatDoor
set_option linter.unusedVariables false
namespace Am
open Go.RowKit
set_option maxRecDepth 100000

def rdE (l : List (List UInt8)) (k : Nat) (z : Nat × Option Nat) : List (Option Nat × Res) := [(some z.1, .blk 2 (fl [.os 1 z.2 0 l.length 1, .err k])), (z.2, .blk l.length (lbF l))]
/-- a reader: what is left of the elements that it has entered, and its error -/
def rdO (n : Nat) (l : List (List UInt8)) (k : Nat) : Option Nat × Res := objE n (fun z : Nat × Option Nat => z.1) (rdE l k)
section
variable {P : Program} {G : Gh} {s : AS} {c : Code} {R : Exit → AS → Prop} {n k : Nat} {l : List (List UInt8)}
theorem code_openR0 (i : Nat) (hi : s.H[i]? = some (rdO n l k)) (h : ∀ gl, ACode P G c ⟨s.env, s.b, s.H.set i (some n, .blk 2 (fl [.os s.H.length gl 0 l.length 1, .err k])) ++ [(gl, .blk l.length (lbF l))]⟩ R) : ACode P G c s R := by
  have hlt := (List.getElem?_eq_some_iff.1 hi).1
  refine code_unpack i hi fun z hz => ?_
  obtain ⟨n', gl⟩ := z
  obtain rfl : n' = n := hz
  refine code_ent (weakH i 2 (fl [.os s.H.length gl 0 l.length 1, .err k]) (n := 2) (g := some n') (f := fl [.os 1 gl 0 l.length 1, .err k]) ?_ (Nat.le_refl _) fun j hj => ?_) ?_
  · show (s.H.set i _ ++ _)[i]? = _
    rw [List.getElem?_append_left (by simpa using hlt)]
    simp [hlt]
  · rcases j with _ | _ | j
    · exact CEnt.osI rfl
    · exact CEnt.refl _
    · omega
  · have e : (s.H.set i (some n', Res.blk 2 (fl [.os 1 gl 0 l.length 1, .err k])) ++ [(gl, Res.blk l.length (lbF l))]).set i (some n', .blk 2 (fl [.os s.H.length gl 0 l.length 1, .err k])) = s.H.set i (some n', .blk 2 (fl [.os s.H.length gl 0 l.length 1, .err k])) ++ [(gl, .blk l.length (lbF l))] := by
      rw [List.set_append_left _ _ (by simpa using hlt), List.set_set]
    have := h gl
    rw [← e] at this
    exact this
theorem closeR0 (n k : Nat) (l : List (List UInt8)) (i j : Nat) {gl : Option Nat} {N : Nat} {f F : Nat → CV} (hi : s.H[i]? = some (some n, .blk 2 f)) (hj : s.H[j]? = some (gl, .blk N F)) (hij : Nat.beq i j = false) (h0 : CEnt (f 0) (.os 1 gl 0 l.length 1)) (h1 : CEnt (f 1) (.err k)) (hN : l.length ≤ N) (hF : ∀ a, a < l.length → CEnt (F a) (lbF l a)) :
    EntS G s ⟨s.env, s.b, (s.H.set i (rdO n l k)).set j (none, .dead)⟩ := by
  have hij := Nat.ne_of_beq_eq_false hij
  have hil := (List.getElem?_eq_some_iff.1 hi).1
  have hjl := (List.getElem?_eq_some_iff.1 hj).1
  refine EntS.hrel fun h => ?_
  have h2 := h.weak (F := fl [.os 1 gl 0 l.length 1, .err k]) hi (Nat.le_refl _) fun a ha => by
    rcases a with _ | _ | a
    · exact h0
    · exact h1
    · omega
  have h3 := h2.weak (i := j) (F := lbF l) (by rw [List.getElem?_set_ne hij]; exact hj) hN hF
  have h4 := h3.closeN (gd := fun z : Nat × Option Nat => z.1) (E := rdE l k) (n, gl) i [j] (by simp [hij]) (by simp [hil, hjl]) (by
    simp only [pickL, List.map_cons, List.map_nil, List.getD_eq_getElem?_getD]
    rw [List.getElem?_set_ne (Ne.symm hij)]
    simp [hil, hjl, rdE])
  have e : killL (((s.H.set i (some n, Res.blk 2 (fl [CV.os 1 gl 0 l.length 1, CV.err k]))).set j (gl, Res.blk l.length (lbF l))).set i (objE n (fun z : Nat × Option Nat => z.1) (rdE l k))) [j] = (s.H.set i (rdO n l k)).set j (none, .dead) := by
    show ((((s.H.set i _).set j _).set i _).set j _) = _
    rw [List.set_comm _ _ (Ne.symm hij), List.set_set, List.set_set]
    rfl
  rw [← e]
  exact h4
theorem code_openR {env : List (Nat × CV)} {b0 : Nat → CV} {H : List (Option Nat × Res)} (i : Nat) (hi : H[i]? = some (rdO n l k)) (h : ∀ gl, ACode P G c ⟨env, b0, H.set i (some n, .blk 2 (fl [.os H.length gl 0 l.length 1, .err k])) ++ [(gl, .blk l.length (lbF l))]⟩ R) : ACode P G c ⟨env, b0, H⟩ R := code_openR0 i hi h
theorem closeR {env : List (Nat × CV)} {b0 : Nat → CV} {H : List (Option Nat × Res)} (n k : Nat) (l : List (List UInt8)) (i j : Nat) {gl : Option Nat} {N : Nat} {f F : Nat → CV} (hi : H[i]? = some (some n, .blk 2 f)) (hj : H[j]? = some (gl, .blk N F)) (hij : Nat.beq i j = false) (h0 : CEnt (f 0) (.os 1 gl 0 l.length 1)) (h1 : CEnt (f 1) (.err k)) (hN : l.length ≤ N) (hF : ∀ a, a < l.length → CEnt (F a) (lbF l a)) :
    EntS G ⟨env, b0, H⟩ ⟨env, b0, (H.set i (rdO n l k)).set j (none, .dead)⟩ := closeR0 n k l i j hi hj hij h0 h1 hN hF
end
/-- what is left of the innermost element -/
def nowL (l : List (List UInt8)) : List UInt8 := l.getD (l.length - 1) []
def moreM (l : List (List UInt8)) (k : Nat) : Bool := decide (k = 0) && decide (0 < (nowL l).length)
theorem now_ac {gs : List Nat} (n : Nat) (l : List (List UInt8)) (k : Nat) (hl : 0 < l.length ∧ l.length ≤ 1000000) : AC gs Tryz.prog 68 [rdO n l k] [.op 0 (some n) 0] (fun r H' => r = bsC (nowL l) ∧ H' = [rdO n l k]) := by
  refine ac_of 15 Tryz.func68 rfl rfl rfl (fun al w0 F0 St0 => ?_)
  refine code_openR 0 rfl fun gl => ?_
  refine jcr ?_
  refine jq jrm ?_
  refine seq_nil ?_
  refine jcs ?_
  skip
  refine jcd (.rd 0 (.rd 1 (.rd 2 (.rd 3 (.rd 4 (.rd 5 (.rd 6 (.rd 7 (.rd 8 (.rd 9 (.rd 10 (.rd 11 (.rd 12 .done))))))))))))) ?_
  refine jyq jrm ?_
  refine jyq jrnc ?_
  refine jyq (jrfa 0 1 false) ?_
  refine jyo jrdo ?_
  refine jyq jrm ?_
  refine jyq jrnc ?_
  refine jyq (jrfa 0 1 false) ?_
  refine jyo jrdo ?_
  refine jyq jrl ?_
  refine jyq jra ?_
  refine jyq (jri (i := (l.length - 1)) (hz := by omega)) ?_
  refine jyo jrdo ?_
  refine jyq jrm ?_
  refine jyd ?_
  refine jtn ?_
  refine code_ret ?_
  exact end_pack (gd := fun z : Nat × Option Nat => z.1) (E := rdE l k) (.inl rfl) _ (n, gl) [0, 1] (by decide) rfl (res_1 rfl (arv_tmp rfl)) ⟨rfl, rfl⟩
theorem fail08_ac {gs : List Nat} (n : Nat) (l : List (List UInt8)) (k e : Nat) : AC gs Tryz.prog 39 [rdO n l k] [.op 0 (some n) 0, .err e] (fun r H' => r = .c (.tuple #[]) ∧ H' = [rdO n l (if k = 0 then e else k)]) := by
  refine ac_of 13 Tryz.func39 rfl rfl rfl (fun al w0 F0 St0 => ?_)
  refine code_openR 0 rfl fun gl => ?_
  refine jcr ?_
  refine jq jrm ?_
  refine jq jrnc ?_
  refine jq (jrfa 1 1 false) ?_
  refine jqo jrdo ?_
  refine jq jre ?_
  refine seq_nil ?_
  refine jcc (fun h161 => ?_) fun h161 => ?_
  rotate_left
  · refine code_skip ?_
    rw [if_neg (by omega)]
    exact end_pack (gd := fun z : Nat × Option Nat => z.1) (E := rdE l k) (.inr rfl) _ (n, gl) [0, 1] (by decide) rfl (res_0 rfl) ⟨rfl, rfl⟩
  refine jcg ?_
  refine jq jrm ?_
  refine jq jrm ?_
  refine jq jrnc ?_
  refine jq (jrfa 1 1 false) ?_
  refine jqm (jmstF 1 (fl [.os 1 gl 0 l.length 1, .err e]) ?_ ?_)
  · exact (fun j hj => by rcases j with _ | _ | j <;> exact CEnt.refl _)
  refine seq_nil ?_
  rw [if_pos (by omega)]
  exact end_pack (gd := fun z : Nat × Option Nat => z.1) (E := rdE l e) (.inr rfl) _ (n, gl) [0, 1] (by decide) rfl (res_0 rfl) ⟨rfl, rfl⟩
theorem err08_ac {gs : List Nat} (n : Nat) (l : List (List UInt8)) (k : Nat) : AC gs Tryz.prog 22 [rdO n l k] [.op 0 (some n) 0] (fun r H' => r = .err k ∧ H' = [rdO n l k]) := by
  refine ac_of 7 Tryz.func22 rfl rfl rfl (fun al w0 F0 St0 => ?_)
  refine code_openR 0 rfl fun gl => ?_
  refine jcr ?_
  refine jq jrm ?_
  refine seq_nil ?_
  skip
  refine jcr ?_
  refine jq jrm ?_
  refine jq jrnc ?_
  refine jq (jrfa 1 1 false) ?_
  refine jqo jrdo ?_
  refine jq jrm ?_
  refine seq_nil ?_
  refine code_ret ?_
  exact end_pack (gd := fun z : Nat × Option Nat => z.1) (E := rdE l k) (.inl rfl) _ (n, gl) [0, 1] (by decide) rfl (res_1 rfl (arv_tmp rfl)) ⟨rfl, rfl⟩
theorem more_pos {l : List (List UInt8)} {k : Nat} (h : moreM l k = true) : k = 0 ∧ 0 < (nowL l).length := by simpa [moreM] using h
theorem more_ac {gs : List Nat} (n : Nat) (l : List (List UInt8)) (k : Nat) (hl : 0 < l.length ∧ l.length ≤ 1000000) : AC gs Tryz.prog 30 [rdO n l k] [.op 0 (some n) 0] (fun r H' => r = .c (.bool (moreM l k)) ∧ H' = [rdO n l k]) := by
  refine ac_of 14 Tryz.func30 rfl rfl rfl (fun al w0 F0 St0 => ?_)
  refine code_openR 0 rfl fun gl => ?_
  refine jcr ?_
  refine jq jrm ?_
  refine seq_nil ?_
  skip
  refine jcr ?_
  refine jq jrm ?_
  refine jq jrnc ?_
  refine jq (jrfa 1 1 false) ?_
  refine jqo jrdo ?_
  refine seq_ent (closeR n k l 0 1 rfl rfl rfl (CEnt.refl _) (CEnt.refl _) (Nat.le_refl _) (fun _ _ => CEnt.refl _)) ?_
  refine jq jre ?_
  refine jq jrm ?_
  refine jqsp 8 (fun g173 => ?_) fun g173 => ?_
  rotate_left
  · refine jqs ?_
    refine jqs ?_
    refine jqs ?_
    refine jqs ?_
    refine jq jrpF ?_
    refine jq jrm ?_
    refine seq_nil ?_
    refine code_ret ?_
    exact end_H (.inl rfl) rfl (res_1 rfl (arv_tmp rfl)) (CEnt.bool (by unfold moreM; (simp [g173]; done)))
  refine jq jrm ?_
  refine jqm (jmcH 0 (now_ac n l k hl) ?_)
  rintro _ _ ⟨rfl, rfl⟩
  refine ⟨_, _, rfl, CEnt.refl _, ?_⟩
  refine jq jrl ?_
  refine jq jrc ?_
  refine jq jrpT ?_
  refine jq jrm ?_
  refine seq_nil ?_
  refine code_ret ?_
  exact end_H (.inl rfl) rfl (res_1 rfl (arv_tmp rfl)) (CEnt.bool (by unfold moreM; (simp [g173]; done)))
end Am
end Go.Proofs.YtjckfbpdieijeaaGreatDoor

/- Chapter 8: the reader's next element. -/
namespace Go.Proofs.YtjckfbpdieijeaaGreatDoor
set_option linter.unusedVariables false
namespace Am
variable {gs : List Nat} [OkG gs]
open Go.RowKit
set_option maxRecDepth 100000

structure NR where
  l : List (List UInt8)
  k : Nat
  tag : Nat
  body : List UInt8
  raw : List UInt8
  is : Bool
/-- the next element of a tag -/
def nextR (tag : Int) (l : List (List UInt8)) (k : Nat) : NR :=
  if k ≠ 0 then ⟨l, k, 0, [], [], false⟩ else
  if (nextM (nowL l)).e ≠ 0 then ⟨l, (nextM (nowL l)).e, 0, [], [], false⟩ else
  if tag ≠ 0 ∧ ((nextM (nowL l)).tag : Int) ≠ tag then ⟨l, 5, 0, [], [], false⟩ else
  ⟨l.set (l.length - 1) (nextM (nowL l)).rest, 0, (nextM (nowL l)).tag, (nextM (nowL l)).body, (nowL l).take ((nowL l).length - (nextM (nowL l)).rest.length), true⟩
theorem lb_set {l : List (List UInt8)} {i : Nat} {x : List UInt8} {j : Nat} (hj : j < l.length) : CEnt (updF (lbF l) i [bsC x] j) (lbF (l.set i x) j) := by
  refine CEnt.of_eq ?_
  rw [updF_get]
  simp only [lbF, List.length_singleton, List.getD_eq_getElem?_getD, List.getElem?_set]
  by_cases h : i = j
  · subst h
    rw [if_pos (by omega), if_pos rfl, if_pos hj, Nat.sub_self]
    rfl
  · rw [if_neg (by omega), if_neg h]
theorem nextR_ac (n : Nat) (l : List (List UInt8)) (k : Nat) (tag : Int) (hl : 0 < l.length ∧ l.length ≤ 1000000) (hb : (nowL l).length ≤ 10000000) : AC gs Tryz.prog 78 [rdO n l k] [.op 0 (some n) 0, .c (.int .i64 tag)]
    (fun r H' => r = .tup 3 (fl [elC (nextR tag l k).tag (nextR tag l k).body, bsC (nextR tag l k).raw, .c (.bool (nextR tag l k).is)]) ∧ H' = [rdO n (nextR tag l k).l (nextR tag l k).k]) := by
  have hnb := nextM_bd (nowL l)
  refine ac_of 67 Tryz.func78 rfl rfl rfl (fun al w0 F0 St0 => ?_)
  refine jcr ?_
  refine jqe (jeal (n := 2) zr68 rfl fun p1 => ?_)
  refine jq jrm ?_
  refine jq jrm ?_
  refine seq_nil ?_
  refine jcs ?_
  refine code_openR 0 rfl fun gl => ?_
  refine jcr ?_
  refine jq jrm ?_
  refine jq jrnc ?_
  refine jq (jrfa 1 1 false) ?_
  refine jqo jrdo ?_
  refine jq jre ?_
  refine seq_nil ?_
  refine jcc (fun h185 => ?_) fun h185 => ?_
  · refine code_ent (closeR n k l 0 2 rfl rfl rfl (CEnt.osI rfl) (CEnt.refl _) (Nat.le_refl _) (fun _ _ => CEnt.refl _)) ?_
    dsimp only [List.set_cons_zero, List.set_cons_succ, List.cons_append, List.nil_append, List.length_cons, List.length_nil, Nat.zero_add, Nat.reduceAdd]
    refine jcr ?_
    refine jq (rd_build (n := 2) rfl zr68 pl68 rfl rfl) ?_
    refine jqm (jmst 2 ?_)
    refine jq jrm ?_
    refine jq jrm ?_
    refine seq_nil ?_
    refine code_ret (jtr ?_)
    have hN : nextR tag l k = ⟨l, k, 0, [], [], false⟩ := by unfold nextR; rw [if_pos (by omega)]
    rw [hN]
    refine end_H (.inl rfl) rfl (res_3 rfl (javA 2) javt javt) ?_
    exact CEnt.tup3 (CEnt.agg2 (CEnt.refl _) CEnt.nilB) CEnt.nilB (CEnt.refl _)
  refine code_skip (jtn ?_)
  obtain rfl : k = 0 := by omega
  refine code_ent (closeR n 0 l 0 2 rfl rfl rfl (CEnt.osI rfl) (CEnt.refl _) (Nat.le_refl _) (fun _ _ => CEnt.refl _)) ?_
  dsimp only [List.set_cons_zero, List.set_cons_succ, List.cons_append, List.nil_append, List.length_cons, List.length_nil, Nat.zero_add, Nat.reduceAdd]
  refine jcr ?_
  refine jq jrm ?_
  refine jqm (jmcH 0 (now_ac n l 0 hl) ?_)
  rintro _ _ ⟨rfl, rfl⟩
  refine ⟨_, _, rfl, CEnt.refl _, ?_⟩
  refine jqe (jecP (next_ac (nowL l) hb) ?_)
  refine jq jrm ?_
  refine jq jrx ?_
  refine jq jrx ?_
  refine jq jrx ?_
  refine jqe (jeal (n := 2) zr68 rfl fun p3 => ?_)
  refine jqm (jmst 2 ?_)
  refine jq jrm ?_
  refine jq jrm ?_
  refine seq_nil ?_
  refine jcs ?_
  refine code_block ?_
  refine jcr ?_
  refine jq jrm ?_
  refine jq jre ?_
  refine jq jrm ?_
  refine seq_nil ?_
  refine jcc (fun h190 => ?_) fun h190 => ?_
  · refine code_openR 0 rfl fun gl2 => ?_
    refine jcg ?_
    refine jq jrm ?_
    refine jq jrm ?_
    refine jq jrnc ?_
    refine jq (jrfa 1 1 false) ?_
    refine jqm (jmstF 1 (fl [.os 4 gl2 0 l.length 1, .err (nextM (nowL l)).e]) ?_ ?_)
    · exact (fun j hj => by rcases j with _ | _ | j <;> exact CEnt.refl _)
    refine seq_nil ?_
    refine jbn (jtn ?_)
    first
      | refine code_ent (closeR n (nextM (nowL l)).e l 0 4 rfl rfl rfl (CEnt.osI rfl) (CEnt.refl _) (Nat.le_refl _) (fun _ _ => CEnt.refl _)) ?_
      | refine code_ent (closeR n 5 l 0 4 rfl rfl rfl (CEnt.osI rfl) (CEnt.refl _) (Nat.le_refl _) (fun _ _ => CEnt.refl _)) ?_
    refine jcr ?_
    refine jq (rd_build (n := 2) rfl zr68 pl68 rfl rfl) ?_
    refine jqm (jmst 2 ?_)
    refine jq jrm ?_
    refine jq jrm ?_
    refine seq_nil ?_
    refine code_ret ?_
    first
      | (have hN : nextR tag l 0 = ⟨l, (nextM (nowL l)).e, 0, [], [], false⟩ := by unfold nextR; rw [if_neg (by omega), if_pos (by omega)])
      | (have hN : nextR tag l 0 = ⟨l, 5, 0, [], [], false⟩ := by unfold nextR; rw [if_neg (by omega), if_neg (by omega), if_pos (by omega)])
    rw [hN]
    refine end_H (.inl rfl) rfl (res_3 rfl (javA 2) javt javt) ?_
    exact CEnt.tup3 (CEnt.agg2 (CEnt.refl _) CEnt.nilB) CEnt.nilB (CEnt.refl _)
  refine jcr ?_
  refine jq jrm ?_
  refine jq jrc ?_
  refine jq jrm ?_
  refine jqsp 56 (fun g192 => ?_) fun g192 => ?_
  rotate_left
  · refine jqs ?_
    refine jqs ?_
    refine jqs ?_
    refine jqs ?_
    refine jq jrpF ?_
    refine jq jrm ?_
    refine seq_nil ?_
    refine jcF ?_
    refine jcr ?_
    refine jq jrm ?_
    refine jqm (jmcH 0 (now_ac n l 0 hl) ?_)
    rintro _ _ ⟨rfl, rfl⟩
    refine ⟨_, _, rfl, CEnt.refl _, ?_⟩
    refine jq jrm ?_
    refine seq_nil ?_
    refine jcs ?_
    refine code_openR 0 rfl fun gl2 => ?_
    refine jcdB 12 (.rd 0 (.rd 1 (.rd 2 (.rd 3 (.rd 4 (.rd 5 (.rd 6 (.rd 7 (.rd 8 (.rd 9 (.rd 10 (.rd 11 .done)))))))))))) ?_
    refine jyq jrm ?_
    refine jyq jrnc ?_
    refine jyq (jrfa 0 1 false) ?_
    refine jyo jrdo ?_
    refine jyq jrm ?_
    refine jyq jrnc ?_
    refine jyq (jrfa 0 1 false) ?_
    refine jyo jrdo ?_
    refine jyq jrl ?_
    refine jyq jra ?_
    refine jyq jrm ?_
    refine jyq (jri (i := (l.length - 1)) (hz := by omega)) ?_
    refine jyd ?_
    show ASeq _ _ _ _ _ _
    refine jqm (jmstF 1 (lbF (l.set (l.length - 1) (nextM (nowL l)).rest)) ?_ ?_)
    · exact (fun j hj => lb_set hj)
    refine seq_nil ?_
    refine jtn ?_
    refine jcs ?_
    refine code_ent (closeR n 0 (l.set (l.length - 1) (nextM (nowL l)).rest) 0 4 rfl rfl rfl (CEnt.osI (by simp)) (CEnt.refl _) (by simp) (fun _ _ => CEnt.refl _)) ?_
    dsimp only [List.set_cons_zero, List.set_cons_succ, List.cons_append, List.nil_append, List.length_cons, List.length_nil, Nat.zero_add, Nat.reduceAdd]
    refine code_ent (freeze 3 rfl) ?_
    refine code_ent (thawP 7 (m := 2) rfl rfl (by decide)) ?_
    refine jcdZ (.rd 0 (.rd 1 (.rd 2 (.rd 3 (.rd 4 (.rd 5 (.rd 6 (.rd 7 (.one 8 (.rd 9 (.rd 10 .done))))))))))) ?_
    refine jzq (jrdrA 2) ?_
    refine jzq jrm ?_
    refine jzq jrm ?_
    refine jzq jrl ?_
    refine jzq jrm ?_
    refine jzq jrl ?_
    refine jzq jra ?_
    refine jzq jrst ?_
    refine jzm (jmst 2 ?_)
    refine jzq jrm ?_
    refine jzq jrm ?_
    refine jzd ?_
    refine jtn ?_
    refine code_ret (jbr (jtr ?_))
    have hN : nextR tag l 0 = ⟨l.set (l.length - 1) (nextM (nowL l)).rest, 0, (nextM (nowL l)).tag, (nextM (nowL l)).body, (nowL l).take ((nowL l).length - (nextM (nowL l)).rest.length), true⟩ := by unfold nextR; rw [if_neg (by omega), if_neg (by omega), if_neg (by omega)]
    rw [hN]
    refine end_H (.inl rfl) rfl (res_3 rfl (javA 2) javt javt) ?_
    exact CEnt.tup3 (CEnt.agg2 (CEnt.refl _) (CEnt.refl _)) (CEnt.bs (by congr 1; omega)) (CEnt.refl _)
  refine jq (jrfa 0 1 false) ?_
  refine jqo jrdo ?_
  refine jq jrm ?_
  refine jq jrc ?_
  refine jq jrpT ?_
  refine jq jrm ?_
  refine seq_nil ?_
  refine jcc (fun h192 => ?_) fun h192 => ?_
  · refine code_openR 0 rfl fun gl2 => ?_
    refine jcg ?_
    refine jq jrm ?_
    refine jq (jrde 4) ?_
    refine jq jrnc ?_
    refine jq (jrfa 1 1 false) ?_
    refine jqm (jmstF 1 (fl [.os 4 gl2 0 l.length 1, .err 5]) ?_ ?_)
    · exact (fun j hj => by rcases j with _ | _ | j <;> exact CEnt.refl _)
    refine seq_nil ?_
    refine jbn (jtn ?_)
    first
      | refine code_ent (closeR n (nextM (nowL l)).e l 0 4 rfl rfl rfl (CEnt.osI rfl) (CEnt.refl _) (Nat.le_refl _) (fun _ _ => CEnt.refl _)) ?_
      | refine code_ent (closeR n 5 l 0 4 rfl rfl rfl (CEnt.osI rfl) (CEnt.refl _) (Nat.le_refl _) (fun _ _ => CEnt.refl _)) ?_
    refine jcr ?_
    refine jq (rd_build (n := 2) rfl zr68 pl68 rfl rfl) ?_
    refine jqm (jmst 2 ?_)
    refine jq jrm ?_
    refine jq jrm ?_
    refine seq_nil ?_
    refine code_ret ?_
    first
      | (have hN : nextR tag l 0 = ⟨l, (nextM (nowL l)).e, 0, [], [], false⟩ := by unfold nextR; rw [if_neg (by omega), if_pos (by omega)])
      | (have hN : nextR tag l 0 = ⟨l, 5, 0, [], [], false⟩ := by unfold nextR; rw [if_neg (by omega), if_neg (by omega), if_pos (by omega)])
    rw [hN]
    refine end_H (.inl rfl) rfl (res_3 rfl (javA 2) javt javt) ?_
    exact CEnt.tup3 (CEnt.agg2 (CEnt.refl _) CEnt.nilB) CEnt.nilB (CEnt.refl _)
  refine jcr ?_
  refine jq jrm ?_
  refine jqm (jmcH 0 (now_ac n l 0 hl) ?_)
  rintro _ _ ⟨rfl, rfl⟩
  refine ⟨_, _, rfl, CEnt.refl _, ?_⟩
  refine jq jrm ?_
  refine seq_nil ?_
  refine jcs ?_
  refine code_openR 0 rfl fun gl2 => ?_
  refine jcdB 12 (.rd 0 (.rd 1 (.rd 2 (.rd 3 (.rd 4 (.rd 5 (.rd 6 (.rd 7 (.rd 8 (.rd 9 (.rd 10 (.rd 11 .done)))))))))))) ?_
  refine jyq jrm ?_
  refine jyq jrnc ?_
  refine jyq (jrfa 0 1 false) ?_
  refine jyo jrdo ?_
  refine jyq jrm ?_
  refine jyq jrnc ?_
  refine jyq (jrfa 0 1 false) ?_
  refine jyo jrdo ?_
  refine jyq jrl ?_
  refine jyq jra ?_
  refine jyq jrm ?_
  refine jyq (jri (i := (l.length - 1)) (hz := by omega)) ?_
  refine jyd ?_
  show ASeq _ _ _ _ _ _
  refine jqm (jmstF 1 (lbF (l.set (l.length - 1) (nextM (nowL l)).rest)) ?_ ?_)
  · exact (fun j hj => lb_set hj)
  refine seq_nil ?_
  refine jtn ?_
  refine jcs ?_
  refine code_ent (closeR n 0 (l.set (l.length - 1) (nextM (nowL l)).rest) 0 4 rfl rfl rfl (CEnt.osI (by simp)) (CEnt.refl _) (by simp) (fun _ _ => CEnt.refl _)) ?_
  dsimp only [List.set_cons_zero, List.set_cons_succ, List.cons_append, List.nil_append, List.length_cons, List.length_nil, Nat.zero_add, Nat.reduceAdd]
  refine code_ent (freeze 3 rfl) ?_
  refine code_ent (thawP 7 (m := 2) rfl rfl (by decide)) ?_
  refine jcdZ (.rd 0 (.rd 1 (.rd 2 (.rd 3 (.rd 4 (.rd 5 (.rd 6 (.rd 7 (.one 8 (.rd 9 (.rd 10 .done))))))))))) ?_
  refine jzq (jrdrA 2) ?_
  refine jzq jrm ?_
  refine jzq jrm ?_
  refine jzq jrl ?_
  refine jzq jrm ?_
  refine jzq jrl ?_
  refine jzq jra ?_
  refine jzq jrst ?_
  refine jzm (jmst 2 ?_)
  refine jzq jrm ?_
  refine jzq jrm ?_
  refine jzd ?_
  refine jtn ?_
  refine code_ret (jbr (jtr ?_))
  have hN : nextR tag l 0 = ⟨l.set (l.length - 1) (nextM (nowL l)).rest, 0, (nextM (nowL l)).tag, (nextM (nowL l)).body, (nowL l).take ((nowL l).length - (nextM (nowL l)).rest.length), true⟩ := by unfold nextR; rw [if_neg (by omega), if_neg (by omega), if_neg (by omega)]
  rw [hN]
  refine end_H (.inl rfl) rfl (res_3 rfl (javA 2) javt javt) ?_
  exact CEnt.tup3 (CEnt.agg2 (CEnt.refl _) (CEnt.refl _)) (CEnt.bs (by congr 1; omega)) (CEnt.refl _)
end Am
end Go.Proofs.YtjckfbpdieijeaaGreatDoor

/- Chapter 8: the reader: Enter, Leave, End, Raw, Read. -/
namespace Go.Proofs.YtjckfbpdieijeaaGreatDoor
set_option linter.unusedVariables false
namespace Am
variable {gs : List Nat} [OkG gs]
open Go.RowKit
set_option maxRecDepth 100000

/-- an element is entered -/
def enterR (tag : Int) (l : List (List UInt8)) (k : Nat) : NR :=
  nextR tag l (if moreM l k = true ∧ madeM tag = false then 5 else k)
def enterL (tag : Int) (l : List (List UInt8)) (k : Nat) : List (List UInt8) := if (enterR tag l k).is = true then (enterR tag l k).l ++ [(enterR tag l k).body] else (enterR tag l k).l
theorem enter_ac (n : Nat) (l : List (List UInt8)) (k : Nat) (tag : Int) (hl : 0 < l.length ∧ l.length ≤ 1000000) (hb : (nowL l).length ≤ 10000000) : AC gs Tryz.prog 40 [rdO n l k] [.op 0 (some n) 0, .c (.int .i64 tag)]
    (fun r H' => r = .c (.bool (enterR tag l k).is) ∧ H' = [rdO n (enterL tag l k) (enterR tag l k).k]) := by
  have hnl : ∀ k, 0 < (nextR tag l k).l.length ∧ (nextR tag l k).l.length ≤ 1000000 := fun k => by
    unfold nextR
    split
    · exact hl
    · split
      · exact hl
      · split
        · exact hl
        · simp only [List.length_set]; exact hl
  refine ac_of 48 Tryz.func40 rfl rfl rfl (fun al w0 F0 St0 => ?_)
  refine jcr ?_
  refine jq jrm ?_
  refine seq_nil ?_
  refine jcs ?_
  refine code_openR 0 rfl fun gl => ?_
  refine jcr ?_
  refine jq jrm ?_
  refine jq jrnc ?_
  refine jq (jrfa 1 1 false) ?_
  refine jqo jrdo ?_
  refine seq_ent (closeR n k l 0 1 rfl rfl rfl (CEnt.osI rfl) (CEnt.refl _) (Nat.le_refl _) (fun _ _ => CEnt.refl _)) ?_
  refine jq jre ?_
  refine jq jrm ?_
  refine jqsp 13 (fun g204 => ?_) fun g204 => ?_
  rotate_left
  · refine jqs ?_
    refine jqs ?_
    refine jqs ?_
    refine jqs ?_
    refine jq jrpF ?_
    refine jq jrm ?_
    refine jqs ?_
    refine jqs ?_
    refine jqs ?_
    refine jq jrpF ?_
    refine seq_nil ?_
    refine jcF ?_
    refine code_skip (jtn ?_)
    first
      | (refine code_ent (closeR n 5 l 0 2 rfl rfl rfl (CEnt.osI rfl) (CEnt.refl _) (Nat.le_refl _) (fun _ _ => CEnt.refl _)) ?_; refine code_ent (pick_ent (H' := [rdO n l 5]) [0] (by decide) rfl) ?_; have hE : enterR tag l k = nextR tag l 5 := by unfold enterR; rw [if_pos (by simp_all [moreM, madeM])])
      | (refine code_ent (pick_ent (H' := [rdO n l k]) [0] (by decide) rfl) ?_; have hE : enterR tag l k = nextR tag l k := by unfold enterR; rw [if_neg (by simp_all [moreM, madeM])])
    refine jcr ?_
    refine jq jrm ?_
    refine jq jrm ?_
    refine jqm (jmcH 0 (nextR_ac n l _ tag hl hb) ?_)
    rintro _ _ ⟨rfl, rfl⟩
    refine ⟨_, _, rfl, CEnt.refl _, ?_⟩
    refine jq jrm ?_
    refine jq jrx ?_
    refine jq jrx ?_
    refine jq jrx ?_
    refine jqe (jeal (n := 2) zr68 rfl fun p2 => ?_)
    refine jqm (jmst 2 ?_)
    refine jq jrm ?_
    refine jq jrm ?_
    refine seq_nil ?_
    refine jcs ?_
    rw [← hE]
    have hel : 0 < (enterR tag l k).l.length ∧ (enterR tag l k).l.length ≤ 1000000 := by rw [hE]; exact hnl _
    refine jcr ?_
    refine jq jrm ?_
    refine seq_nil ?_
    refine jcc (fun h208 => ?_) fun h208 => ?_
    rotate_left
    · refine code_skip (jtn ?_)
      first
        | (refine code_ent (closeR n (enterR tag l k).k ((enterR tag l k).l ++ [(enterR tag l k).body]) 0 2 rfl rfl rfl (CEnt.osI (by simp)) (CEnt.refl _) (by simp) (fun _ _ => CEnt.refl _)) ?_; have hL : enterL tag l k = (enterR tag l k).l ++ [(enterR tag l k).body] := by unfold enterL; rw [if_pos (by simpa using h208)])
        | have hL : enterL tag l k = (enterR tag l k).l := by unfold enterL; rw [if_neg (by simpa using h208)]
      refine jcr ?_
      refine jq jrm ?_
      refine jq jrm ?_
      refine seq_nil ?_
      refine code_ret ?_
      rw [hL]
      exact end_H (.inl rfl) rfl (res_1 rfl (arv_tmp rfl)) (CEnt.refl _)
    refine code_ent (freeze 1 rfl) ?_
    refine code_ent (thawP 5 (m := 2) rfl rfl (by decide)) ?_
    dsimp only [List.set_cons_zero, List.set_cons_succ, List.cons_append, List.nil_append, List.length_cons, List.length_nil, Nat.zero_add, Nat.reduceAdd]
    refine code_openR 0 rfl fun gl3 => ?_
    refine jcdZ (.rd 0 (.rd 1 (.rd 2 (.rd 3 (.rd 4 (.rd 5 (.rd 6 (.one 7 (.one 8 (.rd 9 (.rd 10 (.one 11 .done)))))))))))) ?_
    refine jzq jrm ?_
    refine jzq jrm ?_
    refine jzq jrnc ?_
    refine jzq (jrfa 0 1 false) ?_
    refine jzo jrdo ?_
    refine jzq (jrfa 1 1 false) ?_
    refine jzq jrdr ?_
    refine jze (jebl 1 1 zr26 fun p3 => ?_)
    refine jzm (m_appendC (rowC_lb) (l2 := [(enterR tag l k).body]) rfl rfl rfl rfl (by omega) (fun _ _ => CEnt.refl _) (src_os rfl (.inl rfl) (by decide)) rfl (fun j hj => by rcases j with _|j <;> first | exact CEnt.refl _ | exact CEnt.int (by omega) | (exfalso; simp at hj <;> omega)) Tryz.underlying56 nu56 sz26 zr26 by26 rfl (by (simp; omega)) (by (simp; omega)) (leaf_flk rfl rfl) rfl rfl rfl (fun p4 => ?_))
    refine jzq jrnc ?_
    refine jzq (jrfa 0 1 false) ?_
    refine jzm (jmst 1 ?_)
    refine jzd ?_
    refine jtn ?_
    first
      | (refine code_ent (closeR n (enterR tag l k).k ((enterR tag l k).l ++ [(enterR tag l k).body]) 0 2 rfl rfl rfl (CEnt.osI (by simp)) (CEnt.refl _) (by simp) (fun _ _ => CEnt.refl _)) ?_; have hL : enterL tag l k = (enterR tag l k).l ++ [(enterR tag l k).body] := by unfold enterL; rw [if_pos (by simpa using h208)])
      | have hL : enterL tag l k = (enterR tag l k).l := by unfold enterL; rw [if_neg (by simpa using h208)]
    refine jcr ?_
    refine jq jrm ?_
    refine jq jrm ?_
    refine seq_nil ?_
    refine code_ret ?_
    rw [hL]
    exact end_H (.inl rfl) rfl (res_1 rfl (arv_tmp rfl)) (CEnt.refl _)
  refine jq jrm ?_
  refine jqm (jmcH 0 (now_ac n l k hl) ?_)
  rintro _ _ ⟨rfl, rfl⟩
  refine ⟨_, _, rfl, CEnt.refl _, ?_⟩
  refine jq jrl ?_
  refine jq jrc ?_
  refine jq jrpT ?_
  refine jq jrm ?_
  refine jqsp 19 (fun g204_2 => ?_) fun g204_2 => ?_
  rotate_left
  · refine jqs ?_
    refine jqs ?_
    refine jqs ?_
    refine jq jrpF ?_
    refine seq_nil ?_
    refine jcF ?_
    refine code_skip (jtn ?_)
    first
      | (refine code_ent (closeR n 5 l 0 2 rfl rfl rfl (CEnt.osI rfl) (CEnt.refl _) (Nat.le_refl _) (fun _ _ => CEnt.refl _)) ?_; refine code_ent (pick_ent (H' := [rdO n l 5]) [0] (by decide) rfl) ?_; have hE : enterR tag l k = nextR tag l 5 := by unfold enterR; rw [if_pos (by simp_all [moreM, madeM])])
      | (refine code_ent (pick_ent (H' := [rdO n l k]) [0] (by decide) rfl) ?_; have hE : enterR tag l k = nextR tag l k := by unfold enterR; rw [if_neg (by simp_all [moreM, madeM])])
    refine jcr ?_
    refine jq jrm ?_
    refine jq jrm ?_
    refine jqm (jmcH 0 (nextR_ac n l _ tag hl hb) ?_)
    rintro _ _ ⟨rfl, rfl⟩
    refine ⟨_, _, rfl, CEnt.refl _, ?_⟩
    refine jq jrm ?_
    refine jq jrx ?_
    refine jq jrx ?_
    refine jq jrx ?_
    refine jqe (jeal (n := 2) zr68 rfl fun p3 => ?_)
    refine jqm (jmst 2 ?_)
    refine jq jrm ?_
    refine jq jrm ?_
    refine seq_nil ?_
    refine jcs ?_
    rw [← hE]
    have hel : 0 < (enterR tag l k).l.length ∧ (enterR tag l k).l.length ≤ 1000000 := by rw [hE]; exact hnl _
    refine jcr ?_
    refine jq jrm ?_
    refine seq_nil ?_
    refine jcc (fun h208 => ?_) fun h208 => ?_
    rotate_left
    · refine code_skip (jtn ?_)
      first
        | (refine code_ent (closeR n (enterR tag l k).k ((enterR tag l k).l ++ [(enterR tag l k).body]) 0 2 rfl rfl rfl (CEnt.osI (by simp)) (CEnt.refl _) (by simp) (fun _ _ => CEnt.refl _)) ?_; have hL : enterL tag l k = (enterR tag l k).l ++ [(enterR tag l k).body] := by unfold enterL; rw [if_pos (by simpa using h208)])
        | have hL : enterL tag l k = (enterR tag l k).l := by unfold enterL; rw [if_neg (by simpa using h208)]
      refine jcr ?_
      refine jq jrm ?_
      refine jq jrm ?_
      refine seq_nil ?_
      refine code_ret ?_
      rw [hL]
      exact end_H (.inl rfl) rfl (res_1 rfl (arv_tmp rfl)) (CEnt.refl _)
    refine code_ent (freeze 1 rfl) ?_
    refine code_ent (thawP 5 (m := 2) rfl rfl (by decide)) ?_
    dsimp only [List.set_cons_zero, List.set_cons_succ, List.cons_append, List.nil_append, List.length_cons, List.length_nil, Nat.zero_add, Nat.reduceAdd]
    refine code_openR 0 rfl fun gl3 => ?_
    refine jcdZ (.rd 0 (.rd 1 (.rd 2 (.rd 3 (.rd 4 (.rd 5 (.rd 6 (.one 7 (.one 8 (.rd 9 (.rd 10 (.one 11 .done)))))))))))) ?_
    refine jzq jrm ?_
    refine jzq jrm ?_
    refine jzq jrnc ?_
    refine jzq (jrfa 0 1 false) ?_
    refine jzo jrdo ?_
    refine jzq (jrfa 1 1 false) ?_
    refine jzq jrdr ?_
    refine jze (jebl 1 1 zr26 fun p4 => ?_)
    refine jzm (m_appendC (rowC_lb) (l2 := [(enterR tag l k).body]) rfl rfl rfl rfl (by omega) (fun _ _ => CEnt.refl _) (src_os rfl (.inl rfl) (by decide)) rfl (fun j hj => by rcases j with _|j <;> first | exact CEnt.refl _ | exact CEnt.int (by omega) | (exfalso; simp at hj <;> omega)) Tryz.underlying56 nu56 sz26 zr26 by26 rfl (by (simp; omega)) (by (simp; omega)) (leaf_flk rfl rfl) rfl rfl rfl (fun p5 => ?_))
    refine jzq jrnc ?_
    refine jzq (jrfa 0 1 false) ?_
    refine jzm (jmst 1 ?_)
    refine jzd ?_
    refine jtn ?_
    first
      | (refine code_ent (closeR n (enterR tag l k).k ((enterR tag l k).l ++ [(enterR tag l k).body]) 0 2 rfl rfl rfl (CEnt.osI (by simp)) (CEnt.refl _) (by simp) (fun _ _ => CEnt.refl _)) ?_; have hL : enterL tag l k = (enterR tag l k).l ++ [(enterR tag l k).body] := by unfold enterL; rw [if_pos (by simpa using h208)])
      | have hL : enterL tag l k = (enterR tag l k).l := by unfold enterL; rw [if_neg (by simpa using h208)]
    refine jcr ?_
    refine jq jrm ?_
    refine jq jrm ?_
    refine seq_nil ?_
    refine code_ret ?_
    rw [hL]
    exact end_H (.inl rfl) rfl (res_1 rfl (arv_tmp rfl)) (CEnt.refl _)
  refine jq jrm ?_
  refine jqe (jecP (made_ac _) ?_)
  refine jq jrn ?_
  refine jq jrpT ?_
  refine seq_nil ?_
  refine jcc (fun h204 => ?_) fun h204 => ?_
  rotate_left
  · refine code_skip (jtn ?_)
    first
      | (refine code_ent (closeR n 5 l 0 2 rfl rfl rfl (CEnt.osI rfl) (CEnt.refl _) (Nat.le_refl _) (fun _ _ => CEnt.refl _)) ?_; refine code_ent (pick_ent (H' := [rdO n l 5]) [0] (by decide) rfl) ?_; have hE : enterR tag l k = nextR tag l 5 := by unfold enterR; rw [if_pos (by simp_all [moreM, madeM])])
      | (refine code_ent (pick_ent (H' := [rdO n l k]) [0] (by decide) rfl) ?_; have hE : enterR tag l k = nextR tag l k := by unfold enterR; rw [if_neg (by simp_all [moreM, madeM])])
    refine jcr ?_
    refine jq jrm ?_
    refine jq jrm ?_
    refine jqm (jmcH 0 (nextR_ac n l _ tag hl hb) ?_)
    rintro _ _ ⟨rfl, rfl⟩
    refine ⟨_, _, rfl, CEnt.refl _, ?_⟩
    refine jq jrm ?_
    refine jq jrx ?_
    refine jq jrx ?_
    refine jq jrx ?_
    refine jqe (jeal (n := 2) zr68 rfl fun p3 => ?_)
    refine jqm (jmst 2 ?_)
    refine jq jrm ?_
    refine jq jrm ?_
    refine seq_nil ?_
    refine jcs ?_
    rw [← hE]
    have hel : 0 < (enterR tag l k).l.length ∧ (enterR tag l k).l.length ≤ 1000000 := by rw [hE]; exact hnl _
    refine jcr ?_
    refine jq jrm ?_
    refine seq_nil ?_
    refine jcc (fun h208 => ?_) fun h208 => ?_
    rotate_left
    · refine code_skip (jtn ?_)
      first
        | (refine code_ent (closeR n (enterR tag l k).k ((enterR tag l k).l ++ [(enterR tag l k).body]) 0 2 rfl rfl rfl (CEnt.osI (by simp)) (CEnt.refl _) (by simp) (fun _ _ => CEnt.refl _)) ?_; have hL : enterL tag l k = (enterR tag l k).l ++ [(enterR tag l k).body] := by unfold enterL; rw [if_pos (by simpa using h208)])
        | have hL : enterL tag l k = (enterR tag l k).l := by unfold enterL; rw [if_neg (by simpa using h208)]
      refine jcr ?_
      refine jq jrm ?_
      refine jq jrm ?_
      refine seq_nil ?_
      refine code_ret ?_
      rw [hL]
      exact end_H (.inl rfl) rfl (res_1 rfl (arv_tmp rfl)) (CEnt.refl _)
    refine code_ent (freeze 1 rfl) ?_
    refine code_ent (thawP 5 (m := 2) rfl rfl (by decide)) ?_
    dsimp only [List.set_cons_zero, List.set_cons_succ, List.cons_append, List.nil_append, List.length_cons, List.length_nil, Nat.zero_add, Nat.reduceAdd]
    refine code_openR 0 rfl fun gl3 => ?_
    refine jcdZ (.rd 0 (.rd 1 (.rd 2 (.rd 3 (.rd 4 (.rd 5 (.rd 6 (.one 7 (.one 8 (.rd 9 (.rd 10 (.one 11 .done)))))))))))) ?_
    refine jzq jrm ?_
    refine jzq jrm ?_
    refine jzq jrnc ?_
    refine jzq (jrfa 0 1 false) ?_
    refine jzo jrdo ?_
    refine jzq (jrfa 1 1 false) ?_
    refine jzq jrdr ?_
    refine jze (jebl 1 1 zr26 fun p4 => ?_)
    refine jzm (m_appendC (rowC_lb) (l2 := [(enterR tag l k).body]) rfl rfl rfl rfl (by omega) (fun _ _ => CEnt.refl _) (src_os rfl (.inl rfl) (by decide)) rfl (fun j hj => by rcases j with _|j <;> first | exact CEnt.refl _ | exact CEnt.int (by omega) | (exfalso; simp at hj <;> omega)) Tryz.underlying56 nu56 sz26 zr26 by26 rfl (by (simp; omega)) (by (simp; omega)) (leaf_flk rfl rfl) rfl rfl rfl (fun p5 => ?_))
    refine jzq jrnc ?_
    refine jzq (jrfa 0 1 false) ?_
    refine jzm (jmst 1 ?_)
    refine jzd ?_
    refine jtn ?_
    first
      | (refine code_ent (closeR n (enterR tag l k).k ((enterR tag l k).l ++ [(enterR tag l k).body]) 0 2 rfl rfl rfl (CEnt.osI (by simp)) (CEnt.refl _) (by simp) (fun _ _ => CEnt.refl _)) ?_; have hL : enterL tag l k = (enterR tag l k).l ++ [(enterR tag l k).body] := by unfold enterL; rw [if_pos (by simpa using h208)])
      | have hL : enterL tag l k = (enterR tag l k).l := by unfold enterL; rw [if_neg (by simpa using h208)]
    refine jcr ?_
    refine jq jrm ?_
    refine jq jrm ?_
    refine seq_nil ?_
    refine code_ret ?_
    rw [hL]
    exact end_H (.inl rfl) rfl (res_1 rfl (arv_tmp rfl)) (CEnt.refl _)
  refine code_openR 0 rfl fun gl2 => ?_
  refine jcg ?_
  refine jq jrm ?_
  refine jq (jrde 4) ?_
  refine jq jrnc ?_
  refine jq (jrfa 1 1 false) ?_
  refine jqm (jmstF 1 (fl [.os 2 gl2 0 l.length 1, .err 5]) ?_ ?_)
  · exact (fun j hj => by rcases j with _ | _ | j <;> exact CEnt.refl _)
  refine seq_nil ?_
  refine jtn ?_
  first
    | (refine code_ent (closeR n 5 l 0 2 rfl rfl rfl (CEnt.osI rfl) (CEnt.refl _) (Nat.le_refl _) (fun _ _ => CEnt.refl _)) ?_; refine code_ent (pick_ent (H' := [rdO n l 5]) [0] (by decide) rfl) ?_; have hE : enterR tag l k = nextR tag l 5 := by unfold enterR; rw [if_pos (by simp_all [moreM, madeM])])
    | (refine code_ent (pick_ent (H' := [rdO n l k]) [0] (by decide) rfl) ?_; have hE : enterR tag l k = nextR tag l k := by unfold enterR; rw [if_neg (by simp_all [moreM, madeM])])
  refine jcr ?_
  refine jq jrm ?_
  refine jq jrm ?_
  refine jqm (jmcH 0 (nextR_ac n l _ tag hl hb) ?_)
  rintro _ _ ⟨rfl, rfl⟩
  refine ⟨_, _, rfl, CEnt.refl _, ?_⟩
  refine jq jrm ?_
  refine jq jrx ?_
  refine jq jrx ?_
  refine jq jrx ?_
  refine jqe (jeal (n := 2) zr68 rfl fun p3 => ?_)
  refine jqm (jmst 2 ?_)
  refine jq jrm ?_
  refine jq jrm ?_
  refine seq_nil ?_
  refine jcs ?_
  rw [← hE]
  have hel : 0 < (enterR tag l k).l.length ∧ (enterR tag l k).l.length ≤ 1000000 := by rw [hE]; exact hnl _
  refine jcr ?_
  refine jq jrm ?_
  refine seq_nil ?_
  refine jcc (fun h208 => ?_) fun h208 => ?_
  rotate_left
  · refine code_skip (jtn ?_)
    first
      | (refine code_ent (closeR n (enterR tag l k).k ((enterR tag l k).l ++ [(enterR tag l k).body]) 0 2 rfl rfl rfl (CEnt.osI (by simp)) (CEnt.refl _) (by simp) (fun _ _ => CEnt.refl _)) ?_; have hL : enterL tag l k = (enterR tag l k).l ++ [(enterR tag l k).body] := by unfold enterL; rw [if_pos (by simpa using h208)])
      | have hL : enterL tag l k = (enterR tag l k).l := by unfold enterL; rw [if_neg (by simpa using h208)]
    refine jcr ?_
    refine jq jrm ?_
    refine jq jrm ?_
    refine seq_nil ?_
    refine code_ret ?_
    rw [hL]
    exact end_H (.inl rfl) rfl (res_1 rfl (arv_tmp rfl)) (CEnt.refl _)
  refine code_ent (freeze 1 rfl) ?_
  refine code_ent (thawP 5 (m := 2) rfl rfl (by decide)) ?_
  dsimp only [List.set_cons_zero, List.set_cons_succ, List.cons_append, List.nil_append, List.length_cons, List.length_nil, Nat.zero_add, Nat.reduceAdd]
  refine code_openR 0 rfl fun gl3 => ?_
  refine jcdZ (.rd 0 (.rd 1 (.rd 2 (.rd 3 (.rd 4 (.rd 5 (.rd 6 (.one 7 (.one 8 (.rd 9 (.rd 10 (.one 11 .done)))))))))))) ?_
  refine jzq jrm ?_
  refine jzq jrm ?_
  refine jzq jrnc ?_
  refine jzq (jrfa 0 1 false) ?_
  refine jzo jrdo ?_
  refine jzq (jrfa 1 1 false) ?_
  refine jzq jrdr ?_
  refine jze (jebl 1 1 zr26 fun p4 => ?_)
  refine jzm (m_appendC (rowC_lb) (l2 := [(enterR tag l k).body]) rfl rfl rfl rfl (by omega) (fun _ _ => CEnt.refl _) (src_os rfl (.inl rfl) (by decide)) rfl (fun j hj => by rcases j with _|j <;> first | exact CEnt.refl _ | exact CEnt.int (by omega) | (exfalso; simp at hj <;> omega)) Tryz.underlying56 nu56 sz26 zr26 by26 rfl (by (simp; omega)) (by (simp; omega)) (leaf_flk rfl rfl) rfl rfl rfl (fun p5 => ?_))
  refine jzq jrnc ?_
  refine jzq (jrfa 0 1 false) ?_
  refine jzm (jmst 1 ?_)
  refine jzd ?_
  refine jtn ?_
  first
    | (refine code_ent (closeR n (enterR tag l k).k ((enterR tag l k).l ++ [(enterR tag l k).body]) 0 2 rfl rfl rfl (CEnt.osI (by simp)) (CEnt.refl _) (by simp) (fun _ _ => CEnt.refl _)) ?_; have hL : enterL tag l k = (enterR tag l k).l ++ [(enterR tag l k).body] := by unfold enterL; rw [if_pos (by simpa using h208)])
    | have hL : enterL tag l k = (enterR tag l k).l := by unfold enterL; rw [if_neg (by simpa using h208)]
  refine jcr ?_
  refine jq jrm ?_
  refine jq jrm ?_
  refine seq_nil ?_
  refine code_ret ?_
  rw [hL]
  exact end_H (.inl rfl) rfl (res_1 rfl (arv_tmp rfl)) (CEnt.refl _)
/-- an element is left -/
def leaveK (l : List (List UInt8)) (k : Nat) : Nat := if k ≠ 0 then k else if l.length = 1 then 24 else if 0 < (nowL l).length then 4 else 0
def leaveL (l : List (List UInt8)) (k : Nat) : List (List UInt8) := if leaveK l k = 0 then l.take (l.length - 1) else l
theorem lbF_take {l : List (List UInt8)} {m j : Nat} (h : j < m) : CEnt (lbF l j) (lbF (l.take m) j) := by
  refine CEnt.of_eq ?_
  simp [lbF, List.getD_eq_getElem?_getD, List.getElem?_take, h]
theorem leave_ac (n : Nat) (l : List (List UInt8)) (k : Nat) (hl : 0 < l.length ∧ l.length ≤ 1000000) : AC gs Tryz.prog 44 [rdO n l k] [.op 0 (some n) 0]
    (fun r H' => r = .c (.tuple #[]) ∧ H' = [rdO n (leaveL l k) (leaveK l k)]) := by
  have stay : ∀ {e}, leaveK l k = e → e ≠ 0 → leaveL l k = l := fun h h0 => by unfold leaveL; rw [h, if_neg h0]
  refine ac_of 45 Tryz.func44 rfl rfl rfl (fun al w0 F0 St0 => ?_)
  refine code_openR 0 rfl fun gl => ?_
  refine jcr ?_
  refine jq jrm ?_
  refine jq jrnc ?_
  refine jq (jrfa 0 1 false) ?_
  refine jqo jrdo ?_
  refine jq jrl ?_
  refine jq jra ?_
  refine jq jrm ?_
  refine seq_nil ?_
  refine code_block ?_
  refine jcr ?_
  refine jq jrm ?_
  refine jq jrnc ?_
  refine jq (jrfa 1 1 false) ?_
  refine jqo jrdo ?_
  refine jq jre ?_
  refine jq jrm ?_
  refine seq_nil ?_
  refine jcc (fun h218 => ?_) fun h218 => ?_
  · refine code_skip (jbn ?_)
    have e : leaveK l k = k := by unfold leaveK; rw [if_pos (by omega)]
    rw [stay e (by omega), e]
    exact end_pack (gd := fun z : Nat × Option Nat => z.1) (E := rdE l k) (.inr rfl) _ (n, gl) [0, 1] (by decide) rfl (res_0 rfl) ⟨rfl, rfl⟩
  refine jcr ?_
  refine jq jrm ?_
  refine jq jrc ?_
  refine jq jrm ?_
  refine seq_nil ?_
  refine jcc (fun h219 => ?_) fun h219 => ?_
  · refine jcg ?_
    refine jq jrm ?_
    refine jq (jrde 23) ?_
    refine jq jrnc ?_
    refine jq (jrfa 1 1 false) ?_
    refine jqm (jmstF 1 (fl [.os 1 gl 0 l.length 1, .err 24]) ?_ ?_)
    · exact (fun j hj => by rcases j with _ | _ | j <;> exact CEnt.refl _)
    refine seq_nil ?_
    refine jbn ?_
    have e : leaveK l k = 24 := by unfold leaveK; rw [if_neg (by omega), if_pos (by omega)]
    rw [stay e (by omega), e]
    exact end_pack (gd := fun z : Nat × Option Nat => z.1) (E := rdE l 24) (.inr rfl) _ (n, gl) [0, 1] (by decide) rfl (res_0 rfl) ⟨rfl, rfl⟩
  refine jcr ?_
  refine jq jrm ?_
  refine jq jrnc ?_
  refine jq (jrfa 0 1 false) ?_
  refine jqo jrdo ?_
  refine jq jrm ?_
  refine jq (jri (i := (l.length - 1)) (hz := by omega)) ?_
  refine jqo jrdo ?_
  refine jq jrl ?_
  refine jq jrc ?_
  refine jq jrm ?_
  refine seq_nil ?_
  refine jcc (fun h221 => ?_) fun h221 => ?_
  · refine jcg ?_
    refine jq jrm ?_
    refine jq (jrde 3) ?_
    refine jq jrnc ?_
    refine jq (jrfa 1 1 false) ?_
    refine jqm (jmstF 1 (fl [.os 1 gl 0 l.length 1, .err 4]) ?_ ?_)
    · exact (fun j hj => by rcases j with _ | _ | j <;> exact CEnt.refl _)
    refine seq_nil ?_
    refine jbn ?_
    have e : leaveK l k = 4 := by unfold leaveK; rw [if_neg (by omega), if_neg (by omega), if_pos (by unfold nowL; omega)]
    rw [stay e (by omega), e]
    exact end_pack (gd := fun z : Nat × Option Nat => z.1) (E := rdE l 4) (.inr rfl) _ (n, gl) [0, 1] (by decide) rfl (res_0 rfl) ⟨rfl, rfl⟩
  refine jcg ?_
  refine jq jrm ?_
  refine jq jrm ?_
  refine jq jrnc ?_
  refine jq (jrfa 0 1 false) ?_
  refine jqo jrdo ?_
  refine jq jrm ?_
  refine jq jrso ?_
  refine jq jrnc ?_
  refine jq (jrfa 0 1 false) ?_
  have hk0 : k = 0 := by omega
  refine seq_ent (weakH 1 (l.length - 1) (lbF (l.take (l.length - 1))) rfl (by omega) (fun j hj => lbF_take hj)) ?_
  refine jqm (jmstF 1 (fl [.os 1 gl 0 (l.length - 1) 1, .err 0]) ?_ ?_)
  · exact (fun j hj => by rcases j with _ | _ | j <;> first | exact CEnt.refl _ | exact CEnt.osI (by omega) | exact CEnt.err hk0 | omega)
  refine seq_nil ?_
  refine jbn ?_
  have e : leaveK l k = 0 := by unfold leaveK; rw [if_neg (by omega), if_neg (by omega), if_neg (by unfold nowL; omega)]
  have e2 : leaveL l k = l.take (l.length - 1) := by unfold leaveL; rw [if_pos e]
  have e3 : (l.take (l.length - 1)).length = l.length - 1 := by rw [List.length_take]; omega
  rw [e2, e]
  exact end_pack (gd := fun z : Nat × Option Nat => z.1) (E := rdE (l.take (l.length - 1)) 0) (.inr rfl) _ (n, gl) [0, 1] (by decide) (by unfold rdE; rw [e3]; rfl) (res_0 rfl) ⟨rfl, rfl⟩
/-- the first error, at the end -/
def endK (l : List (List UInt8)) (k : Nat) : Nat := if k ≠ 0 then k else if 1 < l.length then 24 else if 0 < (l.getD 0 []).length then 4 else 0
end Am
end Go.Proofs.YtjckfbpdieijeaaGreatDoor

/- Chapter 8: the reader's values: whole numbers. -/
namespace Go.Proofs.YtjckfbpdieijeaaGreatDoor
set_option linter.unusedVariables false
namespace Am
variable {gs : List Nat} [OkG gs]
open Go.RowKit
set_option maxRecDepth 100000

theorem nextR_is {tag : Int} {l : List (List UInt8)} {k : Nat} (h : (nextR tag l k).is = true) : (nextR tag l k).k = 0 ∧ (nextR tag l k).body.length ≤ 65530 := by
  have hb := nextM_bd (nowL l)
  unfold nextR at h ⊢
  split
  · rename_i h1; rw [if_pos h1] at h; cases h
  · rename_i h1; rw [if_neg h1] at h
    split
    · rename_i h2; rw [if_pos h2] at h; cases h
    · rename_i h2; rw [if_neg h2] at h
      split
      · rename_i h3; rw [if_pos h3] at h; cases h
      · exact ⟨rfl, hb.2.2.1⟩
/-- the reader's error behind a value whose body has this error -/
def valK (tag : Int) (l : List (List UInt8)) (k : Nat) (e : List UInt8 → Nat) : Nat := if (nextR tag l k).is = true then e (nextR tag l k).body else (nextR tag l k).k
theorem nextR_len {tag : Int} {l : List (List UInt8)} {k : Nat} : (nextR tag l k).l.length = l.length := by
  unfold nextR
  split
  · rfl
  · split
    · rfl
    · split
      · rfl
      · simp
theorem valueI_ac {gs : List Nat} [OkG gs] {f : FuncId} {m : Nat} {fv : Nat → CV} (hc : calleeB Tryz.prog f = true) (n : Nat) (l : List (List UInt8)) (k : Nat) (tag : Int) (get : List UInt8 → Int × Nat) (hl : 0 < l.length ∧ l.length ≤ 1000000) (hb : (nowL l).length ≤ 10000000) (hp : ∀ b : List UInt8, b.length ≤ 65530 → ACp gs Tryz.prog f (bsC b :: (List.range m).map fv) (.tup 2 (fl [.c (.int .i64 (get b).1), .err (get b).2]))) :
    AC gs Tryz.prog 79 [rdO n l k] [.op 0 (some n) 0, .c (.int .i64 tag), .fn f m fv]
      (fun r H' => r = .c (.int .i64 (if (nextR tag l k).is = true ∧ (get (nextR tag l k).body).2 = 0 then (get (nextR tag l k).body).1 else 0)) ∧ H' = [rdO n (nextR tag l k).l (valK tag l k fun b => (get b).2)]) := by
  have hln : (nextR tag l k).l.length = l.length := nextR_len
  refine ac_of 38 Tryz.func79 rfl rfl rfl (fun al w0 F0 St0 => ?_)
  refine jcr ?_
  refine jq jrm ?_
  refine seq_nil ?_
  refine jcr ?_
  refine jq jrm ?_
  refine seq_nil ?_
  refine jcr ?_
  refine jq jrm ?_
  refine jq jrm ?_
  refine jqm (jmcH 0 (nextR_ac n l k tag hl hb) ?_)
  rintro _ _ ⟨rfl, rfl⟩
  refine ⟨_, _, rfl, CEnt.refl _, ?_⟩
  refine jq jrm ?_
  refine jq jrx ?_
  refine jq jrx ?_
  refine jq jrx ?_
  refine jqe (jeal (n := 2) zr68 rfl fun p2 => ?_)
  refine jqm (jmst 2 ?_)
  refine jq jrm ?_
  refine jq jrm ?_
  refine seq_nil ?_
  refine jcs ?_
  refine jcr ?_
  refine jq jrm ?_
  refine jq jrn ?_
  refine seq_nil ?_
  refine jcc (fun h232 => ?_) fun h232 => ?_
  · refine jcr ?_
    refine jq jrm ?_
    refine jq jrm ?_
    refine seq_nil ?_
    refine code_ret (jtr ?_)
    rw [if_neg (by simp_all)]
    have e : (valK tag l k fun b => (get b).2) = (nextR tag l k).k := by unfold valK; rw [if_neg (by simpa using h232)]
    rw [e]
    exact end_H (.inl rfl) rfl (res_1 rfl (arv_tmp rfl)) (CEnt.refl _)
  refine code_skip (jtn ?_)
  have his := nextR_is (by simpa using h232)
  refine jcr ?_
  refine jq jrm ?_
  refine jq (jrfa 1 1 false) ?_
  refine jqo jrdo ?_
  refine jqe (e_callV rfl rfl (by assumption) (hp (nextR tag l k).body his.2) (entL_fn (CEnt.refl _) _) rfl rfl ?_)
  rintro _ _ ⟨rfl, rfl⟩
  refine jq jrm ?_
  refine jq jrx ?_
  refine jq jrx ?_
  refine jq jrm ?_
  refine jq jrm ?_
  refine seq_nil ?_
  refine jcs ?_
  refine jcr ?_
  refine jq jrm ?_
  refine jq jre ?_
  refine seq_nil ?_
  refine jcc (fun h236 => ?_) fun h236 => ?_
  rotate_left
  · refine code_skip (jtn ?_)
    refine jcr ?_
    refine jq jrm ?_
    refine jq jrm ?_
    refine seq_nil ?_
    refine code_ret ?_
    have h0 : (get (nextR tag l k).body).2 = 0 := by omega
    rw [if_pos ⟨by simpa using h232, h0⟩]
    have e : (valK tag l k fun b => (get b).2) = (nextR tag l k).k := by unfold valK; rw [if_pos (by simpa using h232), his.1]; exact h0
    rw [e]
    exact end_H (.inl rfl) rfl (res_1 rfl (arv_tmp rfl)) (CEnt.refl _)
  refine code_openR 0 rfl fun gl => ?_
  refine jcr ?_
  refine jq jrm ?_
  refine jq jrm ?_
  refine jq jrnc ?_
  refine jq (jrfa 1 1 false) ?_
  refine jqm (jmst 1 ?_)
  refine seq_nil ?_
  refine code_ent (closeR n (get (nextR tag l k).body).2 (nextR tag l k).l 0 2 rfl rfl rfl (CEnt.osI rfl) (CEnt.refl _) (Nat.le_refl _) (fun _ _ => CEnt.refl _)) ?_
  refine jcr ?_
  refine jq jrm ?_
  refine jq jrm ?_
  refine seq_nil ?_
  refine code_ret (jtr ?_)
  rw [if_neg (by omega)]
  have e : (valK tag l k fun b => (get b).2) = (get (nextR tag l k).body).2 := by unfold valK; rw [if_pos (by simpa using h232)]
  rw [e]
  exact end_H (.inl rfl) rfl (res_1 rfl (arv_tmp rfl)) (CEnt.refl _)
theorem CEnt.fn2' {k : FuncId} {f g : Nat → CV} (h0 : CEnt (f 0) (g 0)) (h1 : CEnt (f 1) (g 1)) : CEnt (.fn k 2 f) (.fn k 2 g) := fun al St w v ⟨cs, k1, k2, k3⟩ => ⟨cs, k1, k2, fun i hi => by
  rcases i with _ | _ | i
  · exact h0 _ _ _ _ (k3 0 (by omega))
  · exact h1 _ _ _ _ (k3 1 (by omega))
  · omega⟩
theorem int_box {z : Int} : ∀ j, j < 1 → CEnt (fl [CV.c (.int .i64 z)] (0 + j)) (CV.c (.int .i64 z)) := fun j hj => by
  obtain rfl : j = 0 := by omega
  exact CEnt.refl _
/-- two numbers that a closure holds -/
def twoF (a b : Int) : Nat → CV := fl [.rp 1 fun _ => .c (.int .i64 a), .rp 1 fun _ => .c (.int .i64 b)]
theorem intG_ac (least most : Int) (b : List UInt8) : ACp gs Tryz.prog 80 (bsC b :: (List.range 2).map (twoF least most)) (.tup 2 (fl [.c (.int .i64 (rangeM b least most).1), .err (rangeM b least most).2])) := by
  refine ac_of 12 Tryz.func80 rfl rfl rfl (fun al w0 F0 St0 => ?_)
  refine jcr ?_
  refine jq jrm ?_
  refine jq jrm ?_
  refine seq_nil ?_
  refine jcr ?_
  refine jq jrm ?_
  refine jq jrdr ?_
  refine jq jrdr ?_
  refine jqe (jecP (wrange_ac b least most) ?_)
  refine jq jrx ?_
  refine jq jrx ?_
  refine jq jrm ?_
  refine jq jrm ?_
  refine seq_nil ?_
  refine code_ret jrt
theorem int08_ac (n : Nat) (l : List (List UInt8)) (k : Nat) (least most : Int) (hl : 0 < l.length ∧ l.length ≤ 1000000) (hb : (nowL l).length ≤ 10000000) :
    AC gs Tryz.prog 41 [rdO n l k] [.op 0 (some n) 0, .c (.int .i64 least), .c (.int .i64 most)]
      (fun r H' => r = .c (.int .i64 (if (nextR 2 l k).is = true ∧ (rangeM (nextR 2 l k).body least most).2 = 0 then (rangeM (nextR 2 l k).body least most).1 else 0)) ∧ H' = [rdO n (nextR 2 l k).l (valK 2 l k fun b => (rangeM b least most).2)]) := by
  refine ac_of 10 Tryz.func41 rfl rfl rfl (fun al w0 F0 St0 => ?_)
  refine jcr ?_
  refine jqe (jebx 1 fun p1 => ?_)
  refine jqe (jebx 1 fun p2 => ?_)
  refine jq jrm ?_
  refine seq_nil ?_
  refine code_ent (freeze 1 rfl) ?_
  refine code_ent (freeze 2 rfl) ?_
  refine code_ent (thawP 4 (m := 1) rfl rfl (by decide)) ?_
  refine code_ent (thawP 5 (m := 1) rfl rfl (by decide)) ?_
  refine jcr ?_
  refine jq jrm ?_
  refine jq jrmf ?_
  refine jqm (jmcH 0 (valueI_ac (fv := twoF least most) (by kernel_rfl) n l k 2 (fun b => rangeM b least most) hl hb (fun b _ => intG_ac least most b)) ?_ (ho := rfl) (he := (.cons (se rfl CEnt.opI) (.cons (se rfl (CEnt.refl _)) (.cons (se rfl (CEnt.fn2' (CEnt.rp int_box) (CEnt.rp int_box))) .nil)))))
  rintro _ _ ⟨rfl, rfl⟩
  refine ⟨_, _, rfl, CEnt.refl _, ?_⟩
  refine jq jrm ?_
  refine seq_nil ?_
  refine code_ret ?_
  exact end_H (.inl rfl) rfl (res_1 rfl (arv_tmp rfl)) (CEnt.refl _)
end Am
end Go.Proofs.YtjckfbpdieijeaaGreatDoor

/- Chapter 8: a reader is made. -/
namespace Go.Proofs.YtjckfbpdieijeaaGreatDoor
set_option linter.unusedVariables false
namespace Am
variable {gs : List Nat} [OkG gs]
open Go.RowKit
set_option maxRecDepth 100000

theorem read08_ac (b : List UInt8) (hb : b.length ≤ 10000000) : AC gs Tryz.prog 16 [] [bsC b] (fun r H' => ∃ n, r = .op 0 (some n) 0 ∧ H' = [rdO n [b] (depthM b).2]) := by
  refine ac_of 10 Tryz.func16 rfl rfl rfl (fun al w0 F0 St0 => ?_)
  refine jcr ?_
  refine jq jrm ?_
  refine seq_nil ?_
  refine jcr ?_
  refine jq jrm ?_
  refine jqe (jecP (clone8_ac b (by omega)) ?_)
  refine jqe (jebl 1 1 zr26 fun p1 => ?_)
  refine jq jrm ?_
  refine jqe (jecP (check_ac b hb) ?_)
  refine jq (rd_build (n := 2) rfl zr93 pl93 rfl rfl) ?_
  refine jqe (jebx 2 fun p2 => ?_)
  refine jq jrm ?_
  refine seq_nil ?_
  refine code_knowG (know_op 2 rfl) fun hn => ?_
  obtain ⟨n, rfl⟩ := hn
  refine code_ent (closeR n (depthM b).2 [b] 1 0 rfl rfl rfl (CEnt.osI rfl) (CEnt.refl _) (Nat.le_refl _) (fun a ha => by obtain rfl : a = 0 := (by simpa using ha); exact CEnt.refl _)) ?_
  refine code_ret ?_
  exact end_ownV (.inl rfl) [1] (by decide) rfl (res_1 rfl (arv_tmp rfl)) (CEnt.opI (j := 0)) ⟨n, rfl, rfl⟩
end Am
end Go.Proofs.YtjckfbpdieijeaaGreatDoor

/- bullanum.Err: the error of a number. -/
namespace Go.Proofs.YtjckfbpdieijeaaGreatDoor
set_option linter.unusedVariables false
namespace Am
variable {gs : List Nat} [OkG gs]
open Go.RowKit
set_option maxRecDepth 100000

end Am
end Go.Proofs.YtjckfbpdieijeaaGreatDoor

/- Chapter 8: what the laws need besides: lists of values, long, errors by number. -/
namespace Go.Proofs.YtjckfbpdieijeaaGreatDoor
set_option linter.unusedVariables false
namespace Am
variable {gs : List Nat} [OkG gs]
open Go.RowKit Cal
set_option maxRecDepth 100000

def valF (v : VV) : Nat → CV := fl [.c (.int .i64 v.kind), .c (.int .i64 v.n), .c (.bool v.is), bsC v.b, strC v.t]
def vsC (vs : List VV) : CV := .rs 5 vs.length fun i j => valF (vs.getD i VV.none) j
def bigV (v : VV) : Bool := decide (300 < v.b.length) || decide (300 < v.t.length)
def longM (vs : List VV) : Bool := decide (60 < vs.length) || vs.any bigV
/-- a new writer of the reference's -/
def r0W : R8 := ⟨[], [], 0⟩
theorem newRW {G : Gh} {env : List (Nat × CV)} {b0 : Nat → CV} {H : List (Option Nat × Res)} (n i : Nat) {f : Nat → CV} (hi : H[i]? = some (some n, .blk 3 f)) (h0 : CEnt (f 0) (.c (.slice none 0 0))) (h1 : CEnt (f 1) (.c (.slice none 0 0))) (h2 : CEnt (f 2) (.c (.int .i64 0))) : EntS G ⟨env, b0, H⟩ ⟨env, b0, H.set i (rwO n r0W)⟩ := by
  have hil := (List.getElem?_eq_some_iff.1 hi).1
  have os0 : ∀ {j k : Nat}, CEnt (.c (.slice none 0 0)) (.os j none 0 0 k) := fun al St w v h => ⟨rfl, h⟩
  intro St a w hr
  obtain ⟨S1, s1, r1⟩ := ent_none (G := G) (s := ⟨env, b0, H⟩) (rowsF []) St a w hr
  obtain ⟨S4, s4, r4⟩ := closeRW (G := G) (env := env) (b0 := b0) (H := H ++ [(none, .blk 0 (rowsF []))]) n r0W i H.length (gr := none) (N := 0) (f := f) (F := rowsF [])
    (by rw [List.getElem?_append_left hil]; exact hi) (by simp) (by cases e : Nat.beq i H.length with | false => rfl | true => have := Nat.eq_of_beq_eq_true e; omega) (h0.trans (CEnt.nilS _ _)) (h1.trans os0) h2 (Nat.le_refl _) (fun a h => absurd h (Nat.not_lt_zero a)) S1 a w r1
  obtain ⟨S5, s5, r5⟩ := pick_ent (G := G) (H' := H.set i (rwO n r0W)) (List.range H.length) (range_nodup _) (by
    rw [pickL_range _ _ (by simp)]
    rw [take_set_out _ _ _ _ (by omega), List.take_set, List.take_left]) S4 a w r4
  exact ⟨S5, fun b hb => s5 b (s4 b (s1 b hb)), r5⟩
/-! ### errors' numbers -/
theorem bodyV_e (v : VV) : (bodyV v).2.2 ≤ 28 := by
  have h1 := asked_bd v.t v.n
  have h2 : (parseM v.t).2 ≤ 4 := by unfold parseM; repeat' split
                                     all_goals (dsimp only; omega)
  unfold bodyV
  repeat' split
  all_goals (dsimp only; first | omega | (unfold ofE; split <;> omega) | (unfold bitsE; split <;> omega))
theorem fail_k {e : Nat} {s : W8} (he : e ≤ 28) (h : s.k ≤ 28) : (failW e s).k ≤ 28 := by unfold failW; split <;> first | exact he | exact h
theorem put_k {t : Int} {b : List UInt8} {e : Nat} {s : W8} (he : e ≤ 28) (h : s.k ≤ 28) : (putW t b e s).k ≤ 28 := by
  unfold putW
  split
  · exact fail_k he h
  · split
    · exact putE_bd _ _
    · rw [addW_k]; exact h
theorem do_k (v : VV) {s : W8} (h : s.k ≤ 28) : (doW v s).k ≤ 28 := by
  unfold doW
  split
  · unfold openW; repeat' split
    all_goals first | exact h | exact Nat.le_of_ble_eq_true rfl
  · split
    · unfold closeV
      split
      · exact h
      · split
        · show 24 ≤ 28; decide
        · exact put_k (by decide) h
    · split
      · unfold rawW
        have hd : (depthM v.b).2 ≤ 28 := Nat.le_trans (depthM_bd v.b).2 (by decide)
        split
        · rw [addW_k]; exact h
        · exact fail_k hd h
      · exact put_k (bodyV_e v) h
theorem done_k {s : W8} (h : s.k ≤ 28) : doneK s ≤ 28 := by unfold doneK; repeat' split
                                                            all_goals omega
end Am
end Go.Proofs.YtjckfbpdieijeaaGreatDoor

/- The abstract walk: a function value that is handed a thing: the two forms that scripts use. -/
namespace Go.Proofs.YtjckfbpdieijeaaGreatDoor
set_option linter.unusedVariables false
open Go.RowKit
namespace Am
section
variable {P : Program} {G : Gh} {o : Oper} {env : List (Nat × CV)} {b0 : Nat → CV} {H : List (Option Nat × Res)} {K : AS → Prop}
theorem m_callHV1 {f : FuncId} {v : Operand} {n d : Nat} {fv : Nat → CV} {xs : Array Operand} {ats : Array TypeId} {args : List CV} {Q : CV → List (Option Nat × Res) → Prop} {i : Nat} {x0 : Option Nat × Res} (ho : o.op = .call ⟨.value v, xs, ats⟩) (hv : (⟨env, b0, H⟩ : AS).eval v = .fn f n fv) (hc : calleeB P f = true) (hi : H[i]? = some x0) (hA : AC G.gs P f [x0] args Q)
    (he : EntL (xs.toList.map (⟨env, b0, H⟩ : AS).eval ++ (List.range n).map fv) args) (hd : o.dst = some d) (hN : Nat.blt d G.N = true)
    (hK : ∀ r H', Q r H' → ∃ x, H' = [x] ∧ K ⟨(d, r) :: env, b0, H.set i x⟩) : AMd P G o ⟨env, b0, H⟩ K :=
  m_callHV ho hv hc hi hA he (dst_s hd hN) (fun r H' hq => by obtain ⟨x, h1, h2⟩ := hK r H' hq; exact ⟨x, h1, by rw [with_some hd]; exact h2⟩)
end
end Am
end Go.Proofs.YtjckfbpdieijeaaGreatDoor

/- Chapter 8: the reader's values of other kinds. -/
namespace Go.Proofs.YtjckfbpdieijeaaGreatDoor
set_option linter.unusedVariables false
namespace Am
variable {gs : List Nat} [OkG gs]
open Go.RowKit
set_option maxRecDepth 100000

end Am
end Go.Proofs.YtjckfbpdieijeaaGreatDoor

/- Texts in a row; texts joined. -/
namespace Go.Proofs.YtjckfbpdieijeaaGreatDoor
set_option linter.unusedVariables false
namespace Am
open Go.RowKit
set_option maxRecDepth 100000

/-! ### texts in a row -/
def ssF (ls : List (List UInt8)) (j : Nat) : CV := strC (ls.getD j [])
def ssC (ls : List (List UInt8)) : CV := .rs 1 ls.length fun i _ => strC (ls.getD i [])
end Am
end Go.Proofs.YtjckfbpdieijeaaGreatDoor

/- Chapter 5: the reference's Right, Split, Parse. -/
namespace Go.Proofs.YtjckfbpdieijeaaGreatDoor
set_option linter.unusedVariables false
namespace Am
variable {gs : List Nat} [Ok2 gs]
open Go.RowKit
set_option maxRecDepth 100000

def inR (n : Int) : Bool := decide (0 ≤ n) && decide (n ≤ 2147483647)
end Am
end Go.Proofs.YtjckfbpdieijeaaGreatDoor

/- Chapter 5: a body's runs; Text, Get. -/
namespace Go.Proofs.YtjckfbpdieijeaaGreatDoor
set_option linter.unusedVariables false
namespace Am
variable {gs : List Nat} [OkG gs]
open Go.RowKit
set_option maxRecDepth 100000

/-! ### a body's runs -/
def runsF (f : FuncId) (g : Option Nat) : CV := .fn f 1 (fl [.op 0 g 0])
/-! ### Text -/
end Am
end Go.Proofs.YtjckfbpdieijeaaGreatDoor

/- Chapter 5: Get. -/
namespace Go.Proofs.YtjckfbpdieijeaaGreatDoor
set_option linter.unusedVariables false
namespace Am
variable {gs : List Nat} [OkG gs]
open Go.RowKit
set_option maxRecDepth 100000

section
variable {b : List UInt8} {k : Nat} {X : List Int}
end
end Am
end Go.Proofs.YtjckfbpdieijeaaGreatDoor

/- Chapter 6: the reference's dates and moments, the example, the laws MomentsSeconds and MomentsAdd. -/
namespace Go.Proofs.YtjckfbpdieijeaaGreatDoor
set_option linter.unusedVariables false
namespace Am
variable {gs : List Nat} [OkG gs]
open Go.RowKit Cal
set_option linter.unusedVariables false
set_option maxRecDepth 100000

end Am
end Go.Proofs.YtjckfbpdieijeaaGreatDoor

/- Chapter 6, plain: what bodies are read as. -/
namespace Go.Proofs.YtjckfbpdieijeaaGreatDoor
namespace Am
open Go.RowKit Cal
set_option linter.unusedVariables false

def dg (b : List UInt8) (i : Nat) : Int := ((b.getD i 0).toNat : Int) - 48
def isDg (b : List UInt8) (i : Nat) : Prop := 48 ≤ ((b.getD i 0).toNat : Int) ∧ ((b.getD i 0).toNat : Int) ≤ 57
instance (b : List UInt8) (i : Nat) : Decidable (isDg b i) := by unfold isDg; infer_instance
def two (b : List UInt8) (j : Nat) : Int := 10 * dg b (2 * j) + dg b (2 * j + 1)
def getD6 (b : List UInt8) : D6 := ⟨100 * two b 0 + two b 1, two b 2, two b 3, two b 4, two b 5, two b 6⟩
def formP (b : List UInt8) : Prop := b.length = 15 ∧ ((b.getD 14 0).toNat : Int) = 90 ∧ ∀ i, i < 14 → isDg b i
instance (b : List UInt8) : Decidable (formP b) := by unfold formP; infer_instance
def getE (b : List UInt8) : Nat := if formP b then (if RightP (getD6 b) then 0 else 1) else 4
def getV (b : List UInt8) : Int := if formP b ∧ RightP (getD6 b) then secM (getD6 b) else 0

/-- the reference's text of a date -/
def texF (x : D6) : List Int := [x.y / 100, x.y % 100, x.m, x.d, x.h, x.mi, x.s]
def texL (x : D6) (i : Nat) : List UInt8 := ((texF x).take i).flatMap fun n => [figc n 10, figc n 1]
end Am
end Go.Proofs.YtjckfbpdieijeaaGreatDoor

/- Chapter 6: the reference's date of a moment and its text, what bodies are read as. -/
namespace Go.Proofs.YtjckfbpdieijeaaGreatDoor
set_option linter.unusedVariables false
namespace Am
variable {gs : List Nat} [OkG gs]
open Go.RowKit Cal
set_option linter.unusedVariables false
set_option maxRecDepth 100000

end Am
end Go.Proofs.YtjckfbpdieijeaaGreatDoor

/- Chapter 6: what all bodies are read as, by the program and by the reference. -/
namespace Go.Proofs.YtjckfbpdieijeaaGreatDoor
set_option linter.unusedVariables false
namespace Am
variable {gs : List Nat} [OkG gs]
open Go.RowKit Cal
set_option linter.unusedVariables false
set_option maxRecDepth 100000

/-- the program's pairs of figures, when i figures are read -/
def twoI (b : List UInt8) (i j : Nat) : Int := if 2 * j + 1 < i then two b j else if 2 * j < i then dg b (2 * j) else 0
def twF (b : List UInt8) (i j : Nat) : CV := .c (.int .i64 (twoI b i j))

def twL (b : List UInt8) (i : Nat) : List Int := (List.range i).map (two b)
end Am
end Go.Proofs.YtjckfbpdieijeaaGreatDoor

/- Chapter 8: the reader: Bool, Flags, Moment, OID, Text, Octets. -/
namespace Go.Proofs.YtjckfbpdieijeaaGreatDoor
set_option linter.unusedVariables false
namespace Am
variable {gs : List Nat} [OkG gs]
open Go.RowKit
set_option maxRecDepth 100000

end Am
end Go.Proofs.YtjckfbpdieijeaaGreatDoor

/- Chapter 8: the reader: Octets, Text. -/
namespace Go.Proofs.YtjckfbpdieijeaaGreatDoor
set_option linter.unusedVariables false
namespace Am
variable {gs : List Nat} [OkG gs]
open Go.RowKit
set_option maxRecDepth 100000

def octM (least most : Int) (b : List UInt8) : List UInt8 × Nat := if (b.length : Int) < least then ([], 2) else if most < (b.length : Int) then ([], 3) else (b, 0)
end Am
end Go.Proofs.YtjckfbpdieijeaaGreatDoor

/- Chapter 8: the laws' own function get. -/
namespace Go.Proofs.YtjckfbpdieijeaaGreatDoor
set_option linter.unusedVariables false
namespace Am
variable {gs : List Nat} [OkG gs]
open Go.RowKit Cal
set_option maxRecDepth 100000

/-- what is asked of a reader -/
structure AA where
  kind : Int
  tag : Int
  least : Int
  most : Int
def askC (a : AA) : CV := .agg 4 (fl [.c (.int .i64 a.kind), .c (.int .i64 a.tag), .c (.int .i64 a.least), .c (.int .i64 a.most)])
def vN (n : Int) : VV := ⟨0, n, false, [], []⟩
def vI (b : Bool) : VV := ⟨0, 0, b, [], []⟩
def vB (b : List UInt8) : VV := ⟨0, 0, false, b, []⟩
def vT (t : List UInt8) : VV := ⟨0, 0, false, [], t⟩
/-- what a body says; the error -/
def saidM (a : AA) (b : List UInt8) : VV × Nat :=
  if a.kind = 3 then (vN (rangeM b a.least a.most).1, (rangeM b a.least a.most).2) else
  if a.kind = 4 then (vN (rangeM b a.least a.most).1, (rangeM b a.least a.most).2) else
  if a.kind = 5 then (vI (isTrueM b).1, (isTrueM b).2) else
  if a.kind = 6 then (vB (octM a.least a.most b).1, (octM a.least a.most b).2) else
  if a.kind = 7 then (vT (if askedM b a.most = 0 then b else []), askedM b a.most) else
  if a.kind = 8 then (vT (ogetM b).1, (ogetM b).2) else
  if a.kind = 9 then (vN (getV b), getE b) else (vN ((maskM b).1 : Nat), (maskM b).2)
def tagA (a : AA) : Int := if a.kind = 3 then 2 else if a.kind = 4 then 10 else if a.kind = 5 then 1 else if a.kind = 6 then 4 else if a.kind = 7 then 12 else if a.kind = 8 then 6 else if a.kind = 9 then 24 else 3
/-- the answer, and the reader behind it -/
structure R8R where
  l : List (List UInt8)
  k : Nat
  v : VV
def readV (tag : Int) (said : List UInt8 → VV × Nat) (l : List (List UInt8)) (k : Nat) : R8R :=
  ⟨(nextR tag l k).l, valK tag l k fun b => (said b).2, if (nextR tag l k).is = true ∧ (said (nextR tag l k).body).2 = 0 then (said (nextR tag l k).body).1 else VV.none⟩
def readR (a : AA) (l : List (List UInt8)) (k : Nat) : R8R :=
  if a.kind = 1 then ⟨enterL a.tag l k, (enterR a.tag l k).k, vI (enterR a.tag l k).is⟩ else
  if a.kind = 2 then ⟨leaveL l k, leaveK l k, VV.none⟩ else
  if a.kind = 11 then ⟨(nextR 0 l k).l, (nextR 0 l k).k, vB (nextR 0 l k).raw⟩ else readV (tagA a) (saidM a) l k
theorem readR_g {α : Type} (c : α → VV) (z : α) (hz : c z = VV.none) {a : AA} {l : List (List UInt8)} {k : Nat} {t : Int} {f : List UInt8 → α × Nat} (h1 : a.kind ≠ 1) (h2 : a.kind ≠ 2) (h3 : a.kind ≠ 11) (hs : saidM a = fun b => (c (f b).1, (f b).2)) (ht : tagA a = t) :
    readR a l k = ⟨(nextR t l k).l, valK t l k fun b => (f b).2, c (if (nextR t l k).is = true ∧ (f (nextR t l k).body).2 = 0 then (f (nextR t l k).body).1 else z)⟩ := by
  subst ht
  unfold readR
  rw [if_neg h1, if_neg h2, if_neg h3]
  unfold readV
  rw [hs]
  simp only
  split
  · rfl
  · rw [hz]
end Am
end Go.Proofs.YtjckfbpdieijeaaGreatDoor

/- Chapter 8: the reference's reader. -/
namespace Go.Proofs.YtjckfbpdieijeaaGreatDoor
set_option linter.unusedVariables false
namespace Am
variable {gs : List Nat} [OkG gs]
open Go.RowKit Cal
set_option maxRecDepth 100000

/-- the reference's reader -/
def rqF (l : List (List UInt8)) (k : Nat) : Nat → CV := fl [lbC l, .c (.int .i64 (k : Nat))]
def rqE (n : Nat) (l : List (List UInt8)) (k : Nat) : Option Nat × Res := (some n, .blk 2 (rqF l k))
theorem rread08_ac {gs : List Nat} (b : List UInt8) (hb : b.length ≤ 1000000) : AC gs Tryz.prog 17 [] [bsC b] (fun r H' => ∃ n, r = .op 0 (some n) 0 ∧ H' = [rqE n [b] (depthM b).2]) := by
  refine ac_of 15 Tryz.func17 rfl rfl rfl (fun al w0 F0 St0 => ?_)
  refine jcr ?_
  refine jq jrm ?_
  refine seq_nil ?_
  refine jcr ?_
  refine jq jrm ?_
  refine jqe (jecP (rcheck_ac b hb) ?_)
  refine jq jrm ?_
  refine jq jrx ?_
  refine jq jrx ?_
  refine jq jrm ?_
  refine jq jrm ?_
  refine seq_nil ?_
  refine jcr ?_
  refine jq jrm ?_
  refine jqe (jebl 1 1 zr26 fun p1 => ?_)
  refine jq jrm ?_
  refine jq (rd_build (n := 2) rfl zr58 pl58 rfl rfl) ?_
  refine jqe (jebx 2 fun p2 => ?_)
  refine jq jrm ?_
  refine seq_nil ?_
  refine code_knowG (know_op 2 rfl) fun hn => ?_
  obtain ⟨n, rfl⟩ := hn
  refine code_ent (freeze 0 rfl) ?_
  refine code_ent (thawC 1 0 0 (rqF [b] (depthM b).2) (fun i _ => bsC ([b].getD i [])) rfl rfl (CEnt.refl _) (CEnt.refl _) (fun j hj h0 => by rcases j with _ | _ | j <;> first | omega | exact CEnt.refl _) (by simp) (fun a c ha hc => by obtain rfl : a = 0 := (by simpa using ha); obtain rfl : c = 0 := (by omega); exact CEnt.refl _)) ?_
  refine code_ret ?_
  exact end_ownV (.inl rfl) [1] (by decide) rfl (res_1 rfl (arv_tmp rfl)) (CEnt.opI (j := 0)) ⟨n, rfl, rfl⟩
theorem rmore08_ac {gs : List Nat} (n : Nat) (l : List (List UInt8)) (k : Nat) (hl : 0 < l.length ∧ l.length ≤ 1000000) : AC gs Tryz.prog 21 [rqE n l k] [.op 0 (some n) 0] (fun r H' => r = .c (.bool (moreM l k)) ∧ H' = [rqE n l k]) := by
  refine ac_of 24 Tryz.func21 rfl rfl rfl (fun al w0 F0 St0 => ?_)
  refine jcr ?_
  refine jq jrm ?_
  refine seq_nil ?_
  refine jcs ?_
  refine jcd (.rd 0 (.rd 1 (.rd 2 (.rd 3 (.rd 4 (.rd 5 (.rd 6 (.rd 7 (.rd 8 (.rd 9 (.rd 10 (.rd 11 (.rd 12 (.rd 13 (.rd 14 (.rd 15 (.rd 16 (.rd 17 (.rd 18 (.rd 19 (.rd 20 (.rd 21 .done)))))))))))))))))))))) ?_
  refine jyq jrm ?_
  refine jyq jrnc ?_
  refine jyq (jrfa 1 1 false) ?_
  refine jyo jrdo ?_
  refine jyq jrc ?_
  refine jyq jrm ?_
  refine jysp 8 (fun g182 => ?_) fun g182 => ?_
  · refine jyq jrm ?_
    refine jyq jrnc ?_
    refine jyq (jrfa 0 1 false) ?_
    refine jyo jrdo ?_
    refine jyq jrm ?_
    refine jyq jrnc ?_
    refine jyq (jrfa 0 1 false) ?_
    refine jyo jrdo ?_
    refine jyq jrl ?_
    refine jyq jra ?_
    refine jyq (jri (i := (l.length - 1)) (hz := by omega)) ?_
    refine jyq jrdr ?_
    refine jyq jrl ?_
    refine jyq jrc ?_
    refine jyq jrpT ?_
    refine jyq jrm ?_
    refine jyd ?_
    refine jtn ?_
    refine code_ret ?_
    exact end_H (.inl rfl) rfl (res_1 rfl (arv_tmp rfl)) (CEnt.bool (by unfold moreM nowL; (simp [g182]; omega)))
  refine jys ?_
  refine jys ?_
  refine jys ?_
  refine jys ?_
  refine jys ?_
  refine jys ?_
  refine jys ?_
  refine jys ?_
  refine jys ?_
  refine jys ?_
  refine jys ?_
  refine jys ?_
  refine jys ?_
  refine jys ?_
  refine jyq jrpF ?_
  refine jyq jrm ?_
  refine jyd ?_
  refine jtn ?_
  refine code_ret ?_
  exact end_H (.inl rfl) rfl (res_1 rfl (arv_tmp rfl)) (CEnt.bool (by unfold moreM nowL; (simp [g182]; omega)))
end Am
end Go.Proofs.YtjckfbpdieijeaaGreatDoor

/- Chapter 8: the reference's reader: next. -/
namespace Go.Proofs.YtjckfbpdieijeaaGreatDoor
set_option linter.unusedVariables false
namespace Am
variable {gs : List Nat} [OkG gs]
open Go.RowKit Cal
set_option maxRecDepth 100000

theorem lb_take8 {l : List (List UInt8)} {m j : Nat} (h : j < (l.take m).length) : bsC (l.getD (0 + j / 1) []) = lbF (l.take m) j := by
  rw [Nat.zero_add, Nat.div_one]
  rw [List.length_take] at h
  simp [lbF, List.getD_eq_getElem?_getD, List.getElem?_take, show j < m by omega]
theorem lset {l : List (List UInt8)} (h : 0 < l.length) (x : List UInt8) : l.set (l.length - 1) x = l.take (l.length - 1) ++ [x] := by
  apply List.ext_getElem?
  intro i
  rw [List.getElem?_set, List.getElem?_append, List.length_take]
  by_cases h1 : l.length - 1 = i
  · subst h1
    rw [if_pos rfl, if_pos (by omega), if_neg (by omega)]
    simp
  · rw [if_neg h1]
    by_cases h2 : i < l.length - 1
    · rw [if_pos (by omega), List.getElem?_take, if_pos h2]
    · rw [if_neg (by omega), List.getElem?_eq_none (by omega), List.getElem?_eq_none (by simp; omega)]
theorem rnext08_ac {gs : List Nat} (n : Nat) (l : List (List UInt8)) (k : Nat) (tag : Int) (hl : 0 < l.length ∧ l.length ≤ 1000000) (hb : (nowL l).length ≤ 1000000) : AC gs Tryz.prog 53 [rqE n l k] [.op 0 (some n) 0, .c (.int .i64 tag)]
    (fun r H' => r = .tup 3 (fl [bsC (nextR tag l k).body, bsC (nextR tag l k).raw, .c (.bool (nextR tag l k).is)]) ∧ H' = [rqE n (nextR tag l k).l (nextR tag l k).k]) := by
  have hnb := nextM_bd (nowL l)
  refine ac_of 81 Tryz.func53 rfl rfl rfl (fun al w0 F0 St0 => ?_)
  refine jcr ?_
  refine jq jrm ?_
  refine jq jrm ?_
  refine jq jrm ?_
  refine seq_nil ?_
  refine jcs ?_
  refine jcr ?_
  refine jq jrm ?_
  refine jq jrnc ?_
  refine jq (jrfa 1 1 false) ?_
  refine jqo jrdo ?_
  refine jq jrc ?_
  refine seq_nil ?_
  refine jcc (fun h165 => ?_) fun h165 => ?_
  · refine jcr ?_
    refine jq jrm ?_
    refine jq jrm ?_
    refine jq jrm ?_
    refine seq_nil ?_
    refine code_ret (jtr ?_)
    have hN : nextR tag l k = ⟨l, k, 0, [], [], false⟩ := by unfold nextR; rw [if_pos (by omega)]
    rw [hN]
    exact end_H (.inl rfl) rfl (res_3 rfl javt javt javt) (CEnt.tup3 CEnt.nilB CEnt.nilB (CEnt.refl _))
  refine code_skip (jtn ?_)
  refine jcs ?_
  refine jcd (.rd 0 (.rd 1 (.rd 2 (.rd 3 (.rd 4 (.rd 5 (.rd 6 (.rd 7 (.rd 8 (.rd 9 (.rd 10 (.rd 11 (.rd 12 .done))))))))))))) ?_
  refine jyq jrm ?_
  refine jyq jrnc ?_
  refine jyq (jrfa 0 1 false) ?_
  refine jyo jrdo ?_
  refine jyq jrm ?_
  refine jyq jrnc ?_
  refine jyq (jrfa 0 1 false) ?_
  refine jyo jrdo ?_
  refine jyq jrl ?_
  refine jyq jra ?_
  refine jyq (jri (i := (l.length - 1)) (hz := by omega)) ?_
  refine jyq jrdr ?_
  refine jyq jrm ?_
  refine jyd ?_
  refine jtn ?_
  obtain rfl : k = 0 := by omega
  refine code_ent (weaken 7 (bsC (nowL l)) (CEnt.refl _)) ?_
  refine jcr ?_
  refine jq jrm ?_
  refine jqe (jecP (rnext_ac (nowL l) (by omega)) ?_)
  refine jq jrm ?_
  refine jq jrx ?_
  refine jq jrx ?_
  refine jq jrx ?_
  refine jq jrx ?_
  refine jq jrm ?_
  refine jq jrm ?_
  refine jq jrm ?_
  refine jq jrm ?_
  refine seq_nil ?_
  refine jcs ?_
  refine jcr ?_
  refine jq jrm ?_
  refine jq jrc ?_
  refine jq jrm ?_
  refine jqsp 38 (fun g170 => ?_) fun g170 => ?_
  rotate_left
  · refine jqs ?_
    refine jqs ?_
    refine jq jrpF ?_
    refine jq jrm ?_
    refine jqs ?_
    refine jqs ?_
    refine jqs ?_
    refine jq jrpF ?_
    refine seq_nil ?_
    refine jcF ?_
    refine code_skip (jtn ?_)
    refine jcs ?_
    refine jcr ?_
    refine jq jrm ?_
    refine jq jrc ?_
    refine seq_nil ?_
    refine jcc (fun h173 => ?_) fun h173 => ?_
    · first
        | (have hN : nextR tag l 0 = ⟨l, (nextM (nowL l)).e, 0, [], [], false⟩ := by unfold nextR; rw [if_neg (by omega), if_pos (by omega)])
        | (have hN : nextR tag l 0 = ⟨l, 5, 0, [], [], false⟩ := by unfold nextR; rw [if_neg (by omega), if_neg (by omega), if_pos (by omega)])
      refine jcr ?_
      refine jq jrm ?_
      refine jq jrm ?_
      refine jq jrnc ?_
      refine jq (jrfa 1 1 false) ?_
      refine jqm (jmstF 1 (rqF l (nextR tag l 0).k) ?_ ?_)
      · exact (fun j hj => by rcases j with _ | _ | j <;> first | exact CEnt.refl _ | exact CEnt.int (by rw [hN]; rfl) | exact CEnt.int (by rw [hN]) | omega)
      refine seq_nil ?_
      refine jcr ?_
      refine jq jrm ?_
      refine jq jrm ?_
      refine jq jrm ?_
      refine seq_nil ?_
      refine code_ret (jtr ?_)
      rw [hN]
      exact end_H (.inl rfl) rfl (res_3 rfl javt javt javt) (CEnt.tup3 CEnt.nilB CEnt.nilB (CEnt.refl _))
    refine code_skip (jtn ?_)
    refine jcs ?_
    have hc := nextM_cut (b := nowL l) (by omega)
    have hN : nextR tag l 0 = ⟨l.set (l.length - 1) (nextM (nowL l)).rest, 0, (nextM (nowL l)).tag, (nextM (nowL l)).body, (nowL l).take ((nowL l).length - (nextM (nowL l)).rest.length), true⟩ := by unfold nextR; rw [if_neg (by omega), if_neg (by omega), if_neg (by omega)]
    have hN : nextR tag l 0 = ⟨[] ++ l.take (l.length - 1) ++ [(nextM (nowL l)).rest], 0, (nextM (nowL l)).tag, (nextM (nowL l)).body, (nowL l).take ((nowL l).length - (nextM (nowL l)).rest.length), true⟩ := by rw [hN, lset hl.1]; rfl
    refine jcdZ (.rd 0 (.rd 2 (.rd 3 (.rd 4 (.rd 5 (.rd 6 (.rd 7 (.rd 8 (.rd 9 (.rd 10 (.rd 11 (.rd 12 (.rd 14 (.rd 15 (.rd 16 (.two 1 (.two 13 (.one 17 (.one 18 (.rd 19 (.rd 20 (.one 21 .done))))) 17 (.one 13 (.one 18 (.rd 19 (.rd 20 (.one 21 .done)))))) 17 (.one 1 (.one 13 (.one 18 (.rd 19 (.rd 20 (.one 21 .done)))))))))))))))))))))) ?_
    refine jzq jrm ?_
    refine jzq jrm ?_
    refine jzq jrnc ?_
    refine jzq (jrfa 0 1 false) ?_
    refine jzo jrdo ?_
    refine jzq jrm ?_
    refine jzq jrnc ?_
    refine jzq (jrfa 0 1 false) ?_
    refine jzo jrdo ?_
    refine jzq jrl ?_
    refine jzq jra ?_
    refine jzq (jrsr (hl := (bd_none _ _)) (hu := (bd_some rfl (show _ = (((l.length - 1) : Nat) : Int) by omega)))) ?_
    refine jzq jrm ?_
    refine jzq jrm ?_
    refine jzq (jrsf (hz1 := (show _ = (((toM (nowL l)) : Nat) : Int) by omega))) ?_
    refine jztwo ?_ ?_
    · refine jze (jebl 0 1 zr26 fun p1 => ?_)
      refine jztwo ?_ ?_
      · refine jzm (m_appendC rowC_lb (l := []) (l2 := l.take (l.length - 1)) rfl rfl rfl rfl (Nat.le_of_eq (Nat.zero_mul _)) (fun j hj => absurd hj (by simp)) (src_rs rfl) (by rw [List.length_take]; omega) (fun j hj => CEnt.of_eq (lb_take8 (by omega))) Tryz.underlying56 nu56 sz26 zr26 by26 rfl (by simp; omega) (by simp; omega) (fun j hj => rfl) rfl rfl (Nat.mul_one _) (fun p2 => ?_))
        refine z_ent (weaken 69 (bsC (nextM (nowL l)).rest) (CEnt.bs hc.2.1.symm)) ?_
        refine jze (jebl 1 1 zr26 fun p3 => ?_)
        refine jzm (m_appendC (rowC_lb) (l2 := [(nextM (nowL l)).rest]) rfl rfl rfl rfl (by omega) (fun _ _ => CEnt.refl _) (src_os rfl (.inl rfl) (by decide)) rfl (fun j hj => by rcases j with _|j <;> first | exact CEnt.refl _ | exact CEnt.int (by omega) | (exfalso; simp at hj <;> omega)) Tryz.underlying56 nu56 sz26 zr26 by26 rfl (by omega) (by omega) (leaf_flk rfl rfl) rfl rfl rfl (fun p4 => ?_))
        refine jzq jrnc ?_
        refine jzq (jrfa 0 1 false) ?_
        refine jzm (jmst 1 ?_)
        refine jzd ?_
        refine jtn ?_
        refine jcs ?_
        first
          | (refine code_ent (freeze 1 rfl) ?_; refine code_ent (thawC 0 0 1 (rqF ([] ++ l.take (l.length - 1) ++ [(nextM (nowL l)).rest]) 0) (fun i _ => bsC (([] ++ l.take (l.length - 1) ++ [(nextM (nowL l)).rest]).getD i [])) rfl rfl (CEnt.refl _) (CEnt.refl _) (fun j hj h0 => by rcases j with _ | _ | j <;> omega) (by simp) (fun a c ha hc => by obtain rfl : c = 0 := (by omega); rw [Nat.zero_add, Nat.mul_one, Nat.add_zero]; exact CEnt.refl _)) ?_; dsimp only [List.set_cons_zero, List.set_cons_succ, List.cons_append, List.nil_append, List.length_cons, List.length_nil, Nat.zero_add, Nat.reduceAdd])
          | (refine code_ent (freeze 2 rfl) ?_; refine code_ent (thawC 0 0 2 (rqF ([] ++ l.take (l.length - 1) ++ [(nextM (nowL l)).rest]) 0) (fun i _ => bsC (([] ++ l.take (l.length - 1) ++ [(nextM (nowL l)).rest]).getD i [])) rfl rfl (CEnt.refl _) (CEnt.refl _) (fun j hj h0 => by rcases j with _ | _ | j <;> first | omega | exact CEnt.refl _) (by simp) (fun a c ha hc => by obtain rfl : c = 0 := (by omega); rw [Nat.zero_add, Nat.mul_one, Nat.add_zero]; exact CEnt.refl _)) ?_; dsimp only [List.set_cons_zero, List.set_cons_succ, List.cons_append, List.nil_append, List.length_cons, List.length_nil, Nat.zero_add, Nat.reduceAdd])
        refine jcd (.rd 0 (.rd 1 (.rd 2 (.rd 3 (.rd 4 (.rd 5 (.rd 6 (.rd 7 (.rd 8 (.rd 9 .done)))))))))) ?_
        refine jyq jrm ?_
        refine jyq jrm ?_
        refine jyq jrm ?_
        refine jyq (jrsb (hz1 := (show _ = (((fromM (nowL l)) : Nat) : Int) by omega)) (hz2 := (show _ = (((toM (nowL l)) : Nat) : Int) by omega))) ?_
        refine jyq jrm ?_
        refine jyq jrm ?_
        refine jyq (jrst (hz2 := (show _ = (((toM (nowL l)) : Nat) : Int) by omega))) ?_
        refine jyq jrm ?_
        refine jyq jrm ?_
        refine jyq jrm ?_
        refine jyd ?_
        refine jtn ?_
        refine code_ret ?_
        rw [hN]
        refine end_H (.inl rfl) rfl (res_3 rfl javt javt javt) (CEnt.tup3 (CEnt.bs ?_) (CEnt.bs ?_) (CEnt.refl _))
        · exact hc.1.symm
        · rw [take_toM (by omega)]
      · refine z_ent (weaken 69 (bsC (nextM (nowL l)).rest) (CEnt.bs hc.2.1.symm)) ?_
        refine jze (jebl 1 1 zr26 fun p2 => ?_)
        refine jzm (m_appendC rowC_lb (l := []) (l2 := l.take (l.length - 1)) rfl rfl rfl rfl (Nat.le_of_eq (Nat.zero_mul _)) (fun j hj => absurd hj (by simp)) (src_rs rfl) (by rw [List.length_take]; omega) (fun j hj => CEnt.of_eq (lb_take8 (by omega))) Tryz.underlying56 nu56 sz26 zr26 by26 rfl (by simp; omega) (by simp; omega) (fun j hj => rfl) rfl rfl (Nat.mul_one _) (fun p3 => ?_))
        refine jzm (m_appendC (rowC_lb) (l2 := [(nextM (nowL l)).rest]) rfl rfl rfl rfl (by omega) (fun _ _ => CEnt.refl _) (src_os rfl (.inl rfl) (by decide)) rfl (fun j hj => by rcases j with _|j <;> first | exact CEnt.refl _ | exact CEnt.int (by omega) | (exfalso; simp at hj <;> omega)) Tryz.underlying56 nu56 sz26 zr26 by26 rfl (by omega) (by omega) (leaf_flk rfl rfl) rfl rfl rfl (fun p4 => ?_))
        refine jzq jrnc ?_
        refine jzq (jrfa 0 1 false) ?_
        refine jzm (jmst 1 ?_)
        refine jzd ?_
        refine jtn ?_
        refine jcs ?_
        first
          | (refine code_ent (freeze 1 rfl) ?_; refine code_ent (thawC 0 0 1 (rqF ([] ++ l.take (l.length - 1) ++ [(nextM (nowL l)).rest]) 0) (fun i _ => bsC (([] ++ l.take (l.length - 1) ++ [(nextM (nowL l)).rest]).getD i [])) rfl rfl (CEnt.refl _) (CEnt.refl _) (fun j hj h0 => by rcases j with _ | _ | j <;> omega) (by simp) (fun a c ha hc => by obtain rfl : c = 0 := (by omega); rw [Nat.zero_add, Nat.mul_one, Nat.add_zero]; exact CEnt.refl _)) ?_; dsimp only [List.set_cons_zero, List.set_cons_succ, List.cons_append, List.nil_append, List.length_cons, List.length_nil, Nat.zero_add, Nat.reduceAdd])
          | (refine code_ent (freeze 2 rfl) ?_; refine code_ent (thawC 0 0 2 (rqF ([] ++ l.take (l.length - 1) ++ [(nextM (nowL l)).rest]) 0) (fun i _ => bsC (([] ++ l.take (l.length - 1) ++ [(nextM (nowL l)).rest]).getD i [])) rfl rfl (CEnt.refl _) (CEnt.refl _) (fun j hj h0 => by rcases j with _ | _ | j <;> first | omega | exact CEnt.refl _) (by simp) (fun a c ha hc => by obtain rfl : c = 0 := (by omega); rw [Nat.zero_add, Nat.mul_one, Nat.add_zero]; exact CEnt.refl _)) ?_; dsimp only [List.set_cons_zero, List.set_cons_succ, List.cons_append, List.nil_append, List.length_cons, List.length_nil, Nat.zero_add, Nat.reduceAdd])
        refine jcd (.rd 0 (.rd 1 (.rd 2 (.rd 3 (.rd 4 (.rd 5 (.rd 6 (.rd 7 (.rd 8 (.rd 9 .done)))))))))) ?_
        refine jyq jrm ?_
        refine jyq jrm ?_
        refine jyq jrm ?_
        refine jyq (jrsb (hz1 := (show _ = (((fromM (nowL l)) : Nat) : Int) by omega)) (hz2 := (show _ = (((toM (nowL l)) : Nat) : Int) by omega))) ?_
        refine jyq jrm ?_
        refine jyq jrm ?_
        refine jyq (jrst (hz2 := (show _ = (((toM (nowL l)) : Nat) : Int) by omega))) ?_
        refine jyq jrm ?_
        refine jyq jrm ?_
        refine jyq jrm ?_
        refine jyd ?_
        refine jtn ?_
        refine code_ret ?_
        rw [hN]
        refine end_H (.inl rfl) rfl (res_3 rfl javt javt javt) (CEnt.tup3 (CEnt.bs ?_) (CEnt.bs ?_) (CEnt.refl _))
        · exact hc.1.symm
        · rw [take_toM (by omega)]
    · refine z_ent (weaken 69 (bsC (nextM (nowL l)).rest) (CEnt.bs hc.2.1.symm)) ?_
      refine jze (jebl 1 1 zr26 fun p1 => ?_)
      refine jze (jebl 0 1 zr26 fun p2 => ?_)
      refine jzm (m_appendC rowC_lb (l := []) (l2 := l.take (l.length - 1)) rfl rfl rfl rfl (Nat.le_of_eq (Nat.zero_mul _)) (fun j hj => absurd hj (by simp)) (src_rs rfl) (by rw [List.length_take]; omega) (fun j hj => CEnt.of_eq (lb_take8 (by omega))) Tryz.underlying56 nu56 sz26 zr26 by26 rfl (by simp; omega) (by simp; omega) (fun j hj => rfl) rfl rfl (Nat.mul_one _) (fun p3 => ?_))
      refine jzm (m_appendC (rowC_lb) (l2 := [(nextM (nowL l)).rest]) rfl rfl rfl rfl (by omega) (fun _ _ => CEnt.refl _) (src_os rfl (.inl rfl) (by decide)) rfl (fun j hj => by rcases j with _|j <;> first | exact CEnt.refl _ | exact CEnt.int (by omega) | (exfalso; simp at hj <;> omega)) Tryz.underlying56 nu56 sz26 zr26 by26 rfl (by omega) (by omega) (leaf_flk rfl rfl) rfl rfl rfl (fun p4 => ?_))
      refine jzq jrnc ?_
      refine jzq (jrfa 0 1 false) ?_
      refine jzm (jmst 1 ?_)
      refine jzd ?_
      refine jtn ?_
      refine jcs ?_
      first
        | (refine code_ent (freeze 1 rfl) ?_; refine code_ent (thawC 0 0 1 (rqF ([] ++ l.take (l.length - 1) ++ [(nextM (nowL l)).rest]) 0) (fun i _ => bsC (([] ++ l.take (l.length - 1) ++ [(nextM (nowL l)).rest]).getD i [])) rfl rfl (CEnt.refl _) (CEnt.refl _) (fun j hj h0 => by rcases j with _ | _ | j <;> omega) (by simp) (fun a c ha hc => by obtain rfl : c = 0 := (by omega); rw [Nat.zero_add, Nat.mul_one, Nat.add_zero]; exact CEnt.refl _)) ?_; dsimp only [List.set_cons_zero, List.set_cons_succ, List.cons_append, List.nil_append, List.length_cons, List.length_nil, Nat.zero_add, Nat.reduceAdd])
        | (refine code_ent (freeze 2 rfl) ?_; refine code_ent (thawC 0 0 2 (rqF ([] ++ l.take (l.length - 1) ++ [(nextM (nowL l)).rest]) 0) (fun i _ => bsC (([] ++ l.take (l.length - 1) ++ [(nextM (nowL l)).rest]).getD i [])) rfl rfl (CEnt.refl _) (CEnt.refl _) (fun j hj h0 => by rcases j with _ | _ | j <;> omega) (by simp) (fun a c ha hc => by obtain rfl : c = 0 := (by omega); rw [Nat.zero_add, Nat.mul_one, Nat.add_zero]; exact CEnt.refl _)) ?_; dsimp only [List.set_cons_zero, List.set_cons_succ, List.cons_append, List.nil_append, List.length_cons, List.length_nil, Nat.zero_add, Nat.reduceAdd])
      refine jcd (.rd 0 (.rd 1 (.rd 2 (.rd 3 (.rd 4 (.rd 5 (.rd 6 (.rd 7 (.rd 8 (.rd 9 .done)))))))))) ?_
      refine jyq jrm ?_
      refine jyq jrm ?_
      refine jyq jrm ?_
      refine jyq (jrsb (hz1 := (show _ = (((fromM (nowL l)) : Nat) : Int) by omega)) (hz2 := (show _ = (((toM (nowL l)) : Nat) : Int) by omega))) ?_
      refine jyq jrm ?_
      refine jyq jrm ?_
      refine jyq (jrst (hz2 := (show _ = (((toM (nowL l)) : Nat) : Int) by omega))) ?_
      refine jyq jrm ?_
      refine jyq jrm ?_
      refine jyq jrm ?_
      refine jyd ?_
      refine jtn ?_
      refine code_ret ?_
      rw [hN]
      refine end_H (.inl rfl) rfl (res_3 rfl javt javt javt) (CEnt.tup3 (CEnt.bs ?_) (CEnt.bs ?_) (CEnt.refl _))
      · exact hc.1.symm
      · rw [take_toM (by omega)]
  refine jq jrm ?_
  refine jq jrc ?_
  refine jq jrpT ?_
  refine jq jrm ?_
  refine jqsp 42 (fun g170_2 => ?_) fun g170_2 => ?_
  rotate_left
  · refine jqs ?_
    refine jqs ?_
    refine jqs ?_
    refine jq jrpF ?_
    refine seq_nil ?_
    refine jcF ?_
    refine code_skip (jtn ?_)
    refine jcs ?_
    refine jcr ?_
    refine jq jrm ?_
    refine jq jrc ?_
    refine seq_nil ?_
    refine jcc (fun h173 => ?_) fun h173 => ?_
    · first
        | (have hN : nextR tag l 0 = ⟨l, (nextM (nowL l)).e, 0, [], [], false⟩ := by unfold nextR; rw [if_neg (by omega), if_pos (by omega)])
        | (have hN : nextR tag l 0 = ⟨l, 5, 0, [], [], false⟩ := by unfold nextR; rw [if_neg (by omega), if_neg (by omega), if_pos (by omega)])
      refine jcr ?_
      refine jq jrm ?_
      refine jq jrm ?_
      refine jq jrnc ?_
      refine jq (jrfa 1 1 false) ?_
      refine jqm (jmstF 1 (rqF l (nextR tag l 0).k) ?_ ?_)
      · exact (fun j hj => by rcases j with _ | _ | j <;> first | exact CEnt.refl _ | exact CEnt.int (by rw [hN]; rfl) | exact CEnt.int (by rw [hN]) | omega)
      refine seq_nil ?_
      refine jcr ?_
      refine jq jrm ?_
      refine jq jrm ?_
      refine jq jrm ?_
      refine seq_nil ?_
      refine code_ret (jtr ?_)
      rw [hN]
      exact end_H (.inl rfl) rfl (res_3 rfl javt javt javt) (CEnt.tup3 CEnt.nilB CEnt.nilB (CEnt.refl _))
    refine code_skip (jtn ?_)
    refine jcs ?_
    have hc := nextM_cut (b := nowL l) (by omega)
    have hN : nextR tag l 0 = ⟨l.set (l.length - 1) (nextM (nowL l)).rest, 0, (nextM (nowL l)).tag, (nextM (nowL l)).body, (nowL l).take ((nowL l).length - (nextM (nowL l)).rest.length), true⟩ := by unfold nextR; rw [if_neg (by omega), if_neg (by omega), if_neg (by omega)]
    have hN : nextR tag l 0 = ⟨[] ++ l.take (l.length - 1) ++ [(nextM (nowL l)).rest], 0, (nextM (nowL l)).tag, (nextM (nowL l)).body, (nowL l).take ((nowL l).length - (nextM (nowL l)).rest.length), true⟩ := by rw [hN, lset hl.1]; rfl
    refine jcdZ (.rd 0 (.rd 2 (.rd 3 (.rd 4 (.rd 5 (.rd 6 (.rd 7 (.rd 8 (.rd 9 (.rd 10 (.rd 11 (.rd 12 (.rd 14 (.rd 15 (.rd 16 (.two 1 (.two 13 (.one 17 (.one 18 (.rd 19 (.rd 20 (.one 21 .done))))) 17 (.one 13 (.one 18 (.rd 19 (.rd 20 (.one 21 .done)))))) 17 (.one 1 (.one 13 (.one 18 (.rd 19 (.rd 20 (.one 21 .done)))))))))))))))))))))) ?_
    refine jzq jrm ?_
    refine jzq jrm ?_
    refine jzq jrnc ?_
    refine jzq (jrfa 0 1 false) ?_
    refine jzo jrdo ?_
    refine jzq jrm ?_
    refine jzq jrnc ?_
    refine jzq (jrfa 0 1 false) ?_
    refine jzo jrdo ?_
    refine jzq jrl ?_
    refine jzq jra ?_
    refine jzq (jrsr (hl := (bd_none _ _)) (hu := (bd_some rfl (show _ = (((l.length - 1) : Nat) : Int) by omega)))) ?_
    refine jzq jrm ?_
    refine jzq jrm ?_
    refine jzq (jrsf (hz1 := (show _ = (((toM (nowL l)) : Nat) : Int) by omega))) ?_
    refine jztwo ?_ ?_
    · refine jze (jebl 0 1 zr26 fun p1 => ?_)
      refine jztwo ?_ ?_
      · refine jzm (m_appendC rowC_lb (l := []) (l2 := l.take (l.length - 1)) rfl rfl rfl rfl (Nat.le_of_eq (Nat.zero_mul _)) (fun j hj => absurd hj (by simp)) (src_rs rfl) (by rw [List.length_take]; omega) (fun j hj => CEnt.of_eq (lb_take8 (by omega))) Tryz.underlying56 nu56 sz26 zr26 by26 rfl (by simp; omega) (by simp; omega) (fun j hj => rfl) rfl rfl (Nat.mul_one _) (fun p2 => ?_))
        refine z_ent (weaken 69 (bsC (nextM (nowL l)).rest) (CEnt.bs hc.2.1.symm)) ?_
        refine jze (jebl 1 1 zr26 fun p3 => ?_)
        refine jzm (m_appendC (rowC_lb) (l2 := [(nextM (nowL l)).rest]) rfl rfl rfl rfl (by omega) (fun _ _ => CEnt.refl _) (src_os rfl (.inl rfl) (by decide)) rfl (fun j hj => by rcases j with _|j <;> first | exact CEnt.refl _ | exact CEnt.int (by omega) | (exfalso; simp at hj <;> omega)) Tryz.underlying56 nu56 sz26 zr26 by26 rfl (by (simp; omega)) (by (simp; omega)) (leaf_flk rfl rfl) rfl rfl rfl (fun p4 => ?_))
        refine jzq jrnc ?_
        refine jzq (jrfa 0 1 false) ?_
        refine jzm (jmst 1 ?_)
        refine jzd ?_
        refine jtn ?_
        refine jcs ?_
        first
          | (refine code_ent (freeze 1 rfl) ?_; refine code_ent (thawC 0 0 1 (rqF ([] ++ l.take (l.length - 1) ++ [(nextM (nowL l)).rest]) 0) (fun i _ => bsC (([] ++ l.take (l.length - 1) ++ [(nextM (nowL l)).rest]).getD i [])) rfl rfl (CEnt.refl _) (CEnt.refl _) (fun j hj h0 => by rcases j with _ | _ | j <;> first | omega | exact CEnt.refl _) (by simp) (fun a c ha hc => by obtain rfl : c = 0 := (by omega); rw [Nat.zero_add, Nat.mul_one, Nat.add_zero]; exact CEnt.refl _)) ?_; dsimp only [List.set_cons_zero, List.set_cons_succ, List.cons_append, List.nil_append, List.length_cons, List.length_nil, Nat.zero_add, Nat.reduceAdd])
          | (refine code_ent (freeze 2 rfl) ?_; refine code_ent (thawC 0 0 2 (rqF ([] ++ l.take (l.length - 1) ++ [(nextM (nowL l)).rest]) 0) (fun i _ => bsC (([] ++ l.take (l.length - 1) ++ [(nextM (nowL l)).rest]).getD i [])) rfl rfl (CEnt.refl _) (CEnt.refl _) (fun j hj h0 => by rcases j with _ | _ | j <;> first | omega | exact CEnt.refl _) (by simp) (fun a c ha hc => by obtain rfl : c = 0 := (by omega); rw [Nat.zero_add, Nat.mul_one, Nat.add_zero]; exact CEnt.refl _)) ?_; dsimp only [List.set_cons_zero, List.set_cons_succ, List.cons_append, List.nil_append, List.length_cons, List.length_nil, Nat.zero_add, Nat.reduceAdd])
        refine jcd (.rd 0 (.rd 1 (.rd 2 (.rd 3 (.rd 4 (.rd 5 (.rd 6 (.rd 7 (.rd 8 (.rd 9 .done)))))))))) ?_
        refine jyq jrm ?_
        refine jyq jrm ?_
        refine jyq jrm ?_
        refine jyq (jrsb (hz1 := (show _ = (((fromM (nowL l)) : Nat) : Int) by omega)) (hz2 := (show _ = (((toM (nowL l)) : Nat) : Int) by omega))) ?_
        refine jyq jrm ?_
        refine jyq jrm ?_
        refine jyq (jrst (hz2 := (show _ = (((toM (nowL l)) : Nat) : Int) by omega))) ?_
        refine jyq jrm ?_
        refine jyq jrm ?_
        refine jyq jrm ?_
        refine jyd ?_
        refine jtn ?_
        refine code_ret ?_
        rw [hN]
        refine end_H (.inl rfl) rfl (res_3 rfl javt javt javt) (CEnt.tup3 (CEnt.bs ?_) (CEnt.bs ?_) (CEnt.refl _))
        · exact hc.1.symm
        · rw [take_toM (by omega)]
      · refine z_ent (weaken 69 (bsC (nextM (nowL l)).rest) (CEnt.bs hc.2.1.symm)) ?_
        refine jze (jebl 1 1 zr26 fun p2 => ?_)
        refine jzm (m_appendC rowC_lb (l := []) (l2 := l.take (l.length - 1)) rfl rfl rfl rfl (Nat.le_of_eq (Nat.zero_mul _)) (fun j hj => absurd hj (by simp)) (src_rs rfl) (by rw [List.length_take]; omega) (fun j hj => CEnt.of_eq (lb_take8 (by omega))) Tryz.underlying56 nu56 sz26 zr26 by26 rfl (by simp; omega) (by simp; omega) (fun j hj => rfl) rfl rfl (Nat.mul_one _) (fun p3 => ?_))
        refine jzm (m_appendC (rowC_lb) (l2 := [(nextM (nowL l)).rest]) rfl rfl rfl rfl (by omega) (fun _ _ => CEnt.refl _) (src_os rfl (.inl rfl) (by decide)) rfl (fun j hj => by rcases j with _|j <;> first | exact CEnt.refl _ | exact CEnt.int (by omega) | (exfalso; simp at hj <;> omega)) Tryz.underlying56 nu56 sz26 zr26 by26 rfl (by (simp; omega)) (by (simp; omega)) (leaf_flk rfl rfl) rfl rfl rfl (fun p4 => ?_))
        refine jzq jrnc ?_
        refine jzq (jrfa 0 1 false) ?_
        refine jzm (jmst 1 ?_)
        refine jzd ?_
        refine jtn ?_
        refine jcs ?_
        first
          | (refine code_ent (freeze 1 rfl) ?_; refine code_ent (thawC 0 0 1 (rqF ([] ++ l.take (l.length - 1) ++ [(nextM (nowL l)).rest]) 0) (fun i _ => bsC (([] ++ l.take (l.length - 1) ++ [(nextM (nowL l)).rest]).getD i [])) rfl rfl (CEnt.refl _) (CEnt.refl _) (fun j hj h0 => by rcases j with _ | _ | j <;> first | omega | exact CEnt.refl _) (by simp) (fun a c ha hc => by obtain rfl : c = 0 := (by omega); rw [Nat.zero_add, Nat.mul_one, Nat.add_zero]; exact CEnt.refl _)) ?_; dsimp only [List.set_cons_zero, List.set_cons_succ, List.cons_append, List.nil_append, List.length_cons, List.length_nil, Nat.zero_add, Nat.reduceAdd])
          | (refine code_ent (freeze 2 rfl) ?_; refine code_ent (thawC 0 0 2 (rqF ([] ++ l.take (l.length - 1) ++ [(nextM (nowL l)).rest]) 0) (fun i _ => bsC (([] ++ l.take (l.length - 1) ++ [(nextM (nowL l)).rest]).getD i [])) rfl rfl (CEnt.refl _) (CEnt.refl _) (fun j hj h0 => by rcases j with _ | _ | j <;> first | omega | exact CEnt.refl _) (by simp) (fun a c ha hc => by obtain rfl : c = 0 := (by omega); rw [Nat.zero_add, Nat.mul_one, Nat.add_zero]; exact CEnt.refl _)) ?_; dsimp only [List.set_cons_zero, List.set_cons_succ, List.cons_append, List.nil_append, List.length_cons, List.length_nil, Nat.zero_add, Nat.reduceAdd])
        refine jcd (.rd 0 (.rd 1 (.rd 2 (.rd 3 (.rd 4 (.rd 5 (.rd 6 (.rd 7 (.rd 8 (.rd 9 .done)))))))))) ?_
        refine jyq jrm ?_
        refine jyq jrm ?_
        refine jyq jrm ?_
        refine jyq (jrsb (hz1 := (show _ = (((fromM (nowL l)) : Nat) : Int) by omega)) (hz2 := (show _ = (((toM (nowL l)) : Nat) : Int) by omega))) ?_
        refine jyq jrm ?_
        refine jyq jrm ?_
        refine jyq (jrst (hz2 := (show _ = (((toM (nowL l)) : Nat) : Int) by omega))) ?_
        refine jyq jrm ?_
        refine jyq jrm ?_
        refine jyq jrm ?_
        refine jyd ?_
        refine jtn ?_
        refine code_ret ?_
        rw [hN]
        refine end_H (.inl rfl) rfl (res_3 rfl javt javt javt) (CEnt.tup3 (CEnt.bs ?_) (CEnt.bs ?_) (CEnt.refl _))
        · exact hc.1.symm
        · rw [take_toM (by omega)]
    · refine z_ent (weaken 69 (bsC (nextM (nowL l)).rest) (CEnt.bs hc.2.1.symm)) ?_
      refine jze (jebl 1 1 zr26 fun p1 => ?_)
      refine jze (jebl 0 1 zr26 fun p2 => ?_)
      refine jzm (m_appendC rowC_lb (l := []) (l2 := l.take (l.length - 1)) rfl rfl rfl rfl (Nat.le_of_eq (Nat.zero_mul _)) (fun j hj => absurd hj (by simp)) (src_rs rfl) (by rw [List.length_take]; omega) (fun j hj => CEnt.of_eq (lb_take8 (by omega))) Tryz.underlying56 nu56 sz26 zr26 by26 rfl (by simp; omega) (by simp; omega) (fun j hj => rfl) rfl rfl (Nat.mul_one _) (fun p3 => ?_))
      refine jzm (m_appendC (rowC_lb) (l2 := [(nextM (nowL l)).rest]) rfl rfl rfl rfl (by omega) (fun _ _ => CEnt.refl _) (src_os rfl (.inl rfl) (by decide)) rfl (fun j hj => by rcases j with _|j <;> first | exact CEnt.refl _ | exact CEnt.int (by omega) | (exfalso; simp at hj <;> omega)) Tryz.underlying56 nu56 sz26 zr26 by26 rfl (by (simp; omega)) (by (simp; omega)) (leaf_flk rfl rfl) rfl rfl rfl (fun p4 => ?_))
      refine jzq jrnc ?_
      refine jzq (jrfa 0 1 false) ?_
      refine jzm (jmst 1 ?_)
      refine jzd ?_
      refine jtn ?_
      refine jcs ?_
      first
        | (refine code_ent (freeze 1 rfl) ?_; refine code_ent (thawC 0 0 1 (rqF ([] ++ l.take (l.length - 1) ++ [(nextM (nowL l)).rest]) 0) (fun i _ => bsC (([] ++ l.take (l.length - 1) ++ [(nextM (nowL l)).rest]).getD i [])) rfl rfl (CEnt.refl _) (CEnt.refl _) (fun j hj h0 => by rcases j with _ | _ | j <;> first | omega | exact CEnt.refl _) (by simp) (fun a c ha hc => by obtain rfl : c = 0 := (by omega); rw [Nat.zero_add, Nat.mul_one, Nat.add_zero]; exact CEnt.refl _)) ?_; dsimp only [List.set_cons_zero, List.set_cons_succ, List.cons_append, List.nil_append, List.length_cons, List.length_nil, Nat.zero_add, Nat.reduceAdd])
        | (refine code_ent (freeze 2 rfl) ?_; refine code_ent (thawC 0 0 2 (rqF ([] ++ l.take (l.length - 1) ++ [(nextM (nowL l)).rest]) 0) (fun i _ => bsC (([] ++ l.take (l.length - 1) ++ [(nextM (nowL l)).rest]).getD i [])) rfl rfl (CEnt.refl _) (CEnt.refl _) (fun j hj h0 => by rcases j with _ | _ | j <;> first | omega | exact CEnt.refl _) (by simp) (fun a c ha hc => by obtain rfl : c = 0 := (by omega); rw [Nat.zero_add, Nat.mul_one, Nat.add_zero]; exact CEnt.refl _)) ?_; dsimp only [List.set_cons_zero, List.set_cons_succ, List.cons_append, List.nil_append, List.length_cons, List.length_nil, Nat.zero_add, Nat.reduceAdd])
      refine jcd (.rd 0 (.rd 1 (.rd 2 (.rd 3 (.rd 4 (.rd 5 (.rd 6 (.rd 7 (.rd 8 (.rd 9 .done)))))))))) ?_
      refine jyq jrm ?_
      refine jyq jrm ?_
      refine jyq jrm ?_
      refine jyq (jrsb (hz1 := (show _ = (((fromM (nowL l)) : Nat) : Int) by omega)) (hz2 := (show _ = (((toM (nowL l)) : Nat) : Int) by omega))) ?_
      refine jyq jrm ?_
      refine jyq jrm ?_
      refine jyq (jrst (hz2 := (show _ = (((toM (nowL l)) : Nat) : Int) by omega))) ?_
      refine jyq jrm ?_
      refine jyq jrm ?_
      refine jyq jrm ?_
      refine jyd ?_
      refine jtn ?_
      refine code_ret ?_
      rw [hN]
      refine end_H (.inl rfl) rfl (res_3 rfl javt javt javt) (CEnt.tup3 (CEnt.bs ?_) (CEnt.bs ?_) (CEnt.refl _))
      · exact hc.1.symm
      · rw [take_toM (by omega)]
  refine jq jrm ?_
  refine jq jrm ?_
  refine jq jrc ?_
  refine jq jrpT ?_
  refine seq_nil ?_
  refine jcc (fun h170 => ?_) fun h170 => ?_
  rotate_left
  · refine code_skip (jtn ?_)
    refine jcs ?_
    refine jcr ?_
    refine jq jrm ?_
    refine jq jrc ?_
    refine seq_nil ?_
    refine jcc (fun h173 => ?_) fun h173 => ?_
    · first
        | (have hN : nextR tag l 0 = ⟨l, (nextM (nowL l)).e, 0, [], [], false⟩ := by unfold nextR; rw [if_neg (by omega), if_pos (by omega)])
        | (have hN : nextR tag l 0 = ⟨l, 5, 0, [], [], false⟩ := by unfold nextR; rw [if_neg (by omega), if_neg (by omega), if_pos (by omega)])
      refine jcr ?_
      refine jq jrm ?_
      refine jq jrm ?_
      refine jq jrnc ?_
      refine jq (jrfa 1 1 false) ?_
      refine jqm (jmstF 1 (rqF l (nextR tag l 0).k) ?_ ?_)
      · exact (fun j hj => by rcases j with _ | _ | j <;> first | exact CEnt.refl _ | exact CEnt.int (by rw [hN]; rfl) | exact CEnt.int (by rw [hN]) | omega)
      refine seq_nil ?_
      refine jcr ?_
      refine jq jrm ?_
      refine jq jrm ?_
      refine jq jrm ?_
      refine seq_nil ?_
      refine code_ret (jtr ?_)
      rw [hN]
      exact end_H (.inl rfl) rfl (res_3 rfl javt javt javt) (CEnt.tup3 CEnt.nilB CEnt.nilB (CEnt.refl _))
    refine code_skip (jtn ?_)
    refine jcs ?_
    have hc := nextM_cut (b := nowL l) (by omega)
    have hN : nextR tag l 0 = ⟨l.set (l.length - 1) (nextM (nowL l)).rest, 0, (nextM (nowL l)).tag, (nextM (nowL l)).body, (nowL l).take ((nowL l).length - (nextM (nowL l)).rest.length), true⟩ := by unfold nextR; rw [if_neg (by omega), if_neg (by omega), if_neg (by omega)]
    have hN : nextR tag l 0 = ⟨[] ++ l.take (l.length - 1) ++ [(nextM (nowL l)).rest], 0, (nextM (nowL l)).tag, (nextM (nowL l)).body, (nowL l).take ((nowL l).length - (nextM (nowL l)).rest.length), true⟩ := by rw [hN, lset hl.1]; rfl
    refine jcdZ (.rd 0 (.rd 2 (.rd 3 (.rd 4 (.rd 5 (.rd 6 (.rd 7 (.rd 8 (.rd 9 (.rd 10 (.rd 11 (.rd 12 (.rd 14 (.rd 15 (.rd 16 (.two 1 (.two 13 (.one 17 (.one 18 (.rd 19 (.rd 20 (.one 21 .done))))) 17 (.one 13 (.one 18 (.rd 19 (.rd 20 (.one 21 .done)))))) 17 (.one 1 (.one 13 (.one 18 (.rd 19 (.rd 20 (.one 21 .done)))))))))))))))))))))) ?_
    refine jzq jrm ?_
    refine jzq jrm ?_
    refine jzq jrnc ?_
    refine jzq (jrfa 0 1 false) ?_
    refine jzo jrdo ?_
    refine jzq jrm ?_
    refine jzq jrnc ?_
    refine jzq (jrfa 0 1 false) ?_
    refine jzo jrdo ?_
    refine jzq jrl ?_
    refine jzq jra ?_
    refine jzq (jrsr (hl := (bd_none _ _)) (hu := (bd_some rfl (show _ = (((l.length - 1) : Nat) : Int) by omega)))) ?_
    refine jzq jrm ?_
    refine jzq jrm ?_
    refine jzq (jrsf (hz1 := (show _ = (((toM (nowL l)) : Nat) : Int) by omega))) ?_
    refine jztwo ?_ ?_
    · refine jze (jebl 0 1 zr26 fun p1 => ?_)
      refine jztwo ?_ ?_
      · refine jzm (m_appendC rowC_lb (l := []) (l2 := l.take (l.length - 1)) rfl rfl rfl rfl (Nat.le_of_eq (Nat.zero_mul _)) (fun j hj => absurd hj (by simp)) (src_rs rfl) (by rw [List.length_take]; omega) (fun j hj => CEnt.of_eq (lb_take8 (by omega))) Tryz.underlying56 nu56 sz26 zr26 by26 rfl (by simp; omega) (by simp; omega) (fun j hj => rfl) rfl rfl (Nat.mul_one _) (fun p2 => ?_))
        refine z_ent (weaken 69 (bsC (nextM (nowL l)).rest) (CEnt.bs hc.2.1.symm)) ?_
        refine jze (jebl 1 1 zr26 fun p3 => ?_)
        refine jzm (m_appendC (rowC_lb) (l2 := [(nextM (nowL l)).rest]) rfl rfl rfl rfl (by omega) (fun _ _ => CEnt.refl _) (src_os rfl (.inl rfl) (by decide)) rfl (fun j hj => by rcases j with _|j <;> first | exact CEnt.refl _ | exact CEnt.int (by omega) | (exfalso; simp at hj <;> omega)) Tryz.underlying56 nu56 sz26 zr26 by26 rfl (by (simp; omega)) (by (simp; omega)) (leaf_flk rfl rfl) rfl rfl rfl (fun p4 => ?_))
        refine jzq jrnc ?_
        refine jzq (jrfa 0 1 false) ?_
        refine jzm (jmst 1 ?_)
        refine jzd ?_
        refine jtn ?_
        refine jcs ?_
        first
          | (refine code_ent (freeze 1 rfl) ?_; refine code_ent (thawC 0 0 1 (rqF ([] ++ l.take (l.length - 1) ++ [(nextM (nowL l)).rest]) 0) (fun i _ => bsC (([] ++ l.take (l.length - 1) ++ [(nextM (nowL l)).rest]).getD i [])) rfl rfl (CEnt.refl _) (CEnt.refl _) (fun j hj h0 => by rcases j with _ | _ | j <;> first | omega | exact CEnt.refl _) (by simp) (fun a c ha hc => by obtain rfl : c = 0 := (by omega); rw [Nat.zero_add, Nat.mul_one, Nat.add_zero]; exact CEnt.refl _)) ?_; dsimp only [List.set_cons_zero, List.set_cons_succ, List.cons_append, List.nil_append, List.length_cons, List.length_nil, Nat.zero_add, Nat.reduceAdd])
          | (refine code_ent (freeze 2 rfl) ?_; refine code_ent (thawC 0 0 2 (rqF ([] ++ l.take (l.length - 1) ++ [(nextM (nowL l)).rest]) 0) (fun i _ => bsC (([] ++ l.take (l.length - 1) ++ [(nextM (nowL l)).rest]).getD i [])) rfl rfl (CEnt.refl _) (CEnt.refl _) (fun j hj h0 => by rcases j with _ | _ | j <;> first | omega | exact CEnt.refl _) (by simp) (fun a c ha hc => by obtain rfl : c = 0 := (by omega); rw [Nat.zero_add, Nat.mul_one, Nat.add_zero]; exact CEnt.refl _)) ?_; dsimp only [List.set_cons_zero, List.set_cons_succ, List.cons_append, List.nil_append, List.length_cons, List.length_nil, Nat.zero_add, Nat.reduceAdd])
        refine jcd (.rd 0 (.rd 1 (.rd 2 (.rd 3 (.rd 4 (.rd 5 (.rd 6 (.rd 7 (.rd 8 (.rd 9 .done)))))))))) ?_
        refine jyq jrm ?_
        refine jyq jrm ?_
        refine jyq jrm ?_
        refine jyq (jrsb (hz1 := (show _ = (((fromM (nowL l)) : Nat) : Int) by omega)) (hz2 := (show _ = (((toM (nowL l)) : Nat) : Int) by omega))) ?_
        refine jyq jrm ?_
        refine jyq jrm ?_
        refine jyq (jrst (hz2 := (show _ = (((toM (nowL l)) : Nat) : Int) by omega))) ?_
        refine jyq jrm ?_
        refine jyq jrm ?_
        refine jyq jrm ?_
        refine jyd ?_
        refine jtn ?_
        refine code_ret ?_
        rw [hN]
        refine end_H (.inl rfl) rfl (res_3 rfl javt javt javt) (CEnt.tup3 (CEnt.bs ?_) (CEnt.bs ?_) (CEnt.refl _))
        · exact hc.1.symm
        · rw [take_toM (by omega)]
      · refine z_ent (weaken 69 (bsC (nextM (nowL l)).rest) (CEnt.bs hc.2.1.symm)) ?_
        refine jze (jebl 1 1 zr26 fun p2 => ?_)
        refine jzm (m_appendC rowC_lb (l := []) (l2 := l.take (l.length - 1)) rfl rfl rfl rfl (Nat.le_of_eq (Nat.zero_mul _)) (fun j hj => absurd hj (by simp)) (src_rs rfl) (by rw [List.length_take]; omega) (fun j hj => CEnt.of_eq (lb_take8 (by omega))) Tryz.underlying56 nu56 sz26 zr26 by26 rfl (by simp; omega) (by simp; omega) (fun j hj => rfl) rfl rfl (Nat.mul_one _) (fun p3 => ?_))
        refine jzm (m_appendC (rowC_lb) (l2 := [(nextM (nowL l)).rest]) rfl rfl rfl rfl (by omega) (fun _ _ => CEnt.refl _) (src_os rfl (.inl rfl) (by decide)) rfl (fun j hj => by rcases j with _|j <;> first | exact CEnt.refl _ | exact CEnt.int (by omega) | (exfalso; simp at hj <;> omega)) Tryz.underlying56 nu56 sz26 zr26 by26 rfl (by (simp; omega)) (by (simp; omega)) (leaf_flk rfl rfl) rfl rfl rfl (fun p4 => ?_))
        refine jzq jrnc ?_
        refine jzq (jrfa 0 1 false) ?_
        refine jzm (jmst 1 ?_)
        refine jzd ?_
        refine jtn ?_
        refine jcs ?_
        first
          | (refine code_ent (freeze 1 rfl) ?_; refine code_ent (thawC 0 0 1 (rqF ([] ++ l.take (l.length - 1) ++ [(nextM (nowL l)).rest]) 0) (fun i _ => bsC (([] ++ l.take (l.length - 1) ++ [(nextM (nowL l)).rest]).getD i [])) rfl rfl (CEnt.refl _) (CEnt.refl _) (fun j hj h0 => by rcases j with _ | _ | j <;> first | omega | exact CEnt.refl _) (by simp) (fun a c ha hc => by obtain rfl : c = 0 := (by omega); rw [Nat.zero_add, Nat.mul_one, Nat.add_zero]; exact CEnt.refl _)) ?_; dsimp only [List.set_cons_zero, List.set_cons_succ, List.cons_append, List.nil_append, List.length_cons, List.length_nil, Nat.zero_add, Nat.reduceAdd])
          | (refine code_ent (freeze 2 rfl) ?_; refine code_ent (thawC 0 0 2 (rqF ([] ++ l.take (l.length - 1) ++ [(nextM (nowL l)).rest]) 0) (fun i _ => bsC (([] ++ l.take (l.length - 1) ++ [(nextM (nowL l)).rest]).getD i [])) rfl rfl (CEnt.refl _) (CEnt.refl _) (fun j hj h0 => by rcases j with _ | _ | j <;> first | omega | exact CEnt.refl _) (by simp) (fun a c ha hc => by obtain rfl : c = 0 := (by omega); rw [Nat.zero_add, Nat.mul_one, Nat.add_zero]; exact CEnt.refl _)) ?_; dsimp only [List.set_cons_zero, List.set_cons_succ, List.cons_append, List.nil_append, List.length_cons, List.length_nil, Nat.zero_add, Nat.reduceAdd])
        refine jcd (.rd 0 (.rd 1 (.rd 2 (.rd 3 (.rd 4 (.rd 5 (.rd 6 (.rd 7 (.rd 8 (.rd 9 .done)))))))))) ?_
        refine jyq jrm ?_
        refine jyq jrm ?_
        refine jyq jrm ?_
        refine jyq (jrsb (hz1 := (show _ = (((fromM (nowL l)) : Nat) : Int) by omega)) (hz2 := (show _ = (((toM (nowL l)) : Nat) : Int) by omega))) ?_
        refine jyq jrm ?_
        refine jyq jrm ?_
        refine jyq (jrst (hz2 := (show _ = (((toM (nowL l)) : Nat) : Int) by omega))) ?_
        refine jyq jrm ?_
        refine jyq jrm ?_
        refine jyq jrm ?_
        refine jyd ?_
        refine jtn ?_
        refine code_ret ?_
        rw [hN]
        refine end_H (.inl rfl) rfl (res_3 rfl javt javt javt) (CEnt.tup3 (CEnt.bs ?_) (CEnt.bs ?_) (CEnt.refl _))
        · exact hc.1.symm
        · rw [take_toM (by omega)]
    · refine z_ent (weaken 69 (bsC (nextM (nowL l)).rest) (CEnt.bs hc.2.1.symm)) ?_
      refine jze (jebl 1 1 zr26 fun p1 => ?_)
      refine jze (jebl 0 1 zr26 fun p2 => ?_)
      refine jzm (m_appendC rowC_lb (l := []) (l2 := l.take (l.length - 1)) rfl rfl rfl rfl (Nat.le_of_eq (Nat.zero_mul _)) (fun j hj => absurd hj (by simp)) (src_rs rfl) (by rw [List.length_take]; omega) (fun j hj => CEnt.of_eq (lb_take8 (by omega))) Tryz.underlying56 nu56 sz26 zr26 by26 rfl (by simp; omega) (by simp; omega) (fun j hj => rfl) rfl rfl (Nat.mul_one _) (fun p3 => ?_))
      refine jzm (m_appendC (rowC_lb) (l2 := [(nextM (nowL l)).rest]) rfl rfl rfl rfl (by omega) (fun _ _ => CEnt.refl _) (src_os rfl (.inl rfl) (by decide)) rfl (fun j hj => by rcases j with _|j <;> first | exact CEnt.refl _ | exact CEnt.int (by omega) | (exfalso; simp at hj <;> omega)) Tryz.underlying56 nu56 sz26 zr26 by26 rfl (by (simp; omega)) (by (simp; omega)) (leaf_flk rfl rfl) rfl rfl rfl (fun p4 => ?_))
      refine jzq jrnc ?_
      refine jzq (jrfa 0 1 false) ?_
      refine jzm (jmst 1 ?_)
      refine jzd ?_
      refine jtn ?_
      refine jcs ?_
      first
        | (refine code_ent (freeze 1 rfl) ?_; refine code_ent (thawC 0 0 1 (rqF ([] ++ l.take (l.length - 1) ++ [(nextM (nowL l)).rest]) 0) (fun i _ => bsC (([] ++ l.take (l.length - 1) ++ [(nextM (nowL l)).rest]).getD i [])) rfl rfl (CEnt.refl _) (CEnt.refl _) (fun j hj h0 => by rcases j with _ | _ | j <;> first | omega | exact CEnt.refl _) (by simp) (fun a c ha hc => by obtain rfl : c = 0 := (by omega); rw [Nat.zero_add, Nat.mul_one, Nat.add_zero]; exact CEnt.refl _)) ?_; dsimp only [List.set_cons_zero, List.set_cons_succ, List.cons_append, List.nil_append, List.length_cons, List.length_nil, Nat.zero_add, Nat.reduceAdd])
        | (refine code_ent (freeze 2 rfl) ?_; refine code_ent (thawC 0 0 2 (rqF ([] ++ l.take (l.length - 1) ++ [(nextM (nowL l)).rest]) 0) (fun i _ => bsC (([] ++ l.take (l.length - 1) ++ [(nextM (nowL l)).rest]).getD i [])) rfl rfl (CEnt.refl _) (CEnt.refl _) (fun j hj h0 => by rcases j with _ | _ | j <;> first | omega | exact CEnt.refl _) (by simp) (fun a c ha hc => by obtain rfl : c = 0 := (by omega); rw [Nat.zero_add, Nat.mul_one, Nat.add_zero]; exact CEnt.refl _)) ?_; dsimp only [List.set_cons_zero, List.set_cons_succ, List.cons_append, List.nil_append, List.length_cons, List.length_nil, Nat.zero_add, Nat.reduceAdd])
      refine jcd (.rd 0 (.rd 1 (.rd 2 (.rd 3 (.rd 4 (.rd 5 (.rd 6 (.rd 7 (.rd 8 (.rd 9 .done)))))))))) ?_
      refine jyq jrm ?_
      refine jyq jrm ?_
      refine jyq jrm ?_
      refine jyq (jrsb (hz1 := (show _ = (((fromM (nowL l)) : Nat) : Int) by omega)) (hz2 := (show _ = (((toM (nowL l)) : Nat) : Int) by omega))) ?_
      refine jyq jrm ?_
      refine jyq jrm ?_
      refine jyq (jrst (hz2 := (show _ = (((toM (nowL l)) : Nat) : Int) by omega))) ?_
      refine jyq jrm ?_
      refine jyq jrm ?_
      refine jyq jrm ?_
      refine jyd ?_
      refine jtn ?_
      refine code_ret ?_
      rw [hN]
      refine end_H (.inl rfl) rfl (res_3 rfl javt javt javt) (CEnt.tup3 (CEnt.bs ?_) (CEnt.bs ?_) (CEnt.refl _))
      · exact hc.1.symm
      · rw [take_toM (by omega)]
  refine jcg ?_
  refine jq jrm ?_
  refine seq_nil ?_
  refine jtn ?_
  refine jcs ?_
  refine jcr ?_
  refine jq jrm ?_
  refine jq jrc ?_
  refine seq_nil ?_
  refine jcc (fun h173 => ?_) fun h173 => ?_
  · first
      | (have hN : nextR tag l 0 = ⟨l, (nextM (nowL l)).e, 0, [], [], false⟩ := by unfold nextR; rw [if_neg (by omega), if_pos (by omega)])
      | (have hN : nextR tag l 0 = ⟨l, 5, 0, [], [], false⟩ := by unfold nextR; rw [if_neg (by omega), if_neg (by omega), if_pos (by omega)])
    refine jcr ?_
    refine jq jrm ?_
    refine jq jrm ?_
    refine jq jrnc ?_
    refine jq (jrfa 1 1 false) ?_
    refine jqm (jmstF 1 (rqF l (nextR tag l 0).k) ?_ ?_)
    · exact (fun j hj => by rcases j with _ | _ | j <;> first | exact CEnt.refl _ | exact CEnt.int (by rw [hN]; rfl) | exact CEnt.int (by rw [hN]) | omega)
    refine seq_nil ?_
    refine jcr ?_
    refine jq jrm ?_
    refine jq jrm ?_
    refine jq jrm ?_
    refine seq_nil ?_
    refine code_ret (jtr ?_)
    rw [hN]
    exact end_H (.inl rfl) rfl (res_3 rfl javt javt javt) (CEnt.tup3 CEnt.nilB CEnt.nilB (CEnt.refl _))
  refine code_skip (jtn ?_)
  refine jcs ?_
  have hc := nextM_cut (b := nowL l) (by omega)
  have hN : nextR tag l 0 = ⟨l.set (l.length - 1) (nextM (nowL l)).rest, 0, (nextM (nowL l)).tag, (nextM (nowL l)).body, (nowL l).take ((nowL l).length - (nextM (nowL l)).rest.length), true⟩ := by unfold nextR; rw [if_neg (by omega), if_neg (by omega), if_neg (by omega)]
  have hN : nextR tag l 0 = ⟨[] ++ l.take (l.length - 1) ++ [(nextM (nowL l)).rest], 0, (nextM (nowL l)).tag, (nextM (nowL l)).body, (nowL l).take ((nowL l).length - (nextM (nowL l)).rest.length), true⟩ := by rw [hN, lset hl.1]; rfl
  refine jcdZ (.rd 0 (.rd 2 (.rd 3 (.rd 4 (.rd 5 (.rd 6 (.rd 7 (.rd 8 (.rd 9 (.rd 10 (.rd 11 (.rd 12 (.rd 14 (.rd 15 (.rd 16 (.two 1 (.two 13 (.one 17 (.one 18 (.rd 19 (.rd 20 (.one 21 .done))))) 17 (.one 13 (.one 18 (.rd 19 (.rd 20 (.one 21 .done)))))) 17 (.one 1 (.one 13 (.one 18 (.rd 19 (.rd 20 (.one 21 .done)))))))))))))))))))))) ?_
  refine jzq jrm ?_
  refine jzq jrm ?_
  refine jzq jrnc ?_
  refine jzq (jrfa 0 1 false) ?_
  refine jzo jrdo ?_
  refine jzq jrm ?_
  refine jzq jrnc ?_
  refine jzq (jrfa 0 1 false) ?_
  refine jzo jrdo ?_
  refine jzq jrl ?_
  refine jzq jra ?_
  refine jzq (jrsr (hl := (bd_none _ _)) (hu := (bd_some rfl (show _ = (((l.length - 1) : Nat) : Int) by omega)))) ?_
  refine jzq jrm ?_
  refine jzq jrm ?_
  refine jzq (jrsf (hz1 := (show _ = (((toM (nowL l)) : Nat) : Int) by omega))) ?_
  refine jztwo ?_ ?_
  · refine jze (jebl 0 1 zr26 fun p1 => ?_)
    refine jztwo ?_ ?_
    · refine jzm (m_appendC rowC_lb (l := []) (l2 := l.take (l.length - 1)) rfl rfl rfl rfl (Nat.le_of_eq (Nat.zero_mul _)) (fun j hj => absurd hj (by simp)) (src_rs rfl) (by rw [List.length_take]; omega) (fun j hj => CEnt.of_eq (lb_take8 (by omega))) Tryz.underlying56 nu56 sz26 zr26 by26 rfl (by simp; omega) (by simp; omega) (fun j hj => rfl) rfl rfl (Nat.mul_one _) (fun p2 => ?_))
      refine z_ent (weaken 69 (bsC (nextM (nowL l)).rest) (CEnt.bs hc.2.1.symm)) ?_
      refine jze (jebl 1 1 zr26 fun p3 => ?_)
      refine jzm (m_appendC (rowC_lb) (l2 := [(nextM (nowL l)).rest]) rfl rfl rfl rfl (by omega) (fun _ _ => CEnt.refl _) (src_os rfl (.inl rfl) (by decide)) rfl (fun j hj => by rcases j with _|j <;> first | exact CEnt.refl _ | exact CEnt.int (by omega) | (exfalso; simp at hj <;> omega)) Tryz.underlying56 nu56 sz26 zr26 by26 rfl (by omega) (by omega) (leaf_flk rfl rfl) rfl rfl rfl (fun p4 => ?_))
      refine jzq jrnc ?_
      refine jzq (jrfa 0 1 false) ?_
      refine jzm (jmst 1 ?_)
      refine jzd ?_
      refine jtn ?_
      refine jcs ?_
      first
        | (refine code_ent (freeze 1 rfl) ?_; refine code_ent (thawC 0 0 1 (rqF ([] ++ l.take (l.length - 1) ++ [(nextM (nowL l)).rest]) 0) (fun i _ => bsC (([] ++ l.take (l.length - 1) ++ [(nextM (nowL l)).rest]).getD i [])) rfl rfl (CEnt.refl _) (CEnt.refl _) (fun j hj h0 => by rcases j with _ | _ | j <;> omega) (by simp) (fun a c ha hc => by obtain rfl : c = 0 := (by omega); rw [Nat.zero_add, Nat.mul_one, Nat.add_zero]; exact CEnt.refl _)) ?_; dsimp only [List.set_cons_zero, List.set_cons_succ, List.cons_append, List.nil_append, List.length_cons, List.length_nil, Nat.zero_add, Nat.reduceAdd])
        | (refine code_ent (freeze 2 rfl) ?_; refine code_ent (thawC 0 0 2 (rqF ([] ++ l.take (l.length - 1) ++ [(nextM (nowL l)).rest]) 0) (fun i _ => bsC (([] ++ l.take (l.length - 1) ++ [(nextM (nowL l)).rest]).getD i [])) rfl rfl (CEnt.refl _) (CEnt.refl _) (fun j hj h0 => by rcases j with _ | _ | j <;> first | omega | exact CEnt.refl _) (by simp) (fun a c ha hc => by obtain rfl : c = 0 := (by omega); rw [Nat.zero_add, Nat.mul_one, Nat.add_zero]; exact CEnt.refl _)) ?_; dsimp only [List.set_cons_zero, List.set_cons_succ, List.cons_append, List.nil_append, List.length_cons, List.length_nil, Nat.zero_add, Nat.reduceAdd])
      refine jcd (.rd 0 (.rd 1 (.rd 2 (.rd 3 (.rd 4 (.rd 5 (.rd 6 (.rd 7 (.rd 8 (.rd 9 .done)))))))))) ?_
      refine jyq jrm ?_
      refine jyq jrm ?_
      refine jyq jrm ?_
      refine jyq (jrsb (hz1 := (show _ = (((fromM (nowL l)) : Nat) : Int) by omega)) (hz2 := (show _ = (((toM (nowL l)) : Nat) : Int) by omega))) ?_
      refine jyq jrm ?_
      refine jyq jrm ?_
      refine jyq (jrst (hz2 := (show _ = (((toM (nowL l)) : Nat) : Int) by omega))) ?_
      refine jyq jrm ?_
      refine jyq jrm ?_
      refine jyq jrm ?_
      refine jyd ?_
      refine jtn ?_
      refine code_ret ?_
      rw [hN]
      refine end_H (.inl rfl) rfl (res_3 rfl javt javt javt) (CEnt.tup3 (CEnt.bs ?_) (CEnt.bs ?_) (CEnt.refl _))
      · exact hc.1.symm
      · rw [take_toM (by omega)]
    · refine z_ent (weaken 69 (bsC (nextM (nowL l)).rest) (CEnt.bs hc.2.1.symm)) ?_
      refine jze (jebl 1 1 zr26 fun p2 => ?_)
      refine jzm (m_appendC rowC_lb (l := []) (l2 := l.take (l.length - 1)) rfl rfl rfl rfl (Nat.le_of_eq (Nat.zero_mul _)) (fun j hj => absurd hj (by simp)) (src_rs rfl) (by rw [List.length_take]; omega) (fun j hj => CEnt.of_eq (lb_take8 (by omega))) Tryz.underlying56 nu56 sz26 zr26 by26 rfl (by simp; omega) (by simp; omega) (fun j hj => rfl) rfl rfl (Nat.mul_one _) (fun p3 => ?_))
      refine jzm (m_appendC (rowC_lb) (l2 := [(nextM (nowL l)).rest]) rfl rfl rfl rfl (by omega) (fun _ _ => CEnt.refl _) (src_os rfl (.inl rfl) (by decide)) rfl (fun j hj => by rcases j with _|j <;> first | exact CEnt.refl _ | exact CEnt.int (by omega) | (exfalso; simp at hj <;> omega)) Tryz.underlying56 nu56 sz26 zr26 by26 rfl (by omega) (by omega) (leaf_flk rfl rfl) rfl rfl rfl (fun p4 => ?_))
      refine jzq jrnc ?_
      refine jzq (jrfa 0 1 false) ?_
      refine jzm (jmst 1 ?_)
      refine jzd ?_
      refine jtn ?_
      refine jcs ?_
      first
        | (refine code_ent (freeze 1 rfl) ?_; refine code_ent (thawC 0 0 1 (rqF ([] ++ l.take (l.length - 1) ++ [(nextM (nowL l)).rest]) 0) (fun i _ => bsC (([] ++ l.take (l.length - 1) ++ [(nextM (nowL l)).rest]).getD i [])) rfl rfl (CEnt.refl _) (CEnt.refl _) (fun j hj h0 => by rcases j with _ | _ | j <;> omega) (by simp) (fun a c ha hc => by obtain rfl : c = 0 := (by omega); rw [Nat.zero_add, Nat.mul_one, Nat.add_zero]; exact CEnt.refl _)) ?_; dsimp only [List.set_cons_zero, List.set_cons_succ, List.cons_append, List.nil_append, List.length_cons, List.length_nil, Nat.zero_add, Nat.reduceAdd])
        | (refine code_ent (freeze 2 rfl) ?_; refine code_ent (thawC 0 0 2 (rqF ([] ++ l.take (l.length - 1) ++ [(nextM (nowL l)).rest]) 0) (fun i _ => bsC (([] ++ l.take (l.length - 1) ++ [(nextM (nowL l)).rest]).getD i [])) rfl rfl (CEnt.refl _) (CEnt.refl _) (fun j hj h0 => by rcases j with _ | _ | j <;> first | omega | exact CEnt.refl _) (by simp) (fun a c ha hc => by obtain rfl : c = 0 := (by omega); rw [Nat.zero_add, Nat.mul_one, Nat.add_zero]; exact CEnt.refl _)) ?_; dsimp only [List.set_cons_zero, List.set_cons_succ, List.cons_append, List.nil_append, List.length_cons, List.length_nil, Nat.zero_add, Nat.reduceAdd])
      refine jcd (.rd 0 (.rd 1 (.rd 2 (.rd 3 (.rd 4 (.rd 5 (.rd 6 (.rd 7 (.rd 8 (.rd 9 .done)))))))))) ?_
      refine jyq jrm ?_
      refine jyq jrm ?_
      refine jyq jrm ?_
      refine jyq (jrsb (hz1 := (show _ = (((fromM (nowL l)) : Nat) : Int) by omega)) (hz2 := (show _ = (((toM (nowL l)) : Nat) : Int) by omega))) ?_
      refine jyq jrm ?_
      refine jyq jrm ?_
      refine jyq (jrst (hz2 := (show _ = (((toM (nowL l)) : Nat) : Int) by omega))) ?_
      refine jyq jrm ?_
      refine jyq jrm ?_
      refine jyq jrm ?_
      refine jyd ?_
      refine jtn ?_
      refine code_ret ?_
      rw [hN]
      refine end_H (.inl rfl) rfl (res_3 rfl javt javt javt) (CEnt.tup3 (CEnt.bs ?_) (CEnt.bs ?_) (CEnt.refl _))
      · exact hc.1.symm
      · rw [take_toM (by omega)]
  · refine z_ent (weaken 69 (bsC (nextM (nowL l)).rest) (CEnt.bs hc.2.1.symm)) ?_
    refine jze (jebl 1 1 zr26 fun p1 => ?_)
    refine jze (jebl 0 1 zr26 fun p2 => ?_)
    refine jzm (m_appendC rowC_lb (l := []) (l2 := l.take (l.length - 1)) rfl rfl rfl rfl (Nat.le_of_eq (Nat.zero_mul _)) (fun j hj => absurd hj (by simp)) (src_rs rfl) (by rw [List.length_take]; omega) (fun j hj => CEnt.of_eq (lb_take8 (by omega))) Tryz.underlying56 nu56 sz26 zr26 by26 rfl (by simp; omega) (by simp; omega) (fun j hj => rfl) rfl rfl (Nat.mul_one _) (fun p3 => ?_))
    refine jzm (m_appendC (rowC_lb) (l2 := [(nextM (nowL l)).rest]) rfl rfl rfl rfl (by omega) (fun _ _ => CEnt.refl _) (src_os rfl (.inl rfl) (by decide)) rfl (fun j hj => by rcases j with _|j <;> first | exact CEnt.refl _ | exact CEnt.int (by omega) | (exfalso; simp at hj <;> omega)) Tryz.underlying56 nu56 sz26 zr26 by26 rfl (by omega) (by omega) (leaf_flk rfl rfl) rfl rfl rfl (fun p4 => ?_))
    refine jzq jrnc ?_
    refine jzq (jrfa 0 1 false) ?_
    refine jzm (jmst 1 ?_)
    refine jzd ?_
    refine jtn ?_
    refine jcs ?_
    first
      | (refine code_ent (freeze 1 rfl) ?_; refine code_ent (thawC 0 0 1 (rqF ([] ++ l.take (l.length - 1) ++ [(nextM (nowL l)).rest]) 0) (fun i _ => bsC (([] ++ l.take (l.length - 1) ++ [(nextM (nowL l)).rest]).getD i [])) rfl rfl (CEnt.refl _) (CEnt.refl _) (fun j hj h0 => by rcases j with _ | _ | j <;> omega) (by simp) (fun a c ha hc => by obtain rfl : c = 0 := (by omega); rw [Nat.zero_add, Nat.mul_one, Nat.add_zero]; exact CEnt.refl _)) ?_; dsimp only [List.set_cons_zero, List.set_cons_succ, List.cons_append, List.nil_append, List.length_cons, List.length_nil, Nat.zero_add, Nat.reduceAdd])
      | (refine code_ent (freeze 2 rfl) ?_; refine code_ent (thawC 0 0 2 (rqF ([] ++ l.take (l.length - 1) ++ [(nextM (nowL l)).rest]) 0) (fun i _ => bsC (([] ++ l.take (l.length - 1) ++ [(nextM (nowL l)).rest]).getD i [])) rfl rfl (CEnt.refl _) (CEnt.refl _) (fun j hj h0 => by rcases j with _ | _ | j <;> omega) (by simp) (fun a c ha hc => by obtain rfl : c = 0 := (by omega); rw [Nat.zero_add, Nat.mul_one, Nat.add_zero]; exact CEnt.refl _)) ?_; dsimp only [List.set_cons_zero, List.set_cons_succ, List.cons_append, List.nil_append, List.length_cons, List.length_nil, Nat.zero_add, Nat.reduceAdd])
    refine jcd (.rd 0 (.rd 1 (.rd 2 (.rd 3 (.rd 4 (.rd 5 (.rd 6 (.rd 7 (.rd 8 (.rd 9 .done)))))))))) ?_
    refine jyq jrm ?_
    refine jyq jrm ?_
    refine jyq jrm ?_
    refine jyq (jrsb (hz1 := (show _ = (((fromM (nowL l)) : Nat) : Int) by omega)) (hz2 := (show _ = (((toM (nowL l)) : Nat) : Int) by omega))) ?_
    refine jyq jrm ?_
    refine jyq jrm ?_
    refine jyq (jrst (hz2 := (show _ = (((toM (nowL l)) : Nat) : Int) by omega))) ?_
    refine jyq jrm ?_
    refine jyq jrm ?_
    refine jyq jrm ?_
    refine jyd ?_
    refine jtn ?_
    refine code_ret ?_
    rw [hN]
    refine end_H (.inl rfl) rfl (res_3 rfl javt javt javt) (CEnt.tup3 (CEnt.bs ?_) (CEnt.bs ?_) (CEnt.refl _))
    · exact hc.1.symm
    · rw [take_toM (by omega)]
end Am
end Go.Proofs.YtjckfbpdieijeaaGreatDoor

/- Chapter 8: the reference's reader: said, Do. -/
namespace Go.Proofs.YtjckfbpdieijeaaGreatDoor
set_option linter.unusedVariables false
namespace Am
variable {gs : List Nat} [OkG gs]
open Go.RowKit Cal
set_option maxRecDepth 100000

theorem range_ok {b : List UInt8} {x y : Int} (h : (rangeM b x y).2 = 0) : (rangeM b x y).1 = (getM b).1 := by
  unfold rangeM at h ⊢
  split
  · rename_i h1; rw [if_pos h1] at h; exact absurd h h1
  · split
    · rename_i h1 h2; rw [if_neg h1, if_pos h2] at h; exact absurd h (by decide)
    · rfl
theorem said_34 {a : AA} (h : a.kind = 3 ∨ a.kind = 4) (b : List UInt8) : saidM a b = (vN (rangeM b a.least a.most).1, (rangeM b a.least a.most).2) := by
  unfold saidM
  rcases h with h | h
  · rw [if_pos h]
  · rw [if_neg (by omega), if_pos h]
def SaidQ (a : AA) (b : List UInt8) : CV → List (Option Nat × Res) → Prop := fun r H' => (∃ v, r = .tup 2 (fl [valC v, .c (.int .i64 ((saidM a b).2 : Nat))]) ∧ ((saidM a b).2 = 0 → v = (saidM a b).1)) ∧ H' = []
def GetC (gs : List Nat) (P : Program) (f : FuncId) : Prop := ∀ b : List UInt8, b.length ≤ 1000000 → ACp gs P f [bsC b] (.tup 2 (fl [isC (getA b).1, .c (.int .i64 ((getA b).2 : Nat))]))
/-- what a number's body says, as the reference tells it -/
theorem rsaid3_ac {gs : List Nat} (a : AA) (b : List UInt8) (h3 : a.kind = 3) : AC gs Tryz.prog 54 [] [askC a, bsC b] (SaidQ a b) := by
  refine ac_of 126 Tryz.func54 rfl rfl rfl (fun al w0 F0 St0 => ?_)
  refine jcr ?_
  refine jqe (jebx 4 fun p1 => ?_)
  refine jqe (jeal (n := 5) zr43 rfl fun p2 => ?_)
  refine jq jrm ?_
  refine seq_nil ?_
  refine jcs ?_
  refine jcr ?_
  refine jq (jrfa 0 1 false) ?_
  refine jqo jrdo ?_
  refine seq_nil ?_
  refine code_block ?_
  refine jcs ?_
  refine jcr ?_
  refine jq jrc ?_
  refine jq jrm ?_
  refine seq_nil ?_
  refine jcc (fun h246 => ?_) fun h246 => ?_
  rotate_left
  · exfalso; omega
  refine code_skip (jtn ?_)
  refine jcT ?_
  refine jcr ?_
  refine jq jrm ?_
  refine jqe (jecP (rget04_ac b) ?_)
  refine jq jrm ?_
  refine jq jrx ?_
  refine jq jrx ?_
  refine jq jrm ?_
  refine jq jrm ?_
  refine seq_nil ?_
  refine jcs ?_
  refine jcr ?_
  refine jq jrm ?_
  refine jq jrc ?_
  refine jq jrm ?_
  refine jqsp 26 (fun g248 => ?_) fun g248 => ?_
  rotate_left
  · refine jqs ?_
    refine jqs ?_
    refine jqs ?_
    refine jqs ?_
    refine jqs ?_
    refine jqs ?_
    refine jqs ?_
    refine jqs ?_
    refine jqs ?_
    refine jqs ?_
    refine jq jrpF ?_
    refine seq_nil ?_
    refine jcF ?_
    refine code_skip (jtn ?_)
    refine jcr ?_
    refine jq jrm ?_
    refine jq (rd_build (n := 5) rfl zr43 pl43 rfl rfl) ?_
    refine jq jrm ?_
    refine jqm (jmst 5 ?_)
    refine jq jrm ?_
    refine seq_nil ?_
    refine code_ret (jbr (jtr ?_))
    have hs := said_34 (a := a) (by omega) b
    have hq : SaidQ a b (.tup 2 (fl [valC (vN (getM b).1), .c (.int .i64 ((rangeM b a.least a.most).2 : Nat))])) [] := ⟨⟨_, by rw [hs], fun h0 => by rw [hs] at h0 ⊢; simp only; rw [range_ok h0]⟩, rfl⟩
    exact end_ownV (.inl rfl) [] (by decide) rfl (res_2 rfl (javA 5) javt) (CEnt.tup2 (CEnt.agg rfl (fun j hj => by rcases j with _ | _ | _ | _ | _ | j <;> first | exact CEnt.refl _ | exact CEnt.nilB | omega)) (CEnt.int (by unfold rangeM; (rw [if_pos (by omega)]; done)))) hq
  refine jq jrm ?_
  refine jq (jrfa 2 1 false) ?_
  refine jqo jrdo ?_
  refine jq jrc ?_
  refine jq jrm ?_
  refine jqsp 31 (fun g248_2 => ?_) fun g248_2 => ?_
  · refine jqs ?_
    refine jqs ?_
    refine jqs ?_
    refine jqs ?_
    refine jq jrpT ?_
    refine jq jrpT ?_
    refine seq_nil ?_
    refine jcT ?_
    refine jcg ?_
    refine jq jrm ?_
    refine seq_nil ?_
    refine jtn ?_
    refine jcr ?_
    refine jq jrm ?_
    refine jq (rd_build (n := 5) rfl zr43 pl43 rfl rfl) ?_
    refine jq jrm ?_
    refine jqm (jmst 5 ?_)
    refine jq jrm ?_
    refine seq_nil ?_
    refine code_ret (jbr (jtr ?_))
    have hs := said_34 (a := a) (by omega) b
    have hq : SaidQ a b (.tup 2 (fl [valC (vN (getM b).1), .c (.int .i64 ((rangeM b a.least a.most).2 : Nat))])) [] := ⟨⟨_, by rw [hs], fun h0 => by rw [hs] at h0 ⊢; simp only; rw [range_ok h0]⟩, rfl⟩
    exact end_ownV (.inl rfl) [] (by decide) rfl (res_2 rfl (javA 5) javt) (CEnt.tup2 (CEnt.agg rfl (fun j hj => by rcases j with _ | _ | _ | _ | _ | j <;> first | exact CEnt.refl _ | exact CEnt.nilB | omega)) (CEnt.int (by unfold rangeM; (rw [if_neg (by omega), if_pos (by omega)]; rfl)))) hq
  refine jq jrm ?_
  refine jq (jrfa 3 1 false) ?_
  refine jqo jrdo ?_
  refine jq jrc ?_
  refine jq jrpF ?_
  refine jq jrpT ?_
  refine seq_nil ?_
  refine jcc (fun h248 => ?_) fun h248 => ?_
  rotate_left
  · refine code_skip (jtn ?_)
    refine jcr ?_
    refine jq jrm ?_
    refine jq (rd_build (n := 5) rfl zr43 pl43 rfl rfl) ?_
    refine jq jrm ?_
    refine jqm (jmst 5 ?_)
    refine jq jrm ?_
    refine seq_nil ?_
    refine code_ret (jbr (jtr ?_))
    have hs := said_34 (a := a) (by omega) b
    have hq : SaidQ a b (.tup 2 (fl [valC (vN (getM b).1), .c (.int .i64 ((rangeM b a.least a.most).2 : Nat))])) [] := ⟨⟨_, by rw [hs], fun h0 => by rw [hs] at h0 ⊢; simp only; rw [range_ok h0]⟩, rfl⟩
    exact end_ownV (.inl rfl) [] (by decide) rfl (res_2 rfl (javA 5) javt) (CEnt.tup2 (CEnt.agg rfl (fun j hj => by rcases j with _ | _ | _ | _ | _ | j <;> first | exact CEnt.refl _ | exact CEnt.nilB | omega)) (CEnt.int (by unfold rangeM; (rw [if_neg (by omega), if_neg (by omega)]; simp only; omega)))) hq
  refine jcg ?_
  refine jq jrm ?_
  refine seq_nil ?_
  refine jtn ?_
  refine jcr ?_
  refine jq jrm ?_
  refine jq (rd_build (n := 5) rfl zr43 pl43 rfl rfl) ?_
  refine jq jrm ?_
  refine jqm (jmst 5 ?_)
  refine jq jrm ?_
  refine seq_nil ?_
  refine code_ret (jbr (jtr ?_))
  have hs := said_34 (a := a) (by omega) b
  have hq : SaidQ a b (.tup 2 (fl [valC (vN (getM b).1), .c (.int .i64 ((rangeM b a.least a.most).2 : Nat))])) [] := ⟨⟨_, by rw [hs], fun h0 => by rw [hs] at h0 ⊢; simp only; rw [range_ok h0]⟩, rfl⟩
  exact end_ownV (.inl rfl) [] (by decide) rfl (res_2 rfl (javA 5) javt) (CEnt.tup2 (CEnt.agg rfl (fun j hj => by rcases j with _ | _ | _ | _ | _ | j <;> first | exact CEnt.refl _ | exact CEnt.nilB | omega)) (CEnt.int (by unfold rangeM; (rw [if_neg (by omega), if_pos (by omega)]; rfl)))) hq
end Am
end Go.Proofs.YtjckfbpdieijeaaGreatDoor

/- Chapter 8: the reference's reader: Do. -/
namespace Go.Proofs.YtjckfbpdieijeaaGreatDoor
set_option linter.unusedVariables false
namespace Am
variable {gs : List Nat} [OkG gs]
open Go.RowKit Cal
set_option maxRecDepth 100000

theorem nextR_err {tag : Int} {l : List (List UInt8)} {k : Nat} (h : k ≠ 0) : nextR tag l k = ⟨l, k, 0, [], [], false⟩ := by unfold nextR; rw [if_pos h]
theorem readR_err {a : AA} {l : List (List UInt8)} {k : Nat} (h : k ≠ 0) : readR a l k = ⟨l, k, VV.none⟩ := by
  have hm : moreM l k = false := by unfold moreM; simp [h]
  have he : enterR a.tag l k = ⟨l, k, 0, [], [], false⟩ := by unfold enterR; rw [hm, if_neg (by simp)]; exact nextR_err h
  unfold readR
  split
  · unfold enterL; rw [he]; rfl
  · split
    · have : leaveK l k = k := by unfold leaveK; rw [if_pos h]
      unfold leaveL
      rw [this, if_neg h]
    · split
      · rw [nextR_err h]; rfl
      · unfold readV valK
        rw [nextR_err h]
        simp
theorem tag_at {a : AA} (h1 : 3 ≤ a.kind) (h2 : a.kind ≤ 9) : fl [CV.c (.int .i64 2), .c (.int .i64 10), .c (.int .i64 1), .c (.int .i64 4), .c (.int .i64 12), .c (.int .i64 6), .c (.int .i64 24)] ((a.kind - 3).toNat) = .c (.int .i64 (tagA a)) := by
  obtain h | h | h | h | h | h | h : a.kind = 3 ∨ a.kind = 4 ∨ a.kind = 5 ∨ a.kind = 6 ∨ a.kind = 7 ∨ a.kind = 8 ∨ a.kind = 9 := by omega
  all_goals (unfold tagA; rw [h]; rfl)
theorem lb_takeD {l : List (List UInt8)} {m i : Nat} (h : i < m) : bsC (l.getD (0 + i) []) = bsC ((l.take m).getD i []) := by
  simp [List.getD_eq_getElem?_getD, List.getElem?_take, h]
theorem readR_enter {a : AA} {l : List (List UInt8)} (h : a.kind = 1) (h0 : ¬(moreM l 0 = true ∧ madeM a.tag = false)) : readR a l 0 = ⟨if (nextR a.tag l 0).is = true then (nextR a.tag l 0).l ++ [(nextR a.tag l 0).body] else (nextR a.tag l 0).l, (nextR a.tag l 0).k, vI (nextR a.tag l 0).is⟩ := by
  have hE : enterR a.tag l 0 = nextR a.tag l 0 := by unfold enterR; rw [if_neg h0]
  unfold readR enterL
  rw [if_pos h, hE]
theorem readR_bad {a : AA} {l : List (List UInt8)} (h : a.kind = 1) (h0 : moreM l 0 = true ∧ madeM a.tag = false) : readR a l 0 = ⟨l, 5, vI false⟩ := by
  have hE : enterR a.tag l 0 = ⟨l, 5, 0, [], [], false⟩ := by unfold enterR; rw [if_pos h0]; exact nextR_err (by decide)
  unfold readR enterL
  rw [if_pos h, hE]
  rfl
theorem readR_leave {a : AA} {l : List (List UInt8)} (h : a.kind = 2) {e : Nat} (he : leaveK l 0 = e) : readR a l 0 = ⟨if e = 0 then l.take (l.length - 1) else l, e, VV.none⟩ := by
  unfold readR leaveL
  rw [if_neg (by omega), if_pos h, he]
theorem readR_val {a : AA} {l : List (List UInt8)} (h1 : a.kind ≠ 1) (h2 : a.kind ≠ 2) (h3 : a.kind ≠ 11) : readR a l 0 = readV (tagA a) (saidM a) l 0 := by
  unfold readR
  rw [if_neg h1, if_neg h2, if_neg h3]
set_option maxHeartbeats 2000000 in
theorem rdo08_ac {gs : List Nat} (n : Nat) (l : List (List UInt8)) (k : Nat) (a : AA) (hl : 0 < l.length ∧ l.length ≤ 1000000) (hb : (nowL l).length ≤ 1000) (hS : a.kind ≠ 1 → a.kind ≠ 2 → a.kind ≠ 11 → ∀ b : List UInt8, b.length ≤ 1000 → AC gs Tryz.prog 54 [] [askC a, bsC b] (SaidQ a b)) : AC gs Tryz.prog 20 [rqE n l k] [.op 0 (some n) 0, askC a] (fun r H' => r = valC (readR a l k).v ∧ H' = [rqE n (readR a l k).l (readR a l k).k]) := by
  have hbd := nextM_bd (nowL l)
  have hn1 : (nextR a.tag l 0).l.length = l.length := nextR_len
  have hbb : (nextR (tagA a) l 0).body.length ≤ 1000 := by
    unfold nextR
    repeat' split
    all_goals (simp only [List.length_nil]; omega)
  refine ac_of 160 Tryz.func20 rfl rfl rfl (fun al w0 F0 St0 => ?_)
  refine jcr ?_
  refine jqe (jebx 4 fun p1 => ?_)
  refine jqe (jeal (n := 5) zr43 rfl fun p2 => ?_)
  refine seq_nil ?_
  refine jcr ?_
  refine jq (rd_build (n := 5) rfl zr43 pl43 rfl rfl) ?_
  refine jqe (jeal (n := 5) zr43 rfl fun p3 => ?_)
  refine jqm (jmst 5 ?_)
  refine seq_nil ?_
  refine jcs ?_
  refine jcr ?_
  refine jq jrm ?_
  refine jq jrnc ?_
  refine jq (jrfa 1 1 false) ?_
  refine jqo jrdo ?_
  refine jq jrc ?_
  refine seq_nil ?_
  refine jcc (fun h199 => ?_) fun h199 => ?_
  · refine jcr ?_
    refine jqo (jrdoA 5) ?_
    refine jqm (jmst 5 ?_)
    refine seq_nil ?_
    refine code_ret (jtr ?_)
    rw [readR_err (by omega)]
    exact end_H (.inl rfl) rfl (res_1 rfl (javA 5)) (CEnt.agg rfl (fun j hj => by rcases j with _ | _ | _ | _ | _ | j <;> first | exact CEnt.refl _ | exact CEnt.nilB | omega))
  refine code_skip (jtn ?_)
  refine jcs ?_
  obtain rfl : k = 0 := by omega
  refine code_ent (freeze 1 rfl) ?_
  refine code_ent (thawP 3 (m := 4) rfl rfl (by decide)) ?_
  dsimp only [List.set_cons_zero, List.set_cons_succ, List.cons_append, List.nil_append, List.length_cons, List.length_nil, Nat.zero_add, Nat.reduceAdd]
  refine jcr ?_
  refine jq (jrfa 0 1 false) ?_
  refine jq jrdr ?_
  refine seq_nil ?_
  refine code_block ?_
  refine jcr ?_
  refine jq jrc ?_
  refine jq jrm ?_
  refine seq_nil ?_
  refine jcc (fun h203 => ?_) fun h203 => ?_
  · refine jcs ?_
    refine jcs ?_
    refine jcd (.rd 0 (.rd 1 (.rd 2 (.rd 3 (.rd 4 (.rd 5 (.rd 6 (.rd 7 (.rd 8 (.rd 9 (.rd 10 (.rd 11 (.rd 12 (.rd 13 (.rd 14 (.rd 15 (.rd 16 (.one 17 (.rd 18 (.rd 19 .done)))))))))))))))))))) ?_
    refine jyq jrm ?_
    refine jyq jrnc ?_
    refine jyq (jrfa 0 1 false) ?_
    refine jyo jrdo ?_
    refine jyq jrm ?_
    refine jyq jrnc ?_
    refine jyq (jrfa 0 1 false) ?_
    refine jyo jrdo ?_
    refine jyq jrl ?_
    refine jyq jra ?_
    refine jyq (jri (i := (l.length - 1)) (hz := by omega)) ?_
    refine jyq jrdr ?_
    refine jyq jrl ?_
    refine jyq jrc ?_
    refine jyq jrm ?_
    refine jysp 44 (fun g204 => ?_) fun g204 => ?_
    rotate_left
    · refine jys ?_
      refine jys ?_
      refine jys1 ?_
      refine jys ?_
      refine jyq jrpF ?_
      refine jyd ?_
      refine jtn ?_
      refine jcF ?_
      refine code_skip (jtn ?_)
      have hR := readR_enter (a := a) (l := l) (by omega) (by simp_all [moreM, madeM, nowL])
      refine jcr ?_
      refine jq jrm ?_
      refine jq (jrfa 1 1 false) ?_
      refine jq jrdr ?_
      refine jqm (jmcH 0 (rnext08_ac n l 0 a.tag hl (by omega)) ?_)
      rintro _ _ ⟨rfl, rfl⟩
      refine ⟨_, _, rfl, CEnt.refl _, ?_⟩
      refine jq jrm ?_
      refine jq jrx ?_
      refine jq jrx ?_
      refine jq jrx ?_
      refine jq jrm ?_
      refine jq jrm ?_
      refine jq jrm ?_
      refine seq_nil ?_
      refine jcs ?_
      refine jcr ?_
      refine jq jrm ?_
      refine seq_nil ?_
      refine jcc (fun h209 => ?_) fun h209 => ?_
      rotate_left
      · refine code_skip (jtn ?_)
        first
          | (refine code_ent (freeze 4 rfl) ?_; refine code_ent (thawC 0 0 4 (rqF ([] ++ (nextR a.tag l 0).l ++ [(nextR a.tag l 0).body]) (nextR a.tag l 0).k) (fun i _ => bsC (([] ++ (nextR a.tag l 0).l ++ [(nextR a.tag l 0).body]).getD i [])) rfl rfl (CEnt.refl _) (CEnt.refl _) (fun j hj h0 => by rcases j with _ | _ | j <;> first | omega | exact CEnt.refl _) (by simp) (fun a c ha hc => by obtain rfl : c = 0 := (by omega); rw [Nat.zero_add, Nat.mul_one, Nat.add_zero]; exact CEnt.refl _)) ?_; dsimp only [List.set_cons_zero, List.set_cons_succ, List.cons_append, List.nil_append, List.length_cons, List.length_nil, Nat.zero_add, Nat.reduceAdd]; have hL : (if (nextR a.tag l 0).is = true then (nextR a.tag l 0).l ++ [(nextR a.tag l 0).body] else (nextR a.tag l 0).l) = [] ++ (nextR a.tag l 0).l ++ [(nextR a.tag l 0).body] := by rw [if_pos (by simpa using h209)]; rfl)
          | (have hL : (if (nextR a.tag l 0).is = true then (nextR a.tag l 0).l ++ [(nextR a.tag l 0).body] else (nextR a.tag l 0).l) = (nextR a.tag l 0).l := by rw [if_neg (by simpa using h209)])
        refine jcr ?_
        refine jq jrm ?_
        refine jq (rd_build (n := 5) rfl zr43 pl43 rfl rfl) ?_
        refine jqm (jmst 5 ?_)
        refine seq_nil ?_
        refine code_ret (jbr (jtr ?_))
        rw [hR, hL]
        exact end_H (.inl rfl) rfl (res_1 rfl (javA 5)) (CEnt.agg rfl (fun j hj => by rcases j with _ | _ | _ | _ | _ | j <;> first | exact CEnt.refl _ | exact CEnt.nilB | omega))
      refine jcg ?_
      refine jq jrm ?_
      refine jqe (jebl 0 1 zr26 fun p5 => ?_)
      refine jq jrm ?_
      refine jq jrnc ?_
      refine jq (jrfa 0 1 false) ?_
      refine jqo jrdo ?_
      refine jqm (m_appendC (l := []) ( rowC_lb) rfl rfl rfl rfl (Nat.le_of_eq (Nat.zero_mul _)) (fun j hj => absurd hj (by simp)) (src_rs rfl) rfl (fun j hj => by (simp only [Nat.div_one]; exact CEnt.refl _)) Tryz.underlying56 nu56 sz26 zr26 by26 rfl (by (simp; omega)) (by (simp; omega)) (fun j hj => rfl) rfl rfl rfl (fun p6 => ?_))
      refine jq jrm ?_
      refine jqe (jebl 1 1 zr26 fun p7 => ?_)
      refine jqm (m_appendC (rowC_lb) (l2 := [(nextR a.tag l 0).body]) rfl rfl rfl rfl (by exact Nat.le_refl _) (fun _ _ => CEnt.refl _) (src_os rfl (.inl rfl) (by decide)) rfl (fun j hj => by rcases j with _|j <;> first | exact CEnt.refl _ | exact CEnt.int (by omega) | (exfalso; simp at hj <;> omega)) Tryz.underlying56 nu56 sz26 zr26 by26 rfl (by (simp; omega)) (by (simp; omega)) (leaf_flk rfl rfl) rfl rfl rfl (fun p8 => ?_))
      refine jq jrnc ?_
      refine jq (jrfa 0 1 false) ?_
      refine jqm (jmst 1 ?_)
      refine seq_nil ?_
      refine jtn ?_
      first
        | (refine code_ent (freeze 4 rfl) ?_; refine code_ent (thawC 0 0 4 (rqF ([] ++ (nextR a.tag l 0).l ++ [(nextR a.tag l 0).body]) (nextR a.tag l 0).k) (fun i _ => bsC (([] ++ (nextR a.tag l 0).l ++ [(nextR a.tag l 0).body]).getD i [])) rfl rfl (CEnt.refl _) (CEnt.refl _) (fun j hj h0 => by rcases j with _ | _ | j <;> first | omega | exact CEnt.refl _) (by simp) (fun a c ha hc => by obtain rfl : c = 0 := (by omega); rw [Nat.zero_add, Nat.mul_one, Nat.add_zero]; exact CEnt.refl _)) ?_; dsimp only [List.set_cons_zero, List.set_cons_succ, List.cons_append, List.nil_append, List.length_cons, List.length_nil, Nat.zero_add, Nat.reduceAdd]; have hL : (if (nextR a.tag l 0).is = true then (nextR a.tag l 0).l ++ [(nextR a.tag l 0).body] else (nextR a.tag l 0).l) = [] ++ (nextR a.tag l 0).l ++ [(nextR a.tag l 0).body] := by rw [if_pos (by simpa using h209)]; rfl)
        | (have hL : (if (nextR a.tag l 0).is = true then (nextR a.tag l 0).l ++ [(nextR a.tag l 0).body] else (nextR a.tag l 0).l) = (nextR a.tag l 0).l := by rw [if_neg (by simpa using h209)])
      refine jcr ?_
      refine jq jrm ?_
      refine jq (rd_build (n := 5) rfl zr43 pl43 rfl rfl) ?_
      refine jqm (jmst 5 ?_)
      refine seq_nil ?_
      refine code_ret (jbr (jtr ?_))
      rw [hR, hL]
      exact end_H (.inl rfl) rfl (res_1 rfl (javA 5)) (CEnt.agg rfl (fun j hj => by rcases j with _ | _ | _ | _ | _ | j <;> first | exact CEnt.refl _ | exact CEnt.nilB | omega))
    refine jyq (jrfa 1 1 false) ?_
    refine jyq jrdr ?_
    refine jye (jecP (rmade_ac a.tag) ?_)
    refine jyq jrn ?_
    refine jyq jrpT ?_
    refine jyd ?_
    refine jtn ?_
    refine jcc (fun h204 => ?_) fun h204 => ?_
    · refine jcr ?_
      refine jq jrm ?_
      refine jq jrnc ?_
      refine jq (jrfa 1 1 false) ?_
      refine jqm (jmstF 1 (rqF l 5) ?_ ?_)
      · exact (fun j hj => by rcases j with _ | _ | j <;> exact CEnt.refl _)
      refine seq_nil ?_
      refine jcr ?_
      refine jqo (jrdoA 5) ?_
      refine jqm (jmst 5 ?_)
      refine seq_nil ?_
      refine code_ret (jtr (jbr (jtr ?_)))
      rw [readR_bad (by omega) (by simp_all [moreM, madeM, nowL])]
      exact end_H (.inl rfl) rfl (res_1 rfl (javA 5)) (CEnt.agg rfl (fun j hj => by rcases j with _ | _ | _ | _ | _ | j <;> first | exact CEnt.refl _ | exact CEnt.nilB | omega))
    refine code_skip (jtn ?_)
    have hR := readR_enter (a := a) (l := l) (by omega) (by simp_all [moreM, madeM, nowL])
    refine jcr ?_
    refine jq jrm ?_
    refine jq (jrfa 1 1 false) ?_
    refine jq jrdr ?_
    refine jqm (jmcH 0 (rnext08_ac n l 0 a.tag hl (by omega)) ?_)
    rintro _ _ ⟨rfl, rfl⟩
    refine ⟨_, _, rfl, CEnt.refl _, ?_⟩
    refine jq jrm ?_
    refine jq jrx ?_
    refine jq jrx ?_
    refine jq jrx ?_
    refine jq jrm ?_
    refine jq jrm ?_
    refine jq jrm ?_
    refine seq_nil ?_
    refine jcs ?_
    refine jcr ?_
    refine jq jrm ?_
    refine seq_nil ?_
    refine jcc (fun h209 => ?_) fun h209 => ?_
    rotate_left
    · refine code_skip (jtn ?_)
      first
        | (refine code_ent (freeze 4 rfl) ?_; refine code_ent (thawC 0 0 4 (rqF ([] ++ (nextR a.tag l 0).l ++ [(nextR a.tag l 0).body]) (nextR a.tag l 0).k) (fun i _ => bsC (([] ++ (nextR a.tag l 0).l ++ [(nextR a.tag l 0).body]).getD i [])) rfl rfl (CEnt.refl _) (CEnt.refl _) (fun j hj h0 => by rcases j with _ | _ | j <;> first | omega | exact CEnt.refl _) (by simp) (fun a c ha hc => by obtain rfl : c = 0 := (by omega); rw [Nat.zero_add, Nat.mul_one, Nat.add_zero]; exact CEnt.refl _)) ?_; dsimp only [List.set_cons_zero, List.set_cons_succ, List.cons_append, List.nil_append, List.length_cons, List.length_nil, Nat.zero_add, Nat.reduceAdd]; have hL : (if (nextR a.tag l 0).is = true then (nextR a.tag l 0).l ++ [(nextR a.tag l 0).body] else (nextR a.tag l 0).l) = [] ++ (nextR a.tag l 0).l ++ [(nextR a.tag l 0).body] := by rw [if_pos (by simpa using h209)]; rfl)
        | (have hL : (if (nextR a.tag l 0).is = true then (nextR a.tag l 0).l ++ [(nextR a.tag l 0).body] else (nextR a.tag l 0).l) = (nextR a.tag l 0).l := by rw [if_neg (by simpa using h209)])
      refine jcr ?_
      refine jq jrm ?_
      refine jq (rd_build (n := 5) rfl zr43 pl43 rfl rfl) ?_
      refine jqm (jmst 5 ?_)
      refine seq_nil ?_
      refine code_ret (jbr (jtr ?_))
      rw [hR, hL]
      exact end_H (.inl rfl) rfl (res_1 rfl (javA 5)) (CEnt.agg rfl (fun j hj => by rcases j with _ | _ | _ | _ | _ | j <;> first | exact CEnt.refl _ | exact CEnt.nilB | omega))
    refine jcg ?_
    refine jq jrm ?_
    refine jqe (jebl 0 1 zr26 fun p5 => ?_)
    refine jq jrm ?_
    refine jq jrnc ?_
    refine jq (jrfa 0 1 false) ?_
    refine jqo jrdo ?_
    refine jqm (m_appendC (l := []) ( rowC_lb) rfl rfl rfl rfl (Nat.le_of_eq (Nat.zero_mul _)) (fun j hj => absurd hj (by simp)) (src_rs rfl) rfl (fun j hj => by (simp only [Nat.div_one]; exact CEnt.refl _)) Tryz.underlying56 nu56 sz26 zr26 by26 rfl (by (simp; omega)) (by (simp; omega)) (fun j hj => rfl) rfl rfl rfl (fun p6 => ?_))
    refine jq jrm ?_
    refine jqe (jebl 1 1 zr26 fun p7 => ?_)
    refine jqm (m_appendC (rowC_lb) (l2 := [(nextR a.tag l 0).body]) rfl rfl rfl rfl (by exact Nat.le_refl _) (fun _ _ => CEnt.refl _) (src_os rfl (.inl rfl) (by decide)) rfl (fun j hj => by rcases j with _|j <;> first | exact CEnt.refl _ | exact CEnt.int (by omega) | (exfalso; simp at hj <;> omega)) Tryz.underlying56 nu56 sz26 zr26 by26 rfl (by (simp; omega)) (by (simp; omega)) (leaf_flk rfl rfl) rfl rfl rfl (fun p8 => ?_))
    refine jq jrnc ?_
    refine jq (jrfa 0 1 false) ?_
    refine jqm (jmst 1 ?_)
    refine seq_nil ?_
    refine jtn ?_
    first
      | (refine code_ent (freeze 4 rfl) ?_; refine code_ent (thawC 0 0 4 (rqF ([] ++ (nextR a.tag l 0).l ++ [(nextR a.tag l 0).body]) (nextR a.tag l 0).k) (fun i _ => bsC (([] ++ (nextR a.tag l 0).l ++ [(nextR a.tag l 0).body]).getD i [])) rfl rfl (CEnt.refl _) (CEnt.refl _) (fun j hj h0 => by rcases j with _ | _ | j <;> first | omega | exact CEnt.refl _) (by simp) (fun a c ha hc => by obtain rfl : c = 0 := (by omega); rw [Nat.zero_add, Nat.mul_one, Nat.add_zero]; exact CEnt.refl _)) ?_; dsimp only [List.set_cons_zero, List.set_cons_succ, List.cons_append, List.nil_append, List.length_cons, List.length_nil, Nat.zero_add, Nat.reduceAdd]; have hL : (if (nextR a.tag l 0).is = true then (nextR a.tag l 0).l ++ [(nextR a.tag l 0).body] else (nextR a.tag l 0).l) = [] ++ (nextR a.tag l 0).l ++ [(nextR a.tag l 0).body] := by rw [if_pos (by simpa using h209)]; rfl)
      | (have hL : (if (nextR a.tag l 0).is = true then (nextR a.tag l 0).l ++ [(nextR a.tag l 0).body] else (nextR a.tag l 0).l) = (nextR a.tag l 0).l := by rw [if_neg (by simpa using h209)])
    refine jcr ?_
    refine jq jrm ?_
    refine jq (rd_build (n := 5) rfl zr43 pl43 rfl rfl) ?_
    refine jqm (jmst 5 ?_)
    refine seq_nil ?_
    refine code_ret (jbr (jtr ?_))
    rw [hR, hL]
    exact end_H (.inl rfl) rfl (res_1 rfl (javA 5)) (CEnt.agg rfl (fun j hj => by rcases j with _ | _ | _ | _ | _ | j <;> first | exact CEnt.refl _ | exact CEnt.nilB | omega))
  refine jcr ?_
  refine jq jrc ?_
  refine jq jrm ?_
  refine seq_nil ?_
  refine jcc (fun h213 => ?_) fun h213 => ?_
  · refine jcr ?_
    refine jq jrm ?_
    refine jq jrnc ?_
    refine jq (jrfa 0 1 false) ?_
    refine jqo jrdo ?_
    refine jq jrl ?_
    refine jq jra ?_
    refine jq jrm ?_
    refine seq_nil ?_
    refine jcs ?_
    refine jcr ?_
    refine jq jrm ?_
    refine jq jrc ?_
    refine seq_nil ?_
    refine jcc (fun h215 => ?_) fun h215 => ?_
    · refine jcg ?_
      refine jq jrm ?_
      refine jq jrnc ?_
      refine jq (jrfa 1 1 false) ?_
      refine jqm (jmstF 1 (rqF l 24) ?_ ?_)
      · exact (fun j hj => by rcases j with _ | _ | j <;> exact CEnt.refl _)
      refine seq_nil ?_
      refine jtn ?_
      refine jcr ?_
      refine jqo (jrdoA 5) ?_
      refine jqm (jmst 5 ?_)
      refine seq_nil ?_
      refine code_ret (jbr (jtr ?_))
      first
        | rw [readR_leave (e := 24) (by omega) (by unfold leaveK; rw [if_neg (by decide), if_pos (by omega)]), if_neg (by decide)]
        | rw [readR_leave (e := 4) (by omega) (by unfold leaveK nowL; rw [if_neg (by decide), if_neg (by omega), if_pos (by omega)]), if_neg (by decide)]
        | rw [readR_leave (e := 0) (by omega) (by unfold leaveK nowL; rw [if_neg (by decide), if_neg (by omega), if_neg (by omega)]), if_pos rfl]
      exact end_H (.inl rfl) rfl (res_1 rfl (javA 5)) (CEnt.agg rfl (fun j hj => by rcases j with _ | _ | _ | _ | _ | j <;> first | exact CEnt.refl _ | exact CEnt.nilB | omega))
    refine jcr ?_
    refine jq jrm ?_
    refine jq jrnc ?_
    refine jq (jrfa 0 1 false) ?_
    refine jqo jrdo ?_
    refine jq jrm ?_
    refine jq (jri (i := (l.length - 1)) (hz := by omega)) ?_
    refine jq jrdr ?_
    refine jq jrl ?_
    refine jq jrc ?_
    refine seq_nil ?_
    refine jcc (fun h217 => ?_) fun h217 => ?_
    · refine jcg ?_
      refine jq jrm ?_
      refine jq jrnc ?_
      refine jq (jrfa 1 1 false) ?_
      refine jqm (jmstF 1 (rqF l 4) ?_ ?_)
      · exact (fun j hj => by rcases j with _ | _ | j <;> exact CEnt.refl _)
      refine seq_nil ?_
      refine jtn ?_
      refine jcr ?_
      refine jqo (jrdoA 5) ?_
      refine jqm (jmst 5 ?_)
      refine seq_nil ?_
      refine code_ret (jbr (jtr ?_))
      first
        | rw [readR_leave (e := 24) (by omega) (by unfold leaveK; rw [if_neg (by decide), if_pos (by omega)]), if_neg (by decide)]
        | rw [readR_leave (e := 4) (by omega) (by unfold leaveK nowL; rw [if_neg (by decide), if_neg (by omega), if_pos (by omega)]), if_neg (by decide)]
        | rw [readR_leave (e := 0) (by omega) (by unfold leaveK nowL; rw [if_neg (by decide), if_neg (by omega), if_neg (by omega)]), if_pos rfl]
      exact end_H (.inl rfl) rfl (res_1 rfl (javA 5)) (CEnt.agg rfl (fun j hj => by rcases j with _ | _ | _ | _ | _ | j <;> first | exact CEnt.refl _ | exact CEnt.nilB | omega))
    refine jcg ?_
    refine jq jrm ?_
    refine jq jrm ?_
    refine jq jrnc ?_
    refine jq (jrfa 0 1 false) ?_
    refine jqo jrdo ?_
    refine jq jrm ?_
    refine jq (jrsr (hl := (bd_none _ _)) (hu := (bd_some rfl (show _ = (((l.length - 1) : Nat) : Int) by omega)))) ?_
    refine jq jrnc ?_
    refine jq (jrfa 0 1 false) ?_
    refine jqm (jmstF 1 (rqF (l.take (l.length - 1)) 0) ?_ ?_)
    · exact (fun j hj => by rcases j with _ | _ | j <;> first | exact CEnt.rs (by rw [List.length_take]; omega) (fun i q hi hq => CEnt.of_eq (lb_takeD hi)) | exact CEnt.refl _ | omega)
    refine seq_nil ?_
    refine jtn ?_
    refine jcr ?_
    refine jqo (jrdoA 5) ?_
    refine jqm (jmst 5 ?_)
    refine seq_nil ?_
    refine code_ret (jbr (jtr ?_))
    first
      | rw [readR_leave (e := 24) (by omega) (by unfold leaveK; rw [if_neg (by decide), if_pos (by omega)]), if_neg (by decide)]
      | rw [readR_leave (e := 4) (by omega) (by unfold leaveK nowL; rw [if_neg (by decide), if_neg (by omega), if_pos (by omega)]), if_neg (by decide)]
      | rw [readR_leave (e := 0) (by omega) (by unfold leaveK nowL; rw [if_neg (by decide), if_neg (by omega), if_neg (by omega)]), if_pos rfl]
    exact end_H (.inl rfl) rfl (res_1 rfl (javA 5)) (CEnt.agg rfl (fun j hj => by rcases j with _ | _ | _ | _ | _ | j <;> first | exact CEnt.refl _ | exact CEnt.nilB | omega))
  refine jcr ?_
  refine jq jrc ?_
  refine jq jrm ?_
  refine seq_nil ?_
  refine jcc (fun h223 => ?_) fun h223 => ?_
  · refine jcr ?_
    refine jq jrm ?_
    refine jqm (jmcH 0 (rnext08_ac n l 0 0 hl (by omega)) ?_)
    rintro _ _ ⟨rfl, rfl⟩
    refine ⟨_, _, rfl, CEnt.refl _, ?_⟩
    refine jq jrm ?_
    refine jq jrx ?_
    refine jq jrx ?_
    refine jq jrx ?_
    refine jq jrm ?_
    refine jq jrm ?_
    refine jq jrm ?_
    refine seq_nil ?_
    refine jcr ?_
    refine jq jrm ?_
    refine jq (rd_build (n := 5) rfl zr43 pl43 rfl rfl) ?_
    refine jqm (jmst 5 ?_)
    refine seq_nil ?_
    refine code_ret (jbr (jtr ?_))
    rw [show readR a l 0 = ⟨(nextR 0 l 0).l, (nextR 0 l 0).k, vB (nextR 0 l 0).raw⟩ by unfold readR; rw [if_neg (by omega), if_neg (by omega), if_pos (by omega)]]
    exact end_H (.inl rfl) rfl (res_1 rfl (javA 5)) (CEnt.agg rfl (fun j hj => by rcases j with _ | _ | _ | _ | _ | j <;> first | exact CEnt.refl _ | exact CEnt.nilB | omega))
  refine code_skip (jbn (jtn ?_))
  refine jcr ?_
  refine jq jrm ?_
  refine seq_nil ?_
  refine jcs ?_
  refine jcr ?_
  refine jq (jrfa 0 1 false) ?_
  refine jq jrdr ?_
  refine jq jrc ?_
  refine jq jrm ?_
  refine jqsp 125 (fun g228 => ?_) fun g228 => ?_
  rotate_left
  · refine jqs ?_
    refine jqs ?_
    refine jqs ?_
    refine jq jrpF ?_
    refine seq_nil ?_
    refine jcF ?_
    refine code_skip (jtn ?_)
    first
      | refine code_ent (weaken 13 (.c (.int .i64 (tagA a))) (CEnt.refl _)) ?_
      | refine code_ent (weaken 13 (.c (.int .i64 (tagA a))) (CEnt.int (by unfold tagA; rw [if_neg (by omega), if_neg (by omega), if_neg (by omega), if_neg (by omega), if_neg (by omega), if_neg (by omega), if_neg (by omega)]))) ?_
    refine jcr ?_
    refine jq jrm ?_
    refine jq jrm ?_
    refine jqm (jmcH 0 (rnext08_ac n l 0 (tagA a) hl (by omega)) ?_)
    rintro _ _ ⟨rfl, rfl⟩
    refine ⟨_, _, rfl, CEnt.refl _, ?_⟩
    refine jq jrm ?_
    refine jq jrx ?_
    refine jq jrx ?_
    refine jq jrx ?_
    refine jq jrm ?_
    refine jq jrm ?_
    refine jq jrm ?_
    refine seq_nil ?_
    refine jcs ?_
    refine jcr ?_
    refine jq jrm ?_
    refine jq jrn ?_
    refine seq_nil ?_
    refine jcc (fun h232 => ?_) fun h232 => ?_
    · refine jcr ?_
      refine jqo (jrdoA 5) ?_
      refine jqm (jmst 5 ?_)
      refine seq_nil ?_
      refine code_ret (jtr ?_)
      rw [readR_val (by omega) (by omega) (by omega), show readV (tagA a) (saidM a) l 0 = ⟨(nextR (tagA a) l 0).l, (nextR (tagA a) l 0).k, VV.none⟩ by unfold readV valK; rw [if_neg (by simp_all), if_neg (by simp_all)]]
      exact end_H (.inl rfl) rfl (res_1 rfl (javA 5)) (CEnt.agg rfl (fun j hj => by rcases j with _ | _ | _ | _ | _ | j <;> first | exact CEnt.refl _ | exact CEnt.nilB | omega))
    refine code_skip (jtn ?_)
    have his := nextR_is (tag := tagA a) (l := l) (k := 0) (by simpa using h232)
    have hit : (nextR (tagA a) l 0).is = true := by simpa using h232
    refine jcr ?_
    refine jq (jrdrA 4) ?_
    refine jq jrm ?_
    refine jqe (jecS (hS (by omega) (by omega) (by omega) (nextR (tagA a) l 0).body hbb) ?_)
    rintro _ _ ⟨⟨v, rfl, hv⟩, rfl⟩
    refine jq jrm ?_
    refine jq jrx ?_
    refine jq jrx ?_
    refine jqe (jeal (n := 5) zr43 rfl fun p5 => ?_)
    refine jqm (jmst 5 ?_)
    refine jq jrm ?_
    refine seq_nil ?_
    refine jcs ?_
    refine jcr ?_
    refine jq jrm ?_
    refine jq jrc ?_
    refine seq_nil ?_
    refine jcc (fun h236 => ?_) fun h236 => ?_
    rotate_left
    · refine code_skip (jtn ?_)
      refine jcr ?_
      refine jqo (jrdoA 5) ?_
      refine jqm (jmst 5 ?_)
      refine seq_nil ?_
      refine code_ret ?_
      have he0 : (saidM a (nextR (tagA a) l 0).body).2 = 0 := by omega
      rw [readR_val (by omega) (by omega) (by omega), show readV (tagA a) (saidM a) l 0 = ⟨(nextR (tagA a) l 0).l, (nextR (tagA a) l 0).k, v⟩ by unfold readV valK; rw [if_pos hit, if_pos ⟨hit, he0⟩, hv he0]; show R8R.mk _ (saidM a (nextR (tagA a) l 0).body).2 _ = _; rw [he0, his.1]]
      exact end_H (.inl rfl) rfl (res_1 rfl (javA 5)) (CEnt.agg rfl (fun j hj => by rcases j with _ | _ | _ | _ | _ | j <;> first | exact CEnt.refl _ | exact CEnt.nilB | omega))
    refine jcr ?_
    refine jq jrm ?_
    refine jq jrm ?_
    refine jq jrnc ?_
    refine jq (jrfa 1 1 false) ?_
    refine jqm (jmstF 1 (rqF (nextR (tagA a) l 0).l (saidM a (nextR (tagA a) l 0).body).2) ?_ ?_)
    · exact (fun j hj => by rcases j with _ | _ | j <;> exact CEnt.refl _)
    refine seq_nil ?_
    refine jcr ?_
    refine jqo (jrdoA 5) ?_
    refine jqm (jmst 5 ?_)
    refine seq_nil ?_
    refine code_ret (jtr ?_)
    rw [readR_val (by omega) (by omega) (by omega), show readV (tagA a) (saidM a) l 0 = ⟨(nextR (tagA a) l 0).l, (saidM a (nextR (tagA a) l 0).body).2, VV.none⟩ by unfold readV valK; rw [if_pos hit, if_neg (by intro h; omega)]]
    exact end_H (.inl rfl) rfl (res_1 rfl (javA 5)) (CEnt.agg rfl (fun j hj => by rcases j with _ | _ | _ | _ | _ | j <;> first | exact CEnt.refl _ | exact CEnt.nilB | omega))
  refine jq (jrfa 0 1 false) ?_
  refine jq jrdr ?_
  refine jq jrc ?_
  refine jq jrpT ?_
  refine seq_nil ?_
  refine jcc (fun h228 => ?_) fun h228 => ?_
  rotate_left
  · refine code_skip (jtn ?_)
    first
      | refine code_ent (weaken 13 (.c (.int .i64 (tagA a))) (CEnt.refl _)) ?_
      | refine code_ent (weaken 13 (.c (.int .i64 (tagA a))) (CEnt.int (by unfold tagA; rw [if_neg (by omega), if_neg (by omega), if_neg (by omega), if_neg (by omega), if_neg (by omega), if_neg (by omega), if_neg (by omega)]))) ?_
    refine jcr ?_
    refine jq jrm ?_
    refine jq jrm ?_
    refine jqm (jmcH 0 (rnext08_ac n l 0 (tagA a) hl (by omega)) ?_)
    rintro _ _ ⟨rfl, rfl⟩
    refine ⟨_, _, rfl, CEnt.refl _, ?_⟩
    refine jq jrm ?_
    refine jq jrx ?_
    refine jq jrx ?_
    refine jq jrx ?_
    refine jq jrm ?_
    refine jq jrm ?_
    refine jq jrm ?_
    refine seq_nil ?_
    refine jcs ?_
    refine jcr ?_
    refine jq jrm ?_
    refine jq jrn ?_
    refine seq_nil ?_
    refine jcc (fun h232 => ?_) fun h232 => ?_
    · refine jcr ?_
      refine jqo (jrdoA 5) ?_
      refine jqm (jmst 5 ?_)
      refine seq_nil ?_
      refine code_ret (jtr ?_)
      rw [readR_val (by omega) (by omega) (by omega), show readV (tagA a) (saidM a) l 0 = ⟨(nextR (tagA a) l 0).l, (nextR (tagA a) l 0).k, VV.none⟩ by unfold readV valK; rw [if_neg (by simp_all), if_neg (by simp_all)]]
      exact end_H (.inl rfl) rfl (res_1 rfl (javA 5)) (CEnt.agg rfl (fun j hj => by rcases j with _ | _ | _ | _ | _ | j <;> first | exact CEnt.refl _ | exact CEnt.nilB | omega))
    refine code_skip (jtn ?_)
    have his := nextR_is (tag := tagA a) (l := l) (k := 0) (by simpa using h232)
    have hit : (nextR (tagA a) l 0).is = true := by simpa using h232
    refine jcr ?_
    refine jq (jrdrA 4) ?_
    refine jq jrm ?_
    refine jqe (jecS (hS (by omega) (by omega) (by omega) (nextR (tagA a) l 0).body hbb) ?_)
    rintro _ _ ⟨⟨v, rfl, hv⟩, rfl⟩
    refine jq jrm ?_
    refine jq jrx ?_
    refine jq jrx ?_
    refine jqe (jeal (n := 5) zr43 rfl fun p5 => ?_)
    refine jqm (jmst 5 ?_)
    refine jq jrm ?_
    refine seq_nil ?_
    refine jcs ?_
    refine jcr ?_
    refine jq jrm ?_
    refine jq jrc ?_
    refine seq_nil ?_
    refine jcc (fun h236 => ?_) fun h236 => ?_
    rotate_left
    · refine code_skip (jtn ?_)
      refine jcr ?_
      refine jqo (jrdoA 5) ?_
      refine jqm (jmst 5 ?_)
      refine seq_nil ?_
      refine code_ret ?_
      have he0 : (saidM a (nextR (tagA a) l 0).body).2 = 0 := by omega
      rw [readR_val (by omega) (by omega) (by omega), show readV (tagA a) (saidM a) l 0 = ⟨(nextR (tagA a) l 0).l, (nextR (tagA a) l 0).k, v⟩ by unfold readV valK; rw [if_pos hit, if_pos ⟨hit, he0⟩, hv he0]; show R8R.mk _ (saidM a (nextR (tagA a) l 0).body).2 _ = _; rw [he0, his.1]]
      exact end_H (.inl rfl) rfl (res_1 rfl (javA 5)) (CEnt.agg rfl (fun j hj => by rcases j with _ | _ | _ | _ | _ | j <;> first | exact CEnt.refl _ | exact CEnt.nilB | omega))
    refine jcr ?_
    refine jq jrm ?_
    refine jq jrm ?_
    refine jq jrnc ?_
    refine jq (jrfa 1 1 false) ?_
    refine jqm (jmstF 1 (rqF (nextR (tagA a) l 0).l (saidM a (nextR (tagA a) l 0).body).2) ?_ ?_)
    · exact (fun j hj => by rcases j with _ | _ | j <;> exact CEnt.refl _)
    refine seq_nil ?_
    refine jcr ?_
    refine jqo (jrdoA 5) ?_
    refine jqm (jmst 5 ?_)
    refine seq_nil ?_
    refine code_ret (jtr ?_)
    rw [readR_val (by omega) (by omega) (by omega), show readV (tagA a) (saidM a) l 0 = ⟨(nextR (tagA a) l 0).l, (saidM a (nextR (tagA a) l 0).body).2, VV.none⟩ by unfold readV valK; rw [if_pos hit, if_neg (by intro h; omega)]]
    exact end_H (.inl rfl) rfl (res_1 rfl (javA 5)) (CEnt.agg rfl (fun j hj => by rcases j with _ | _ | _ | _ | _ | j <;> first | exact CEnt.refl _ | exact CEnt.nilB | omega))
  refine jcg ?_
  refine jqe (jebl 7 1 zr3 fun p4 => ?_)
  refine jq (jrfa 0 1 false) ?_
  refine jq jrdr ?_
  refine jq jra ?_
  refine jq (jri (i := (a.kind - 3).toNat) (hz := by omega)) ?_
  refine jqo (jrdo (hv := tag_at (by omega) (by omega))) ?_
  refine jq jrm ?_
  refine seq_nil ?_
  refine jtn ?_
  first
    | refine code_ent (weaken 13 (.c (.int .i64 (tagA a))) (CEnt.refl _)) ?_
    | refine code_ent (weaken 13 (.c (.int .i64 (tagA a))) (CEnt.int (by unfold tagA; rw [if_neg (by omega), if_neg (by omega), if_neg (by omega), if_neg (by omega), if_neg (by omega), if_neg (by omega), if_neg (by omega)]))) ?_
  refine jcr ?_
  refine jq jrm ?_
  refine jq jrm ?_
  refine jqm (jmcH 0 (rnext08_ac n l 0 (tagA a) hl (by omega)) ?_)
  rintro _ _ ⟨rfl, rfl⟩
  refine ⟨_, _, rfl, CEnt.refl _, ?_⟩
  refine jq jrm ?_
  refine jq jrx ?_
  refine jq jrx ?_
  refine jq jrx ?_
  refine jq jrm ?_
  refine jq jrm ?_
  refine jq jrm ?_
  refine seq_nil ?_
  refine jcs ?_
  refine jcr ?_
  refine jq jrm ?_
  refine jq jrn ?_
  refine seq_nil ?_
  refine jcc (fun h232 => ?_) fun h232 => ?_
  · refine jcr ?_
    refine jqo (jrdoA 5) ?_
    refine jqm (jmst 5 ?_)
    refine seq_nil ?_
    refine code_ret (jtr ?_)
    rw [readR_val (by omega) (by omega) (by omega), show readV (tagA a) (saidM a) l 0 = ⟨(nextR (tagA a) l 0).l, (nextR (tagA a) l 0).k, VV.none⟩ by unfold readV valK; rw [if_neg (by simp_all), if_neg (by simp_all)]]
    exact end_H (.inl rfl) rfl (res_1 rfl (javA 5)) (CEnt.agg rfl (fun j hj => by rcases j with _ | _ | _ | _ | _ | j <;> first | exact CEnt.refl _ | exact CEnt.nilB | omega))
  refine code_skip (jtn ?_)
  have his := nextR_is (tag := tagA a) (l := l) (k := 0) (by simpa using h232)
  have hit : (nextR (tagA a) l 0).is = true := by simpa using h232
  refine jcr ?_
  refine jq (jrdrA 4) ?_
  refine jq jrm ?_
  refine jqe (jecS (hS (by omega) (by omega) (by omega) (nextR (tagA a) l 0).body hbb) ?_)
  rintro _ _ ⟨⟨v, rfl, hv⟩, rfl⟩
  refine jq jrm ?_
  refine jq jrx ?_
  refine jq jrx ?_
  refine jqe (jeal (n := 5) zr43 rfl fun p6 => ?_)
  refine jqm (jmst 5 ?_)
  refine jq jrm ?_
  refine seq_nil ?_
  refine jcs ?_
  refine jcr ?_
  refine jq jrm ?_
  refine jq jrc ?_
  refine seq_nil ?_
  refine jcc (fun h236 => ?_) fun h236 => ?_
  rotate_left
  · refine code_skip (jtn ?_)
    refine jcr ?_
    refine jqo (jrdoA 5) ?_
    refine jqm (jmst 5 ?_)
    refine seq_nil ?_
    refine code_ret ?_
    have he0 : (saidM a (nextR (tagA a) l 0).body).2 = 0 := by omega
    rw [readR_val (by omega) (by omega) (by omega), show readV (tagA a) (saidM a) l 0 = ⟨(nextR (tagA a) l 0).l, (nextR (tagA a) l 0).k, v⟩ by unfold readV valK; rw [if_pos hit, if_pos ⟨hit, he0⟩, hv he0]; show R8R.mk _ (saidM a (nextR (tagA a) l 0).body).2 _ = _; rw [he0, his.1]]
    exact end_H (.inl rfl) rfl (res_1 rfl (javA 5)) (CEnt.agg rfl (fun j hj => by rcases j with _ | _ | _ | _ | _ | j <;> first | exact CEnt.refl _ | exact CEnt.nilB | omega))
  refine jcr ?_
  refine jq jrm ?_
  refine jq jrm ?_
  refine jq jrnc ?_
  refine jq (jrfa 1 1 false) ?_
  refine jqm (jmstF 1 (rqF (nextR (tagA a) l 0).l (saidM a (nextR (tagA a) l 0).body).2) ?_ ?_)
  · exact (fun j hj => by rcases j with _ | _ | j <;> exact CEnt.refl _)
  refine seq_nil ?_
  refine jcr ?_
  refine jqo (jrdoA 5) ?_
  refine jqm (jmst 5 ?_)
  refine seq_nil ?_
  refine code_ret (jtr ?_)
  rw [readR_val (by omega) (by omega) (by omega), show readV (tagA a) (saidM a) l 0 = ⟨(nextR (tagA a) l 0).l, (saidM a (nextR (tagA a) l 0).body).2, VV.none⟩ by unfold readV valK; rw [if_pos hit, if_neg (by intro h; omega)]]
  exact end_H (.inl rfl) rfl (res_1 rfl (javA 5)) (CEnt.agg rfl (fun j hj => by rcases j with _ | _ | _ | _ | _ | j <;> first | exact CEnt.refl _ | exact CEnt.nilB | omega))
end Am
end Go.Proofs.YtjckfbpdieijeaaGreatDoor

/- Chapter 8: rows of numbers: der.Rows, der.Row. -/
namespace Go.Proofs.YtjckfbpdieijeaaGreatDoor
set_option linter.unusedVariables false
namespace Am
variable {gs : List Nat} [OkG gs]
open Go.RowKit Cal
set_option maxRecDepth 100000

def v1 (tag : Int) : VV := ⟨1, tag, false, [], []⟩
def v2 : VV := ⟨2, 0, false, [], []⟩
def v3 (z : Int) : VV := ⟨3, z, false, [], []⟩
def sRow (tag : Int) (l : List Int) (i : Nat) : W8 := (l.take i).foldl (fun s z => doW (v3 z) s) (doW (v1 tag) w0W)
def rRow (tag : Int) (l : List Int) (i : Nat) : R8 := (l.take i).foldl (fun s z => rdoS (v3 z) s) (rdoS (v1 tag) r0W)
theorem sRow_succ {tag : Int} {l : List Int} {i : Nat} (h : i < l.length) : sRow tag l (i + 1) = doW (v3 (l.getD i 0)) (sRow tag l i) := by
  unfold sRow
  rw [List.take_succ_eq_append_getElem h, List.foldl_append]
  simp [List.getD_eq_getElem?_getD, h]
theorem rRow_succ {tag : Int} {l : List Int} {i : Nat} (h : i < l.length) : rRow tag l (i + 1) = rdoS (v3 (l.getD i 0)) (rRow tag l i) := by
  unfold rRow
  rw [List.take_succ_eq_append_getElem h, List.foldl_append]
  simp [List.getD_eq_getElem?_getD, h]
theorem small1 {tag : Int} (h : -9223372036854775808 ≤ tag ∧ tag ≤ 9223372036854775807) : SmallV (v1 tag) := ⟨h, by simp [v1], by simp [v1]⟩
theorem small2 : SmallV v2 := ⟨by simp [v2], by simp [v2], by simp [v2]⟩
theorem small3 {z : Int} (h : -9223372036854775808 ≤ z ∧ z ≤ 9223372036854775807) : SmallV (v3 z) := ⟨h, by simp [v3], by simp [v3]⟩
theorem inv_row {tag : Int} {l : List Int} (ht : -9223372036854775808 ≤ tag ∧ tag ≤ 9223372036854775807) (hz : ∀ z ∈ l, -9223372036854775808 ≤ z ∧ z ≤ 9223372036854775807) : ∀ i, i ≤ l.length → Inv8 (i + 1) (rRow tag l i) (sRow tag l i)
  | 0, _ => inv_do inv_zero (small1 ht)
  | i + 1, h => by
    rw [sRow_succ (by omega), rRow_succ (by omega)]
    refine inv_do (inv_row ht hz i (by omega)) (small3 (hz _ ?_))
    rw [List.getD_eq_getElem?_getD, List.getElem?_eq_getElem (by omega)]
    exact List.getElem_mem _
theorem write08_ac (n : Nat) (s : W8) (z : Int) (hz : -9223372036854775808 ≤ z ∧ z ≤ 9223372036854775807) (hs : OkW s) : AC gs Tryz.prog 10 [wrO n s] [.op 0 (some n) 0, .c (.int .i64 z)] (fun r H' => r = .c (.tuple #[]) ∧ H' = [wrO n (doW (v3 z) s)]) := by
  refine ac_of 7 Tryz.func10 rfl rfl rfl (fun al w0 F0 St0 => ?_)
  refine jcg ?_
  refine jq jrm ?_
  refine jq jrm ?_
  refine jqm (jmcH 0 (intW_ac n s z hz hs) ?_)
  rintro _ _ ⟨rfl, rfl⟩
  refine ⟨_, _, rfl, CEnt.refl _, ?_⟩
  refine seq_nil ?_
  exact end_own (.inr rfl) _ [_] [0] (by decide) rfl (res_0 rfl) ⟨rfl, rfl⟩
theorem rows08_ac (n : Nat) (tag : Int) (l : List Int) (ht : -9223372036854775808 ≤ tag ∧ tag ≤ 9223372036854775807) (hz : ∀ z ∈ l, -9223372036854775808 ≤ z ∧ z ≤ 9223372036854775807) (hl : l.length ≤ 60) : AC gs Tryz.prog 9 [wrO n w0W] [.op 0 (some n) 0, .c (.int .i64 tag), isC l, .fn 10 0 fun _ => .top] (fun r H' => r = .c (.tuple #[]) ∧ H' = [wrO n (doW v2 (sRow tag l l.length))]) := by
  have hI := fun i hi => inv_row ht hz i hi
  refine ac_of 26 Tryz.func9 rfl rfl rfl (fun al w0 F0 St0 => ?_)
  refine jcr ?_
  refine jq jrm ?_
  refine jq jrm ?_
  refine jqm (jmcH 0 (openW_ac n w0W tag ok0) ?_)
  rintro _ _ ⟨rfl, rfl⟩
  refine ⟨_, _, rfl, CEnt.refl _, ?_⟩
  refine seq_nil ?_
  refine jcs ?_
  refine jcr ?_
  refine jq jrm ?_
  refine jq jrl ?_
  refine jq jrm ?_
  refine seq_nil ?_
  refine code_block ?_
  refine l_loop (α := Nat) [9, 15, 16, 17, 18, 19, 20, 21, 22, 23] (fun i => [(15, .c (.int .i64 (i : Nat)))]) (fun i => [wrO n (sRow tag l i)]) (fun i => i ≤ l.length) (fun i => l.length - i) (0) ?_ (fun _ => rfl) ?_ ?_ ?_
  · exact Nat.zero_le _
  · exact .cons (CEnt.refl _) .nil
  · exact HEnt.refl _
  · rintro i (hi : i ≤ l.length)
    refine jcr ?_
    refine jq jrc ?_
    refine seq_nil ?_
    refine jcs ?_
    refine jcc (fun h305 => ?_) fun h305 => ?_
    rotate_left
    · refine code_exit (jte (jte (jbx (jtn ?_))))
      have hie : i = l.length := by omega
      subst hie
      refine jcg ?_
      refine jq jrm ?_
      refine jqm (jmcH 0 (closeW_ac n (sRow tag l l.length) (inv_okW (hI _ (Nat.le_refl _)) (by omega))) ?_)
      rintro _ _ ⟨rfl, rfl⟩
      refine ⟨_, _, rfl, CEnt.refl _, ?_⟩
      refine seq_nil ?_
      exact end_own (.inr rfl) _ [_] [0] (by decide) rfl (res_0 rfl) ⟨rfl, rfl⟩
    refine code_skip (jtn ?_)
    refine jcs ?_
    refine code_block ?_
    refine jcr ?_
    refine jq jri ?_
    first | refine jqo jrdo ?_ | refine jq jrdr ?_
    refine jq jrm ?_
    refine seq_nil ?_
    have hzi : -9223372036854775808 ≤ l.getD i 0 ∧ l.getD i 0 ≤ 9223372036854775807 := hz _ (by rw [List.getD_eq_getElem?_getD, List.getElem?_eq_getElem (by omega)]; exact List.getElem_mem _)
    refine jcg ?_
    refine jq jrm ?_
    refine jq jrm ?_
    refine jq jrm ?_
    refine jqm (m_callHV1 (i := 0) rfl rfl (by first | assumption | kernel_rfl) rfl (write08_ac n (sRow tag l i) (l.getD i 0) hzi (inv_okW (hI i hi) (by omega))) (.cons CEnt.opI (.cons (CEnt.refl _) .nil)) rfl rfl ?_)
    rintro _ _ ⟨rfl, rfl⟩
    refine ⟨_, rfl, ?_⟩
    refine seq_nil ?_
    refine jbn (jtn ?_)
    refine jcg ?_
    refine jq jra ?_
    refine jq jrm ?_
    refine seq_nil ?_
    refine jtn ?_
    refine jlend (i + 1) ?_ ?_ (h5 := ?_) (h7 := ?_)
    · show i + 1 ≤ l.length; omega
    · show l.length - (i + 1) < l.length - i; omega
    · exact .cons (CEnt.int (by omega)) .nil
    · rw [sRow_succ (by omega)]; exact HEnt.refl _
end Am
end Go.Proofs.YtjckfbpdieijeaaGreatDoor

/- Chapter 8: rows of numbers: der.Row. -/
namespace Go.Proofs.YtjckfbpdieijeaaGreatDoor
set_option linter.unusedVariables false
namespace Am
variable {gs : List Nat} [OkG gs]
open Go.RowKit Cal
set_option maxRecDepth 100000

def a3 : AA := ⟨3, 0, 0, 1000⟩
theorem readR_a3 (l : List (List UInt8)) (k : Nat) : readR a3 l k = ⟨(nextR 2 l k).l, valK 2 l k fun b => (rangeM b 0 1000).2, vN (if (nextR 2 l k).is = true ∧ (rangeM (nextR 2 l k).body 0 1000).2 = 0 then (rangeM (nextR 2 l k).body 0 1000).1 else 0)⟩ :=
  readR_g vN 0 rfl (f := fun b => rangeM b 0 1000) (by decide) (by decide) (by decide) (by funext b; unfold saidM; rw [if_pos (show a3.kind = 3 from rfl)]; rfl) (by rfl)
/-- what is read of a row: what is left, the error, the numbers, behind j values -/
def stR (l0 : List (List UInt8)) (k0 : Nat) : Nat → List (List UInt8) × Nat × List Int
  | 0 => (l0, k0, [])
  | j + 1 => ((readR a3 (stR l0 k0 j).1 (stR l0 k0 j).2.1).l, (readR a3 (stR l0 k0 j).1 (stR l0 k0 j).2.1).k, (stR l0 k0 j).2.2 ++ [(readR a3 (stR l0 k0 j).1 (stR l0 k0 j).2.1).v.n])
def goR (l0 : List (List UInt8)) (k0 : Nat) (most : Int) (j : Nat) : Prop := moreM (stR l0 k0 j).1 (stR l0 k0 j).2.1 = true ∧ (j : Int) < most
/-- the first place where a row ends -/
def StopR (l0 : List (List UInt8)) (k0 : Nat) (most : Int) (J : Nat) : Prop := (∀ j, j < J → goR l0 k0 most j) ∧ ¬ goR l0 k0 most J
theorem stop_one {l0 : List (List UInt8)} {k0 : Nat} {most : Int} {J J' : Nat} (h : StopR l0 k0 most J) (h' : StopR l0 k0 most J') : J = J' := by
  rcases Nat.lt_trichotomy J J' with h1 | h1 | h1
  · exact absurd (h'.1 J h1) h.2
  · exact h1
  · exact absurd (h.1 J' h1) h'.2
theorem stR_out (l0 : List (List UInt8)) (k0 : Nat) : ∀ j, (stR l0 k0 j).2.2.length = j
  | 0 => rfl
  | j + 1 => by
    show (_ ++ [_]).length = _
    rw [List.length_append, stR_out l0 k0 j]; rfl
theorem next_now {t : Int} {l : List (List UInt8)} {k : Nat} : (nowL (nextR t l k).l).length ≤ (nowL l).length ∧ ((nextR t l k).is = true → 0 < l.length → (nowL (nextR t l k).l).length < (nowL l).length) ∧ ((nextR t l k).is = false → (nextR t l k).l = l ∧ (nextR t l k).k ≠ 0) := by
  have hb := nextM_bd (nowL l)
  unfold nextR
  split
  · rename_i h; exact ⟨Nat.le_refl _, fun h => by simp at h, fun _ => ⟨rfl, h⟩⟩
  · split
    · rename_i h; exact ⟨Nat.le_refl _, fun h => by simp at h, fun _ => ⟨rfl, h⟩⟩
    · split
      · exact ⟨Nat.le_refl _, fun h => by simp at h, fun _ => ⟨rfl, (show (5 : Nat) ≠ 0 by decide)⟩⟩
      · rename_i h1 h2
        have hlt := hb.2.2.2.2.2 (by omega)
        by_cases hl : 0 < l.length
        · have e : nowL (l.set (l.length - 1) (nextM (nowL l)).rest) = (nextM (nowL l)).rest := by
            unfold nowL
            rw [List.length_set, List.getD_eq_getElem?_getD, List.getElem?_set, if_pos rfl, if_pos (by omega)]
            rfl
          simp only [e]
          exact ⟨by omega, fun _ _ => hlt, fun h => by simp at h⟩
        · have e : l = [] := List.eq_nil_of_length_eq_zero (by omega)
          subst e
          exact ⟨Nat.le_refl _, fun _ h => absurd h hl, fun h => by simp at h⟩
theorem stR_len (l0 : List (List UInt8)) (k0 : Nat) : ∀ j, (stR l0 k0 j).1.length = l0.length
  | 0 => rfl
  | j + 1 => by
    show (readR a3 _ _).l.length = _
    rw [readR_a3]
    show (nextR 2 _ _).l.length = _
    rw [nextR_len]
    exact stR_len l0 k0 j
def muR (l : List (List UInt8)) (k : Nat) : Nat := (nowL l).length + if k = 0 then 1 else 0
theorem mu_step {l : List (List UInt8)} {k : Nat} (hl : 0 < l.length) (h : moreM l k = true) : muR (readR a3 l k).l (readR a3 l k).k < muR l k := by
  obtain ⟨hk, hp⟩ := more_pos h
  subst hk
  rw [readR_a3]
  show muR (nextR 2 l 0).l (valK 2 l 0 fun b => (rangeM b 0 1000).2) < _
  have hn := next_now (t := 2) (l := l) (k := 0)
  unfold muR valK
  cases e : (nextR 2 l 0).is with
  | true =>
    have := hn.2.1 e hl
    rw [if_pos rfl]
    split <;> split <;> omega
  | false =>
    obtain ⟨h1, h2⟩ := hn.2.2 e
    have h3 : (if (false : Bool) = true then (fun b => (rangeM b 0 1000).2) (nextR 2 l 0).body else (nextR 2 l 0).k) = (nextR 2 l 0).k := rfl
    rw [h1, h3, if_neg h2, if_pos rfl]
    omega
theorem stR_mu (l0 : List (List UInt8)) (k0 : Nat) (most : Int) (hl : 0 < l0.length) : ∀ j, (∀ i, i < j → goR l0 k0 most i) → muR (stR l0 k0 j).1 (stR l0 k0 j).2.1 + j ≤ muR l0 k0
  | 0, _ => Nat.le_refl _
  | j + 1, h => by
    have h1 := stR_mu l0 k0 most hl j fun i hi => h i (by omega)
    have h2 := mu_step (l := (stR l0 k0 j).1) (k := (stR l0 k0 j).2.1) (by rw [stR_len]; exact hl) (h j (by omega)).1
    show muR (readR a3 _ _).l (readR a3 _ _).k + (j + 1) ≤ _
    omega
def rowEnd (l0 : List (List UInt8)) (k0 J : Nat) : List (List UInt8) × Nat :=
  if moreM (stR l0 k0 J).1 (stR l0 k0 J).2.1 = true then ((stR l0 k0 J).1, 3) else (leaveL (stR l0 k0 J).1 (stR l0 k0 J).2.1, leaveK (stR l0 k0 J).1 (stR l0 k0 J).2.1)
theorem number08_ac (n : Nat) (l : List (List UInt8)) (k : Nat) (hl : 0 < l.length ∧ l.length ≤ 1000000) (hb : (nowL l).length ≤ 10000000) : AC gs Tryz.prog 19 [rdO n l k] [.op 0 (some n) 0] (fun r H' => r = .c (.int .i64 (readR a3 l k).v.n) ∧ H' = [rdO n (readR a3 l k).l (readR a3 l k).k]) := by
  refine ac_of 5 Tryz.func19 rfl rfl rfl (fun al w0 F0 St0 => ?_)
  refine jcr ?_
  refine jq jrm ?_
  refine seq_nil ?_
  refine jcr ?_
  refine jq jrm ?_
  refine jqm (jmcH 0 (int08_ac n l k 0 1000 hl hb) ?_)
  rintro _ _ ⟨rfl, rfl⟩
  refine ⟨_, _, rfl, CEnt.refl _, ?_⟩
  refine jq jrm ?_
  refine seq_nil ?_
  refine code_ret ?_
  rw [readR_a3]
  exact end_H (.inl rfl) rfl (res_1 rfl (arv_tmp rfl)) (CEnt.refl _)
theorem row08_ac (n : Nat) (l : List (List UInt8)) (k : Nat) (tag most : Int) (hl : 0 < l.length ∧ l.length ≤ 100000) (hb : (nowL l).length ≤ 100000) (hbe : (nowL (enterL tag l k)).length ≤ 100000) (hle : 0 < (enterL tag l k).length ∧ (enterL tag l k).length ≤ 1000000) : AC gs Tryz.prog 18 [rdO n l k] [.op 0 (some n) 0, .c (.int .i64 tag), .c (.int .i64 most), .fn 19 0 fun _ => .top]
    (fun r H' => ∃ J, StopR (enterL tag l k) (enterR tag l k).k most J ∧ r = isC (if (rowEnd (enterL tag l k) (enterR tag l k).k J).2 = 0 then (stR (enterL tag l k) (enterR tag l k).k J).2.2 else []) ∧ H' = [rdO n (rowEnd (enterL tag l k) (enterR tag l k).k J).1 (rowEnd (enterL tag l k) (enterR tag l k).k J).2]) := by
  generalize hl0 : enterL tag l k = l0 at *
  generalize hk0 : (enterR tag l k).k = k0 at *
  have hsl := fun j => stR_len l0 k0 j
  have hso := fun j => stR_out l0 k0 j
  have hmu := stR_mu l0 k0 most hle.1
  have hmu0 : muR l0 k0 ≤ 100001 := by unfold muR; split <;> omega
  refine ac_of 36 Tryz.func18 rfl rfl rfl (fun al w0 F0 St0 => ?_)
  refine jcr ?_
  refine jq jrm ?_
  refine seq_nil ?_
  refine jcr ?_
  refine jq jrm ?_
  refine seq_nil ?_
  refine jcr ?_
  refine jq jrm ?_
  refine jq jrm ?_
  refine jqm (jmcH 0 (enter_ac n l k tag (by omega) (by omega)) ?_)
  rintro _ _ ⟨rfl, rfl⟩
  refine ⟨_, _, rfl, CEnt.refl _, ?_⟩
  refine seq_nil ?_
  refine jcs ?_
  refine code_block ?_
  rw [hl0, hk0]
  refine code_ent (own_nil 9 1 (inF []) rfl) ?_
  refine l_loop (α := Nat × Option Nat) [9, 13, 14, 15, 16, 17, 18, 19, 20, 21, 22, 23, 24, 25, 26, 27] (fun (j, g) => [(9, .os 1 g 0 (stR l0 k0 j).2.2.length 1)]) (fun (j, g) => [rdO n (stR l0 k0 j).1 (stR l0 k0 j).2.1, (g, .blk (stR l0 k0 j).2.2.length (inF (stR l0 k0 j).2.2))]) (fun p => ∀ i, i < p.1 → goR l0 k0 most i) (fun p => muR (stR l0 k0 p.1).1 (stR l0 k0 p.1).2.1) ((0, none)) ?_ (fun _ => rfl) ?_ ?_ ?_
  · exact fun i hi => absurd hi (Nat.not_lt_zero i)
  · exact .cons (CEnt.osI rfl) .nil
  · exact HEnt.refl _
  · rintro ⟨j, g⟩ (hj : ∀ i, i < j → goR l0 k0 most i)
    have hmj := hmu j hj
    have hjl : 0 < (stR l0 k0 j).1.length ∧ (stR l0 k0 j).1.length ≤ 1000000 := by rw [hsl]; exact hle
    have hjo := hso j
    have hjb : (nowL (stR l0 k0 j).1).length ≤ 1000000 := by unfold muR at hmj hmu0; omega
    refine jcs ?_
    refine jcr ?_
    refine jq jrm ?_
    refine jqm (jmcH 0 (more_ac n _ _ hjl) ?_)
    rintro _ _ ⟨rfl, rfl⟩
    refine ⟨_, _, rfl, CEnt.refl _, ?_⟩
    refine seq_nil ?_
    refine jcc (fun h315 => ?_) fun h315 => ?_
    rotate_left
    · refine code_exit (jte (jte (jbx (jtn ?_))))
      first
        | (have hmt : moreM (stR l0 k0 j).1 (stR l0 k0 j).2.1 = true := by simpa using h315
           have hkz := (more_pos hmt).1
           rw [if_pos hkz]
           have hstop : StopR l0 k0 most j := ⟨hj, fun h => by have := h.2; omega⟩
           have hre : rowEnd l0 k0 j = ((stR l0 k0 j).1, 3) := by unfold rowEnd; rw [if_pos hmt]
           have hE : rdO n (leaveL (stR l0 k0 j).1 3) (leaveK (stR l0 k0 j).1 3) = rdO n (rowEnd l0 k0 j).1 (rowEnd l0 k0 j).2 := by
             have h3 : leaveK (stR l0 k0 j).1 3 = 3 := by unfold leaveK; rw [if_pos (by decide)]
             have h4 : leaveL (stR l0 k0 j).1 3 = (stR l0 k0 j).1 := by unfold leaveL; rw [h3, if_neg (by decide)]
             rw [hre, h3, h4])
        | (have hmf : moreM (stR l0 k0 j).1 (stR l0 k0 j).2.1 = false := by simpa using h315
           have hstop : StopR l0 k0 most j := ⟨hj, fun h => by rw [goR, hmf] at h; exact absurd h.1 (by simp)⟩
           have hre : rowEnd l0 k0 j = (leaveL (stR l0 k0 j).1 (stR l0 k0 j).2.1, leaveK (stR l0 k0 j).1 (stR l0 k0 j).2.1) := by unfold rowEnd; rw [if_neg (by rw [hmf]; simp)]
           have hE : rdO n (leaveL (stR l0 k0 j).1 (stR l0 k0 j).2.1) (leaveK (stR l0 k0 j).1 (stR l0 k0 j).2.1) = rdO n (rowEnd l0 k0 j).1 (rowEnd l0 k0 j).2 := by rw [hre])
      refine jcr ?_
      refine jq jrm ?_
      refine jqm (jmcH 0 (leave_ac n (stR l0 k0 j).1 _ hjl) ?_)
      rintro _ _ ⟨rfl, rfl⟩
      refine ⟨_, _, rfl, CEnt.refl _, ?_⟩
      refine seq_nil ?_
      refine jcs ?_
      dsimp only
      rw [hE]
      refine code_openR 0 rfl fun gl => ?_
      refine jcr ?_
      refine jq jrm ?_
      refine jq jrnc ?_
      refine jq (jrfa 1 1 false) ?_
      refine jqo jrdo ?_
      refine jq jre ?_
      refine seq_nil ?_
      refine jcc (fun h323 => ?_) fun h323 => ?_
      · refine code_ent (closeR n (rowEnd l0 k0 j).2 (rowEnd l0 k0 j).1 0 2 rfl rfl rfl (CEnt.osI rfl) (CEnt.refl _) (Nat.le_refl _) (fun _ _ => CEnt.refl _)) ?_
        refine jcr ?_
        refine jq jrm ?_
        refine seq_nil ?_
        refine code_ret (jtr ?_)
        exact end_ownV (.inl rfl) [0] (by decide) rfl (res_1 rfl (arv_tmp rfl)) (m := isC []) (CEnt.nilS' rfl) ⟨j, hstop, by rw [if_neg (by omega)], rfl⟩
      refine code_skip (jtn ?_)
      refine code_ent (closeR n (rowEnd l0 k0 j).2 (rowEnd l0 k0 j).1 0 2 rfl rfl rfl (CEnt.osI rfl) (CEnt.refl _) (Nat.le_refl _) (fun _ _ => CEnt.refl _)) ?_
      refine jcr ?_
      refine jq jrm ?_
      refine jq jrm ?_
      refine seq_nil ?_
      refine code_ent (freeze 1 rfl) ?_
      refine code_ent (thawIL 8 (stR l0 k0 j).2.2 rfl rfl rfl (Nat.ble_eq_true_of_le (Nat.le_refl _)) (fun _ _ => CEnt.refl _)) ?_
      refine code_ret ?_
      exact end_ownV (.inl rfl) [0] (by decide) rfl (res_1 rfl (arv_tmp rfl)) (m := isC (stR l0 k0 j).2.2) (CEnt.refl _) ⟨j, hstop, by rw [if_pos (by omega)], rfl⟩
    refine code_skip (jtn ?_)
    refine code_block ?_
    refine jcs ?_
    refine jcr ?_
    refine jq jrm ?_
    refine jq jrl ?_
    refine jq jrm ?_
    refine jq jrc ?_
    refine seq_nil ?_
    refine jcc (fun h316 => ?_) fun h316 => ?_
    rotate_left
    · refine code_skip (jtn ?_)
      have hgo : goR l0 k0 most j := ⟨by simpa using h315, by omega⟩
      refine jcg ?_
      refine jq jrm ?_
      refine jq jrm ?_
      refine jq jrm ?_
      refine jqm (m_callHV1 (i := 0) rfl rfl (by kernel_rfl) rfl (number08_ac n (stR l0 k0 j).1 (stR l0 k0 j).2.1 hjl (by omega)) (.cons CEnt.opI .nil) rfl rfl ?_)
      rintro _ _ ⟨rfl, rfl⟩
      refine ⟨_, rfl, ?_⟩
      refine jqe (jebl 1 1 zr3 fun p3 => ?_)
      refine jqm (m_appendC rowC_in (l2 := [(readR a3 (stR l0 k0 j).1 (stR l0 k0 j).2.1).v.n]) rfl rfl rfl rfl (by exact Nat.le_of_eq (Nat.mul_one _)) (fun _ _ => CEnt.refl _) (src_os rfl (.inl rfl) (by decide)) rfl (hh_ints (.cons (CEnt.int (rfl)) .nil)) Tryz.underlying22 nu22 sz3 zr3 by3 rfl (by (simp; omega)) (by (simp; omega)) (leaf_flk rfl rfl) rfl rfl (Nat.mul_one _) (fun p4 => ?_))
      refine jq jrm ?_
      refine seq_nil ?_
      refine jbn (jtn ?_)
      refine jlend ((j + 1, p4)) ?_ ?_ (h5 := ?_) (h7 := ?_)
      · exact fun i hi => if h : i < j then hj i h else (by obtain rfl : i = j := (by have hi : i < j + 1 := hi; omega); exact hgo)
      · exact mu_step (by omega) hgo.1
      · exact .cons (CEnt.osI rfl) .nil
      · exact HEnt.refl _
    refine jcr ?_
    refine jq jrm ?_
    refine jq (jrde 2) ?_
    refine jqm (jmcH 0 (fail08_ac n (stR l0 k0 j).1 (stR l0 k0 j).2.1 3) ?_)
    rintro _ _ ⟨rfl, rfl⟩
    refine ⟨_, _, rfl, CEnt.refl _, ?_⟩
    refine seq_nil ?_
    refine code_exit (jte (jbx2 (jte (jbx (jtn ?_)))))
    first
      | (have hmt : moreM (stR l0 k0 j).1 (stR l0 k0 j).2.1 = true := by simpa using h315
         have hkz := (more_pos hmt).1
         rw [if_pos hkz]
         have hstop : StopR l0 k0 most j := ⟨hj, fun h => by have := h.2; omega⟩
         have hre : rowEnd l0 k0 j = ((stR l0 k0 j).1, 3) := by unfold rowEnd; rw [if_pos hmt]
         have hE : rdO n (leaveL (stR l0 k0 j).1 3) (leaveK (stR l0 k0 j).1 3) = rdO n (rowEnd l0 k0 j).1 (rowEnd l0 k0 j).2 := by
           have h3 : leaveK (stR l0 k0 j).1 3 = 3 := by unfold leaveK; rw [if_pos (by decide)]
           have h4 : leaveL (stR l0 k0 j).1 3 = (stR l0 k0 j).1 := by unfold leaveL; rw [h3, if_neg (by decide)]
           rw [hre, h3, h4])
      | (have hmf : moreM (stR l0 k0 j).1 (stR l0 k0 j).2.1 = false := by simpa using h315
         have hstop : StopR l0 k0 most j := ⟨hj, fun h => by rw [goR, hmf] at h; exact absurd h.1 (by simp)⟩
         have hre : rowEnd l0 k0 j = (leaveL (stR l0 k0 j).1 (stR l0 k0 j).2.1, leaveK (stR l0 k0 j).1 (stR l0 k0 j).2.1) := by unfold rowEnd; rw [if_neg (by rw [hmf]; simp)]
         have hE : rdO n (leaveL (stR l0 k0 j).1 (stR l0 k0 j).2.1) (leaveK (stR l0 k0 j).1 (stR l0 k0 j).2.1) = rdO n (rowEnd l0 k0 j).1 (rowEnd l0 k0 j).2 := by rw [hre])
    refine jcr ?_
    refine jq jrm ?_
    refine jqm (jmcH 0 (leave_ac n (stR l0 k0 j).1 _ hjl) ?_)
    rintro _ _ ⟨rfl, rfl⟩
    refine ⟨_, _, rfl, CEnt.refl _, ?_⟩
    refine seq_nil ?_
    refine jcs ?_
    dsimp only
    rw [hE]
    refine code_openR 0 rfl fun gl => ?_
    refine jcr ?_
    refine jq jrm ?_
    refine jq jrnc ?_
    refine jq (jrfa 1 1 false) ?_
    refine jqo jrdo ?_
    refine jq jre ?_
    refine seq_nil ?_
    refine jcc (fun h323 => ?_) fun h323 => ?_
    · refine code_ent (closeR n (rowEnd l0 k0 j).2 (rowEnd l0 k0 j).1 0 2 rfl rfl rfl (CEnt.osI rfl) (CEnt.refl _) (Nat.le_refl _) (fun _ _ => CEnt.refl _)) ?_
      refine jcr ?_
      refine jq jrm ?_
      refine seq_nil ?_
      refine code_ret (jtr ?_)
      exact end_ownV (.inl rfl) [0] (by decide) rfl (res_1 rfl (arv_tmp rfl)) (m := isC []) (CEnt.nilS' rfl) ⟨j, hstop, by rw [if_neg (by omega)], rfl⟩
    refine code_skip (jtn ?_)
    refine code_ent (closeR n (rowEnd l0 k0 j).2 (rowEnd l0 k0 j).1 0 2 rfl rfl rfl (CEnt.osI rfl) (CEnt.refl _) (Nat.le_refl _) (fun _ _ => CEnt.refl _)) ?_
    refine jcr ?_
    refine jq jrm ?_
    refine jq jrm ?_
    refine seq_nil ?_
    refine code_ent (freeze 1 rfl) ?_
    refine code_ent (thawIL 8 (stR l0 k0 j).2.2 rfl rfl rfl (Nat.ble_eq_true_of_le (Nat.le_refl _)) (fun _ _ => CEnt.refl _)) ?_
    refine code_ret ?_
    exact end_ownV (.inl rfl) [0] (by decide) rfl (res_1 rfl (arv_tmp rfl)) (m := isC (stR l0 k0 j).2.2) (CEnt.refl _) ⟨j, hstop, by rw [if_pos (by omega)], rfl⟩
end Am
end Go.Proofs.YtjckfbpdieijeaaGreatDoor

/- Chapter 8: the law of rows of numbers. -/
namespace Go.Proofs.YtjckfbpdieijeaaGreatDoor
set_option linter.unusedVariables false
namespace Am
variable {gs : List Nat} [OkG gs]
open Go.RowKit Cal
set_option maxRecDepth 100000

theorem do_bad {v : VV} {s : W8} (h : s.k ≠ 0) : doW v s = s := by
  have e1 : ∀ e, failW e s = s := fun e => by unfold failW; rw [if_neg h]
  unfold doW openW closeV rawW putW
  simp only [e1, h, ne_eq, not_false_iff, if_true, if_false, ite_self]
theorem row_bad {tag : Int} {l : List Int} (h : madeM tag = false) : ∀ i, i ≤ l.length → sRow tag l i = ⟨[], [], 5⟩
  | 0, _ => by
    show doW (v1 tag) w0W = _
    unfold doW openW
    rw [if_pos (show (v1 tag).kind = 1 from rfl), if_neg (by decide), if_pos (show madeM (v1 tag).n = false from h)]
    rfl
  | i + 1, hi => by rw [sRow_succ (by omega), row_bad h i (by omega), do_bad (by decide)]
theorem doW_v3 (z : Int) (s : W8) : doW (v3 z) s = putW 2 (putN z) 0 s := by
  have hb : bodyV (v3 z) = (2, putN z, 0) := by unfold bodyV; rw [if_pos (show (v3 z).kind = 3 from rfl)]; rfl
  unfold doW
  rw [if_neg (show ¬ (v3 z).kind = 1 by show ¬ (3 : Int) = 1; decide), if_neg (show ¬ (v3 z).kind = 2 by show ¬ (3 : Int) = 2; decide), if_neg (show ¬ (v3 z).kind = 11 by show ¬ (3 : Int) = 11; decide), hb]
theorem doW_v2 (s : W8) : doW v2 s = closeV s := by
  unfold doW
  rw [if_neg (show ¬ v2.kind = 1 by decide), if_pos (show v2.kind = 2 from rfl)]
theorem row_good {tag : Int} {l : List Int} (h : madeM tag = true) (hz : ∀ z ∈ l, -9223372036854775808 ≤ z ∧ z ≤ 9223372036854775807) : ∀ i, i ≤ l.length → sRow tag l i = ⟨[(tag, (l.take i).map fun z => putL 2 (putN z))], [], 0⟩
  | 0, _ => by
    show doW (v1 tag) w0W = _
    unfold doW openW
    rw [if_pos (show (v1 tag).kind = 1 from rfl), if_neg (by decide), if_neg (show ¬ madeM (v1 tag).n = false by show ¬ madeM tag = false; rw [h]; decide), if_neg (by decide)]
    rfl
  | i + 1, hi => by
    rw [sRow_succ (by omega), row_good h hz i (by omega)]
    have hzi := hz (l.getD i 0) (by rw [List.getD_eq_getElem?_getD, List.getElem?_eq_getElem (by omega)]; exact List.getElem_mem _)
    have hp : putE 2 (putN (l.getD i 0)) = 0 := by
      have := (putN_len _ hzi.1 hzi.2).2
      unfold putE
      rw [if_neg (by decide), if_neg (by omega)]
    rw [doW_v3]
    unfold putW
    rw [if_neg (by simp [failW]), if_neg (by rw [hp]; decide)]
    show W8.mk [(tag, (l.take i).map (fun z => putL 2 (putN z)) ++ [putL 2 (putN (l.getD i 0))])] [] 0 = _
    rw [List.take_succ_eq_append_getElem (show i < l.length by omega), List.map_append, List.getD_eq_getElem?_getD, List.getElem?_eq_getElem (show i < l.length by omega)]
    rfl
theorem sum_row {l : List Int} (hz : ∀ z ∈ l, -9223372036854775808 ≤ z ∧ z ≤ 9223372036854775807) : sumL (l.map fun z => putL 2 (putN z)) ≤ 14 * l.length := by
  induction l with
  | nil => simp [sumL]
  | cons z l ih =>
    have h1 := ih fun x hx => hz x (List.mem_cons_of_mem _ hx)
    have h2 := hz z List.mem_cons_self
    have h3 := (putN_len z h2.1 h2.2).2
    have h4 := putL_len 2 (putN z)
    simp only [List.map_cons, sumL, List.sum_cons, List.length_cons] at h1 ⊢
    omega
theorem row_end {tag : Int} {l : List Int} (h : madeM tag = true) (hl : l.length ≤ 60) (hz : ∀ z ∈ l, -9223372036854775808 ≤ z ∧ z ≤ 9223372036854775807) : doneK (doW v2 (sRow tag l l.length)) = 0 ∧ (doneB (doW v2 (sRow tag l l.length))).length ≤ 900 := by
  rw [row_good h hz _ (Nat.le_refl _), List.take_length]
  have hb : (bodyF (tag, l.map fun z => putL 2 (putN z))).length = sumL (l.map fun z => putL 2 (putN z)) := bodyF_len _
  have hs := sum_row hz
  have hp : putE tag (bodyF (tag, l.map fun z => putL 2 (putN z))) = 0 := by
    unfold putE
    rw [if_neg (by rw [made_known h]; decide), if_neg (by rw [hb]; omega)]
  have e : doW v2 ⟨[(tag, l.map fun z => putL 2 (putN z))], [], 0⟩ = ⟨[], putL tag (bodyF (tag, l.map fun z => putL 2 (putN z))), 0⟩ := by
    rw [doW_v2]
    unfold closeV
    rw [if_neg (by simp)]
    show putW tag (bodyF (tag, l.map fun z => putL 2 (putN z))) 0 ⟨[], [], 0⟩ = _
    unfold putW
    rw [if_neg (by decide), if_neg (by rw [hp]; decide)]
    rfl
  have hpl := putL_len tag (bodyF (tag, l.map fun z => putL 2 (putN z)))
  have hb2 : (bodyF (tag, l.map fun z => putL 2 (putN z))).length = sumL (l.map fun z => putL 2 (putN z)) := hb
  rw [e]
  have hd : doneK ⟨[], putL tag (bodyF (tag, l.map fun z => putL 2 (putN z))), 0⟩ = 0 := by
    unfold doneK
    rw [if_neg (by simp), if_neg (by simp), if_neg (by dsimp only; omega)]
  refine ⟨hd, ?_⟩
  unfold doneB
  rw [if_pos hd]
  dsimp only
  omega
theorem nextR_k {t : Int} {l : List (List UInt8)} {k : Nat} (h : k ≤ 28) : (nextR t l k).k ≤ 28 := by
  have hb := nextM_bd (nowL l)
  unfold nextR
  repeat' split
  all_goals (dsimp only; omega)
theorem getM_e (b : List UInt8) : (getM b).2 ≤ 28 := by
  unfold getM
  repeat' split
  all_goals (dsimp only; omega)
theorem range_e (b : List UInt8) (x y : Int) : (rangeM b x y).2 ≤ 28 := by
  have := getM_e b
  unfold rangeM
  repeat' split
  all_goals (dsimp only; omega)
theorem stR_k {l0 : List (List UInt8)} {k0 : Nat} (h : k0 ≤ 28) : ∀ j, (stR l0 k0 j).2.1 ≤ 28
  | 0 => h
  | j + 1 => by
    show (readR a3 _ _).k ≤ 28
    rw [readR_a3]
    show valK 2 _ _ (fun b => (rangeM b 0 1000).2) ≤ 28
    unfold valK
    split
    · exact range_e _ _ _
    · exact nextR_k (stR_k h j)
theorem leave_k {l : List (List UInt8)} {k : Nat} (h : k ≤ 28) : leaveK l k ≤ 28 := by
  unfold leaveK
  repeat' split
  all_goals omega
theorem enter_bd {tag : Int} {l : List (List UInt8)} {k : Nat} : (nowL (enterL tag l k)).length ≤ (nowL l).length ∧ l.length ≤ (enterL tag l k).length ∧ (enterL tag l k).length ≤ l.length + 1 := by
  have hn := next_now (t := tag) (l := l) (k := if moreM l k = true ∧ madeM tag = false then 5 else k)
  have hnl : (enterR tag l k).l.length = l.length := nextR_len
  have hbody : (enterR tag l k).body.length ≤ (nowL l).length := by
    have hb := nextM_bd (nowL l)
    unfold enterR
    generalize (if moreM l k = true ∧ madeM tag = false then 5 else k) = k'
    unfold nextR
    repeat' split
    all_goals (simp only [List.length_nil]; omega)
  unfold enterL
  split
  · refine ⟨?_, by rw [List.length_append, hnl]; omega, by rw [List.length_append, hnl]; simp⟩
    have e : nowL ((enterR tag l k).l ++ [(enterR tag l k).body]) = (enterR tag l k).body := by
      unfold nowL
      simp [List.getD_eq_getElem?_getD]
    rw [e]
    exact hbody
  · exact ⟨hn.1, by omega, by omega⟩
set_option maxHeartbeats 4000000 in
theorem derRows_ac (l : List Int) (tag most : Int) (ht : -9223372036854775808 ≤ tag ∧ tag ≤ 9223372036854775807) (hz : ∀ z ∈ l, -9223372036854775808 ≤ z ∧ z ≤ 9223372036854775807) : ACp gs Tryz.prog 3 [isC l, .c (.int .i64 tag), .c (.int .i64 most)] (.c (.bool true)) := by
  refine ac_of 145 Tryz.func3 rfl rfl rfl (fun al w0 F0 St0 => ?_)
  refine jcr ?_
  refine jq jrm ?_
  refine seq_nil ?_
  refine jcs ?_
  refine jcr ?_
  refine jqe (jecP alive08_ac ?_)
  refine jq jrn ?_
  refine seq_nil ?_
  refine jcc (fun h215 => ?_) fun h215 => ?_
  · exfalso; simp at h215
  refine code_skip (jtn ?_)
  refine jcs ?_
  refine jcr ?_
  refine jq jrm ?_
  refine jq jrl ?_
  refine jq jrc ?_
  refine jq jrm ?_
  refine jqsp 24 (fun g218 => ?_) fun g218 => ?_
  · refine jqs ?_
    refine jqs ?_
    refine jq jrpT ?_
    refine seq_nil ?_
    refine jcT ?_
    refine jcr ?_
    refine jq jrm ?_
    refine seq_nil ?_
    refine code_ret (jtr (jrt (hv := CEnt.refl _)))
  refine jq jrm ?_
  refine jq jrc ?_
  refine jq jrpF ?_
  refine seq_nil ?_
  refine jcc (fun h218 => ?_) fun h218 => ?_
  · refine jcr ?_
    refine jq jrm ?_
    refine seq_nil ?_
    refine code_ret (jtr (jrt (hv := CEnt.refl _)))
  refine code_skip (jtn ?_)
  have hll : l.length ≤ 60 := by omega
  have hI := inv_row ht hz
  have hI2 : Inv8 (l.length + 1 + 1) (rdoS v2 (rRow tag l l.length)) (doW v2 (sRow tag l l.length)) := inv_do (hI _ (Nat.le_refl _)) small2
  have hkk : (doW v2 (sRow tag l l.length)).k ≤ 28 := by
    refine do_k _ ?_
    by_cases hm : madeM tag = true
    · rw [row_good hm hz _ (Nat.le_refl _)]; show 0 ≤ 28; decide
    · rw [row_bad (by simpa using hm) _ (Nat.le_refl _)]; show 5 ≤ 28; decide
  have hdk := done_k hkk
  have hsd := same_done hI2.same
  refine jcr ?_
  refine jq (rd_build (n := 3) rfl zr30 pl30 rfl rfl) ?_
  refine jqe (jebx 3 fun p1 => ?_)
  refine jq jrm ?_
  refine seq_nil ?_
  refine code_knowG (know_op 29 rfl) fun hnw => ?_
  obtain ⟨nw, rfl⟩ := hnw
  refine code_ent (newW nw 0 rfl (CEnt.refl _) (CEnt.refl _) CEnt.nil) ?_
  dsimp only [List.set_cons_zero, List.set_cons_succ, List.cons_append, List.nil_append, List.length_cons, List.length_nil, Nat.zero_add, Nat.reduceAdd]
  refine jcr ?_
  refine jq jrm ?_
  refine jq jrm ?_
  refine jq jrm ?_
  refine jqm (jmcH 0 (rows08_ac nw tag l ht hz hll) ?_ (ho := rfl) (he := (.cons (se rfl CEnt.opI) (.cons (se rfl (CEnt.refl _)) (.cons (se rfl (CEnt.refl _)) (.cons (se rfl CEnt.fn0) .nil))))))
  rintro _ _ ⟨rfl, rfl⟩
  refine ⟨_, _, rfl, CEnt.refl _, ?_⟩
  refine seq_nil ?_
  refine jcr ?_
  refine jq jrm ?_
  refine jqm (jmcH 0 (doneW_ac nw (doW v2 (sRow tag l l.length)) (inv_okW hI2 (by omega))) ?_)
  rintro _ _ ⟨rfl, rfl⟩
  refine ⟨_, _, rfl, CEnt.refl _, ?_⟩
  refine jq jrm ?_
  refine jq jrx ?_
  refine jq jrx ?_
  refine jq jrm ?_
  refine jq jrm ?_
  refine seq_nil ?_
  refine jcs ?_
  refine jcr ?_
  refine jq jrm ?_
  refine jqe (jecP (rmade_ac tag) ?_)
  refine jq jrn ?_
  refine seq_nil ?_
  refine jcc (fun h224 => ?_) fun h224 => ?_
  · refine jcr ?_
    refine jq jrm ?_
    refine jqe (jecP (num_ac (doneK (doW v2 (sRow tag l l.length))) hdk) ?_)
    refine jq jrc ?_
    refine jq jrm ?_
    refine seq_nil ?_
    refine code_ret (jtr (jrt (hv := ?_)))
    have hm : madeM tag = false := by simp [madeM] at h224 ⊢; omega
    have e5 : doneK (doW v2 (sRow tag l l.length)) = 5 := by rw [row_bad hm _ (Nat.le_refl _)]; rfl
    exact CEnt.bool (by rw [e5]; rfl)
  refine code_skip (jtn ?_)
  refine jcs ?_
  have hm : madeM tag = true := by simp [madeM] at h224 ⊢; omega
  obtain ⟨hd0, hdl⟩ := row_end hm hll hz
  refine jcr ?_
  refine jq jrm ?_
  refine jq jre ?_
  refine seq_nil ?_
  refine jcc (fun h227 => ?_) fun h227 => ?_
  · refine jcr ?_
    refine jq jrm ?_
    refine seq_nil ?_
    refine code_ret (jtr (jrt (hv := ?_)))
    exfalso; omega
  refine code_skip (jtn ?_)
  refine jcr ?_
  refine jq (rd_build (n := 3) rfl zr40 pl40 rfl rfl) ?_
  refine jqe (jebx 3 fun p4 => ?_)
  refine jq jrm ?_
  refine seq_nil ?_
  refine code_knowG (know_op 48 rfl) fun hnm => ?_
  obtain ⟨nm, rfl⟩ := hnm
  refine code_ent (newRW nm 1 rfl (CEnt.refl _) (CEnt.refl _) (CEnt.refl _)) ?_
  dsimp only [List.set_cons_zero, List.set_cons_succ, List.cons_append, List.nil_append, List.length_cons, List.length_nil, Nat.zero_add, Nat.reduceAdd]
  refine jcr ?_
  refine jq jrm ?_
  refine jq jrm ?_
  refine jq (rd_build (n := 5) rfl zr43 pl43 rfl rfl) ?_
  refine jqm (jmcH 1 (rdoWB_ac nm r0W (v1 tag) (inv_okR inv_zero (by decide)) (small1 ht).ok (fun h _ _ => absurd rfl h)) ?_ (ho := rfl) (he := (.cons (se rfl CEnt.opI) (.cons (se rfl (CEnt.agg rfl (fun j hj => by rcases j with _ | _ | _ | _ | _ | j <;> first | exact CEnt.refl _ | exact CEnt.nilB | omega))) .nil))))
  rintro _ _ ⟨rfl, rfl⟩
  refine ⟨_, _, rfl, CEnt.refl _, ?_⟩
  refine seq_nil ?_
  refine jcs ?_
  refine jcr ?_
  refine jq jrm ?_
  refine jq jrl ?_
  refine jq jrm ?_
  refine seq_nil ?_
  refine code_block ?_
  refine l_loop (α := Nat) [12, 55, 56, 57, 58, 59, 60, 61, 62, 63] (fun i => [(55, .c (.int .i64 (i : Nat)))]) (fun i => [wrO nw (doW v2 (sRow tag l l.length)), rwO nm (rRow tag l i)]) (fun i => i ≤ l.length) (fun i => l.length - i) (0) ?_ (fun _ => rfl) ?_ ?_ ?_
  · exact Nat.zero_le _
  · exact .cons (CEnt.refl _) .nil
  · exact HEnt.refl _
  · rintro i (hi : i ≤ l.length)
    refine jcr ?_
    refine jq jrc ?_
    refine seq_nil ?_
    refine jcs ?_
    refine jcc (fun h232 => ?_) fun h232 => ?_
    · refine code_skip (jtn ?_)
      refine jcs ?_
      refine code_block ?_
      refine jcr ?_
      refine jq jri ?_
      refine jq jrdr ?_
      refine jq jrm ?_
      refine seq_nil ?_
      have hzi : -9223372036854775808 ≤ l.getD i 0 ∧ l.getD i 0 ≤ 9223372036854775807 := hz _ (by rw [List.getD_eq_getElem?_getD, List.getElem?_eq_getElem (by omega)]; exact List.getElem_mem _)
      refine jcg ?_
      refine jq jrm ?_
      refine jq jrm ?_
      refine jq (rd_build (n := 5) rfl zr43 pl43 rfl rfl) ?_
      refine jqm (jmcH 1 (rdoWB_ac nm (rRow tag l i) (v3 (l.getD i 0)) (inv_okR (hI i hi) (by omega)) (small3 hzi).ok (fun _ _ _ => rbody3_ac _ (small3 hzi).ok rfl)) ?_ (ho := rfl) (he := (.cons (se rfl CEnt.opI) (.cons (se rfl (CEnt.agg rfl (fun j hj => by rcases j with _ | _ | _ | _ | _ | j <;> first | exact CEnt.refl _ | exact CEnt.nilB | omega))) .nil))))
      rintro _ _ ⟨rfl, rfl⟩
      refine ⟨_, _, rfl, CEnt.refl _, ?_⟩
      refine seq_nil ?_
      refine jbn (jtn ?_)
      refine jcg ?_
      refine jq jra ?_
      refine jq jrm ?_
      refine seq_nil ?_
      refine jtn ?_
      refine jlend (i + 1) ?_ ?_ (h5 := ?_) (h7 := ?_)
      · show i + 1 ≤ l.length; omega
      · show l.length - (i + 1) < l.length - i; omega
      · exact .cons (CEnt.int (by omega)) .nil
      · rw [rRow_succ (by omega)]; exact HEnt.refl _
    refine code_exit (jte (jte (jbx (jtn ?_))))
    have hie : i = l.length := by omega
    subst hie
    refine jcr ?_
    refine jq jrm ?_
    refine jq (rd_build (n := 5) rfl zr43 pl43 rfl rfl) ?_
    refine jqm (jmcH 1 (rdoWB_ac nm (rRow tag l l.length) v2 (inv_okR (hI _ (Nat.le_refl _)) (by omega)) small2.ok (fun _ h _ => absurd rfl h)) ?_ (ho := rfl) (he := (.cons (se rfl CEnt.opI) (.cons (se rfl (CEnt.agg rfl (fun j hj => by rcases j with _ | _ | _ | _ | _ | j <;> first | exact CEnt.refl _ | exact CEnt.nilB | omega))) .nil))))
    rintro _ _ ⟨rfl, rfl⟩
    refine ⟨_, _, rfl, CEnt.refl _, ?_⟩
    refine seq_nil ?_
    refine jcr ?_
    refine jq jrm ?_
    refine jqm (jmcH 1 (rdone08_ac nm (rdoS v2 (rRow tag l l.length)) (inv_okR hI2 (by omega))) ?_)
    rintro _ _ ⟨rfl, rfl⟩
    refine ⟨_, _, rfl, CEnt.refl _, ?_⟩
    refine jq jrm ?_
    refine jq jrx ?_
    refine jq jrx ?_
    refine jq jrm ?_
    refine jq jrm ?_
    refine seq_nil ?_
    refine jcs ?_
    refine jcr ?_
    refine jq jrm ?_
    refine jq jrc ?_
    refine jq jrm ?_
    refine jqsp 74 (fun g237 => ?_) fun g237 => ?_
    · refine jqs ?_
      refine jqs ?_
      refine jqs ?_
      refine jqs ?_
      refine jqs ?_
      refine jq jrpT ?_
      refine seq_nil ?_
      refine jcT ?_
      refine jcr ?_
      refine jq jrm ?_
      refine seq_nil ?_
      refine code_ret (jtr (jrt (hv := ?_)))
      exfalso
      (simp_all; done)
    refine jq jrm ?_
    refine jq jrbs ?_
    refine jq jrm ?_
    refine jq jrbs ?_
    refine jq jrcs ?_
    refine jq jrpF ?_
    refine seq_nil ?_
    refine jcc (fun h237 => ?_) fun h237 => ?_
    · refine jcr ?_
      refine jq jrm ?_
      refine seq_nil ?_
      refine code_ret (jtr (jrt (hv := ?_)))
      exfalso
      (simp_all; done)
    refine code_skip (jtn ?_)
    obtain ⟨B, hBB⟩ : ∃ B, B = doneB (doW v2 (sRow tag l l.length)) := ⟨_, rfl⟩
    rw [← hBB] at hdl ⊢
    refine jcr ?_
    refine jq jrm ?_
    refine jqe (jecS (read08_ac B (by omega)) ?_)
    rintro _ _ ⟨n3, rfl, rfl⟩
    refine jq jrm ?_
    refine jqe (jecS (rread08_ac B (by omega)) ?_)
    rintro _ _ ⟨n4, rfl, rfl⟩
    refine jq jrm ?_
    refine jq jrm ?_
    refine seq_nil ?_
    have hB1 : 0 < [B].length ∧ [B].length ≤ 100000 := by simp
    have hB2 : nowL [B] = B := rfl
    have hbd := enter_bd (tag := tag) (l := [B]) (k := (depthM B).2)
    rw [hB2] at hbd
    simp only [List.length_singleton] at hbd
    have hr1 : readR ⟨1, tag, 0, 0⟩ [B] (depthM B).2 = ⟨enterL tag [B] (depthM B).2, (enterR tag [B] (depthM B).2).k, vI (enterR tag [B] (depthM B).2).is⟩ := by unfold readR; rw [if_pos rfl]
    refine code_ent (weaken 16 (.op 3 (some n4) 0) CEnt.opI) ?_
    refine jcr ?_
    refine jq jrm ?_
    refine jq jrm ?_
    refine jq jrm ?_
    refine jqm (jmcH 2 (row08_ac n3 [B] (depthM B).2 tag most hB1 (by rw [hB2]; omega) (by omega) (by omega)) ?_ (ho := rfl) (he := (.cons (se rfl CEnt.opI) (.cons (se rfl (CEnt.refl _)) (.cons (se rfl (CEnt.refl _)) (.cons (se rfl CEnt.fn0) .nil))))))
    rintro _ _ ⟨J, hJ, rfl, rfl⟩; refine ⟨_, _, rfl, CEnt.refl _, ?_⟩
    refine jq jrm ?_
    refine seq_nil ?_
    refine jcr ?_
    refine jq jrm ?_
    refine jq jrm ?_
    refine jq (rd_build (n := 4) rfl zr54 pl54 rfl rfl) ?_
    refine jqm (jmcH 3 (rdo08_ac n4 [B] (depthM B).2 ⟨1, tag, 0, 0⟩ (by simp) (by rw [hB2]; omega) (fun h _ _ => absurd rfl h)) ?_ (ho := rfl) (he := (.cons (se rfl CEnt.opI) (.cons (se rfl (CEnt.agg rfl (fun j hj => by rcases j with _ | _ | _ | _ | j <;> exact CEnt.refl _))) .nil))))
    rintro _ _ ⟨rfl, rfl⟩
    refine ⟨_, _, rfl, CEnt.refl _, ?_⟩
    refine seq_nil ?_
    rw [hr1]
    generalize hl0 : enterL tag [B] (depthM B).2 = l0 at *
    have hk28 : (enterR tag [B] (depthM B).2).k ≤ 28 := by
      unfold enterR
      refine nextR_k ?_
      have := (depthM_bd B).2
      split <;> omega
    generalize hk0 : (enterR tag [B] (depthM B).2).k = k0 at *
    have hsl := fun j => stR_len l0 k0 j
    have hso := fun j => stR_out l0 k0 j
    have hmu := stR_mu l0 k0 most (by omega)
    have hmu0 : muR l0 k0 ≤ 901 := by unfold muR; split <;> omega
    refine jcr ?_
    refine jqe (jebl 0 1 zr3 fun p10 => ?_)
    refine jq jrm ?_
    refine seq_nil ?_
    refine jcs ?_
    refine code_block ?_
    refine l_loop (α := Nat × Option Nat) [6, 18, 94, 95, 96, 97, 98, 99, 100, 101, 102, 103, 104, 105, 106, 107, 108, 109, 110, 111, 112, 113, 114, 115] (fun (j, g) => [(18, .os 4 g 0 (stR l0 k0 j).2.2.length 1)]) (fun (j, g) => [wrO nw (doW v2 (sRow tag l l.length)), rwO nm (rdoS v2 (rRow tag l l.length)), rdO n3 (rowEnd l0 k0 J).1 (rowEnd l0 k0 J).2, rqE n4 (stR l0 k0 j).1 (stR l0 k0 j).2.1, (g, .blk (stR l0 k0 j).2.2.length (inF (stR l0 k0 j).2.2))]) (fun p => ∀ i, i < p.1 → goR l0 k0 most i) (fun p => muR (stR l0 k0 p.1).1 (stR l0 k0 p.1).2.1) ((0, p10)) ?_ (fun _ => rfl) ?_ ?_ ?_
    · exact fun i hi => absurd hi (Nat.not_lt_zero i)
    · exact .cons (CEnt.osI rfl) .nil
    · exact .same (.same (.same (.same (.blk rfl (fun j hj => absurd hj (Nat.not_lt_zero j)) .nil))))
    · rintro ⟨j, g⟩ (hj : ∀ i, i < j → goR l0 k0 most i)
      have hmj := hmu j hj
      have hjl : 0 < (stR l0 k0 j).1.length ∧ (stR l0 k0 j).1.length ≤ 1000000 := by rw [hsl]; omega
      have hjo := hso j
      have hjb : (nowL (stR l0 k0 j).1).length ≤ 1000 := by unfold muR at hmj hmu0; omega
      refine jcs ?_
      refine jcr ?_
      refine jq jrm ?_
      refine jqm (jmcH 3 (rmore08_ac n4 _ _ hjl) ?_)
      rintro _ _ ⟨rfl, rfl⟩
      refine ⟨_, _, rfl, CEnt.refl _, ?_⟩
      refine seq_nil ?_
      refine jcc (fun h244 => ?_) fun h244 => ?_
      · refine code_skip (jtn ?_)
        refine code_block ?_
        refine jcs ?_
        refine jcr ?_
        refine jq jrm ?_
        refine jq jrl ?_
        refine jq jrm ?_
        refine jq jrc ?_
        refine seq_nil ?_
        refine jcc (fun h245 => ?_) fun h245 => ?_
        rotate_left
        · refine code_skip (jtn ?_)
          have hgo : goR l0 k0 most j := ⟨by simpa using h244, by omega⟩
          refine jcg ?_
          refine jq jrm ?_
          refine jq jrm ?_
          refine jq (rd_build (n := 4) rfl zr54 pl54 rfl rfl) ?_
          refine jqm (jmcH 3 (rdo08_ac n4 (stR l0 k0 j).1 (stR l0 k0 j).2.1 a3 hjl hjb (fun _ _ _ b _ => rsaid3_ac a3 b rfl)) ?_ (ho := rfl) (he := (.cons (se rfl CEnt.opI) (.cons (se rfl (CEnt.agg rfl (fun j hj => by rcases j with _ | _ | _ | _ | j <;> exact CEnt.refl _))) .nil))))
          rintro _ _ ⟨rfl, rfl⟩
          refine ⟨_, _, rfl, CEnt.refl _, ?_⟩
          refine jq (jrf 1 1) ?_
          refine jqe (jebl 1 1 zr3 fun p13 => ?_)
          refine jqm (m_appendC rowC_in (l2 := [(readR a3 (stR l0 k0 j).1 (stR l0 k0 j).2.1).v.n]) rfl rfl rfl rfl (by exact Nat.le_of_eq (Nat.mul_one _)) (fun _ _ => CEnt.refl _) (src_os rfl (.inl rfl) (by decide)) rfl (hh_ints (.cons (CEnt.int (rfl)) .nil)) Tryz.underlying22 nu22 sz3 zr3 by3 rfl (by (simp; omega)) (by (simp; omega)) (leaf_flk rfl rfl) rfl rfl (Nat.mul_one _) (fun p14 => ?_))
          refine jq jrm ?_
          refine seq_nil ?_
          refine jbn (jtn ?_)
          refine jlend ((j + 1, p14)) ?_ ?_ (h5 := ?_) (h7 := ?_)
          · exact fun i hi => if h : i < j then hj i h else (by obtain rfl : i = j := (by have hi : i < j + 1 := hi; omega); exact hgo)
          · exact mu_step (by omega) hgo.1
          · exact .cons (CEnt.osI rfl) .nil
          · exact HEnt.refl _
        have hmt : moreM (stR l0 k0 j).1 (stR l0 k0 j).2.1 = true := by simpa using h244
        obtain rfl : J = j := stop_one hJ ⟨hj, fun h => by have := h.2; omega⟩
        have hre : rowEnd l0 k0 J = ((stR l0 k0 J).1, 3) := by unfold rowEnd; rw [if_pos hmt]
        dsimp only
        rw [hre]
        refine jcr ?_
        refine jq jrm ?_
        refine jq jrl ?_
        refine jq jrc ?_
        refine jq jrm ?_
        refine jqsp 103 (fun g246 => ?_) fun g246 => ?_
        rotate_left
        · refine jqs ?_
          refine jqs ?_
          refine jqs ?_
          refine jqs ?_
          refine jq jrpF ?_
          refine jq jrm ?_
          refine seq_nil ?_
          refine code_ret (jtr (jbr (jtr (jbr (jtr (jrt (hv := ?_)))))))
          first
            | exact CEnt.refl _
            | (refine CEnt.bool ?_; simp; done)
            | (exfalso; simp_all; done)
        refine jq jrm ?_
        refine jqm (jmcH 2 (err08_ac n3 _ _) ?_)
        rintro _ _ ⟨rfl, rfl⟩
        refine ⟨_, _, rfl, CEnt.refl _, ?_⟩
        refine jqe (jecP (num_ac 3 (by decide)) ?_)
        refine jq jrc ?_
        refine jq jrpT ?_
        refine jq jrm ?_
        refine seq_nil ?_
        refine code_ret (jtr (jbr (jtr (jbr (jtr (jrt (hv := ?_)))))))
        first
          | exact CEnt.refl _
          | (refine CEnt.bool ?_; simp; done)
          | (exfalso; simp_all; done)
      refine code_exit (jte (jte (jbx (jtn ?_))))
      have hmf : moreM (stR l0 k0 j).1 (stR l0 k0 j).2.1 = false := by simpa using h244
      obtain rfl : J = j := stop_one hJ ⟨hj, fun h => by rw [goR, hmf] at h; exact absurd h.1 (by simp)⟩
      have hre : rowEnd l0 k0 J = (leaveL (stR l0 k0 J).1 (stR l0 k0 J).2.1, leaveK (stR l0 k0 J).1 (stR l0 k0 J).2.1) := by unfold rowEnd; rw [if_neg (by rw [hmf]; simp)]
      have hr2 : readR ⟨2, 0, 0, 0⟩ (stR l0 k0 J).1 (stR l0 k0 J).2.1 = ⟨leaveL (stR l0 k0 J).1 (stR l0 k0 J).2.1, leaveK (stR l0 k0 J).1 (stR l0 k0 J).2.1, VV.none⟩ := by unfold readR; rw [if_neg (by decide), if_pos rfl]
      have hlk : leaveK (stR l0 k0 J).1 (stR l0 k0 J).2.1 ≤ 28 := leave_k (stR_k hk28 J)
      dsimp only
      rw [hre]
      refine jcr ?_
      refine jq jrm ?_
      refine jq (rd_build (n := 4) rfl zr54 pl54 rfl rfl) ?_
      refine jqm (jmcH 3 (rdo08_ac n4 (stR l0 k0 J).1 (stR l0 k0 J).2.1 ⟨2, 0, 0, 0⟩ hjl hjb (fun _ h _ => absurd rfl h)) ?_ (ho := rfl) (he := (.cons (se rfl CEnt.opI) (.cons (se rfl (CEnt.agg rfl (fun j hj => by rcases j with _ | _ | _ | _ | j <;> exact CEnt.refl _))) .nil))))
      rintro _ _ ⟨rfl, rfl⟩
      refine ⟨_, _, rfl, CEnt.refl _, ?_⟩
      refine seq_nil ?_
      refine jcs ?_
      rw [hr2]
      refine jcr ?_
      refine jq jrm ?_
      refine jq jrnc ?_
      refine jq (jrfa 1 1 false) ?_
      refine jqo jrdo ?_
      refine jq jrc ?_
      refine seq_nil ?_
      refine jcc (fun h251 => ?_) fun h251 => ?_
      rotate_left
      · refine code_skip (jtn ?_)
        refine code_ent (freeze 4 rfl) ?_
        refine code_ent (thawIL 18 (stR l0 k0 J).2.2 rfl rfl rfl (Nat.ble_eq_true_of_le (Nat.le_refl _)) (fun _ _ => CEnt.refl _)) ?_
        refine jcr ?_
        refine jq jrm ?_
        refine jqm (jmcH 2 (err08_ac n3 _ _) ?_)
        rintro _ _ ⟨rfl, rfl⟩
        refine ⟨_, _, rfl, CEnt.refl _, ?_⟩
        refine jq jre ?_
        refine jq jrm ?_
        refine jqsp 140 (fun g254 => ?_) fun g254 => ?_
        · refine jq jrm ?_
          refine jq jrm ?_
          refine jqe (jecP (sameI_ac _ (stR l0 k0 J).2.2) ?_)
          refine jq jrpT ?_
          refine jq jrm ?_
          refine seq_nil ?_
          refine code_ret (jrt (hv := ?_))
          first
            | exact CEnt.refl _
            | (refine CEnt.bool ?_; simp_all; done)
            | (exfalso; simp_all; done)
        refine jqs ?_
        refine jqs ?_
        refine jqs ?_
        refine jq jrpF ?_
        refine jq jrm ?_
        refine seq_nil ?_
        refine code_ret (jrt (hv := ?_))
        first
          | exact CEnt.refl _
          | (refine CEnt.bool ?_; simp_all; done)
          | (exfalso; simp_all; done)
      refine jcs ?_
      refine code_ent (freeze 3 rfl) ?_
      refine code_ent (thawP 16 (m := 2) rfl rfl (by decide)) ?_
      refine jcdC 3 (.rd 0 (.rd 1 (.rd 2 .done))) (.rd 3 (.rd 4 (.rd 7 (.rd 8 (.rd 9 (.rd 10 (.one 5 (.one 6 (.rd 11 (.rd 12 (.rd 13 .done))))))))))) ?_
      refine jyq jrm ?_
      refine jyq jrl ?_
      refine jyq jrc ?_
      refine jyd ?_
      show AZ _ _ _ _ _ _
      refine jzq jrm ?_
      refine jzsp 127 (fun g252 => ?_) fun g252 => ?_
      rotate_left
      · refine jzs ?_
        refine jzs ?_
        refine jzs ?_
        refine jzs ?_
        refine jzs ?_
        refine jzs1 ?_
        refine jzs1 ?_
        refine jzs ?_
        refine jzq jrpF ?_
        refine jzq jrm ?_
        refine jzd ?_
        refine jtn ?_
        refine code_ret (jtr (jrt (hv := ?_)))
        first
          | exact CEnt.refl _
          | (refine CEnt.bool ?_; simp; done)
          | (exfalso; simp_all; done)
      refine jzq jrm ?_
      refine jzq jrm ?_
      refine jzq jrnc ?_
      refine jzq (jrfa 1 1 false) ?_
      refine jzq jrdr ?_
      refine jzm (jmcH 2 (err08_ac n3 _ _) ?_)
      rintro _ _ ⟨rfl, rfl⟩
      refine ⟨_, _, rfl, CEnt.refl _, ?_⟩
      refine jze (jecP (num_ac (leaveK (stR l0 k0 J).1 (stR l0 k0 J).2.1) hlk) ?_)
      refine jzq jrc ?_
      refine jzq jrpT ?_
      refine jzq jrm ?_
      refine jzd ?_
      refine jtn ?_
      refine code_ret (jtr (jrt (hv := ?_)))
      first
        | exact CEnt.refl _
        | (refine CEnt.bool ?_; simp; done)
        | (exfalso; simp_all; done)
end Am
end Go.Proofs.YtjckfbpdieijeaaGreatDoor

/- Arguments that come in, by their types: from 'trod' to plain words. -/
namespace Go.Proofs.YtjckfbpdieijeaaGreatDoor
set_option linter.unusedVariables false
open Go.RowKit Go.ChangeShapes
namespace Am
/-- values of type t lie in k cells and read as E x for an x with φ -/
def Opens (P : Program) (t : TypeId) (k : Nat) (D : Type) (φ : D → Prop) (E : D → Nat → CV) : Prop :=
  ∀ (H : Type) (enc : TypeId × Value → H) (W : World) (fuel : Nat) (cs : List Value) (y : DataW H × List MemPlace), DataW.trod enc P W 0 (fun _ => true) true fuel t cs = some y →
    cs.length = k ∧ ∃ x : D, φ x ∧ ∀ al j, j < k → RepC al (fun b => b < W.heap.size) W (E x j) (cs.getD j undef)
section
variable {P : Program} {t : TypeId}
theorem one_cell {al : List Addr} {W : World} {St : Nat → Prop} {c : Nat → CV} {v : Value} (h : RepC al St W (c 0) v) : ∀ j, j < 1 → RepC al St W (c j) ([v].getD j undef) := fun j hj => by
  obtain rfl : j = 0 := by omega
  exact h
theorem opens_i64 (hu : P.underlying t = some (.int .i64)) : Opens P t 1 Int (fun z => -9223372036854775808 ≤ z ∧ z ≤ 9223372036854775807) (fun z _ => .c (.int .i64 z)) := fun H enc W fuel cs y h => by
  obtain ⟨n, rfl, _, hw⟩ := DataW.trod_int hu h
  exact ⟨rfl, n, bounds_i64 hw, fun al => one_cell rfl⟩
theorem opens_slice {e : TypeId} {k : Nat} {D : Type} {φ : D → Prop} {E : D → Nat → CV} (d0 : D) (ho : Opens P e k D φ E) (hu : P.underlying t = some (.slice e)) (hk : P.cellsOf e = k) (hk0 : 0 < k) :
    Opens P t 1 (List D) (fun l => l.length ≤ maxLen ∧ ∀ x ∈ l, φ x) (fun l _ => .rs k l.length fun i j => E (l.getD i d0) j) := fun H enc W fuel cs y h => by
  rcases DataW.trod_slice hu h with ⟨rfl, _⟩ | ⟨a, len, cap, elems, rest, n, _, rfl, _, _, hle, hm, hl, hel, _⟩
  · exact ⟨rfl, [], ⟨by simp, by simp⟩, fun al => one_cell ⟨none, 0, rfl, Nat.le_refl _, by decide, fun _ => rfl, fun _ h => by cases h⟩⟩
  · refine ⟨rfl, ?_⟩
    subst hk
    have key : ∀ i, ∃ x : D, i < len → φ x ∧ ∀ al j, j < P.cellsOf e → ∃ v, W.cell? (a.add (i * P.cellsOf e + j)) = some v ∧ RepC al (fun b => b < W.heap.size) W (E x j) v := fun i => by
      by_cases hi : i < len
      · have h1 := hel i hi
        rw [List.getElem?_eq_getElem (by omega)] at h1
        obtain ⟨cs, h2, h3⟩ := Option.bind_eq_some_iff.1 h1
        obtain ⟨_, h4, h5⟩ := World.cells?_some h2
        obtain ⟨_, x, hx, hr⟩ := ho H enc W n cs _ h3
        refine ⟨x, fun _ => ⟨hx, fun al j hj => ⟨cs.getD j undef, ?_, hr al j hj⟩⟩⟩
        have := h5 j hj
        rw [Addr.add_add] at this
        rw [this]
        simp [h4, hj]
      · exact ⟨d0, fun h => absurd h hi⟩
    obtain ⟨F, hF⟩ : ∃ F : Nat → D, ∀ i, i < len → φ (F i) ∧ ∀ al j, j < P.cellsOf e → ∃ v, W.cell? (a.add (i * P.cellsOf e + j)) = some v ∧ RepC al (fun b => b < W.heap.size) W (E (F i) j) v :=
      ⟨fun i => (key i).choose, fun i hi => (key i).choose_spec hi⟩
    have hm' : cap ≤ 9223372036854775807 := by unfold maxLen at hm; omega
    refine ⟨(List.range len).map F, ⟨by simp; omega, by simp only [List.mem_map, List.mem_range]; rintro x ⟨i, hi, rfl⟩; exact (hF i hi).1⟩, fun al => one_cell ?_⟩
    refine ⟨some a, cap, by simp, by simpa using hle, hm', by simp, fun b hb hn => ?_⟩
    cases hb
    simp at hn
    obtain ⟨v0, hv0, _⟩ := (hF 0 hn).2 al 0 hk0
    have hsp : a.spot = none := by
      have := World.cell?_spot hv0
      obtain ⟨b, o, sp⟩ := a
      simpa [Addr.add] using this
    refine ⟨hsp, ?_, fun i j hi hj => ?_⟩
    · have := World.block_lt_of_cell? W _ hv0
      obtain ⟨b, o, sp⟩ := a
      simpa [Addr.add] using this
    · simp at hi
      obtain ⟨v, hv, hr⟩ := (hF i hi).2 al j hj
      refine ⟨v, ?_, by simpa [List.getD, hi] using hr⟩
      obtain ⟨b, o, sp⟩ := a
      simp only at hsp
      subst hsp
      rwa [Addr.add_lit] at hv
/-- fields, one behind the other -/
def OpensF (P : Program) (fs : List Field) (D : Type) (φ : D → Prop) (E : D → Nat → CV) (C : Nat → Bool) : Prop :=
  ∀ (H : Type) (enc : TypeId × Value → H) (W : World) (cs : List Value), (∀ f ∈ fs, ∃ n y, DataW.trod enc P W 0 (fun _ => true) true n f.type ((cs.drop f.offset).take (P.cellsOf f.type)) = some y) →
    ∃ x : D, φ x ∧ ∀ al j, C j = true → RepC al (fun b => b < W.heap.size) W (E x j) (cs.getD j undef)
theorem arg_one {D : Type} {φ : D → Prop} {E : D → Nat → CV} (ho : Opens P t 1 D φ E) {H : Type} {enc : TypeId × Value → H} {W : World} {v : Value} {d : DataW H} {p : List MemPlace} (hv : v.cells = #[v]) (h : DataW.Trod enc P W 0 (fun _ => true) true t v d p) :
    ∃ x : D, φ x ∧ ∀ al, RepC al (fun b => b < W.heap.size) W (E x 0) v := by
  obtain ⟨fuel, hf⟩ := h
  obtain ⟨_, x, hx, hr⟩ := ho H enc W fuel _ _ hf
  refine ⟨x, hx, fun al => ?_⟩
  have := hr al 0 (by decide)
  rw [hv] at this
  exact this
end
end Am
end Go.Proofs.YtjckfbpdieijeaaGreatDoor

/- Arguments that come in: texts as lists; lists in other words. -/
namespace Go.Proofs.YtjckfbpdieijeaaGreatDoor
set_option linter.unusedVariables false
open Go.RowKit Go.ChangeShapes
namespace Am
end Am
end Go.Proofs.YtjckfbpdieijeaaGreatDoor
