
/- The abstract walk, fifth part: calls; blocks that are written no more; stores; append. -/
import Derived.Test.YtoliiompofonlaaDoorAm4
namespace Go.Proofs.YtoliiompofonlaaDoor
set_option linter.unusedVariables false
open Go.RowKit
namespace Am
section
variable {P : Program} {G : Gh} {ops : Array Oper} {o : Oper} {s : AS} {K : AS → Prop} {t u : TypeId} {x y : Operand} {k : IntKind}

/-! ### calls -/
def calleeB (P : Program) (f : FuncId) : Bool := match P.funcs[f]? with | some fn => fn.body.isSome && !(fn.name == "runtime.NumGoroutine") | none => false
theorem run_enter {f : FuncId} (hc : calleeB P f = true) (args : Array Value) (W : World) : (callFunc f args).run P W = .ok (.enter f args) W := by
  unfold calleeB at hc
  split at hc
  · rename_i fn hf
    simp only [Bool.and_eq_true, Bool.not_eq_true'] at hc
    obtain ⟨h1, h2⟩ := hc
    have h3 : fn.body.isNone = false := by cases hb : fn.body <;> simp_all
    have h4 : ¬ fn.name = "runtime.NumGoroutine" := by simpa using h2
    have h5 : ¬ fn.body = none := fun h => by rw [h] at h1; cases h1
    simp [callFunc, hf, h4, h5]
  · cases hc

theorem exec_call {f : FuncId} {xs : Array Operand} {ats : Array TypeId} (ho : o.op = .call ⟨.value (.func f), xs, ats⟩) (hc : calleeB P f = true) (a : Act) (W : World) :
    (execOp a.eval o).run P W = .ok (.enter f (xs.map a.eval)) W := by
  have e : a.eval (.func f) = .func (.func f) #[] #[] := rfl
  simp [execOp, ho, resolve, e, Deferred.ofValue, invoke, run_enter hc]
theorem exec_callv {f : FuncId} {v : Operand} {cs : Array Value} {xs : Array Operand} {ats : Array TypeId} (ho : o.op = .call ⟨.value v, xs, ats⟩) (hc : calleeB P f = true) (a : Act) (hv : a.eval v = .func (.func f) #[] cs) (W : World) :
    (execOp a.eval o).run P W = .ok (.enter f (xs.map a.eval ++ cs)) W := by
  simp [execOp, ho, resolve, hv, Deferred.ofValue, invoke, run_enter hc]

theorem entL_len {l m : List CV} (h : EntL l m) : l.length = m.length := by
  induction h with
  | nil => rfl
  | cons _ _ ih => simp [ih]
theorem entL_get {l m : List CV} (h : EntL l m) : ∀ i, CEnt (fl l i) (fl m i) := by
  induction h with
  | nil => exact fun i => CEnt.refl _
  | cons h1 _ ih =>
    intro i
    cases i with
    | zero => exact h1
    | succ i => exact ih i
theorem fl_append (l m : List CV) (i : Nat) : fl (l ++ m) i = if i < l.length then fl l i else fl m (i - l.length) := by
  rw [fl_get, fl_get, fl_get]
  split
  · rename_i h; simp [List.getD, List.getElem?_append_left h]
  · rename_i h; simp [List.getD, List.getElem?_append_right (Nat.le_of_not_lt h)]

/-- the world behind a call -/
theorem RelSt.after {St St' : Nat → Prop} {a : Act} {w w' : World} (h : RelSt G St s a w) {H' : List (Option Nat × Res)} (hu : Under (fun _ => False) w w') (h1 : ∀ b, St b → St' b) (h2 : ∀ b, St' b → St b ∨ w.heap.size ≤ b ∨ False) (h3 : ∀ b, St' b → b < w'.heap.size) (hp' : HRel G.al St' w' w.heap.size (fun _ => False) H') :
    RelSt G St' ⟨s.env, s.b, s.H ++ H'⟩ a w' := by
  have hb := hu.below
  have he : Evo St w w' := Evo.of_below hb h.s3
  obtain ⟨fp, hp⟩ := h.hp
  obtain ⟨fp', hp'⟩ := hp'
  refine ⟨h.df.keep h1 (fun b hb' => hb.block b (h.s3 b hb')), h.sz, fun d => RepC.evo he h1 _ _ (h.env d), h.un.then hb, fun b hs => h1 b (h.s1 b hs), fun b hs => ?_, h3, ?_, ?_, fun g hg => h1 g (h.sg.1 g hg), fun x hx => h1 _ (h.sg.2 x hx)⟩
  · rcases h2 b hs with hs | hs | hs
    · exact h.s2 b hs
    · exact .inr (.inl (Nat.le_trans h.un.size hs))
    · exact hs.elim
  · refine ⟨fun i b => (i < s.H.length ∧ fp i b) ∨ (s.H.length ≤ i ∧ fp' (i - s.H.length) b), fun i q r hi => ?_, fun i j b hi hj => ?_, fun i b hi => ?_, fun i hi b hb' => ?_⟩
    · by_cases hl : i < s.H.length
      · rw [List.getElem?_append_left hl] at hi
        have e : (fun b => (i < s.H.length ∧ fp i b) ∨ (s.H.length ≤ i ∧ fp' (i - s.H.length) b)) = fp i := funext fun b => propext ⟨fun h => h.elim (fun h => h.2) (fun h => by omega), fun h => .inl ⟨hl, h⟩⟩
        show r.rep G.al St' w' (fun b => (i < s.H.length ∧ fp i b) ∨ (s.H.length ≤ i ∧ fp' (i - s.H.length) b)) q
        rw [e]
        exact Res.rep_evo he h1 (fun b hF => hb.block b (hp.own i b hF).1) (hp.rep i q r hi)
      · rw [List.getElem?_append_right (by omega)] at hi
        have e : (fun b => (i < s.H.length ∧ fp i b) ∨ (s.H.length ≤ i ∧ fp' (i - s.H.length) b)) = fp' (i - s.H.length) := funext fun b => propext ⟨fun h => h.elim (fun h => by omega) (fun h => h.2), fun h => .inr ⟨by omega, h⟩⟩
        show r.rep G.al St' w' (fun b => (i < s.H.length ∧ fp i b) ∨ (s.H.length ≤ i ∧ fp' (i - s.H.length) b)) q
        rw [e]
        exact hp'.rep _ q r hi
    · rcases hi with ⟨a1, a2⟩ | ⟨a1, a2⟩ <;> rcases hj with ⟨b1, b2⟩ | ⟨b1, b2⟩
      · exact hp.dis i j b a2 b2
      · have c1 := (hp.own i b a2).1
        rcases (hp'.own _ b b2).2.2 with c2 | c2
        · omega
        · exact c2.elim
      · have c1 := (hp.own j b b2).1
        rcases (hp'.own _ b a2).2.2 with c2 | c2
        · omega
        · exact c2.elim
      · have := hp'.dis _ _ b a2 b2
        omega
    · rcases hi with ⟨a1, a2⟩ | ⟨a1, a2⟩
      · obtain ⟨c1, c2, c3⟩ := hp.own i b a2
        refine ⟨Nat.lt_of_lt_of_le c1 hb.size, fun hs => ?_, c3⟩
        rcases h2 b hs with hs | hs | hs
        · exact c2 hs
        · omega
        · exact hs
      · obtain ⟨c1, c2, c3⟩ := hp'.own _ b a2
        refine ⟨c1, c2, .inl ?_⟩
        rcases c3 with c3 | c3
        · exact Nat.le_trans h.un.size c3
        · exact c3.elim
    · rcases hb' with ⟨a1, _⟩ | ⟨a1, a2⟩
      · simp at hi; omega
      · exact hp'.out _ (by simp at hi; omega) b a2
  · exact SentL.keep h.sn (fun g hg => hb.block g (h.s3 _ (h.sg.1 g hg))) (fun x hx => hb.block _ (h.s3 _ (h.sg.2 x hx)))

theorem entry0 {St : Nat → Prop} {a : Act} {w : World} (h : RelSt G St s a w) : Entry G.gs G.al St (fun _ => False) [] w :=
  ⟨h.s3, h.sn, h.sg, ⟨fun _ _ => False, fun i g r hi => by simp at hi, fun _ _ _ h => h.elim, fun _ _ h => h.elim, fun _ _ _ h => h⟩, fun _ h => h.elim⟩

theorem args_rep {St : Nat → Prop} {a : Act} {w : World} (h : RelSt G St s a w) {xs : Array Operand} {args : List CV} (he : EntL (xs.toList.map s.eval) args) : (xs.map a.eval).size = args.length ∧ ∀ i, RepC G.al St w (fl args i) ((xs.map a.eval).getD i undef) := by
  have hl := entL_len he
  simp at hl
  refine ⟨by simp [hl], fun i => ?_⟩
  by_cases hi : i < xs.size
  · refine entL_get he i _ _ _ _ ?_
    rw [fl_get]
    simp [List.getD, hi]
    exact h.eval _
  · rw [fl_none args i (by omega)]
    trivial

/-- a call by its contract: nothing of the caller's own is handed over -/
theorem ex_call {f : FuncId} {xs : Array Operand} {ats : Array TypeId} {args : List CV} {Q : CV → List (Option Nat × Res) → Prop} (ho : o.op = .call ⟨.value (.func f), xs, ats⟩) (hc : calleeB P f = true) (he : EntL (xs.toList.map s.eval) args) (hA : AC G.gs P f [] args Q) (hd : dstOk G o = true)
    (hK : ∀ r H', Q r H' → K (s.with o.dst r (s.H ++ H'))) : AEx P G o s K := fun St a w hr Q' => by
  unfold Oper.wp
  rw [exec_call ho hc]
  obtain ⟨h1, h2⟩ := args_rep hr he
  refine (hA G.al w St _ _ (entry0 hr) h1 h2).mono ?_
  rintro e w' ⟨v, r, H', St', rfl, hq, hv, hu, h3, h4, h5, h6⟩
  refine ⟨hu.below, St', h3, _, hK r H' hq, ?_⟩
  have := (hr.after hu h3 h4 h5 h6).put (dst := o.dst) (dst_of hd) hv
  cases ho : o.dst with
  | none => rw [ho] at this; exact this
  | some d => rw [ho] at this; exact this

/-- a call of a function value -/
theorem ex_callv {f : FuncId} {v : Operand} {n : Nat} {fv : Nat → CV} {xs : Array Operand} {ats : Array TypeId} {args : List CV} {Q : CV → List (Option Nat × Res) → Prop} (ho : o.op = .call ⟨.value v, xs, ats⟩) (hv : s.eval v = .fn f n fv) (hc : calleeB P f = true) (he : EntL (xs.toList.map s.eval ++ (List.range n).map fv) args) (hA : AC G.gs P f [] args Q) (hd : dstOk G o = true)
    (hK : ∀ r H', Q r H' → K (s.with o.dst r (s.H ++ H'))) : AEx P G o s K := fun St a w hr Q' => by
  obtain ⟨cs, hcs, hn, hf⟩ := evR hr hv
  unfold Oper.wp
  rw [exec_callv ho hc a hcs]
  have hl := entL_len he
  simp at hl
  refine (hA G.al w St _ _ (entry0 hr) (by simp [hn, hl]) (fun i => ?_)).mono ?_
  · by_cases hi : i < args.length
    · refine entL_get he i _ _ _ _ ?_
      rw [fl_append]
      by_cases h1 : i < xs.size
      · rw [if_pos (by simpa using h1), fl_get]
        simp [List.getD, h1, Array.getElem?_append_left]
        exact hr.eval _
      · rw [if_neg (by simpa using h1), fl_get]
        have h2 : i - xs.size < n := by omega
        have := hf _ h2
        simp [List.getD, h2, Array.getElem?_append_right (show (xs.map a.eval).size ≤ i by simp; omega)] at this ⊢
        exact this
    · rw [fl_none args i (by omega)]; trivial
  rintro e w' ⟨v, r, H', St', rfl, hq, hv, hu, h3, h4, h5, h6⟩
  refine ⟨hu.below, St', h3, _, hK r H' hq, ?_⟩
  have := (hr.after hu h3 h4 h5 h6).put (dst := o.dst) (dst_of hd) hv
  cases ho : o.dst with
  | none => rw [ho] at this; exact this
  | some d => rw [ho] at this; exact this

/-! ### what is written no more -/
theorem seq_ent {r : List Oper} {s' : AS} (he : EntS G s s') (h : ASeq P G ops r s' K) : ASeq P G ops r s K := fun a w hr Q hQ => h a w (he.rel hr) Q hQ
theorem x_ent {tr : OrdO} {s' : AS} (he : EntS G s s') (h : AX P G ops tr s' K) : AX P G ops tr s K := fun a w hr Q R hQ => h a w (he.rel hr) Q R hQ
theorem z_ent {tr : OrdO} {s' : AS} (he : EntS G s s') (h : AZ P G ops tr s' K) : AZ P G ops tr s K := fun St a w hr Q hQ => by
  obtain ⟨S1, h1, h2⟩ := he St a w hr
  obtain ⟨S2, h3, h4⟩ := h S1 a w h2 Q hQ
  exact ⟨S2, fun b hb => h3 b (h1 b hb), h4⟩

theorem freeze (i : Nat) {g : Option Nat} {n : Nat} {f : Nat → CV} (hH : s.H[i]? = some (g, .blk n f)) : EntS G s ⟨s.env, s.b, s.H.set i (g, .frz n f)⟩ := fun St a w h => by
  obtain ⟨fp, hp⟩ := h.hp
  have hlt : i < s.H.length := (List.getElem?_eq_some_iff.1 hH).1
  have hrep := hp.rep i g _ hH
  refine ⟨fun b => St b ∨ fp i b, fun _ h => .inl h, ?_⟩
  have he : Evo St w w := ⟨fun _ _ _ _ _ h => h, fun b cur t z h => ⟨cur, z, h, rfl⟩⟩
  have hs : ∀ b, St b → St b ∨ fp i b := fun _ h => .inl h
  refine ⟨h.df.grow hs, h.sz, fun d => RepC.evo he hs _ _ (h.env d), h.un, fun b hb => .inl (h.s1 b hb), fun b hb => ?_, fun b hb => ?_, ?_, h.sn, fun g hg => .inl (h.sg.1 g hg), fun x hx => .inl (h.sg.2 x hx)⟩
  · rcases hb with hb | hb
    · exact h.s2 b hb
    · exact .inr (hp.own i b hb).2.2
  · rcases hb with hb | hb
    · exact h.s3 b hb
    · exact (hp.own i b hb).1
  · refine ⟨fun j b => j ≠ i ∧ fp j b, fun j q r hj => ?_, fun j l b h1 h2 => hp.dis j l b h1.2 h2.2, fun j b h1 => ?_, fun j hj b h1 => hp.out j (by simpa using hj) b h1.2⟩
    · by_cases e : j = i
      · subst e
        simp [hlt] at hj
        obtain ⟨rfl, rfl⟩ := hj
        cases g with
        | none => exact ⟨hrep.1, fun b hb => absurd rfl hb.1⟩
        | some g =>
          obtain ⟨h0, cur, t, h1, h2, h3⟩ := hrep
          exact ⟨fun b hb => absurd rfl hb.1, .inr ((h0 g).2 rfl), cur, t, _, h1, h2, fun m hm => RepC.evo he hs _ _ (h3 m hm)⟩
      · rw [List.getElem?_set_ne (Ne.symm e)] at hj
        have e2 : (fun b => j ≠ i ∧ fp j b) = fp j := funext fun b => propext ⟨fun h => h.2, fun h => ⟨e, h⟩⟩
        show r.rep G.al _ w (fun b => j ≠ i ∧ fp j b) q
        rw [e2]
        exact Res.rep_evo he hs (fun _ _ => rfl) (hp.rep j q r hj)
    · obtain ⟨h2, h3, h4⟩ := hp.own j b h1.2
      exact ⟨h2, fun hb => hb.elim h3 fun hb => h1.1 (hp.dis j i b h1.2 hb), h4⟩

theorem EntS.put {d : Nat} {v : CV} (hd : Nat.blt d G.N = true) (h : ∀ St a w, RelSt G St s a w → RepC G.al St w v (a.tmps.getD d undef)) : EntS G s ⟨(d, v) :: s.env, s.b, s.H⟩ := fun St a w hr => by
  refine ⟨St, fun _ h => h, hr.df, hr.sz, fun e => ?_, hr.un, hr.s1, hr.s2, hr.s3, hr.hp, hr.sn, hr.sg⟩
  by_cases hde : d = e
  · subst hde; rw [look_same]; exact h St a w hr
  · rw [look_other _ _ _ hde]; exact hr.env e
/-- a slot says less -/
theorem weaken (d : Nat) (v : CV) (h : CEnt (look s.env s.b d) v) : EntS G s ⟨(d, v) :: s.env, s.b, s.H⟩ := fun St a w hr => by
  refine ⟨St, fun _ h => h, hr.df, hr.sz, fun e => ?_, hr.un, hr.s1, hr.s2, hr.s3, hr.hp, hr.sn, hr.sg⟩
  by_cases hde : d = e
  · subst hde; rw [look_same]; exact h _ _ _ _ (hr.env d)
  · rw [look_other _ _ _ hde]; exact hr.env e

/-- a slice of a block that is written no more reads as a list -/
theorem thaw (d : Nat) {i off n m N : Nat} {g : Option Nat} {F : Nat → CV} (f : Nat → Nat → CV) (hl : look s.env s.b d = .os i g off n m) (hH : s.H[i]? = some (g, .frz N F)) (hN : off + n * m ≤ N) (hf : ∀ a b, a < n → b < m → CEnt (F (off + (a * m + b))) (f a b)) :
    EntS G s ⟨(d, .rs m n f) :: s.env, s.b, s.H⟩ := fun St a w hr => by
  refine ⟨St, fun _ h => h, hr.df, hr.sz, fun e => ?_, hr.un, hr.s1, hr.s2, hr.s3, hr.hp, hr.sn, hr.sg⟩
  by_cases hde : d = e
  · subst hde
    rw [look_same]
    have he := hr.env d
    rw [hl] at he
    cases g with
    | none =>
      obtain ⟨h1, h2⟩ := he
      subst h1
      exact ⟨none, 0, h2, Nat.le_refl _, by decide, fun _ => rfl, fun _ h => by cases h⟩
    | some g =>
      obtain ⟨cap, h1, h2, h3, _⟩ := he
      obtain ⟨fp, hp⟩ := hr.hp
      obtain ⟨_, hg, cur, t, z, hh, hle, hc⟩ := hp.rep i (some g) _ hH
      refine ⟨_, cap, h1, h2, h3, (fun h => by cases h), fun ad ha _ => ?_⟩
      cases ha
      refine ⟨rfl, hg, fun p q hp' hq => ?_⟩
      have hb : p * m + q < n * m := by
        have : p * m + m ≤ n * m := by rw [← Nat.succ_mul]; exact Nat.mul_le_mul_right _ hp'
        omega
      have hlt : off + (p * m + q) < cur.size := by omega
      refine ⟨cur.getD (off + (p * m + q)) undef, ?_, hf p q hp' hq _ _ _ _ (hc _ (by omega))⟩
      show w.cell? ⟨g, off + (p * m + q), none⟩ = _
      rw [cell_of_row w g _ cur t z hh]; simp [hlt]
  · rw [look_other _ _ _ hde]; exact hr.env e
/-- a pointer into a block that is written no more -/
theorem thawP (d : Nat) {i off m N : Nat} {g : Option Nat} {F : Nat → CV} (hl : look s.env s.b d = .op i g off) (hH : s.H[i]? = some (g, .frz N F)) (hN : off + m ≤ N) :
    EntS G s ⟨(d, .rp m fun j => F (off + j)) :: s.env, s.b, s.H⟩ := fun St a w hr => by
  refine ⟨St, fun _ h => h, hr.df, hr.sz, fun e => ?_, hr.un, hr.s1, hr.s2, hr.s3, hr.hp, hr.sn, hr.sg⟩
  by_cases hde : d = e
  · subst hde
    rw [look_same]
    have he := hr.env d
    rw [hl] at he
    obtain ⟨b, rfl, he⟩ := he
    obtain ⟨fp, hp⟩ := hr.hp
    obtain ⟨_, hg, cur, t, z, hh, hle, hc⟩ := hp.rep i (some b) _ hH
    refine ⟨b, off, he, hg, fun j hj => ?_⟩
    have hlt : off + j < cur.size := by omega
    refine ⟨cur.getD (off + j) undef, ?_, hc _ (by omega)⟩
    rw [cell_of_row w b _ cur t z hh]; simp [hlt]
  · rw [look_other _ _ _ hde]; exact hr.env e
end
end Am
end Go.Proofs.YtoliiompofonlaaDoor
