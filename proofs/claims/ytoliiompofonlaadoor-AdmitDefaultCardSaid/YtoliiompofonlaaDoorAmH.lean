
/- The abstract walk: the statement 'for .. := range f'. -/
import Derived.Test.YtoliiompofonlaaDoorAmG
import Derived.Shelf.Abstract
namespace Go.Proofs.YtoliiompofonlaaDoor
set_option linter.unusedVariables false
open Go.RowKit
namespace Am
section
variable {P : Program} {G : Gh} {s : AS} {R : Exit → AS → Prop}

/-- what an iterator does: it hands each of m things to yield, till yield says no -/
def IterC (gs : List Nat) (P : Program) (f : FuncId) (HI : List (Option Nat × Res)) (capt : List CV) (m : Nat) (E : Nat → List CV) : Prop :=
  ∀ (l : Nat) (J : Nat → OP) (Jx : OP), (∀ k, k < m → ACY gs P l [(some l, .obj (J k))] (E k) (YQ l (J (k + 1)) Jx)) →
    AC gs P f (HI ++ [(some l, .obj (J 0))]) (.c (.func (.yield l) #[] #[]) :: capt) fun _ H' => H' = [(some l, .obj (J m))] ∨ H' = [(some l, .obj Jx)]

theorem pickL_append (H : List (Option Nat × Res)) (a b : List Nat) : pickL H (a ++ b) = pickL H a ++ pickL H b := by simp [pickL]

theorem code_range {fi n : Nat} {fv : Nat → CV} {g : Operand} {ps : Array Tmp} {assign body : Code} {π q : Type} (m : Nat) (E : Nat → List CV) (HI : List (Option Nat × Res)) (HB : π → List (Option Nat × Res)) (φ : Nat → π → Prop) (HX : q → List (Option Nat × Res)) (χ : Code → q → Prop) (p0 : π) (li : List Nat)
    (hrd : G.rd = none) (hg : s.eval g = .fn fi n fv) (hc : calleeB P fi = true) (hit : IterC G.gs P fi HI ((List.range n).map fv) m E) (h0 : φ 0 p0) (hnd : li.Nodup) (hpick : pickL s.H li = HI ++ HB p0)
    (hps : ∀ k, k < m → ps.toList.length = (E k).length) (hpN : (ps.toList.all fun p => Nat.blt p G.N) = true)
    (hround : ∀ k, k < m → ∀ (l : Nat) (al : List Addr) (w0 : World) (F0 St0 : Nat → Prop) (R0 R1 : OP) (x : π), φ k x → ACode P ⟨G.gs, al, w0, F0, St0, G.N, some l, false⟩ assign ⟨penv ps.toList (E k) s.env, s.b, HB x ++ [(some l, .obj R0)]⟩ (assignR P ⟨G.gs, al, w0, F0, St0, G.N, some l, false⟩ body (HB x) l R0 R1 (roundR l R1 HB (φ (k + 1)) HX χ)))
    (hdone : ∀ x, φ m x → R .normal ⟨s.env, s.b, HB x⟩) (hjump : ∀ c x, χ c x → (c = .ret ∧ R .ret ⟨s.env, s.b, HX x⟩) ∨ ∃ id, c = .exit id ∧ R (.exit id) ⟨s.env, s.b, HX x⟩) : ACode P G (.rangeFunc g ps assign body) s R := fun a w ⟨St, hr⟩ Q hQ => by
  obtain ⟨cs, hcs, hcn, hfv⟩ := evR hr hg
  rw [hrd]
  refine wpIn_rangeFunc fun fn _ => ?_
  obtain ⟨L, hL⟩ : ∃ L : RdC, L = ⟨G.N, s.env, s.b, ps, assign, body⟩ := ⟨_, rfl⟩
  obtain ⟨w1, hw1⟩ : ∃ w1, w1 = (w.alloc (.deferred (some []))).alloc (.loop (mkRec fn a.tmps L w.heap.size (.ready, none))) := ⟨_, rfl⟩
  have hb1 : Below w.heap.size w w1 := by rw [hw1]; exact ((Below.refl _ w).alloc (Nat.le_refl _) _).alloc (by simp) _
  have hsz1 : w1.heap.size = w.heap.size + 2 := by rw [hw1]; simp
  have hL1 : w1.heap[w.heap.size + 1]? = some (.loop (mkRec fn a.tmps L w.heap.size (.ready, none))) := by
    rw [hw1]; have := World.alloc_heap_new (w.alloc (.deferred (some []))) (.loop (mkRec fn a.tmps L w.heap.size (.ready, none))); rwa [World.size_alloc] at this
  have hD1 : w1.heap[w.heap.size]? = some (.deferred (some [])) := by
    rw [hw1]; exact (Below.heap_alloc _ _ _ (by simp)).trans (World.alloc_heap_new w _)
  -- the blocks that are handed over
  obtain ⟨fp, hp⟩ := hr.hp.pick li hnd hpick
  have hev1 : Evo St w w1 := Evo.of_below hb1 hr.s3
  let l := w.heap.size + 1
  let D := w.heap.size
  let St1 : Nat → Prop := fun b => St b ∨ b = D
  let F1 : Nat → Prop := fun b => (∃ i, fp i b) ∨ b = l
  have hfl : ∀ i b, fp i b → b < D := fun i b hi => (hp.own i b hi).1
  have hst1 : ∀ b, St b → St1 b := fun _ h => .inl h
  have hrep : ∀ (i : Nat) (g : Option Nat) (r : Res), (HI ++ HB p0)[i]? = some (g, r) → r.rep G.al St1 w1 (fp i) g := fun i g r hi => Res.rep_evo hev1 hst1 (fun b hF => hb1.block b (hp.own i b hF).1) (hp.rep i g r hi)
  have hrec : Res.rep G.al St1 w1 (fun b => b = l) (some l) (.obj (recOP (mkRec fn a.tmps L D (.ready, none)))) := ⟨fun b => Iff.rfl, hL1⟩
  have henv1 : ∀ d, RepC G.al St1 w1 (look s.env s.b d) (a.tmps.getD d undef) := fun d => RepC.evo hev1 hst1 _ _ (hr.env d)
  have hent : Entry G.gs G.al St1 F1 (HI ++ [(some l, .obj (rndOP L (fun _ => (.ready, none)) HB (φ 0)))]) w1 := by
    refine ⟨fun b hb => ?_, (hr.ext hb1).sn, ⟨fun g hg => .inl (hr.sg.1 g hg), fun x hx => .inl (hr.sg.2 x hx)⟩, ⟨fun i b => (i < HI.length ∧ fp i b) ∨ (i = HI.length ∧ (b = l ∨ ∃ j, HI.length ≤ j ∧ fp j b)), fun i g r hi => ?_, fun i j b hi hj => ?_, fun i b hi => ?_, fun i hi b hb => ?_⟩, fun b hb => ?_⟩
    · rcases hb with hb | rfl
      · exact Nat.lt_of_lt_of_le (hr.s3 b hb) hb1.size
      · show w.heap.size < _; omega
    · by_cases h1 : i < HI.length
      · rw [List.getElem?_append_left h1] at hi
        have e : (fun b => (i < HI.length ∧ fp i b) ∨ (i = HI.length ∧ (b = l ∨ ∃ j, HI.length ≤ j ∧ fp j b))) = fp i := funext fun b => propext ⟨fun h => h.elim (fun h => h.2) (fun h => by omega), fun h => .inl ⟨h1, h⟩⟩
        show r.rep G.al St1 w1 (fun b => (i < HI.length ∧ fp i b) ∨ (i = HI.length ∧ (b = l ∨ ∃ j, HI.length ≤ j ∧ fp j b))) g
        rw [e]
        exact hrep i g r (by rw [List.getElem?_append_left h1]; exact hi)
      · have h2 : i = HI.length := by
          have := (List.getElem?_eq_some_iff.1 hi).1
          simp at this
          omega
        subst h2
        simp at hi
        obtain ⟨rfl, rfl⟩ := hi
        refine ⟨p0, fn, a.tmps, D, h0, by rw [hL]; exact hr.sz, by rw [hL]; exact henv1, fun j b => if j < (HB p0).length then fp (HI.length + j) b else j = (HB p0).length ∧ b = l, fun j g r hj => ?_, fun i j b hi hj => ?_, fun j hj b hb => ?_, fun b => ⟨fun hb => ?_, fun ⟨j, hj⟩ => ?_⟩⟩
        · by_cases h3 : j < (HB p0).length
          · rw [List.getElem?_append_left h3] at hj
            simp only [h3, if_true]
            exact hrep _ g r (by rw [List.getElem?_append_right (by omega), Nat.add_sub_cancel_left]; exact hj)
          · have h4 : j = (HB p0).length := by
              have := (List.getElem?_eq_some_iff.1 hj).1
              simp at this
              omega
            subst h4
            simp at hj
            obtain ⟨rfl, rfl⟩ := hj
            have e : (fun b => if (HB p0).length < (HB p0).length then fp (HI.length + (HB p0).length) b else (HB p0).length = (HB p0).length ∧ b = l) = fun b => b = l := funext fun b => by simp
            show Res.rep G.al St1 w1 (fun b => if (HB p0).length < (HB p0).length then fp (HI.length + (HB p0).length) b else (HB p0).length = (HB p0).length ∧ b = l) _ _
            rw [e]
            exact hrec
        · by_cases h3 : i < (HB p0).length <;> by_cases h4 : j < (HB p0).length <;> simp only [h3, h4, if_true, if_false] at hi hj
          · have := hp.dis _ _ b hi hj; omega
          · have := hfl _ b hi; obtain ⟨_, rfl⟩ := hj; simp only [l, D] at this; omega
          · have := hfl _ b hj; obtain ⟨_, rfl⟩ := hi; simp only [l, D] at this; omega
          · omega
        · have h3 : ¬ j < (HB p0).length := by simp at hj; omega
          simp only [h3, if_false] at hb
          simp at hj; omega
        · rcases hb with ⟨h5, _⟩ | ⟨_, rfl | ⟨j, hj, hF⟩⟩
          · omega
          · exact ⟨(HB p0).length, by simp⟩
          · refine ⟨j - HI.length, ?_⟩
            have h5 : j < (HI ++ HB p0).length := hp.len hF
            rw [if_pos (by simp at h5; omega), show HI.length + (j - HI.length) = j by omega]
            exact hF
        · by_cases h3 : j < (HB p0).length
          · simp only [h3, if_true] at hj
            exact .inr ⟨rfl, .inr ⟨_, by omega, hj⟩⟩
          · simp only [h3, if_false] at hj
            exact .inr ⟨rfl, .inl hj.2⟩
    · rcases hi with ⟨h1, h2⟩ | ⟨h1, h2⟩ <;> rcases hj with ⟨h3, h4⟩ | ⟨h3, h4⟩
      · exact hp.dis i j b h2 h4
      · rcases h4 with rfl | ⟨k, hk, h4⟩
        · have := hfl _ _ h2; simp only [l, D] at this; omega
        · have := hp.dis _ _ b h2 h4; omega
      · rcases h2 with rfl | ⟨k, hk, h2⟩
        · have := hfl _ _ h4; simp only [l, D] at this; omega
        · have := hp.dis _ _ b h2 h4; omega
      · omega
    · have hb : b = l ∨ ∃ j, fp j b := by
        rcases hi with ⟨_, h2⟩ | ⟨_, h2 | ⟨j, _, h2⟩⟩
        · exact .inr ⟨_, h2⟩
        · exact .inl h2
        · exact .inr ⟨j, h2⟩
      rcases hb with rfl | ⟨j, hj⟩
      · refine ⟨by simp only [l]; omega, fun hs => ?_, .inr (.inr rfl)⟩
        rcases hs with hs | hs
        · have := hr.s3 _ hs; simp only [l] at this; omega
        · simp only [l, D] at hs; omega
      · obtain ⟨k1, k2, k3⟩ := hp.own j b hj
        refine ⟨by omega, fun hs => ?_, .inr (.inl ⟨j, hj⟩)⟩
        rcases hs with hs | hs
        · exact k2 hs
        · simp only [D] at hs; omega
    · simp at hi
      rcases hb with ⟨h1, _⟩ | ⟨h1, _⟩ <;> omega
    · intro hs
      rcases hb with ⟨j, hj⟩ | rfl
      · obtain ⟨k1, k2, k3⟩ := hp.own j b hj
        rcases hs with hs | hs
        · exact k2 hs
        · simp only [D] at hs; omega
      · rcases hs with hs | hs
        · have := hr.s3 _ hs; simp only [l] at this; omega
        · simp only [l, D] at hs; omega
  have hround' : ∀ k, k < m → ACY G.gs P l [(some l, .obj (rndOP L (fun _ => (.ready, none)) HB (φ k)))] (E k) (YQ l (rndOP L (fun _ => (.ready, none)) HB (φ (k + 1))) (rndOP L (fun x : Code × q => (.done, some x.1)) (fun x => HX x.2) (fun x => χ x.1 x.2))) := fun k hk => by
    refine acy_round (by rw [hL]; exact hps k hk) (fun p hp => ?_) (fun al w0 F0 St0 R0 R1 x hx => ?_)
    · rw [hL] at hp ⊢
      exact Nat.le_of_ble_eq_true (List.all_eq_true.1 hpN p hp)
    · rw [hL]
      exact hround k hk l al w0 F0 St0 R0 R1 x hx
  have hA := hit l (fun k => rndOP L (fun _ => (.ready, none)) HB (φ k)) _ hround'
  have hvals : (#[.func (.yield l) #[] #[]] ++ cs : Array Value).size = (.c (.func (.yield l) #[] #[]) :: (List.range n).map fv : List CV).length := by simp [hcn]; omega
  have hcall := hA G.al w1 St1 F1 (#[.func (.yield l) #[] #[]] ++ cs) hent hvals (fun i => by
    cases i with
    | zero =>
      show (#[Value.func (.yield l) #[] #[]] ++ cs).getD 0 undef = _
      rw [Array.getD_eq_getD_getElem?, Array.getElem?_append_left (by simp)]
      rfl
    | succ i =>
      rw [fl, fl_get]
      by_cases hi : i < n
      · have := RepC.evo hev1 hst1 _ _ (hfv i hi)
        simp only [List.getD, List.getElem?_map, List.getElem?_range hi, Option.map_some, Option.getD_some, Array.getD_eq_getD_getElem?]
        rw [Array.getElem?_append_right (by simp)]
        simpa [Array.getD_eq_getD_getElem?] using this
      · simp only [List.getD, List.getElem?_eq_none (show ((List.range n).map fv).length ≤ i by simp; omega), Option.getD_none]
        trivial)
  have e0 : [({ target := .collected w.heap.size, args := #[] } : Deferred)] ++ a.defers = markD D :: a.defers := rfl
  refine ⟨l, [{ target := .collected w.heap.size, args := #[] }], w1, { target := .fn (.func fi) cs, args := #[.func (.yield l) #[] #[]] }, w1, fi, #[.func (.yield l) #[] #[]] ++ cs, w1, ?_, ?_, fun _ _ => trivial, ?_, fun h => (by cases h), ?_⟩
  · rw [hw1]
    have := run_enterLoop_outer (P := P) (w := w) fn a.tmps ps assign body
    rw [hL]
    exact this
  · simp only [resolve, hcs]
    simp [go_sem]
  · have := run_enter hc (#[.func (.yield l) #[] #[]] ++ cs) w1
    simp [invoke, go_sem, this]
  · refine CallsIn.mono (callsIn_frd.2 hcall) ?_
    rintro e w3 ⟨v, r', H', St', rfl, hq, _, hu, h3, h4, h5, h6⟩
    -- the loop's end, whichever
    have key : ∀ {γ : Type} {sp : γ → LoopState × Option Code} {HC : γ → List (Option Nat × Res)} {ψ : γ → Prop}, H' = [(some l, .obj (rndOP L sp HC ψ))] → (∀ x, (sp x).1 ≠ .busy) → ∃ x : γ, ψ x ∧ ∃ w4, (Instr.endLoop l).run P w3 = .ok (sp x).2 w4 ∧ Rel G ⟨s.env, s.b, HC x⟩ { a with defers := [{ target := .collected w.heap.size, args := #[] }] ++ a.defers } w4 := by
      intro γ sp HC ψ hH hbusy
      subst hH
      obtain ⟨fz, hz⟩ := h6
      obtain ⟨x, fn', tmps', D', hx, _, _, fq, hf⟩ := hz.rep 0 (some l) _ rfl
      obtain ⟨hFl, hgl⟩ := hf.rep (HC x).length (some l) _ (get_last _ _)
      have hlt : l < w3.heap.size := (Array.getElem?_eq_some_iff.1 hgl).1
      refine ⟨x, hx, _, run_endLoop hgl (hbusy x), St', ?_⟩
      obtain ⟨w4, hw4⟩ : ∃ w4, w4 = w3.putObj l (.loop { mkRec fn' tmps' L D' (sp x) with state := .exhausted }) := ⟨_, rfl⟩
      rw [← hw4]
      have hold : ∀ b, b ≠ l → w4.heap[b]? = w3.heap[b]? := fun b hb => by rw [hw4]; exact World.putObj_heap_other hb
      have hs4 : w4.heap.size = w3.heap.size := by rw [hw4]; simp
      have hf0 : ∀ b, F1 b → ¬ St1 b := hent.f0
      have hnl : ∀ b, St1 b → b ≠ l := fun b hb e => hf0 b (.inr e) hb
      have hkeep : ∀ b, St1 b → w4.heap[b]? = w1.heap[b]? := fun b hb => (hold b (hnl b hb)).trans (hu.block b (hent.s3 b hb) (fun hF => hf0 b hF hb))
      have hkeep0 : ∀ b, St b → w4.heap[b]? = w.heap[b]? := fun b hb => (hkeep b (.inl hb)).trans (hb1.block b (hr.s3 b hb))
      have hnc : ∀ cur t z, w3.heap[l]? ≠ some (.cells cur t z) := fun cur t z e => by rw [hgl] at e; cases e
      have hev : Evo St w w4 := ⟨fun b cur t z hb hc => (hkeep0 b hb).trans hc, fun b cur t z hc => by
        obtain ⟨c1, z1, k1, k2⟩ := hev1.sh b cur t z hc
        obtain ⟨c2, z2, k3, k4⟩ := hu.sh b c1 t z1 k1
        refine ⟨c2, z2, (hold b (fun e => ?_)).trans k3, k4.trans k2⟩
        rw [e] at k3
        exact hnc _ _ _ k3⟩
      have hev3 : Evo St' w3 w4 := ⟨fun b cur t z hb hc => (hold b (fun e => by rw [e] at hc; exact hnc _ _ _ hc)).trans hc, fun b cur t z hc => ⟨cur, z, (hold b (fun e => by rw [e] at hc; exact hnc _ _ _ hc)).trans hc, rfl⟩⟩
      refine ⟨?_, hr.sz, fun d => RepC.evo hev (fun b hb => h3 b (.inl hb)) _ _ (hr.env d), ⟨?_, ?_, ?_, ?_, fun k hk hF => ?_, fun b cur t z hc => ?_⟩, fun b hb => h3 b (.inl (hr.s1 b hb)), fun b hb => ?_, fun b hb => by rw [hs4]; exact h5 b hb, ⟨fun j b => j < (HC x).length ∧ fq j b, fun j g r hj => ?_, fun i j b hi hj => hf.dis i j b hi.2 hj.2, fun j b hj => ?_, fun j hj b hb => ?_⟩, ?_, ⟨fun g hg => h3 g (.inl (hr.sg.1 g hg)), fun y hy => h3 _ (.inl (hr.sg.2 y hy))⟩⟩
      · obtain ⟨Ds, k1, k2, k3⟩ := hr.df
        refine ⟨D :: Ds, by rw [e0, k1]; rfl, List.nodup_cons.2 ⟨fun hm => ?_, k2⟩, fun E hE => ?_⟩
        · have := (Array.getElem?_eq_some_iff.1 (k3 D hm).1.2).1
          simp only [D] at this
          omega
        · rcases List.mem_cons.1 hE with rfl | hE
          · refine ⟨⟨h3 _ (.inr rfl), (hkeep _ (.inr rfl)).trans hD1⟩, hr.un.size, fun hm => ?_, fun y hy e => ?_⟩
            · have := hr.sn.lt _ hm; simp only [D] at this; omega
            · have := hr.s3 _ (hr.sg.2 y hy); simp only [e, D] at this; omega
          · obtain ⟨⟨k4, k5⟩, k6⟩ := k3 E hE
            exact ⟨⟨h3 _ (.inl k4), (hkeep0 E k4).trans k5⟩, k6⟩
      · rw [hw4]; exact (hu.os.trans hb1.os).trans hr.un.os
      · rw [hw4]; exact (hu.tape.trans hb1.tape).trans hr.un.tape
      · rw [hw4]; exact (hu.output.trans hb1.output).trans hr.un.output
      · rw [hs4]; exact Nat.le_trans hr.un.size (Nat.le_trans hb1.size hu.size)
      · have hkw : k < w.heap.size := Nat.lt_of_lt_of_le hk hr.un.size
        refine (hold k (by simp only [l]; omega)).trans ((hu.block k (by omega) (fun hF1 => ?_)).trans ((hb1.block k hkw).trans (hr.un.block k hk hF)))
        rcases hF1 with ⟨i, hi⟩ | e
        · rcases (hp.own i k hi).2.2 with k1 | k1
          · omega
          · exact hF k1
        · simp only [l] at e; omega
      · obtain ⟨c1, z1, k1, k2⟩ := hr.un.sh b cur t z hc
        obtain ⟨c2, z2, k3, k4⟩ := hev.sh b c1 t z1 k1
        exact ⟨c2, z2, k3, k4.trans k2⟩
      · rcases h4 b hb with (hb | hb) | hb | hb
        · exact hr.s2 b hb
        · exact .inr (.inl (by simp only [D] at hb; have := hr.un.size; omega))
        · exact .inr (.inl (Nat.le_trans hr.un.size (by omega)))
        · rcases hb with ⟨i, hi⟩ | hb
          · exact .inr (hp.own i b hi).2.2
          · exact .inr (.inl (by simp only [l] at hb; have := hr.un.size; omega))
      · have hlt2 : j < (HC x).length := (List.getElem?_eq_some_iff.1 hj).1
        have e : (fun b => j < (HC x).length ∧ fq j b) = fq j := funext fun b => propext ⟨fun h => h.2, fun h => ⟨hlt2, h⟩⟩
        show r.rep G.al St' w4 (fun b => j < (HC x).length ∧ fq j b) g
        rw [e]
        refine Res.rep_evo hev3 (fun _ h => h) (fun b hF => hold b (fun eb => ?_)) (hf.rep j g r (by rw [List.getElem?_append_left hlt2]; exact hj))
        have := hf.dis j (HC x).length b hF ((hFl b).2 eb)
        omega
      · obtain ⟨k1, k2, k3⟩ := hz.own 0 b ((hf.all b).2 ⟨j, hj.2⟩)
        refine ⟨by omega, k2, ?_⟩
        rcases k3 with k3 | ⟨i, hi⟩ | k3
        · exact .inl (Nat.le_trans hr.un.size (by omega))
        · exact (hp.own i b hi).2.2
        · exact .inl (by simp only [l] at k3; have := hr.un.size; omega)
      · have hj : (HC x).length ≤ j := hj
        exact absurd hb.1 (by omega)
      · exact SentL.keep hr.sn (fun g hg => hkeep0 g (hr.sg.1 g hg)) (fun y hy => hkeep0 _ (hr.sg.2 y hy))
    rcases hq with hq | hq
    · obtain ⟨x, hx, w4, hend, hrel⟩ := key hq (fun _ => by simp)
      exact ⟨none, w4, hend, hQ .normal _ _ _ (hdone x hx) hrel⟩
    · obtain ⟨x, hx, w4, hend, hrel⟩ := key hq (fun _ => by simp)
      refine ⟨some x.1, w4, hend, ?_⟩
      rcases hjump _ _ hx with ⟨hc1, hR⟩ | ⟨id, hc1, hR⟩
      · show Code.wpIn _ _ _ x.1 _ _ _
        rw [hc1]
        exact wpIn_ret (hQ .ret _ _ _ hR hrel)
      · show Code.wpIn _ _ _ x.1 _ _ _
        rw [hc1]
        exact wpIn_exit (hQ (.exit id) _ _ _ hR hrel)
theorem assign_norm {body : Code} {B : List (Option Nat × Res)} {l : Nat} {R0 R1 : OP} {RE : Exit → AS → Prop} {env : List (Nat × CV)} {b : Nat → CV} (h : ACode P G body ⟨env, b, B ++ [(some l, .obj R1)]⟩ RE) : assignR P G body B l R0 R1 RE .normal ⟨env, b, B ++ [(some l, .obj R0)]⟩ := ⟨_, _, rfl, h⟩
theorem round_norm {π q : Type} {l : Nat} {R1 : OP} {HB : π → List (Option Nat × Res)} {φ' : π → Prop} {HX : q → List (Option Nat × Res)} {χ : Code → q → Prop} (x : π) (h1 : φ' x) (h2 : Nat.ble ((HB x).length + 1) s.H.length = true) (h3 : HEnt (s.H.take ((HB x).length + 1)) (HB x ++ [(some l, .obj R1)])) : roundR l R1 HB φ' HX χ .normal s := ⟨x, h1, Nat.le_of_ble_eq_true h2, h3⟩
theorem round_ret {π q : Type} {l : Nat} {R1 : OP} {HB : π → List (Option Nat × Res)} {φ' : π → Prop} {HX : q → List (Option Nat × Res)} {χ : Code → q → Prop} (x : q) (h1 : χ .ret x) (h2 : Nat.ble ((HX x).length + 1) s.H.length = true) (h3 : HEnt (s.H.take ((HX x).length + 1)) (HX x ++ [(some l, .obj R1)])) : roundR l R1 HB φ' HX χ .ret s := ⟨x, h1, Nat.le_of_ble_eq_true h2, h3⟩
theorem round_exit {π q : Type} {l : Nat} {R1 : OP} {HB : π → List (Option Nat × Res)} {φ' : π → Prop} {HX : q → List (Option Nat × Res)} {χ : Code → q → Prop} {id : Nat} (x : q) (h1 : χ (.exit id) x) (h2 : Nat.ble ((HX x).length + 1) s.H.length = true) (h3 : HEnt (s.H.take ((HX x).length + 1)) (HX x ++ [(some l, .obj R1)])) : roundR l R1 HB φ' HX χ (.exit id) s := ⟨x, h1, Nat.le_of_ble_eq_true h2, h3⟩
/-- own bytes as a text -/
theorem rd_convB1 {o : Oper} {t u e : TypeId} {x : Operand} {i n N : Nat} {g : Option Nat} {L : List UInt8} (ho : o.op = .convert t u x) (hx : s.eval x = .os i g 0 n 1) (hH : Holds s i g N (byF L)) (hn : n = L.length) (hN : n ≤ N) (h1 : P.underlying t = some (.slice e)) (h2 : P.underlying e = some (.int .u8)) (h3 : P.underlying u = some .string) : ARdO P G o s (strC L) :=
  rd_convBO L ho hx hH hn (by omega) (fun a _ => by rw [Nat.zero_add]; exact CEnt.refl _) h1 h2 h3
end
end Am
end Go.Proofs.YtoliiompofonlaaDoor
