/- What the law leans on, part 3: AmH, AmI, AmJ, SlB, W07s, P07s, W07t, SlC, W07u, Shelf, W07v -/
import Derived.Test.YtdfjiodkmhpfkaaDoorM2TextsSet
import Derived.Shelf.Abstract
import Derived.Sort.Statements
import Derived.Shelf.SlSortCmp.Kit1
import Derived.Shelf.SlSortCmp.NoneTotal
import Derived.Ground.SlsfProg
import Derived.Shelf.Strings.Builder1
import Derived.Shelf.Strings.Builder2
import Derived.Shelf.Strings.OnBuilder
import Derived.Shelf.Small.Bits
import Derived.Shelf.Small.Strs
import Derived.Shelf.Small.Wraps
import Derived.Shelf.Strings.BuilderF
import Derived.Shelf.Strings.BuilderK
import Derived.Shelf.Utf8.RuneCount
import Derived.Shelf.Strings.Builder2Cap
import Derived.Shelf.Strconv.Itoa0
import Derived.Shelf.Strings.Search1
import Derived.Shelf.Strings.Search2
import Derived.Shelf.Strings.Search3
import Derived.Shelf.Strings.Count
import Derived.Shelf.LaysM
import Derived.Shelf.Strings.Shaped
import Derived.Shelf.Strings.Prefix
import Derived.Shelf.Strings.Split
import Derived.Shelf.Strings.SplitShaped
import Derived.Shelf.Unicode.Decode
import Derived.Shelf.Strings.RuneCount
import Derived.Shelf.Strings.Explode
import Derived.Shelf.Unicode.DecodeSlow
import Derived.Shelf.Unicode.DecodeAny
import Derived.Test.YtdfjiodkmhpfkaaDoorProg

/- The abstract walk: the statement 'for .. := range f'. -/
namespace Go.Proofs.YtdfjiodkmhpfkaaDoor
set_option linter.unusedVariables false
open Go.RowKit
namespace Am
section
variable {P : Program} {G : Gh} {s : AS} {R : Exit → AS → Prop}

/-- what an iterator does: it hands each of m things to yield, till yield says no -/
def IterC (gs : List Nat) (P : Program) (f : FuncId) (HI : List (Option Nat × Res)) (capt : List CV) (m : Nat) (E : Nat → List CV) : Prop :=
  ∀ (l : Nat) (J : Nat → OP) (Jx : OP), (∀ k, k < m → ACY gs P l [(some l, .obj (J k))] (E k) (YQ l (J (k + 1)) Jx)) →
    AC gs P f (HI ++ [(some l, .obj (J 0))]) (.c (.func (.yield l) #[] #[]) :: capt) fun _ H' => H' = [(some l, .obj (J m))] ∨ H' = [(some l, .obj Jx)]

theorem pickL_append (H : List (Option Nat × Res)) (a b : List Nat) : pickL H (a ++ b) = pickL H a ++ pickL H b := by simp [pickL]

theorem code_range {fi n : Nat} {fv : Nat → CV} {g : Operand} {ps : Array Tmp} {assign body : Code} {π q : Type} (m : Nat) (E : Nat → List CV) (HI : List (Option Nat × Res)) (HB : π → List (Option Nat × Res)) (φ : Nat → π → Prop) (HX : q → List (Option Nat × Res)) (χ : Code → q → Prop) (p0 : π) (li : List Nat)
    (hrd : G.rd = none) (hg : s.eval g = .fn fi n fv) (hc : calleeB P fi = true) (hit : IterC G.gs P fi HI ((List.range n).map fv) m E) (h0 : φ 0 p0) (hnd : li.Nodup) (hpick : pickL s.H li = HI ++ HB p0)
    (hps : ∀ k, k < m → ps.toList.length = (E k).length) (hpN : (ps.toList.all fun p => Nat.blt p G.N) = true)
    (hround : ∀ k, k < m → ∀ (l : Nat) (al : List Addr) (w0 : World) (F0 St0 : Nat → Prop) (R0 R1 : OP) (x : π), φ k x → ACode P ⟨G.gs, al, w0, F0, St0, G.N, some l, false⟩ assign ⟨penv ps.toList (E k) s.env, s.b, HB x ++ [(some l, .obj R0)]⟩ (assignR P ⟨G.gs, al, w0, F0, St0, G.N, some l, false⟩ body (HB x) l R0 R1 (roundR l R1 HB (φ (k + 1)) HX χ)))
    (hdone : ∀ x, φ m x → R .normal ⟨s.env, s.b, HB x⟩) (hjump : ∀ c x, χ c x → (c = .ret ∧ R .ret ⟨s.env, s.b, HX x⟩) ∨ ∃ id, c = .exit id ∧ R (.exit id) ⟨s.env, s.b, HX x⟩) : ACode P G (.rangeFunc g ps assign body) s R := fun a w ⟨St, hr⟩ Q hQ => by
  obtain ⟨cs, hcs, hcn, hfv⟩ := evR hr hg
  rw [hrd]
  refine wpIn_rangeFunc fun fn _ => ?_
  obtain ⟨L, hL⟩ : ∃ L : RdC, L = ⟨G.N, s.env, s.b, ps, assign, body⟩ := ⟨_, rfl⟩
  obtain ⟨w1, hw1⟩ : ∃ w1, w1 = (w.alloc (.deferred (some []))).alloc (.loop (mkRec fn a.tmps L w.heap.size (.ready, none))) := ⟨_, rfl⟩
  have hb1 : Below w.heap.size w w1 := by rw [hw1]; exact ((Below.refl _ w).alloc (Nat.le_refl _) _).alloc (by simp) _
  have hsz1 : w1.heap.size = w.heap.size + 2 := by rw [hw1]; simp
  have hL1 : w1.heap[w.heap.size + 1]? = some (.loop (mkRec fn a.tmps L w.heap.size (.ready, none))) := by
    rw [hw1]; have := World.alloc_heap_new (w.alloc (.deferred (some []))) (.loop (mkRec fn a.tmps L w.heap.size (.ready, none))); rwa [World.size_alloc] at this
  have hD1 : w1.heap[w.heap.size]? = some (.deferred (some [])) := by
    rw [hw1]; exact (Below.heap_alloc _ _ _ (by simp)).trans (World.alloc_heap_new w _)
  -- the blocks that are handed over
  obtain ⟨fp, hp⟩ := hr.hp.pick li hnd hpick
  have hev1 : Evo St w w1 := Evo.of_below hb1 hr.s3
  let l := w.heap.size + 1
  let D := w.heap.size
  let St1 : Nat → Prop := fun b => St b ∨ b = D
  let F1 : Nat → Prop := fun b => (∃ i, fp i b) ∨ b = l
  have hfl : ∀ i b, fp i b → b < D := fun i b hi => (hp.own i b hi).1
  have hst1 : ∀ b, St b → St1 b := fun _ h => .inl h
  have hrep : ∀ (i : Nat) (g : Option Nat) (r : Res), (HI ++ HB p0)[i]? = some (g, r) → r.rep G.al St1 w1 (fp i) g := fun i g r hi => Res.rep_evo hev1 hst1 (fun b hF => hb1.block b (hp.own i b hF).1) (hp.rep i g r hi)
  have hrec : Res.rep G.al St1 w1 (fun b => b = l) (some l) (.obj (recOP (mkRec fn a.tmps L D (.ready, none)))) := ⟨fun b => Iff.rfl, hL1⟩
  have henv1 : ∀ d, RepC G.al St1 w1 (look s.env s.b d) (a.tmps.getD d undef) := fun d => RepC.evo hev1 hst1 _ _ (hr.env d)
  have hent : Entry G.gs G.al St1 F1 (HI ++ [(some l, .obj (rndOP L (fun _ => (.ready, none)) HB (φ 0)))]) w1 := by
    refine ⟨fun b hb => ?_, (hr.ext hb1).sn, ⟨fun g hg => .inl (hr.sg.1 g hg), fun x hx => .inl (hr.sg.2 x hx)⟩, ⟨fun i b => (i < HI.length ∧ fp i b) ∨ (i = HI.length ∧ (b = l ∨ ∃ j, HI.length ≤ j ∧ fp j b)), fun i g r hi => ?_, fun i j b hi hj => ?_, fun i b hi => ?_, fun i hi b hb => ?_⟩, fun b hb => ?_⟩
    · rcases hb with hb | rfl
      · exact Nat.lt_of_lt_of_le (hr.s3 b hb) hb1.size
      · show w.heap.size < _; omega
    · by_cases h1 : i < HI.length
      · rw [List.getElem?_append_left h1] at hi
        have e : (fun b => (i < HI.length ∧ fp i b) ∨ (i = HI.length ∧ (b = l ∨ ∃ j, HI.length ≤ j ∧ fp j b))) = fp i := funext fun b => propext ⟨fun h => h.elim (fun h => h.2) (fun h => by omega), fun h => .inl ⟨h1, h⟩⟩
        show r.rep G.al St1 w1 (fun b => (i < HI.length ∧ fp i b) ∨ (i = HI.length ∧ (b = l ∨ ∃ j, HI.length ≤ j ∧ fp j b))) g
        rw [e]
        exact hrep i g r (by rw [List.getElem?_append_left h1]; exact hi)
      · have h2 : i = HI.length := by
          have := (List.getElem?_eq_some_iff.1 hi).1
          simp at this
          omega
        subst h2
        simp at hi
        obtain ⟨rfl, rfl⟩ := hi
        refine ⟨p0, fn, a.tmps, D, h0, by rw [hL]; exact hr.sz, by rw [hL]; exact henv1, fun j b => if j < (HB p0).length then fp (HI.length + j) b else j = (HB p0).length ∧ b = l, fun j g r hj => ?_, fun i j b hi hj => ?_, fun j hj b hb => ?_, fun b => ⟨fun hb => ?_, fun ⟨j, hj⟩ => ?_⟩⟩
        · by_cases h3 : j < (HB p0).length
          · rw [List.getElem?_append_left h3] at hj
            simp only [h3, if_true]
            exact hrep _ g r (by rw [List.getElem?_append_right (by omega), Nat.add_sub_cancel_left]; exact hj)
          · have h4 : j = (HB p0).length := by
              have := (List.getElem?_eq_some_iff.1 hj).1
              simp at this
              omega
            subst h4
            simp at hj
            obtain ⟨rfl, rfl⟩ := hj
            have e : (fun b => if (HB p0).length < (HB p0).length then fp (HI.length + (HB p0).length) b else (HB p0).length = (HB p0).length ∧ b = l) = fun b => b = l := funext fun b => by simp
            show Res.rep G.al St1 w1 (fun b => if (HB p0).length < (HB p0).length then fp (HI.length + (HB p0).length) b else (HB p0).length = (HB p0).length ∧ b = l) _ _
            rw [e]
            exact hrec
        · by_cases h3 : i < (HB p0).length <;> by_cases h4 : j < (HB p0).length <;> simp only [h3, h4, if_true, if_false] at hi hj
          · have := hp.dis _ _ b hi hj; omega
          · have := hfl _ b hi; obtain ⟨_, rfl⟩ := hj; simp only [l, D] at this; omega
          · have := hfl _ b hj; obtain ⟨_, rfl⟩ := hi; simp only [l, D] at this; omega
          · omega
        · have h3 : ¬ j < (HB p0).length := by simp at hj; omega
          simp only [h3, if_false] at hb
          simp at hj; omega
        · rcases hb with ⟨h5, _⟩ | ⟨_, rfl | ⟨j, hj, hF⟩⟩
          · omega
          · exact ⟨(HB p0).length, by simp⟩
          · refine ⟨j - HI.length, ?_⟩
            have h5 : j < (HI ++ HB p0).length := hp.len hF
            rw [if_pos (by simp at h5; omega), show HI.length + (j - HI.length) = j by omega]
            exact hF
        · by_cases h3 : j < (HB p0).length
          · simp only [h3, if_true] at hj
            exact .inr ⟨rfl, .inr ⟨_, by omega, hj⟩⟩
          · simp only [h3, if_false] at hj
            exact .inr ⟨rfl, .inl hj.2⟩
    · rcases hi with ⟨h1, h2⟩ | ⟨h1, h2⟩ <;> rcases hj with ⟨h3, h4⟩ | ⟨h3, h4⟩
      · exact hp.dis i j b h2 h4
      · rcases h4 with rfl | ⟨k, hk, h4⟩
        · have := hfl _ _ h2; simp only [l, D] at this; omega
        · have := hp.dis _ _ b h2 h4; omega
      · rcases h2 with rfl | ⟨k, hk, h2⟩
        · have := hfl _ _ h4; simp only [l, D] at this; omega
        · have := hp.dis _ _ b h2 h4; omega
      · omega
    · have hb : b = l ∨ ∃ j, fp j b := by
        rcases hi with ⟨_, h2⟩ | ⟨_, h2 | ⟨j, _, h2⟩⟩
        · exact .inr ⟨_, h2⟩
        · exact .inl h2
        · exact .inr ⟨j, h2⟩
      rcases hb with rfl | ⟨j, hj⟩
      · refine ⟨by simp only [l]; omega, fun hs => ?_, .inr (.inr rfl)⟩
        rcases hs with hs | hs
        · have := hr.s3 _ hs; simp only [l] at this; omega
        · simp only [l, D] at hs; omega
      · obtain ⟨k1, k2, k3⟩ := hp.own j b hj
        refine ⟨by omega, fun hs => ?_, .inr (.inl ⟨j, hj⟩)⟩
        rcases hs with hs | hs
        · exact k2 hs
        · simp only [D] at hs; omega
    · simp at hi
      rcases hb with ⟨h1, _⟩ | ⟨h1, _⟩ <;> omega
    · intro hs
      rcases hb with ⟨j, hj⟩ | rfl
      · obtain ⟨k1, k2, k3⟩ := hp.own j b hj
        rcases hs with hs | hs
        · exact k2 hs
        · simp only [D] at hs; omega
      · rcases hs with hs | hs
        · have := hr.s3 _ hs; simp only [l] at this; omega
        · simp only [l, D] at hs; omega
  have hround' : ∀ k, k < m → ACY G.gs P l [(some l, .obj (rndOP L (fun _ => (.ready, none)) HB (φ k)))] (E k) (YQ l (rndOP L (fun _ => (.ready, none)) HB (φ (k + 1))) (rndOP L (fun x : Code × q => (.done, some x.1)) (fun x => HX x.2) (fun x => χ x.1 x.2))) := fun k hk => by
    refine acy_round (by rw [hL]; exact hps k hk) (fun p hp => ?_) (fun al w0 F0 St0 R0 R1 x hx => ?_)
    · rw [hL] at hp ⊢
      exact Nat.le_of_ble_eq_true (List.all_eq_true.1 hpN p hp)
    · rw [hL]
      exact hround k hk l al w0 F0 St0 R0 R1 x hx
  have hA := hit l (fun k => rndOP L (fun _ => (.ready, none)) HB (φ k)) _ hround'
  have hvals : (#[.func (.yield l) #[] #[]] ++ cs : Array Value).size = (.c (.func (.yield l) #[] #[]) :: (List.range n).map fv : List CV).length := by simp [hcn]; omega
  have hcall := hA G.al w1 St1 F1 (#[.func (.yield l) #[] #[]] ++ cs) hent hvals (fun i => by
    cases i with
    | zero =>
      show (#[Value.func (.yield l) #[] #[]] ++ cs).getD 0 undef = _
      rw [Array.getD_eq_getD_getElem?, Array.getElem?_append_left (by simp)]
      rfl
    | succ i =>
      rw [fl, fl_get]
      by_cases hi : i < n
      · have := RepC.evo hev1 hst1 _ _ (hfv i hi)
        simp only [List.getD, List.getElem?_map, List.getElem?_range hi, Option.map_some, Option.getD_some, Array.getD_eq_getD_getElem?]
        rw [Array.getElem?_append_right (by simp)]
        simpa [Array.getD_eq_getD_getElem?] using this
      · simp only [List.getD, List.getElem?_eq_none (show ((List.range n).map fv).length ≤ i by simp; omega), Option.getD_none]
        trivial)
  have e0 : [({ target := .collected w.heap.size, args := #[] } : Deferred)] ++ a.defers = markD D :: a.defers := rfl
  refine ⟨l, [{ target := .collected w.heap.size, args := #[] }], w1, { target := .fn (.func fi) cs, args := #[.func (.yield l) #[] #[]] }, w1, fi, #[.func (.yield l) #[] #[]] ++ cs, w1, ?_, ?_, fun _ _ => trivial, ?_, fun h => (by cases h), ?_⟩
  · rw [hw1]
    have := run_enterLoop_outer (P := P) (w := w) fn a.tmps ps assign body
    rw [hL]
    exact this
  · simp only [resolve, hcs]
    simp [go_sem]
  · have := run_enter hc (#[.func (.yield l) #[] #[]] ++ cs) w1
    simp [invoke, go_sem, this]
  · refine CallsIn.mono (callsIn_frd.2 hcall) ?_
    rintro e w3 ⟨v, r', H', St', rfl, hq, _, hu, h3, h4, h5, h6⟩
    -- the loop's end, whichever
    have key : ∀ {γ : Type} {sp : γ → LoopState × Option Code} {HC : γ → List (Option Nat × Res)} {ψ : γ → Prop}, H' = [(some l, .obj (rndOP L sp HC ψ))] → (∀ x, (sp x).1 ≠ .busy) → ∃ x : γ, ψ x ∧ ∃ w4, (Instr.endLoop l).run P w3 = .ok (sp x).2 w4 ∧ Rel G ⟨s.env, s.b, HC x⟩ { a with defers := [{ target := .collected w.heap.size, args := #[] }] ++ a.defers } w4 := by
      intro γ sp HC ψ hH hbusy
      subst hH
      obtain ⟨fz, hz⟩ := h6
      obtain ⟨x, fn', tmps', D', hx, _, _, fq, hf⟩ := hz.rep 0 (some l) _ rfl
      obtain ⟨hFl, hgl⟩ := hf.rep (HC x).length (some l) _ (get_last _ _)
      have hlt : l < w3.heap.size := (Array.getElem?_eq_some_iff.1 hgl).1
      refine ⟨x, hx, _, run_endLoop hgl (hbusy x), St', ?_⟩
      obtain ⟨w4, hw4⟩ : ∃ w4, w4 = w3.putObj l (.loop { mkRec fn' tmps' L D' (sp x) with state := .exhausted }) := ⟨_, rfl⟩
      rw [← hw4]
      have hold : ∀ b, b ≠ l → w4.heap[b]? = w3.heap[b]? := fun b hb => by rw [hw4]; exact World.putObj_heap_other hb
      have hs4 : w4.heap.size = w3.heap.size := by rw [hw4]; simp
      have hf0 : ∀ b, F1 b → ¬ St1 b := hent.f0
      have hnl : ∀ b, St1 b → b ≠ l := fun b hb e => hf0 b (.inr e) hb
      have hkeep : ∀ b, St1 b → w4.heap[b]? = w1.heap[b]? := fun b hb => (hold b (hnl b hb)).trans (hu.block b (hent.s3 b hb) (fun hF => hf0 b hF hb))
      have hkeep0 : ∀ b, St b → w4.heap[b]? = w.heap[b]? := fun b hb => (hkeep b (.inl hb)).trans (hb1.block b (hr.s3 b hb))
      have hnc : ∀ cur t z, w3.heap[l]? ≠ some (.cells cur t z) := fun cur t z e => by rw [hgl] at e; cases e
      have hev : Evo St w w4 := ⟨fun b cur t z hb hc => (hkeep0 b hb).trans hc, fun b cur t z hc => by
        obtain ⟨c1, z1, k1, k2⟩ := hev1.sh b cur t z hc
        obtain ⟨c2, z2, k3, k4⟩ := hu.sh b c1 t z1 k1
        refine ⟨c2, z2, (hold b (fun e => ?_)).trans k3, k4.trans k2⟩
        rw [e] at k3
        exact hnc _ _ _ k3⟩
      have hev3 : Evo St' w3 w4 := ⟨fun b cur t z hb hc => (hold b (fun e => by rw [e] at hc; exact hnc _ _ _ hc)).trans hc, fun b cur t z hc => ⟨cur, z, (hold b (fun e => by rw [e] at hc; exact hnc _ _ _ hc)).trans hc, rfl⟩⟩
      refine ⟨?_, hr.sz, fun d => RepC.evo hev (fun b hb => h3 b (.inl hb)) _ _ (hr.env d), ⟨?_, ?_, ?_, ?_, fun k hk hF => ?_, fun b cur t z hc => ?_⟩, fun b hb => h3 b (.inl (hr.s1 b hb)), fun b hb => ?_, fun b hb => by rw [hs4]; exact h5 b hb, ⟨fun j b => j < (HC x).length ∧ fq j b, fun j g r hj => ?_, fun i j b hi hj => hf.dis i j b hi.2 hj.2, fun j b hj => ?_, fun j hj b hb => ?_⟩, ?_, ⟨fun g hg => h3 g (.inl (hr.sg.1 g hg)), fun y hy => h3 _ (.inl (hr.sg.2 y hy))⟩⟩
      · obtain ⟨Ds, k1, k2, k3⟩ := hr.df
        refine ⟨D :: Ds, by rw [e0, k1]; rfl, List.nodup_cons.2 ⟨fun hm => ?_, k2⟩, fun E hE => ?_⟩
        · have := (Array.getElem?_eq_some_iff.1 (k3 D hm).1.2).1
          simp only [D] at this
          omega
        · rcases List.mem_cons.1 hE with rfl | hE
          · refine ⟨⟨h3 _ (.inr rfl), (hkeep _ (.inr rfl)).trans hD1⟩, hr.un.size, fun hm => ?_, fun y hy e => ?_⟩
            · have := hr.sn.lt _ hm; simp only [D] at this; omega
            · have := hr.s3 _ (hr.sg.2 y hy); simp only [e, D] at this; omega
          · obtain ⟨⟨k4, k5⟩, k6⟩ := k3 E hE
            exact ⟨⟨h3 _ (.inl k4), (hkeep0 E k4).trans k5⟩, k6⟩
      · rw [hw4]; exact (hu.os.trans hb1.os).trans hr.un.os
      · rw [hw4]; exact (hu.tape.trans hb1.tape).trans hr.un.tape
      · rw [hw4]; exact (hu.output.trans hb1.output).trans hr.un.output
      · rw [hs4]; exact Nat.le_trans hr.un.size (Nat.le_trans hb1.size hu.size)
      · have hkw : k < w.heap.size := Nat.lt_of_lt_of_le hk hr.un.size
        refine (hold k (by simp only [l]; omega)).trans ((hu.block k (by omega) (fun hF1 => ?_)).trans ((hb1.block k hkw).trans (hr.un.block k hk hF)))
        rcases hF1 with ⟨i, hi⟩ | e
        · rcases (hp.own i k hi).2.2 with k1 | k1
          · omega
          · exact hF k1
        · simp only [l] at e; omega
      · obtain ⟨c1, z1, k1, k2⟩ := hr.un.sh b cur t z hc
        obtain ⟨c2, z2, k3, k4⟩ := hev.sh b c1 t z1 k1
        exact ⟨c2, z2, k3, k4.trans k2⟩
      · rcases h4 b hb with (hb | hb) | hb | hb
        · exact hr.s2 b hb
        · exact .inr (.inl (by simp only [D] at hb; have := hr.un.size; omega))
        · exact .inr (.inl (Nat.le_trans hr.un.size (by omega)))
        · rcases hb with ⟨i, hi⟩ | hb
          · exact .inr (hp.own i b hi).2.2
          · exact .inr (.inl (by simp only [l] at hb; have := hr.un.size; omega))
      · have hlt2 : j < (HC x).length := (List.getElem?_eq_some_iff.1 hj).1
        have e : (fun b => j < (HC x).length ∧ fq j b) = fq j := funext fun b => propext ⟨fun h => h.2, fun h => ⟨hlt2, h⟩⟩
        show r.rep G.al St' w4 (fun b => j < (HC x).length ∧ fq j b) g
        rw [e]
        refine Res.rep_evo hev3 (fun _ h => h) (fun b hF => hold b (fun eb => ?_)) (hf.rep j g r (by rw [List.getElem?_append_left hlt2]; exact hj))
        have := hf.dis j (HC x).length b hF ((hFl b).2 eb)
        omega
      · obtain ⟨k1, k2, k3⟩ := hz.own 0 b ((hf.all b).2 ⟨j, hj.2⟩)
        refine ⟨by omega, k2, ?_⟩
        rcases k3 with k3 | ⟨i, hi⟩ | k3
        · exact .inl (Nat.le_trans hr.un.size (by omega))
        · exact (hp.own i b hi).2.2
        · exact .inl (by simp only [l] at k3; have := hr.un.size; omega)
      · have hj : (HC x).length ≤ j := hj
        exact absurd hb.1 (by omega)
      · exact SentL.keep hr.sn (fun g hg => hkeep0 g (hr.sg.1 g hg)) (fun y hy => hkeep0 _ (hr.sg.2 y hy))
    rcases hq with hq | hq
    · obtain ⟨x, hx, w4, hend, hrel⟩ := key hq (fun _ => by simp)
      exact ⟨none, w4, hend, hQ .normal _ _ _ (hdone x hx) hrel⟩
    · obtain ⟨x, hx, w4, hend, hrel⟩ := key hq (fun _ => by simp)
      refine ⟨some x.1, w4, hend, ?_⟩
      rcases hjump _ _ hx with ⟨hc1, hR⟩ | ⟨id, hc1, hR⟩
      · show Code.wpIn _ _ _ x.1 _ _ _
        rw [hc1]
        exact wpIn_ret (hQ .ret _ _ _ hR hrel)
      · show Code.wpIn _ _ _ x.1 _ _ _
        rw [hc1]
        exact wpIn_exit (hQ (.exit id) _ _ _ hR hrel)
theorem assign_norm {body : Code} {B : List (Option Nat × Res)} {l : Nat} {R0 R1 : OP} {RE : Exit → AS → Prop} {env : List (Nat × CV)} {b : Nat → CV} (h : ACode P G body ⟨env, b, B ++ [(some l, .obj R1)]⟩ RE) : assignR P G body B l R0 R1 RE .normal ⟨env, b, B ++ [(some l, .obj R0)]⟩ := ⟨_, _, rfl, h⟩
theorem round_norm {π q : Type} {l : Nat} {R1 : OP} {HB : π → List (Option Nat × Res)} {φ' : π → Prop} {HX : q → List (Option Nat × Res)} {χ : Code → q → Prop} (x : π) (h1 : φ' x) (h2 : Nat.ble ((HB x).length + 1) s.H.length = true) (h3 : HEnt (s.H.take ((HB x).length + 1)) (HB x ++ [(some l, .obj R1)])) : roundR l R1 HB φ' HX χ .normal s := ⟨x, h1, Nat.le_of_ble_eq_true h2, h3⟩
theorem round_ret {π q : Type} {l : Nat} {R1 : OP} {HB : π → List (Option Nat × Res)} {φ' : π → Prop} {HX : q → List (Option Nat × Res)} {χ : Code → q → Prop} (x : q) (h1 : χ .ret x) (h2 : Nat.ble ((HX x).length + 1) s.H.length = true) (h3 : HEnt (s.H.take ((HX x).length + 1)) (HX x ++ [(some l, .obj R1)])) : roundR l R1 HB φ' HX χ .ret s := ⟨x, h1, Nat.le_of_ble_eq_true h2, h3⟩
theorem round_exit {π q : Type} {l : Nat} {R1 : OP} {HB : π → List (Option Nat × Res)} {φ' : π → Prop} {HX : q → List (Option Nat × Res)} {χ : Code → q → Prop} {id : Nat} (x : q) (h1 : χ (.exit id) x) (h2 : Nat.ble ((HX x).length + 1) s.H.length = true) (h3 : HEnt (s.H.take ((HX x).length + 1)) (HX x ++ [(some l, .obj R1)])) : roundR l R1 HB φ' HX χ (.exit id) s := ⟨x, h1, Nat.le_of_ble_eq_true h2, h3⟩
/-- own bytes as a text -/
theorem rd_convB1 {o : Oper} {t u e : TypeId} {x : Operand} {i n N : Nat} {g : Option Nat} {L : List UInt8} (ho : o.op = .convert t u x) (hx : s.eval x = .os i g 0 n 1) (hH : Holds s i g N (byF L)) (hn : n = L.length) (hN : n ≤ N) (h1 : P.underlying t = some (.slice e)) (h2 : P.underlying e = some (.int .u8)) (h3 : P.underlying u = some .string) : ARdO P G o s (strC L) :=
  rd_convBO L ho hx hH hn (by omega) (fun a _ => by rw [Nat.zero_add]; exact CEnt.refl _) h1 h2 h3
end
end Am
end Go.Proofs.YtdfjiodkmhpfkaaDoor

/- Functions that are handed over: what the library's functions on them share. -/
namespace Go.Proofs.YtdfjiodkmhpfkaaDoor
set_option linter.unusedVariables false
open Go.RowKit
namespace Am
/-- where the first one stands that has it; -1: none -/
def firstI {α : Type} (p : α → Bool) : List α → Int
  | [] => -1
  | x :: l => if p x = true then 0 else if firstI p l < 0 then -1 else firstI p l + 1
theorem firstI_bd {α : Type} (p : α → Bool) : ∀ l : List α, -1 ≤ firstI p l ∧ firstI p l < l.length
  | [] => by simp [firstI]
  | x :: l => by
    have := firstI_bd p l
    rw [firstI]
    rw [List.length_cons]
    split
    · omega
    split <;> omega
theorem firstI_neg {α : Type} {p : α → Bool} : ∀ {l : List α}, firstI p l < 0 ↔ l.all (fun x => !p x) = true
  | [] => by simp [firstI]
  | x :: l => by
    have ih := @firstI_neg α p l
    have := firstI_bd p l
    rw [firstI, List.all_cons]
    by_cases h : p x = true
    · simp [h]
    · rw [if_neg h]
      have hx : (!p x) = true := by simpa using h
      rw [hx, Bool.true_and, ← ih]
      split <;> omega
theorem firstI_none {α : Type} {p : α → Bool} {l : List α} (h : ∀ i (hi : i < l.length), p l[i] = false) : firstI p l = -1 := by
  have h1 : firstI p l < 0 := firstI_neg.2 (List.all_eq_true.2 fun x hx => by
    obtain ⟨i, hi, rfl⟩ := List.getElem_of_mem hx
    simp [h i hi])
  have := firstI_bd p l
  omega
theorem firstI_at {α : Type} {p : α → Bool} : ∀ {l : List α} (i : Nat) (hi : i < l.length), p l[i] = true → (∀ j (hj : j < i), p (l[j]'(by omega)) = false) → firstI p l = (i : Nat)
  | [], i, hi, _, _ => by simp at hi
  | x :: l, 0, hi, h, _ => by simp at h; simp [firstI, h]
  | x :: l, i + 1, hi, h, hb => by
    have h0 : p x = false := by simpa using hb 0 (by omega)
    have ih := @firstI_at α p l i (by simpa using hi) (by simpa using h) (fun j hj => by simpa using hb (j + 1) (by omega))
    rw [firstI, if_neg (by simp [h0]), ih, if_neg (by omega)]
    omega
theorem entL_refl : ∀ l : List CV, EntL l l
  | [] => .nil
  | c :: l => .cons (CEnt.refl c) (entL_refl l)
theorem entL_fn {c d : CV} (h : CEnt c d) (l : List CV) : EntL ([c] ++ l) (d :: l) := .cons h (entL_refl l)
theorem CEnt.fn0 {g : FuncId} {f : Nat → CV} : CEnt (.c (.func (.func g) #[] #[])) (.fn g 0 f) := fun al St w v h => ⟨#[], h, rfl, fun i hi => absurd hi (Nat.not_lt_zero i)⟩
theorem firstI_any {α : Type} (p : α → Bool) (l : List α) : decide (0 ≤ firstI p l) = l.any p := by
  have := @firstI_neg _ p l
  by_cases h : firstI p l < 0
  · have h2 := this.1 h
    rw [decide_eq_false (by omega)]
    symm
    rw [List.any_eq_false]
    intro x hx h3
    have := List.all_eq_true.1 h2 x hx
    rw [h3] at this
    exact Bool.noConfusion this
  · have h2 := mt this.2 h
    rw [decide_eq_true (by omega)]
    symm
    rw [List.any_eq_true]
    simpa using h2
theorem all_not_any {α : Type} (p : α → Bool) (l : List α) : (!l.any fun x => !p x) = l.all p := by
  induction l with
  | nil => rfl
  | cons a l ih => simp only [List.any_cons, List.all_cons, Bool.not_or, Bool.not_not, ih]
theorem CEnt.rp {n : Nat} {f g : Nat → CV} (h : ∀ j, j < n → CEnt (f j) (g j)) : CEnt (.rp n f) (.rp n g) := fun al St w v ⟨b, o, h1, h2, h3⟩ =>
  ⟨b, o, h1, h2, fun j hj => by
    obtain ⟨x, hx, hr⟩ := h3 j hj
    exact ⟨x, hx, h j hj al St w x hr⟩⟩
theorem CEnt.fn3 {k : FuncId} {f g : Nat → CV} (h0 : CEnt (f 0) (g 0)) (h1 : CEnt (f 1) (g 1)) (h2 : CEnt (f 2) (g 2)) : CEnt (.fn k 3 f) (.fn k 3 g) := fun al St w v ⟨cs, k1, k2, k3⟩ =>
  ⟨cs, k1, k2, fun i hi => match i, hi with
    | 0, hi => h0 al St w _ (k3 0 hi)
    | 1, hi => h1 al St w _ (k3 1 hi)
    | 2, hi => h2 al St w _ (k3 2 hi)⟩
theorem CEnt.fn1 {k : FuncId} {f g : Nat → CV} (h : CEnt (f 0) (g 0)) : CEnt (.fn k 1 f) (.fn k 1 g) := fun al St w v ⟨cs, h1, h2, h3⟩ =>
  ⟨cs, h1, h2, fun i hi => by
    obtain rfl : i = 0 := by omega
    exact h al St w _ (h3 0 hi)⟩
/-! ### pieces of lists of numbers -/
theorem is_piece (l : List Int) (p q : Nat) (hpq : p ≤ q) (hq : q ≤ l.length) : CEnt (.rs 1 (q - p) fun i j => inF l (p + i)) (isC ((l.take q).drop p)) := by
  refine CEnt.rs (by simp; omega) fun i j hi hj => CEnt.of_eq ?_
  simp [inF, List.getD, List.getElem?_take, show p + i < q by omega]
theorem is_to (l : List Int) (q : Nat) (hq : q ≤ l.length) : CEnt (.rs 1 (q - 0) fun i j => inF l (0 + i)) (isC (l.take q)) := by
  have := is_piece l 0 q (by omega) hq
  simpa using this
theorem is_from (l : List Int) (p : Nat) (hp : p ≤ l.length) : CEnt (.rs 1 (l.length - p) fun i j => inF l (p + i)) (isC (l.drop p)) := by
  have := is_piece l p l.length hp (Nat.le_refl _)
  rwa [List.take_length] at this
/-- a round's end inside a join's first part -/
theorem BLe.look2 {D : List Nat} {b0 b2 : Nat → CV} {env2 : List (Nat × CV)} (h : BLe D b0 b2) (h3 : (env2.all fun x => D.any (Nat.beq x.1)) = true) : BLe D b0 (look env2 b2) := BLe.nest (D2 := []) (env2 := env2) (b2 := b2) h rfl h3
end Am
end Go.Proofs.YtdfjiodkmhpfkaaDoor

/- The abstract walk: the short forms that printed scripts call; what is plain is found by each rule's own tactics. -/
namespace Go.Proofs.YtdfjiodkmhpfkaaDoor
set_option linter.unusedVariables false
open Go.RowKit
namespace Am
section
variable {P : Program} {G : Gh} {ops : Array Oper} {o : Oper} {s : AS} {r : List Oper} {K : AS → Prop} {R : Exit → AS → Prop} {Y : AS → Prop} {x y : Code} {env : List (Nat × CV)} {b0 : Nat → CV} {H : List (Option Nat × Res)}

/-! ### what a slot holds, as it was told -/
def jfz : CV → Option CV
  | .top => some .top
  | .c v => some (.c v)
  | .err k => some (.err k)
  | .agg n f => some (.agg n f)
  | .tup n f => some (.tup n f)
  | .rs k n f => some (.rs k n f)
  | .rp n f => some (.rp n f)
  | .os i g off n k => some (.os i g off n k)
  | .op i g off => some (.op i g off)
  | .fn g n f => some (.fn g n f)
  | .pv p => some (.pv p)
theorem jfz_eq {c v : CV} (h : jfz c = some v) : c = v := by cases c <;> (simp only [jfz, Option.some.injEq] at h; exact h)
def jlookO : List (Nat × CV) → Nat → Option CV
  | [], _ => none
  | (e, v) :: r, d => match Nat.beq e d with | true => some v | false => jlookO r d
theorem jlookO_some {b : Nat → CV} {d : Nat} {v : CV} : ∀ {env : List (Nat × CV)}, jlookO env d = some v → look env b d = v
  | (e, u) :: r, h => by
    unfold jlookO at h; unfold look
    cases hb : Nat.beq e d with
    | true => rw [hb] at h; exact Option.some.inj h
    | false => rw [hb] at h; exact jlookO_some h
theorem jlookO_none {b : Nat → CV} {d : Nat} : ∀ {env : List (Nat × CV)}, jlookO env d = none → look env b d = b d
  | [], _ => rfl
  | (e, u) :: r, h => by
    unfold jlookO at h; unfold look
    cases hb : Nat.beq e d with
    | true => rw [hb] at h; cases h
    | false => rw [hb] at h; exact jlookO_none h
theorem jev_t {d : Nat} {v : CV} (h : jlookO s.env d = some v) : s.eval (.tmp d) = v := jlookO_some h
theorem jev_l {D : List Nat} {e2 : List (Nat × CV)} {b2 : Nat → CV} {d : Nat} {v : CV} (h : jlookO env d = none) (hD : D.any (Nat.beq d) = false) (h2 : jlookO e2 d = some v) : (⟨env, lay D e2 b2, H⟩ : AS).eval (.tmp d) = v := by
  show look env (lay D e2 b2) d = v
  rw [jlookO_none h]
  unfold lay
  rw [hD]
  exact jlookO_some h2
theorem jev_f {x : Operand} {v : CV} (h : jfz (s.eval x) = some v) : s.eval x = v := jfz_eq h
def jflO : List CV → Nat → Option CV
  | [], _ => none
  | x :: _, 0 => some x
  | _ :: r, i + 1 => jflO r i
theorem jflO_eq : ∀ {l : List CV} {i : Nat} {v : CV}, jflO l i = some v → fl l i = v
  | x :: _, 0, v, h => Option.some.inj h
  | _ :: r, i + 1, v, h => jflO_eq (l := r) h

/-! ### types, by the program's table -/
def jslQ (P : Program) (t : TypeId) (m : Nat) : Bool := match P.underlying t with | some (.slice e) => (match (P.info? e).map (·.size) with | some k => Nat.beq k m | none => false) | _ => false
theorem jslQ_ok {t : TypeId} {m : Nat} (h : jslQ P t m = true) : ∃ e, P.underlying t = some (.slice e) ∧ (P.info? e).map (·.size) = some m := by
  unfold jslQ at h
  split at h
  · rename_i e he
    refine ⟨e, he, ?_⟩
    split at h
    · rename_i k hk; rw [hk, Nat.eq_of_beq_eq_true h]
    · cases h
  · cases h
def jslT (P : Program) (t : TypeId) : Bool := match P.underlying t with | some (.slice _) => true | _ => false
theorem jslT_ok {t : TypeId} (h : jslT P t = true) : ∃ e, P.underlying t = some (.slice e) := by
  unfold jslT at h
  split at h
  · rename_i e he; exact ⟨e, he⟩
  · cases h
def jarQ (P : Program) (t : TypeId) (n m : Nat) : Bool := match P.underlying t with | some (.array k e) => (match (P.info? e).map (·.size) with | some q => Nat.beq q m && Nat.beq k n | none => false) | _ => false
theorem jarQ_ok {t : TypeId} {n m : Nat} (h : jarQ P t n m = true) : ∃ e, P.underlying t = some (.array n e) ∧ (P.info? e).map (·.size) = some m := by
  unfold jarQ at h
  split at h
  · rename_i k e he
    split at h
    · rename_i q hq
      rw [Bool.and_eq_true] at h
      exact ⟨e, by rw [he, Nat.eq_of_beq_eq_true h.2], by rw [hq, Nat.eq_of_beq_eq_true h.1]⟩
    · cases h
  · cases h
def jptT (P : Program) (t : TypeId) : Bool := match P.underlying t with | some (.pointer _) => true | _ => false
theorem jptT_ok {t : TypeId} (h : jptT P t = true) : ∃ e, P.underlying t = some (.pointer e) := by
  unfold jptT at h
  split at h
  · rename_i e he; exact ⟨e, he⟩
  · cases h
def jbyT (P : Program) (t : TypeId) : Bool := match P.underlying t with | some (.slice e) => (match P.underlying e with | some (.int .u8) => true | _ => false) | _ => false
theorem jbyT_ok {t : TypeId} (h : jbyT P t = true) : ∃ e, P.underlying t = some (.slice e) ∧ P.underlying e = some (.int .u8) := by
  unfold jbyT at h
  split at h
  · rename_i e he
    split at h
    · rename_i h2; exact ⟨e, he, h2⟩
    · cases h
  · cases h
/-- a field of a struct: where it is, how many cells it has, whether it is a struct or an array -/
def jfdQ (P : Program) (t : TypeId) (i : Nat) : Option (Nat × Nat × Bool) := match P.underlying t with
  | some (.struct fs) => (match fs[i]? with | some fd => (match (P.info? fd.type).map (·.size), P.underlying fd.type with | some m, some _ => some (fd.offset, m, aggB P fd.type) | _, _ => none) | none => none)
  | _ => none
theorem jfdQ_ok {t : TypeId} {i q m : Nat} {b : Bool} (h : jfdQ P t i = some (q, m, b)) : ∃ fs fd d, P.underlying t = some (.struct fs) ∧ fs[i]? = some fd ∧ P.underlying fd.type = some d ∧ aggB P fd.type = b ∧ (P.info? fd.type).map (·.size) = some m ∧ fd.offset = q := by
  unfold jfdQ at h
  split at h
  · rename_i fs h1
    split at h
    · rename_i fd h2
      split at h
      · rename_i k d h3 h4
        simp only [Option.some.injEq, Prod.mk.injEq] at h
        exact ⟨fs, fd, d, h1, h2, h4, h.2.2, by rw [h3, h.2.1], h.1⟩
      · cases h
    · cases h
  · cases h
/-- a type's cells: how many; whether it is a struct or an array -/
def jtyQ (P : Program) (t : TypeId) (m : Nat) (b : Bool) : Bool := match (P.info? t).map (·.size), P.underlying t with | some k, some _ => Nat.beq k m && (aggB P t == b) | _, _ => false
theorem jtyQ_ok {t : TypeId} {m : Nat} {b : Bool} (h : jtyQ P t m b = true) : ∃ d, P.underlying t = some d ∧ aggB P t = b ∧ (P.info? t).map (·.size) = some m := by
  unfold jtyQ at h
  split at h
  · rename_i k d h1 h2
    rw [Bool.and_eq_true, beq_iff_eq] at h
    exact ⟨d, h2, h.2, by rw [h1, Nat.eq_of_beq_eq_true h.1]⟩
  · cases h
def jldQ (P : Program) (t : TypeId) : Bool := match P.underlying t with | some _ => !(aggB P t) | none => false
theorem jldQ_ok {t : TypeId} (h : jldQ P t = true) : ∃ d, P.underlying t = some d ∧ aggB P t = false := by
  unfold jldQ at h
  split at h
  · rename_i d hd; exact ⟨d, hd, by simpa using h⟩
  · cases h

/-! ### reads -/
def jmovO : Op → Option Operand | .move x => some x | .assign x => some x | _ => none
theorem jrm {x : Operand} {v : CV} (ho : jmovO o.op = some x := by exact rfl) (hv : s.eval x = v := by first | exact jev_t rfl | exact jev_l rfl rfl rfl | exact jev_f rfl) : ARd P G o s v := by
  unfold jmovO at ho
  split at ho
  · rename_i z hz; exact rd_move hz (by rw [Option.some.inj ho]; exact hv)
  · rename_i z hz; exact rd_assign hz (by rw [Option.some.inj ho]; exact hv)
  · cases ho
theorem jrpT {z x' y' : Operand} {v : CV} (ho : o.op = .pick z x' y' := by exact rfl) (hz : s.eval z = .c (.bool true) := by exact rfl) (hx : s.eval x' = v := by first | exact jev_t rfl | exact jev_l rfl rfl rfl | exact jev_f rfl) : ARd P G o s v := rd_pickT ho hz hx
theorem jrpF {z x' y' : Operand} {v : CV} (ho : o.op = .pick z x' y' := by exact rfl) (hz : s.eval z = .c (.bool false) := by exact rfl) (hy : s.eval y' = v := by first | exact jev_t rfl | exact jev_l rfl rfl rfl | exact jev_f rfl) : ARd P G o s v := rd_pickF ho hz hy
theorem jrpk {c p q : Bool} {z x' y' : Operand} (ho : o.op = .pick z x' y' := by exact rfl) (hz : s.eval z = .c (.bool c) := by exact rfl) (hx : s.eval x' = .c (.bool p) := by exact rfl) (hy : s.eval y' = .c (.bool q) := by exact rfl) : ARd P G o s (.c (.bool (bif c then p else q))) := rd_pick ho hz hx hy
theorem jrx {x : Operand} {i n : Nat} {f : Nat → CV} {v : CV} (ho : o.op = .extract x i := by exact rfl) (hx : s.eval x = .tup n f := by exact rfl) (hi : Nat.blt i n = true := by exact rfl) (hv : f i = v := by first | exact jflO_eq rfl | exact jfz_eq rfl) : ARd P G o s v := rd_extract ho hx hi hv
def jcmpI (op : BinOp) (a b : Int) : Option Bool := match op with
  | .eql => some (decide (a = b))
  | .neq => some (decide (a ≠ b))
  | .lss => some (decide (a < b))
  | .leq => some (decide (a ≤ b))
  | .gtr => some (decide (b < a))
  | .geq => some (decide (b ≤ a))
  | _ => none
theorem jrc {op : BinOp} {t u : TypeId} {x y : Operand} {k : IntKind} {a b : Int} {z : Bool} (ho : o.op = .binOp op t x y u := by exact rfl) (hx : s.eval x = .c (.int k a) := by exact rfl) (hy : s.eval y = .c (.int k b) := by exact rfl) (hc : jcmpI op a b = some z := by exact rfl) : ARd P G o s (.c (.bool z)) := by
  cases op <;> simp only [jcmpI, Option.some.injEq, reduceCtorEq] at hc
  all_goals subst hc
  · exact rd_eqI ho hx hy
  · exact rd_neI ho hx hy
  · exact rd_lt ho hx hy
  · exact rd_le ho hx hy
  · exact rd_gt ho hx hy
  · exact rd_ge ho hx hy
def jarI (op : BinOp) (a b : Int) : Option Int := match op with
  | .add => some (a + b)
  | .sub => some (a - b)
  | .mul => some (a * b)
  | _ => none
theorem jra {op : BinOp} {t u : TypeId} {x y : Operand} {k : IntKind} {a b z : Int} (ho : o.op = .binOp op t x y u := by exact rfl) (hx : s.eval x = .c (.int k a) := by exact rfl) (hy : s.eval y = .c (.int k b) := by exact rfl) (hc : jarI op a b = some z := by exact rfl) (hS : InR k z := by (show _ ∧ _; (first | omega | decide | (dsimp only at *; omega)))) : ARd P G o s (.c (.int k z)) := by
  cases op <;> simp only [jarI, Option.some.injEq, reduceCtorEq] at hc
  all_goals subst hc
  · exact rd_add ho hx hy (wrap_id hS)
  · exact rd_sub ho hx hy (wrap_id hS)
  · exact rd_mul ho hx hy (wrap_id hS)
theorem jrq {t u : TypeId} {x y : Operand} {k : IntKind} {a b : Int} (ho : o.op = .binOp .quo t x y u := by exact rfl) (hx : s.eval x = .c (.int k a) := by exact rfl) (hy : s.eval y = .c (.int k b) := by exact rfl) (hS : 0 ≤ a := by first | omega | decide | (dsimp only at *; omega)) (hS2 : 1 ≤ b := by first | omega | decide | (dsimp only at *; omega)) (hS3 : InR k (a / b) := by (show _ ∧ _; (first | omega | decide | (dsimp only at *; omega)))) : ARd P G o s (.c (.int k (a / b))) := rd_quo ho hx hy hS hS2 (wrap_id hS3)
theorem jrr {t u : TypeId} {x y : Operand} {k : IntKind} {a b : Int} (ho : o.op = .binOp .rem t x y u := by exact rfl) (hx : s.eval x = .c (.int k a) := by exact rfl) (hy : s.eval y = .c (.int k b) := by exact rfl) (hS : 0 ≤ a := by first | omega | decide | (dsimp only at *; omega)) (hS2 : 1 ≤ b := by first | omega | decide | (dsimp only at *; omega)) : ARd P G o s (.c (.int k (a % b))) := rd_rem ho hx hy hS hS2
/-- a text's bytes -/
def jcmpS (op : BinOp) (a b : List UInt8) : Option Bool := match op with
  | .eql => some (decide (a = b))
  | .neq => some (decide (a ≠ b))
  | .lss => some (Op.bytesLess a b)
  | .gtr => some (!(Op.bytesLess a b || a == b))
  | _ => none
theorem jrcs {op : BinOp} {t u : TypeId} {x y : Operand} {a b : List UInt8} {z : Bool} (ho : o.op = .binOp op t x y u := by exact rfl) (hx : s.eval x = strC a := by exact rfl) (hy : s.eval y = strC b := by exact rfl) (hc : jcmpS op a b = some z := by exact rfl) : ARd P G o s (.c (.bool z)) := by
  cases op <;> simp only [jcmpS, Option.some.injEq, reduceCtorEq] at hc
  all_goals subst hc
  · exact rd_eqL ho hx hy
  · exact rd_neL ho hx hy
  · exact rd_ltL ho hx hy
  · exact rd_gtL ho hx hy
theorem jras {t u : TypeId} {x y : Operand} {a b : List UInt8} (ho : o.op = .binOp .add t x y u := by exact rfl) (hx : s.eval x = strC a := by exact rfl) (hy : s.eval y = strC b := by exact rfl) (hS : a.length + b.length ≤ 9223372036854775807 := by first | omega | decide | (dsimp only at *; omega)) : ARd P G o s (strC (a ++ b)) := rd_addL ho hx hy hS
theorem jrcb {op : BinOp} {t u : TypeId} {x y : Operand} {a b z : Bool} (ho : o.op = .binOp op t x y u := by exact rfl) (hx : s.eval x = .c (.bool a) := by exact rfl) (hy : s.eval y = .c (.bool b) := by exact rfl) (hc : (match op with | .eql => some (a == b) | .neq => some (!(a == b)) | _ => none) = some z := by exact rfl) (hT : P.underlying t = some .bool := by kernel_rfl) : ARd P G o s (.c (.bool z)) := by
  cases op <;> simp only [Option.some.injEq, reduceCtorEq] at hc
  all_goals subst hc
  · exact rd_eqB ho hx hy hT
  · exact rd_neB ho hx hy hT
def jNotV (c : CV) (z : Bool) : Prop := c = .c (.bool (!z))
theorem jnotD {p : Prop} [Decidable p] {c : CV} (h : c = .c (.bool (decide p))) : jNotV c (decide ¬ p) := by unfold jNotV; rw [h]; simp
theorem jnotB {p : Bool} {c : CV} (h : c = .c (.bool p)) : jNotV c (!p) := by unfold jNotV; rw [h, Bool.not_not]
theorem jrn {t : TypeId} {x : Operand} {z : Bool} (ho : o.op = .unOp .not t x := by exact rfl) (hx : jNotV (s.eval x) z := by first | exact jnotD rfl | exact jnotB rfl) : ARd P G o s (.c (.bool z)) := by
  have := rd_not (P := P) (G := G) ho hx
  rwa [Bool.not_not] at this
def jlenV : CV → Option Int
  | .rs _ n _ => some ((n : Nat) : Int)
  | .os _ _ _ n _ => some ((n : Nat) : Int)
  | .c (.slice none 0 0) => some 0
  | _ => none
theorem jrl {x : Operand} {t : TypeId} {z : Int} (ho : o.op = .call ⟨.builtin .len, #[x], #[t]⟩ := by exact rfl) (hx : jlenV (s.eval x) = some z := by exact rfl) (hT : jslT P t = true := by kernel_rfl) : ARd P G o s (.c (.int .i64 z)) := by
  obtain ⟨e, he⟩ := jslT_ok hT
  unfold jlenV at hx
  split at hx
  · rename_i h; cases hx; exact rd_lenR ho h he
  · rename_i h; cases hx; exact rd_lenO ho h he
  · rename_i h; cases hx; exact rd_lenN ho h he
  · cases hx
theorem jrls {x : Operand} {t : TypeId} {a : List UInt8} (ho : o.op = .call ⟨.builtin .len, #[x], #[t]⟩ := by exact rfl) (hx : s.eval x = strC a := by exact rfl) (hT : P.underlying t = some .string := by kernel_rfl) : ARd P G o s (.c (.int .i64 (a.length : Nat))) := rd_lenL ho hx hT
theorem jrf (q m : Nat) {t : TypeId} {x : Operand} {i n : Nat} {f : Nat → CV} {v : CV} (ho : o.op = .field t x i := by exact rfl) (hx : s.eval x = .agg n f := by exact rfl) (hv : f q = v := by first | exact jflO_eq rfl | exact jfz_eq rfl) (hi : Nat.blt q n = true := by exact rfl) (hT : jfdQ P t i = some (q, m, false) := by kernel_rfl) : ARd P G o s v := by
  obtain ⟨fs, fd, d, h1, h2, h3, h4, h5, h6⟩ := jfdQ_ok hT
  subst h6
  exact rd_field ho hx h1 h2 h3 h4 hi hv
theorem jrfA (q m : Nat) {t : TypeId} {x : Operand} {i n : Nat} {f : Nat → CV} (ho : o.op = .field t x i := by exact rfl) (hx : s.eval x = .agg n f := by exact rfl) (hi : Nat.ble (q + m) n = true := by exact rfl) (hT : jfdQ P t i = some (q, m, true) := by kernel_rfl) : ARd P G o s (.agg m fun j => f (q + j)) := by
  obtain ⟨fs, fd, d, h1, h2, h3, h4, h5, h6⟩ := jfdQ_ok hT
  subst h6
  exact rd_fieldA ho hx h1 h2 h3 h4 h5 hi
def jfaV (q : Nat) : CV → Option CV
  | .op j g off => some (.op j g (off + q))
  | .rp n f => some (.rp (n - q) fun j => f (q + j))
  | _ => none
theorem jrfa (q m : Nat) (b : Bool) {t : TypeId} {x : Operand} {i : Nat} {v : CV} (ho : o.op = .fieldAddr t x i := by exact rfl) (hx : jfaV q (s.eval x) = some v := by exact rfl) (hm : Nat.blt 0 m = true := by exact rfl) (hT : jfdQ P t i = some (q, m, b) := by kernel_rfl) : ARd P G o s v := by
  obtain ⟨fs, fd, d, h1, h2, h3, h4, h5, h6⟩ := jfdQ_ok hT
  subst h6
  unfold jfaV at hx
  split at hx
  · rename_i h; cases hx; exact rd_faddrO ho h h1 h2 h5 hm
  · rename_i h; cases hx; exact rd_faddrR ho h h1 h2 h5 hm
  · cases hx
/-- an element's place: the place, how many elements there are, the cells of each -/
def jixV (i : Nat) : CV → Option (CV × Nat × Nat)
  | .rs m n f => some (.rp m (f i), n, m)
  | .os j g off n m => some (match Nat.beq off 0, Nat.beq m 1 with | true, true => .op j g i | _, _ => .op j g (off + i * m), n, m)
  | _ => none
theorem jri {i : Nat} {t : TypeId} {x y : Operand} {k : IntKind} {z : Int} {v : CV} {n m : Nat} (ho : o.op = .indexAddr t x y := by exact rfl) (hy : s.eval y = .c (.int k z) := by exact rfl) (hz : z = (i : Int) := by first | exact rfl | exact natI (by omega)) (hx : jixV i (s.eval x) = some (v, n, m) := by exact rfl) (hS : i < n := by first | omega | decide | (dsimp only at *; omega)) (hm : Nat.blt 0 m = true := by exact rfl) (hT : jslQ P t m = true := by kernel_rfl) : ARd P G o s v := by
  obtain ⟨e, h1, h5⟩ := jslQ_ok hT
  unfold jixV at hx
  split at hx
  · rename_i h; cases hx; exact rd_iaddrR ho h hy h1 h5 hz hS (Nat.le_of_ble_eq_true hm)
  · rename_i j g off n' m' h
    cases hx
    cases h6 : Nat.beq off 0 with
    | false => exact rd_iaddrO ho h hy h1 h5 hz hS
    | true =>
      cases h7 : Nat.beq m 1 with
      | false => exact rd_iaddrO ho h hy h1 h5 hz hS
      | true =>
        have e1 := Nat.eq_of_beq_eq_true h6
        have e2 := Nat.eq_of_beq_eq_true h7
        subst e1 e2
        exact rd_iaddrO1 ho h hy h1 h5 hz hS
  · cases hx
theorem jrix {i : Nat} {t : TypeId} {x y : Operand} {k : IntKind} {z : Int} {a : List UInt8} (ho : o.op = .index t x y := by exact rfl) (hx : s.eval x = strC a := by exact rfl) (hy : s.eval y = .c (.int k z) := by exact rfl) (hz : z = (i : Int) := by first | exact rfl | exact natI (by omega)) (hS : i < a.length := by first | omega | decide | (dsimp only at *; omega)) (hT : P.underlying t = some .string := by kernel_rfl) : ARd P G o s (byF a i) := rd_indexL ho hx hy hT hz hS
def jnilV : CV → Option CV
  | .op i g off => some (.op i g off)
  | .rp n f => some (.rp n f)
  | .fn g n f => some (.fn g n f)
  | _ => none
theorem jrnc {x : Operand} {v : CV} (ho : o.op = .nilCheck x := by exact rfl) (hx : jnilV (s.eval x) = some v := by exact rfl) : ARd P G o s v := by
  unfold jnilV at hx
  split at hx
  · rename_i h; cases hx; exact rd_nilO ho h
  · rename_i h; cases hx; exact rd_nilR ho h
  · rename_i h; cases hx; exact rd_nilF ho h
  · cases hx
theorem jrmf {g : FuncId} {cs : Array Operand} {n : Nat} (ho : o.op = .makeFunc (.func g) #[] cs := by exact rfl) (hn : cs.size = n := by exact rfl) : ARd P G o s (.fn g n (fl (cs.toList.map s.eval))) := rd_makeFunc ho hn
/-- a byte or a number as a number of another kind -/
theorem jrv8 (k' : IntKind) {c : UInt8} {t u : TypeId} {x : Operand} (ho : o.op = .convert t u x := by exact rfl) (hx : s.eval x = .c (.int .u8 ((c.toNat : Nat) : Int)) := by exact rfl) (h1 : P.underlying t = some (.int .u8) := by kernel_rfl) (h2 : P.underlying u = some (.int k') := by kernel_rfl) (hk : wide8 k' = true := by exact rfl) : ARd P G o s (.c (.int k' ((c.toNat : Nat) : Int))) := rd_conv8 ho hx h1 h2 hk
theorem jrv (k k' : IntKind) {a : Int} {t u : TypeId} {x : Operand} (ho : o.op = .convert t u x := by exact rfl) (hx : s.eval x = .c (.int k a) := by exact rfl) (hS : InR k' a := by (show _ ∧ _; (first | omega | decide | (dsimp only at *; omega)))) (h1 : P.underlying t = some (.int k) := by kernel_rfl) (h2 : P.underlying u = some (.int k') := by kernel_rfl) : ARd P G o s (.c (.int k' a)) := rd_convI ho hx h1 h2 a (wrap_id hS)
theorem jrvW (k k' : IntKind) {a z : Int} {t u : TypeId} {x : Operand} (ho : o.op = .convert t u x := by exact rfl) (hx : s.eval x = .c (.int k a) := by exact rfl) (hr : k'.wrap a = z := by exact rfl) (h1 : P.underlying t = some (.int k) := by kernel_rfl) (h2 : P.underlying u = some (.int k') := by kernel_rfl) : ARd P G o s (.c (.int k' z)) := rd_convI ho hx h1 h2 z hr
theorem jrbs {t u : TypeId} {x : Operand} {a : List UInt8} (ho : o.op = .convert t u x := by exact rfl) (hx : s.eval x = bsC a := by exact rfl) (hT : jbyT P t = true := by kernel_rfl) (h3 : P.underlying u = some .string := by kernel_rfl) : ARd P G o s (strC a) := by
  obtain ⟨e, h1, h2⟩ := jbyT_ok hT
  exact rd_convBL ho hx h1 h2 h3
theorem jrbn {t u : TypeId} {x : Operand} (ho : o.op = .convert t u x := by exact rfl) (hx : s.eval x = .c (.slice none 0 0) := by exact rfl) (hT : jbyT P t = true := by kernel_rfl) (h3 : P.underlying u = some .string := by kernel_rfl) : ARd P G o s (.c (.string ⟨#[]⟩)) := by
  obtain ⟨e, h1, h2⟩ := jbyT_ok hT
  exact rd_convBN ho hx h1 h2 h3
theorem jrbo {t u : TypeId} {x : Operand} {i n N : Nat} {g : Option Nat} {L : List UInt8} (ho : o.op = .convert t u x := by exact rfl) (hx : s.eval x = .os i g 0 n 1 := by exact rfl) (hH : Holds s i g N (byF L) := by first | exact .inl rfl | exact .inr rfl) (hn : n = L.length := by first | rfl | simp) (hN : n ≤ N := by first | exact Nat.le_refl _ | simp) (hT : jbyT P t = true := by kernel_rfl) (h3 : P.underlying u = some .string := by kernel_rfl) : ARdO P G o s (strC L) := by
  obtain ⟨e, h1, h2⟩ := jbyT_ok hT
  exact rd_convB1 ho hx hH hn hN h1 h2 h3
/-! slices of bytes, of rows, of own rows -/
theorem jrsf {t : TypeId} {p a : Operand} {z1 : Int} {k1 : IntKind} {l : Nat} {bl : List UInt8} (ho : o.op = .slice t p (some a) none none := by exact rfl) (hx : s.eval p = bsC bl := by exact rfl) (ha : s.eval a = .c (.int k1 z1) := by exact rfl) (hz1 : z1 = (l : Int) := by first | exact rfl | exact natI (by omega)) (hS : l ≤ bl.length := by first | omega | decide | (dsimp only at *; omega)) (hT : jslQ P t 1 = true := by kernel_rfl) : ARd P G o s (bsC (bl.drop l)) := by
  obtain ⟨e, h1, h5⟩ := jslQ_ok hT
  exact rd_sliceB_from ho hx h1 h5 ha hz1 hS
theorem jrst {t : TypeId} {p b : Operand} {z2 : Int} {k2 : IntKind} {v : Nat} {bl : List UInt8} (ho : o.op = .slice t p none (some b) none := by exact rfl) (hx : s.eval p = bsC bl := by exact rfl) (hb : s.eval b = .c (.int k2 z2) := by exact rfl) (hz2 : z2 = (v : Int) := by first | exact rfl | exact natI (by omega)) (hS : v ≤ bl.length := by first | omega | decide | (dsimp only at *; omega)) (hT : jslQ P t 1 = true := by kernel_rfl) : ARd P G o s (bsC (bl.take v)) := by
  obtain ⟨e, h1, h5⟩ := jslQ_ok hT
  exact rd_sliceB_to ho hx h1 h5 hb hz2 hS
theorem jrsb {t : TypeId} {p a b : Operand} {z1 z2 : Int} {k1 k2 : IntKind} {l v : Nat} {bl : List UInt8} (ho : o.op = .slice t p (some a) (some b) none := by exact rfl) (hx : s.eval p = bsC bl := by exact rfl) (ha : s.eval a = .c (.int k1 z1) := by exact rfl) (hz1 : z1 = (l : Int) := by first | exact rfl | exact natI (by omega)) (hb : s.eval b = .c (.int k2 z2) := by exact rfl) (hz2 : z2 = (v : Int) := by first | exact rfl | exact natI (by omega)) (hS : l ≤ v := by first | omega | decide | (dsimp only at *; omega)) (hS2 : v ≤ bl.length := by first | omega | decide | (dsimp only at *; omega)) (hT : jslQ P t 1 = true := by kernel_rfl) : ARd P G o s (bsC ((bl.take v).drop l)) := by
  obtain ⟨e, h1, h5⟩ := jslQ_ok hT
  exact rd_sliceB ho hx h1 h5 ha hz1 hb hz2 hS hS2
theorem jrsr {t : TypeId} {p : Operand} {m n l v : Nat} {f : Nat → Nat → CV} {lo hi : Option Operand} (ho : o.op = .slice t p lo hi none := by exact rfl) (hx : s.eval p = .rs m n f := by exact rfl) (hl : Bd s 0 lo l := by first | exact bd_none _ _ | exact bd_some rfl rfl | exact bd_some rfl (natI (by omega))) (hu : Bd s n hi v := by first | exact bd_none _ _ | exact bd_some rfl rfl | exact bd_some rfl (natI (by omega))) (hS : l ≤ v := by first | omega | decide | (dsimp only at *; omega)) (hS2 : v ≤ n := by first | omega | decide | (dsimp only at *; omega)) (hT : jslQ P t m = true := by kernel_rfl) : ARd P G o s (.rs m (v - l) fun i j => f (l + i) j) := by
  obtain ⟨e, h1, h5⟩ := jslQ_ok hT
  exact rd_sliceR ho hx h1 h5 hl hu hS hS2
theorem jrso {t : TypeId} {p : Operand} {i off m n l v : Nat} {g : Option Nat} {lo hi : Option Operand} (ho : o.op = .slice t p lo hi none := by exact rfl) (hx : s.eval p = .os i g off n m := by exact rfl) (hl : Bd s 0 lo l := by first | exact bd_none _ _ | exact bd_some rfl rfl | exact bd_some rfl (natI (by omega))) (hu : Bd s n hi v := by first | exact bd_none _ _ | exact bd_some rfl rfl | exact bd_some rfl (natI (by omega))) (hS : l ≤ v := by first | omega | decide | (dsimp only at *; omega)) (hS2 : v ≤ n := by first | omega | decide | (dsimp only at *; omega)) (hS3 : l = 0 ∨ l < n := by first | omega | decide | (dsimp only at *; omega)) (hT : jslQ P t m = true := by kernel_rfl) : ARd P G o s (.os i g (off + l * m) (v - l) m) := by
  obtain ⟨e, h1, h5⟩ := jslQ_ok hT
  exact rd_sliceO ho hx h1 h5 hl hu hS hS2 hS3
/-! loads -/
theorem jrdo {t : TypeId} {x : Operand} {i off n : Nat} {g : Option Nat} {f : Nat → CV} {v : CV} (ho : o.op = .load t x := by exact rfl) (hx : s.eval x = .op i g off := by exact rfl) (hH : Holds s i g n f := by first | exact .inl rfl | exact .inr rfl) (hv : f off = v := by first | exact jflO_eq rfl | exact jfz_eq rfl) (hn : off < n := by first | decide | omega | (dsimp only at *; omega)) (hT : jldQ P t = true := by kernel_rfl) : ARdO P G o s v := by
  obtain ⟨d, h1, ha⟩ := jldQ_ok hT
  exact rd_loadO ho hx hH h1 ha hn hv
theorem jrdr {t : TypeId} {x : Operand} {n : Nat} {f : Nat → CV} {v : CV} (ho : o.op = .load t x := by exact rfl) (hx : s.eval x = .rp n f := by exact rfl) (hv : f 0 = v := by first | exact jflO_eq rfl | exact jfz_eq rfl) (hn : 0 < n := by first | decide | omega | (dsimp only at *; omega)) (hT : jldQ P t = true := by kernel_rfl) : ARd P G o s v := by
  obtain ⟨d, h1, ha⟩ := jldQ_ok hT
  exact rd_loadR ho hx h1 ha hn hv
theorem jrdoA (m : Nat) {t : TypeId} {x : Operand} {i off n : Nat} {g : Option Nat} {f : Nat → CV} (ho : o.op = .load t x := by exact rfl) (hx : s.eval x = .op i g off := by exact rfl) (hH : Holds s i g n f := by first | exact .inl rfl | exact .inr rfl) (hn : off + m ≤ n := by first | decide | omega | (dsimp only at *; omega)) (hT : jtyQ P t m true = true := by kernel_rfl) : ARdO P G o s (.agg m fun j => f (off + j)) := by
  obtain ⟨d, h1, ha, h5⟩ := jtyQ_ok hT
  exact rd_loadOA ho hx hH h1 ha h5 hn
theorem jrdrA (m : Nat) {t : TypeId} {x : Operand} {n : Nat} {f : Nat → CV} (ho : o.op = .load t x := by exact rfl) (hx : s.eval x = .rp n f := by exact rfl) (hn : m ≤ n := by first | decide | omega | (dsimp only at *; omega)) (hT : jtyQ P t m true = true := by kernel_rfl) : ARd P G o s (.agg m f) := by
  obtain ⟨d, h1, ha, h5⟩ := jtyQ_ok hT
  exact rd_loadRA ho hx h1 ha h5 hn
theorem jrde (i : Nat) [h0 : HasE G.gs i] {t : TypeId} {g : Nat} (ho : o.op = .load t (.global g) := by exact rfl) (hg : gs[i]? = some g := by exact rfl) (hT : jldQ P t = true := by kernel_rfl) : ARd P G o s (.err (i + 1)) := by
  obtain ⟨d, h1, ha⟩ := jldQ_ok hT
  exact rd_loadE i ho hg h1 ha
theorem jrmi {t : TypeId} {x : Operand} {v : Value} {d : TypeDesc} (hT : P.underlying t = some d) (h2 : ∀ ms, d ≠ .interface ms) (ho : o.op = .makeInterface t x := by exact rfl) (hx : s.eval x = .c v := by exact rfl) : ARd P G o s (.c (.iface t v)) := rd_makeIface ho hx hT h2

/-! ### steps -/
theorem jq {d : Nat} {v : CV} (h : ARd P G o ⟨env, b0, H⟩ v) (hk : ASeq P G ops r ⟨(d, v) :: env, b0, H⟩ K) (hd : o.dst = some d := by exact rfl) (hN : Nat.blt d G.N = true := by exact rfl) (hw : Wanted G ops o ⟨env, b0, H⟩ true := by first | exact wanted_none rfl | exact wanted_is rfl rfl rfl rfl true rfl) : ASeq P G ops (o :: r) ⟨env, b0, H⟩ K := q_rd hw hd hN h hk
theorem jqo {d : Nat} {v : CV} (h : ARdO P G o ⟨env, b0, H⟩ v) (hk : ASeq P G ops r ⟨(d, v) :: env, b0, H⟩ K) (hd : o.dst = some d := by exact rfl) (hN : Nat.blt d G.N = true := by exact rfl) (hw : Wanted G ops o ⟨env, b0, H⟩ true := by first | exact wanted_none rfl | exact wanted_is rfl rfl rfl rfl true rfl) : ASeq P G ops (o :: r) ⟨env, b0, H⟩ K := q_rdO hw hd hN h hk
theorem jqs {d : Nat} (hk : ASeq P G ops r ⟨(d, .c undef) :: env, b0, H⟩ K) (hd : o.dst = some d := by exact rfl) (hN : Nat.blt d G.N = true := by exact rfl) (hw : Wanted G ops o ⟨env, b0, H⟩ false := by first | exact wanted_is rfl rfl rfl rfl false rfl | exact wanted_undef rfl rfl rfl rfl) : ASeq P G ops (o :: r) ⟨env, b0, H⟩ K := q_skip hw hd hN hk
theorem jqs0 (hk : ASeq P G ops r ⟨env, b0, H⟩ K) (hd : o.dst = none := by exact rfl) (hw : Wanted G ops o ⟨env, b0, H⟩ false := by first | exact wanted_is rfl rfl rfl rfl false rfl | exact wanted_undef rfl rfl rfl rfl) : ASeq P G ops (o :: r) ⟨env, b0, H⟩ K := q_skip0 hw hd hk
theorem jqe (h : AEx P G o ⟨env, b0, H⟩ (fun s' => ASeq P G ops r s' K)) (hw : Wanted G ops o ⟨env, b0, H⟩ true := by first | exact wanted_none rfl | exact wanted_is rfl rfl rfl rfl true rfl) : ASeq P G ops (o :: r) ⟨env, b0, H⟩ K := seq_ex hw h
theorem jqm (h : AMd P G o ⟨env, b0, H⟩ (fun s' => ASeq P G ops r s' K)) (hw : Wanted G ops o ⟨env, b0, H⟩ true := by first | exact wanted_none rfl | exact wanted_is rfl rfl rfl rfl true rfl) : ASeq P G ops (o :: r) ⟨env, b0, H⟩ K := seq_md hw h
def jopG : List Oper → Nat → Oper
  | [], _ => default
  | a :: _, 0 => a
  | _ :: l, i + 1 => jopG l i
section
variable {i : Nat} {t : Ord}
theorem jopG_at (h : Nat.blt i ops.size = true) : ops[i]? = some (jopG ops.toList i) := by
  have hlt : i < ops.size := Nat.le_of_ble_eq_true h
  rw [Array.getElem?_eq_getElem hlt]
  have key : ∀ (l : List Oper) (i : Nat) (hi : i < l.length), l[i] = jopG l i := fun l => by
    induction l with
    | nil => intro i hi; simp at hi
    | cons a l ih =>
      intro i hi
      cases i with
      | zero => rfl
      | succ i => exact ih i (by simpa using hi)
  have := key ops.toList i (by simpa using hlt)
  rw [← this, Array.getElem_toList]
theorem joT_rd (hi : Nat.blt i ops.size = true) : opsOfT ops (.rd i t) = .rd (jopG ops.toList i) (opsOfT ops t) := by simp only [opsOfT, jopG_at hi]
theorem joT_one (hi : Nat.blt i ops.size = true) : opsOfT ops (.one i t) = .one (jopG ops.toList i) (opsOfT ops t) := by simp only [opsOfT, jopG_at hi]
theorem jyq {d : Nat} {v : CV} (h : ARd P G (jopG ops.toList i) ⟨env, b0, H⟩ v) (hk : AX P G ops (opsOfT ops t) ⟨(d, v) :: env, b0, H⟩ K) (hd : (jopG ops.toList i).dst = some d := by exact rfl) (hN : Nat.blt d G.N = true := by exact rfl) (hw : Wanted G ops (jopG ops.toList i) ⟨env, b0, H⟩ true := by first | exact wanted_none rfl | exact wanted_is rfl rfl rfl rfl true rfl) (hi : Nat.blt i ops.size = true := by exact rfl) : AX P G ops (opsOfT ops (.rd i t)) ⟨env, b0, H⟩ K := by rw [joT_rd hi]; exact y_rd hw hd hN h hk
theorem jyo {d : Nat} {v : CV} (h : ARdO P G (jopG ops.toList i) ⟨env, b0, H⟩ v) (hk : AX P G ops (opsOfT ops t) ⟨(d, v) :: env, b0, H⟩ K) (hd : (jopG ops.toList i).dst = some d := by exact rfl) (hN : Nat.blt d G.N = true := by exact rfl) (hw : Wanted G ops (jopG ops.toList i) ⟨env, b0, H⟩ true := by first | exact wanted_none rfl | exact wanted_is rfl rfl rfl rfl true rfl) (hi : Nat.blt i ops.size = true := by exact rfl) : AX P G ops (opsOfT ops (.rd i t)) ⟨env, b0, H⟩ K := by rw [joT_rd hi]; exact y_rdO hw hd hN h hk
theorem jy1 {d : Nat} {v : CV} (h : ARd P G (jopG ops.toList i) ⟨env, b0, H⟩ v) (hk : AX P G ops (opsOfT ops t) ⟨(d, v) :: env, b0, H⟩ K) (hd : (jopG ops.toList i).dst = some d := by exact rfl) (hN : Nat.blt d G.N = true := by exact rfl) (hw : Wanted G ops (jopG ops.toList i) ⟨env, b0, H⟩ true := by first | exact wanted_none rfl | exact wanted_is rfl rfl rfl rfl true rfl) (hi : Nat.blt i ops.size = true := by exact rfl) : AX P G ops (opsOfT ops (.one i t)) ⟨env, b0, H⟩ K := by rw [joT_one hi]; exact y_one1 hw hd hN h hk
theorem jy1o {d : Nat} {v : CV} (h : ARdO P G (jopG ops.toList i) ⟨env, b0, H⟩ v) (hk : AX P G ops (opsOfT ops t) ⟨(d, v) :: env, b0, H⟩ K) (hd : (jopG ops.toList i).dst = some d := by exact rfl) (hN : Nat.blt d G.N = true := by exact rfl) (hw : Wanted G ops (jopG ops.toList i) ⟨env, b0, H⟩ true := by first | exact wanted_none rfl | exact wanted_is rfl rfl rfl rfl true rfl) (hi : Nat.blt i ops.size = true := by exact rfl) : AX P G ops (opsOfT ops (.one i t)) ⟨env, b0, H⟩ K := by rw [joT_one hi]; exact y_one1O hw hd hN h hk
theorem jys {d : Nat} (hk : AX P G ops (opsOfT ops t) ⟨(d, .c undef) :: env, b0, H⟩ K) (hd : (jopG ops.toList i).dst = some d := by exact rfl) (hN : Nat.blt d G.N = true := by exact rfl) (hw : Wanted G ops (jopG ops.toList i) ⟨env, b0, H⟩ false := by first | exact wanted_is rfl rfl rfl rfl false rfl | exact wanted_undef rfl rfl rfl rfl) (hi : Nat.blt i ops.size = true := by exact rfl) : AX P G ops (opsOfT ops (.rd i t)) ⟨env, b0, H⟩ K := by rw [joT_rd hi]; exact y_skip hw hd hN hk
theorem jys1 {d : Nat} (hk : AX P G ops (opsOfT ops t) ⟨(d, .c undef) :: env, b0, H⟩ K) (hd : (jopG ops.toList i).dst = some d := by exact rfl) (hN : Nat.blt d G.N = true := by exact rfl) (hw : Wanted G ops (jopG ops.toList i) ⟨env, b0, H⟩ false := by first | exact wanted_is rfl rfl rfl rfl false rfl | exact wanted_undef rfl rfl rfl rfl) (hi : Nat.blt i ops.size = true := by exact rfl) : AX P G ops (opsOfT ops (.one i t)) ⟨env, b0, H⟩ K := by rw [joT_one hi]; exact y_noone hw hd hN hk
theorem jye (h : AEx P G (jopG ops.toList i) ⟨env, b0, H⟩ (fun s' => AX P G ops (opsOfT ops t) s' K)) (hw : Wanted G ops (jopG ops.toList i) ⟨env, b0, H⟩ true := by first | exact wanted_none rfl | exact wanted_is rfl rfl rfl rfl true rfl) (hi : Nat.blt i ops.size = true := by exact rfl) : AX P G ops (opsOfT ops (.one i t)) ⟨env, b0, H⟩ K := by rw [joT_one hi]; exact x_one hw h
theorem jzq {d : Nat} {v : CV} (h : ARd P G (jopG ops.toList i) ⟨env, b0, H⟩ v) (hk : AZ P G ops (opsOfT ops t) ⟨(d, v) :: env, b0, H⟩ K) (hd : (jopG ops.toList i).dst = some d := by exact rfl) (hN : Nat.blt d G.N = true := by exact rfl) (hw : Wanted G ops (jopG ops.toList i) ⟨env, b0, H⟩ true := by first | exact wanted_none rfl | exact wanted_is rfl rfl rfl rfl true rfl) (hi : Nat.blt i ops.size = true := by exact rfl) : AZ P G ops (opsOfT ops (.rd i t)) ⟨env, b0, H⟩ K := by rw [joT_rd hi]; exact zz_rd hw hd hN h hk
theorem jzo {d : Nat} {v : CV} (h : ARdO P G (jopG ops.toList i) ⟨env, b0, H⟩ v) (hk : AZ P G ops (opsOfT ops t) ⟨(d, v) :: env, b0, H⟩ K) (hd : (jopG ops.toList i).dst = some d := by exact rfl) (hN : Nat.blt d G.N = true := by exact rfl) (hw : Wanted G ops (jopG ops.toList i) ⟨env, b0, H⟩ true := by first | exact wanted_none rfl | exact wanted_is rfl rfl rfl rfl true rfl) (hb : ownB ops (jopG ops.toList i) = true := by kernel_rfl) (hi : Nat.blt i ops.size = true := by exact rfl) : AZ P G ops (opsOfT ops (.rd i t)) ⟨env, b0, H⟩ K := by rw [joT_rd hi]; exact zz_rdO hw hd hN hb h hk
theorem jz1 {d : Nat} {v : CV} (h : ARd P G (jopG ops.toList i) ⟨env, b0, H⟩ v) (hk : AZ P G ops (opsOfT ops t) ⟨(d, v) :: env, b0, H⟩ K) (hd : (jopG ops.toList i).dst = some d := by exact rfl) (hN : Nat.blt d G.N = true := by exact rfl) (hw : Wanted G ops (jopG ops.toList i) ⟨env, b0, H⟩ true := by first | exact wanted_none rfl | exact wanted_is rfl rfl rfl rfl true rfl) (hi : Nat.blt i ops.size = true := by exact rfl) : AZ P G ops (opsOfT ops (.one i t)) ⟨env, b0, H⟩ K := by rw [joT_one hi]; exact zz_one1 hw hd hN h hk
theorem jz1o {d : Nat} {v : CV} (h : ARdO P G (jopG ops.toList i) ⟨env, b0, H⟩ v) (hk : AZ P G ops (opsOfT ops t) ⟨(d, v) :: env, b0, H⟩ K) (hd : (jopG ops.toList i).dst = some d := by exact rfl) (hN : Nat.blt d G.N = true := by exact rfl) (hw : Wanted G ops (jopG ops.toList i) ⟨env, b0, H⟩ true := by first | exact wanted_none rfl | exact wanted_is rfl rfl rfl rfl true rfl) (hi : Nat.blt i ops.size = true := by exact rfl) : AZ P G ops (opsOfT ops (.one i t)) ⟨env, b0, H⟩ K := by rw [joT_one hi]; exact zz_one1O hw hd hN h hk
theorem jzs {d : Nat} (hk : AZ P G ops (opsOfT ops t) ⟨(d, .c undef) :: env, b0, H⟩ K) (hd : (jopG ops.toList i).dst = some d := by exact rfl) (hN : Nat.blt d G.N = true := by exact rfl) (hw : Wanted G ops (jopG ops.toList i) ⟨env, b0, H⟩ false := by first | exact wanted_is rfl rfl rfl rfl false rfl | exact wanted_undef rfl rfl rfl rfl) (hi : Nat.blt i ops.size = true := by exact rfl) : AZ P G ops (opsOfT ops (.rd i t)) ⟨env, b0, H⟩ K := by rw [joT_rd hi]; exact zz_skip hw hd hN hk
theorem jzs1 {d : Nat} (hk : AZ P G ops (opsOfT ops t) ⟨(d, .c undef) :: env, b0, H⟩ K) (hd : (jopG ops.toList i).dst = some d := by exact rfl) (hN : Nat.blt d G.N = true := by exact rfl) (hw : Wanted G ops (jopG ops.toList i) ⟨env, b0, H⟩ false := by first | exact wanted_is rfl rfl rfl rfl false rfl | exact wanted_undef rfl rfl rfl rfl) (hi : Nat.blt i ops.size = true := by exact rfl) : AZ P G ops (opsOfT ops (.one i t)) ⟨env, b0, H⟩ K := by rw [joT_one hi]; exact zz_noone hw hd hN hk
theorem jze (h : AEx P G (jopG ops.toList i) ⟨env, b0, H⟩ (fun s' => AZ P G ops (opsOfT ops t) s' K)) (hw : Wanted G ops (jopG ops.toList i) ⟨env, b0, H⟩ true := by first | exact wanted_none rfl | exact wanted_is rfl rfl rfl rfl true rfl) (hi : Nat.blt i ops.size = true := by exact rfl) : AZ P G ops (opsOfT ops (.one i t)) ⟨env, b0, H⟩ K := by rw [joT_one hi]; exact z_ex hw h
theorem jzm (h : AMd P G (jopG ops.toList i) ⟨env, b0, H⟩ (fun s' => AZ P G ops (opsOfT ops t) s' K)) (hw : Wanted G ops (jopG ops.toList i) ⟨env, b0, H⟩ true := by first | exact wanted_none rfl | exact wanted_is rfl rfl rfl rfl true rfl) (hm : isMod (jopG ops.toList i) = true := by exact rfl) (hi : Nat.blt i ops.size = true := by exact rfl) : AZ P G ops (opsOfT ops (.one i t)) ⟨env, b0, H⟩ K := by rw [joT_one hi]; exact z_md hw hm h
theorem jyd (h : K s) : AX P G ops (opsOfT ops .done) s K := x_done h
theorem jzd (h : K s) : AZ P G ops (opsOfT ops .done) s K := z_done h
theorem jytwo {j : Nat} {u : Ord} (h1 : AX P G ops (opsOfT ops (.one i t)) s K) (h2 : AX P G ops (opsOfT ops (.one j u)) s K) (hi : Nat.blt i ops.size = true := by exact rfl) (hj : Nat.blt j ops.size = true := by exact rfl) : AX P G ops (opsOfT ops (.two i t j u)) s K := by
  rw [joT_one hi] at h1
  rw [joT_one hj] at h2
  simp only [opsOfT, jopG_at hi, jopG_at hj]
  exact x_two h1 h2
theorem jztwo {j : Nat} {u : Ord} (h1 : AZ P G ops (opsOfT ops (.one i t)) s K) (h2 : AZ P G ops (opsOfT ops (.one j u)) s K) (hi : Nat.blt i ops.size = true := by exact rfl) (hj : Nat.blt j ops.size = true := by exact rfl) : AZ P G ops (opsOfT ops (.two i t j u)) s K := by
  rw [joT_one hi] at h1
  rw [joT_one hj] at h2
  simp only [opsOfT, jopG_at hi, jopG_at hj]
  exact z_two h1 h2
end
/-! ### regions -/
theorem jcg {id : Nat} (h : ASeq P G ops ops.toList s (R .normal)) (hd : rdB G.rd ops = true := by rfl) : ACode P G (.region id ops false) s R := code_region h hd
theorem jcd {id : Nat} (t : Ord) (h : AX P G ops (opsOfT ops t) s (R .normal)) (hm : P.follows .mixedOrders = true := by kernel_rfl) (hs : Region.noSelect ops = true := by kernel_rfl) (hl : t.len = ops.size := by exact rfl) (hin : t.within ops.size = true := by kernel_rfl) (hB : orderT .any ops t (Array.replicate ops.size false) = true := by kernel_rfl) (hd : rdB G.rd ops = true := by rfl) : ACode P G (.region id ops true) s R := code_draw t hm hs hl hin hB h hd
theorem jcdB {id : Nat} (m : Nat) (t : Ord) (h : AX P G ops (opsOfT ops t) s (fun s' => ASeq P G ops (ops.toList.drop m) s' (R .normal))) (hmix : P.follows .mixedOrders = true := by kernel_rfl) (hs : Region.noSelect ops = true := by kernel_rfl) (hm : Nat.ble m ops.size = true := by exact rfl) (hl : t.len = m := by exact rfl) (hin : t.within ops.size = true := by kernel_rfl) (hc : coverB .any ops m = true := by kernel_rfl)
    (hB : orderB2 .any ops m t (Array.replicate ops.size false) = true := by kernel_rfl) (ht : tailB .any ops (ops.size - m) m (barL m ops.size) = true := by kernel_rfl) (hd : rdB G.rd ops = true := by rfl) (hy : G.yl = false := by rfl) : ACode P G (.region id ops true) s R := code_drawB m t hmix hs hm hl hin hc hB ht h hd hy
theorem jcdC {id : Nat} (m : Nat) (t u : Ord) (h : AX P G ops (opsOfT ops t) s (fun s' => AZ P G ops (opsOfT ops u) s' (R .normal))) (hmix : P.follows .mixedOrders = true := by kernel_rfl) (hs : Region.noSelect ops = true := by kernel_rfl) (hm : Nat.ble m ops.size = true := by exact rfl) (hl : t.len = m := by exact rfl) (hin : t.within ops.size = true := by kernel_rfl) (hc : coverB .any ops m = true := by kernel_rfl)
    (hB : orderB2 .any ops m t (Array.replicate ops.size false) = true := by kernel_rfl) (hul : u.len = ops.size - m := by exact rfl) (huin : u.within ops.size = true := by kernel_rfl) (hu : orderT .any ops u (barL m ops.size) = true := by kernel_rfl) (hd : rdB G.rd ops = true := by rfl) : ACode P G (.region id ops true) s R := code_drawC m t u hmix hs hm hl hin hc hB hul huin hu h hd
theorem jcdZ {id : Nat} (u : Ord) (h : AZ P G ops (opsOfT ops u) s (R .normal)) (hmix : P.follows .mixedOrders = true := by kernel_rfl) (hs : Region.noSelect ops = true := by kernel_rfl) (hul : u.len = ops.size := by exact rfl) (huin : u.within ops.size = true := by kernel_rfl) (hu : orderT .any ops u (Array.replicate ops.size false) = true := by kernel_rfl) (hd : rdB G.rd ops = true := by rfl) : ACode P G (.region id ops true) s R := code_drawZ u hmix hs hul huin hu h hd
/-! ### code -/
theorem jcs (h : ACode P G x s (thenR (fun s' => ACode P G y s' R) R)) : ACode P G (.seq x y) s R := code_seq h
theorem jcr {id : Nat} (h : ASeq P G ops ops.toList s (fun s' => ACode P G y s' R)) (hd : rdB G.rd ops = true := by rfl) : ACode P G (.seq (.region id ops false) y) s R := code_seq (code_region h hd)
theorem jtn (h : Y s) : thenR Y R .normal s := h
theorem jte {i : Nat} (h : R (.exit i) s) : thenR Y R (.exit i) s := h
theorem jtr (h : R .ret s) : thenR Y R .ret s := h
theorem jbn {i : Nat} (h : R .normal s) : blockR i R .normal s := h
theorem jbr {i : Nat} (h : R .ret s) : blockR i R .ret s := h
theorem jbx {i j : Nat} (h : R .normal s) (he : Nat.beq j i = true := by exact rfl) : blockR i R (.exit j) s := block_exit he h
theorem jbx2 {i j : Nat} (h : R (.exit j) s) (he : Nat.beq j i = false := by exact rfl) : blockR i R (.exit j) s := block_exit2 he h
def jCondPN (c : CV) (p n : Prop) : Prop := ∃ t : Bool, c = .c (.bool t) ∧ (t = true → p) ∧ (t = false → n)
theorem jcpD {p : Prop} [Decidable p] {c : CV} (h : c = .c (.bool (decide p))) : jCondPN c p (¬ p) := ⟨_, h, of_decide_eq_true, of_decide_eq_false⟩
theorem jcpB {t : Bool} {c : CV} (h : c = .c (.bool t)) : jCondPN c (t = true) (t = false) := ⟨_, h, id, id⟩
theorem jcc {d : Nat} {p n : Prop} (ht : p → ACode P G x ⟨(d, .c (.bool true)) :: env, b0, H⟩ R) (hf : n → ACode P G y ⟨(d, .c (.bool false)) :: env, b0, H⟩ R) (hl : jCondPN (look env b0 d) p n := by first | exact jcpD rfl | exact jcpB rfl) (hN : Nat.blt d G.N = true := by exact rfl) : ACode P G (.cond (.tmp d) x y) ⟨env, b0, H⟩ R := by
  obtain ⟨t, h1, h2, h3⟩ := hl
  exact code_condS hN h1 (fun e => ht (h2 e)) (fun e => hf (h3 e))
theorem jcT {d : Operand} (h : ACode P G x s R) (hl : s.eval d = .c (.bool true) := by exact rfl) : ACode P G (.cond d x y) s R := code_condT hl h
theorem jcF {d : Operand} (h : ACode P G y s R) (hl : s.eval d = .c (.bool false) := by exact rfl) : ACode P G (.cond d x y) s R := code_condF hl h
theorem jqsp (d : Nat) {p n : Prop} (ht : p → ASeq P G ops r ⟨(d, .c (.bool true)) :: env, b0, H⟩ K) (hf : n → ASeq P G ops r ⟨(d, .c (.bool false)) :: env, b0, H⟩ K) (hl : jCondPN (look env b0 d) p n := by first | exact jcpD rfl | exact jcpB rfl) (hN : Nat.blt d G.N = true := by exact rfl) : ASeq P G ops r ⟨env, b0, H⟩ K := by
  obtain ⟨t, h1, h2, h3⟩ := hl
  exact seq_split hN h1 (fun e => ht (h2 e)) (fun e => hf (h3 e))
theorem jysp {tr : OrdO} (d : Nat) {p n : Prop} (ht : p → AX P G ops tr ⟨(d, .c (.bool true)) :: env, b0, H⟩ K) (hf : n → AX P G ops tr ⟨(d, .c (.bool false)) :: env, b0, H⟩ K) (hl : jCondPN (look env b0 d) p n := by first | exact jcpD rfl | exact jcpB rfl) (hN : Nat.blt d G.N = true := by exact rfl) : AX P G ops tr ⟨env, b0, H⟩ K := by
  obtain ⟨t, h1, h2, h3⟩ := hl
  exact x_split hN h1 (fun e => ht (h2 e)) (fun e => hf (h3 e))
theorem jzsp {tr : OrdO} (d : Nat) {p n : Prop} (ht : p → AZ P G ops tr ⟨(d, .c (.bool true)) :: env, b0, H⟩ K) (hf : n → AZ P G ops tr ⟨(d, .c (.bool false)) :: env, b0, H⟩ K) (hl : jCondPN (look env b0 d) p n := by first | exact jcpD rfl | exact jcpB rfl) (hN : Nat.blt d G.N = true := by exact rfl) : AZ P G ops tr ⟨env, b0, H⟩ K := by
  obtain ⟨t, h1, h2, h3⟩ := hl
  exact z_split hN h1 (fun e => ht (h2 e)) (fun e => hf (h3 e))

/-! ### memory, calls, stores -/
theorem jeal {n : Nat} {t : TypeId} {z : Value} {d : Nat} (hz : (P.info? t).map (·.zero) = some (some z)) (hn : z.cells.size = n) (hK : ∀ g, K ⟨(d, .op H.length g 0) :: env, b0, H ++ [(g, .blk n fun j => .c (z.cells.getD j undef))]⟩) (ho : o.op = .alloc t := by exact rfl) (hd : o.dst = some d := by exact rfl) (hN : Nat.blt d G.N = true := by exact rfl) : AEx P G o ⟨env, b0, H⟩ K := e_alloc ho hz hn hd hN hK
theorem jebx (n : Nat) {t : TypeId} {p : Operand} {c : CV} {l : List CV} {d : Nat} (hK : ∀ g, K ⟨(d, .op H.length g 0) :: env, b0, H ++ [(g, .blk n (fl l))]⟩) (ho : o.op = .box t p := by exact rfl) (hx : (⟨env, b0, H⟩ : AS).eval p = c := by first | exact jev_t rfl | exact jev_l rfl rfl rfl | exact jev_f rfl) (hl : cellsC c = some l := by exact rfl) (hn : l.length = n := by exact rfl) (hd : o.dst = some d := by exact rfl) (hN : Nat.blt d G.N = true := by exact rfl) : AEx P G o ⟨env, b0, H⟩ K := e_box ho hx hl hn hd hN hK
theorem jebl (n m : Nat) {e t : TypeId} {z : Value} {len : Nat} {parts : Array (Nat × Operand)} {l : List CV} {d : Nat} (hz : (P.info? e).map (·.zero) = some (some z)) (hK : ∀ g, K ⟨(d, .os H.length g 0 len m) :: env, b0, H ++ [(g, .blk n (fl l))]⟩) (ho : o.op = .buildSlice t len parts := by exact rfl) (h1 : P.underlying t = some (.slice e) := by kernel_rfl) (h5 : (P.info? e).map (·.size) = some m := by kernel_rfl) (hm : Nat.ble (len * m) 16777216 = true := by exact rfl) (hlen : Nat.ble len 16777216 = true := by exact rfl)
    (hf : fillC (fun i => some (i * m, m)) ((List.range (len * m)).map fun i => .c (z.cells[i % z.cells.size]!)) (parts.toList.map fun p => (p.1, (⟨env, b0, H⟩ : AS).eval p.2)) = some l := by exact rfl) (hn : l.length = n := by exact rfl) (hle : n = len * m := by exact rfl) (hd : o.dst = some d := by exact rfl) (hN : Nat.blt d G.N = true := by exact rfl) : AEx P G o ⟨env, b0, H⟩ K := e_buildSlice ho h1 h5 hz hm hlen hf hn hle hd hN hK
theorem jecv {t u : TypeId} {x : Operand} {a : List UInt8} {d : Nat} (hK : K ⟨(d, bsC a) :: env, b0, H⟩) (ho : o.op = .convert t u x := by exact rfl) (hx : (⟨env, b0, H⟩ : AS).eval x = strC a := by exact rfl) (h1 : P.underlying t = some .string := by kernel_rfl) (hT : jbyT P u = true := by kernel_rfl) (hS : a.length ≤ 9223372036854775807 := by first | omega | decide | (dsimp only at *; omega)) (hd : o.dst = some d := by exact rfl) (hN : Nat.blt d G.N = true := by exact rfl) : AEx P G o ⟨env, b0, H⟩ K := by
  obtain ⟨e, h2, h3⟩ := jbyT_ok hT
  exact e_convLB ho hx h1 h2 h3 hS hd hN hK
theorem jecP {f : FuncId} {xs : Array Operand} {ats : Array TypeId} {args : List CV} {m : CV} {d : Nat} (hA : ACp G.gs P f args m) (hK : K ⟨(d, m) :: env, b0, H⟩) (ho : o.op = .call ⟨.value (.func f), xs, ats⟩ := by exact rfl) (hc : calleeB P f = true := by kernel_rfl) (he : SEL G ⟨env, b0, H⟩ xs.toList args := by (repeat (first | exact .nil | refine .cons (by first | exact se rfl (CEnt.refl _) | exact se rfl CEnt.nil | exact se rfl CEnt.nilB | exact se rfl (CEnt.osI rfl) | exact se rfl CEnt.opI | exact se_nilO rfl | exact se rfl (CEnt.agg2 (CEnt.refl _) (CEnt.refl _)) | exact se rfl (CEnt.agg3 (CEnt.refl _) (CEnt.refl _) (CEnt.refl _)) | exact se rfl (CEnt.agg4 (CEnt.refl _) (CEnt.refl _) (CEnt.refl _) (CEnt.refl _)) | exact se rfl (CEnt.agg5 (CEnt.refl _) (CEnt.refl _) (CEnt.refl _) (CEnt.refl _) (CEnt.refl _)) | exact se rfl (CEnt.agg6 (CEnt.refl _) (CEnt.refl _) (CEnt.refl _) (CEnt.refl _) (CEnt.refl _) (CEnt.refl _)) | exact se_frzB _ rfl rfl rfl (by simp) (fun _ _ => CEnt.refl _)) ?_))) (hd : o.dst = some d := by exact rfl) (hN : Nat.blt d G.N = true := by exact rfl) : AEx P G o ⟨env, b0, H⟩ K := e_callP ho hc hA he hd hN hK
theorem jecP0 {f : FuncId} {xs : Array Operand} {ats : Array TypeId} {args : List CV} {m : CV} (hA : ACp G.gs P f args m) (hK : K ⟨env, b0, H⟩) (ho : o.op = .call ⟨.value (.func f), xs, ats⟩ := by exact rfl) (hc : calleeB P f = true := by kernel_rfl) (he : SEL G ⟨env, b0, H⟩ xs.toList args := by (repeat (first | exact .nil | refine .cons (by first | exact se rfl (CEnt.refl _) | exact se rfl CEnt.nil | exact se rfl CEnt.nilB | exact se rfl (CEnt.osI rfl) | exact se rfl CEnt.opI | exact se_nilO rfl | exact se rfl (CEnt.agg2 (CEnt.refl _) (CEnt.refl _)) | exact se rfl (CEnt.agg3 (CEnt.refl _) (CEnt.refl _) (CEnt.refl _)) | exact se rfl (CEnt.agg4 (CEnt.refl _) (CEnt.refl _) (CEnt.refl _) (CEnt.refl _)) | exact se rfl (CEnt.agg5 (CEnt.refl _) (CEnt.refl _) (CEnt.refl _) (CEnt.refl _) (CEnt.refl _)) | exact se rfl (CEnt.agg6 (CEnt.refl _) (CEnt.refl _) (CEnt.refl _) (CEnt.refl _) (CEnt.refl _) (CEnt.refl _)) | exact se_frzB _ rfl rfl rfl (by simp) (fun _ _ => CEnt.refl _)) ?_))) (hd : o.dst = none := by exact rfl) : AEx P G o ⟨env, b0, H⟩ K := e_callP0 ho hc hA he hd hK
theorem jecS {f : FuncId} {xs : Array Operand} {ats : Array TypeId} {args : List CV} {Q : CV → List (Option Nat × Res) → Prop} {d : Nat} (hA : AC G.gs P f [] args Q) (hK : ∀ r H', Q r H' → K ⟨(d, r) :: env, b0, H ++ H'⟩) (ho : o.op = .call ⟨.value (.func f), xs, ats⟩ := by exact rfl) (hc : calleeB P f = true := by kernel_rfl) (he : SEL G ⟨env, b0, H⟩ xs.toList args := by (repeat (first | exact .nil | refine .cons (by first | exact se rfl (CEnt.refl _) | exact se rfl CEnt.nil | exact se rfl CEnt.nilB | exact se rfl (CEnt.osI rfl) | exact se rfl CEnt.opI | exact se_nilO rfl | exact se rfl (CEnt.agg2 (CEnt.refl _) (CEnt.refl _)) | exact se rfl (CEnt.agg3 (CEnt.refl _) (CEnt.refl _) (CEnt.refl _)) | exact se rfl (CEnt.agg4 (CEnt.refl _) (CEnt.refl _) (CEnt.refl _) (CEnt.refl _)) | exact se rfl (CEnt.agg5 (CEnt.refl _) (CEnt.refl _) (CEnt.refl _) (CEnt.refl _) (CEnt.refl _)) | exact se rfl (CEnt.agg6 (CEnt.refl _) (CEnt.refl _) (CEnt.refl _) (CEnt.refl _) (CEnt.refl _) (CEnt.refl _)) | exact se_frzB _ rfl rfl rfl (by simp) (fun _ _ => CEnt.refl _)) ?_))) (hd : o.dst = some d := by exact rfl) (hN : Nat.blt d G.N = true := by exact rfl) : AEx P G o ⟨env, b0, H⟩ K := e_callS ho hc hA he hd hN hK
theorem jecO {f : FuncId} {xs : Array Operand} {ats : Array TypeId} {args : List CV} {n m N : Nat} {F : Nat → CV} {d : Nat} (hA : AC G.gs P f [] args (OwnQ n m N F)) (hK : ∀ g, K ⟨(d, .os H.length g 0 n m) :: env, b0, H ++ [(g, .blk N F)]⟩) (ho : o.op = .call ⟨.value (.func f), xs, ats⟩ := by exact rfl) (hc : calleeB P f = true := by kernel_rfl) (he : SEL G ⟨env, b0, H⟩ xs.toList args := by (repeat (first | exact .nil | refine .cons (by first | exact se rfl (CEnt.refl _) | exact se rfl CEnt.nil | exact se rfl CEnt.nilB | exact se rfl (CEnt.osI rfl) | exact se rfl CEnt.opI | exact se_nilO rfl | exact se rfl (CEnt.agg2 (CEnt.refl _) (CEnt.refl _)) | exact se rfl (CEnt.agg3 (CEnt.refl _) (CEnt.refl _) (CEnt.refl _)) | exact se rfl (CEnt.agg4 (CEnt.refl _) (CEnt.refl _) (CEnt.refl _) (CEnt.refl _)) | exact se rfl (CEnt.agg5 (CEnt.refl _) (CEnt.refl _) (CEnt.refl _) (CEnt.refl _) (CEnt.refl _)) | exact se rfl (CEnt.agg6 (CEnt.refl _) (CEnt.refl _) (CEnt.refl _) (CEnt.refl _) (CEnt.refl _) (CEnt.refl _)) | exact se_frzB _ rfl rfl rfl (by simp) (fun _ _ => CEnt.refl _)) ?_))) (hd : o.dst = some d := by exact rfl) (hN : Nat.blt d G.N = true := by exact rfl) : AEx P G o ⟨env, b0, H⟩ K := e_callO ho hc hA he hd hN hK
theorem jmcH (i : Nat) {f : FuncId} {xs : Array Operand} {ats : Array TypeId} {args : List CV} {Q : CV → List (Option Nat × Res) → Prop} {d : Nat} {x0 : Option Nat × Res} (hA : AC G.gs P f [x0] args Q) (hK : ∀ r H', Q r H' → ∃ x r', H' = [x] ∧ CEnt r r' ∧ K ⟨(d, r') :: env, b0, H.set i x⟩) (hi : H[i]? = some x0 := by exact rfl) (ho : o.op = .call ⟨.value (.func f), xs, ats⟩ := by exact rfl) (hc : calleeB P f = true := by kernel_rfl) (he : SEL G ⟨env, b0, H⟩ xs.toList args := by (repeat (first | exact .nil | refine .cons (by first | exact se rfl (CEnt.refl _) | exact se rfl CEnt.nil | exact se rfl CEnt.nilB | exact se rfl (CEnt.osI rfl) | exact se rfl CEnt.opI | exact se_nilO rfl | exact se rfl (CEnt.agg2 (CEnt.refl _) (CEnt.refl _)) | exact se rfl (CEnt.agg3 (CEnt.refl _) (CEnt.refl _) (CEnt.refl _)) | exact se rfl (CEnt.agg4 (CEnt.refl _) (CEnt.refl _) (CEnt.refl _) (CEnt.refl _)) | exact se rfl (CEnt.agg5 (CEnt.refl _) (CEnt.refl _) (CEnt.refl _) (CEnt.refl _) (CEnt.refl _)) | exact se rfl (CEnt.agg6 (CEnt.refl _) (CEnt.refl _) (CEnt.refl _) (CEnt.refl _) (CEnt.refl _) (CEnt.refl _)) | exact se_frzB _ rfl rfl rfl (by simp) (fun _ _ => CEnt.refl _)) ?_))) (hd : o.dst = some d := by exact rfl) (hN : Nat.blt d G.N = true := by exact rfl) : AMd P G o ⟨env, b0, H⟩ K := m_callH ho hc hi hA he hd hN hK
theorem jmcH0 (i : Nat) {f : FuncId} {xs : Array Operand} {ats : Array TypeId} {args : List CV} {Q : CV → List (Option Nat × Res) → Prop} {x0 : Option Nat × Res} (hA : AC G.gs P f [x0] args Q) (hK : ∀ r H', Q r H' → ∃ x, H' = [x] ∧ K ⟨env, b0, H.set i x⟩) (hi : H[i]? = some x0 := by exact rfl) (ho : o.op = .call ⟨.value (.func f), xs, ats⟩ := by exact rfl) (hc : calleeB P f = true := by kernel_rfl) (he : SEL G ⟨env, b0, H⟩ xs.toList args := by (repeat (first | exact .nil | refine .cons (by first | exact se rfl (CEnt.refl _) | exact se rfl CEnt.nil | exact se rfl CEnt.nilB | exact se rfl (CEnt.osI rfl) | exact se rfl CEnt.opI | exact se_nilO rfl | exact se rfl (CEnt.agg2 (CEnt.refl _) (CEnt.refl _)) | exact se rfl (CEnt.agg3 (CEnt.refl _) (CEnt.refl _) (CEnt.refl _)) | exact se rfl (CEnt.agg4 (CEnt.refl _) (CEnt.refl _) (CEnt.refl _) (CEnt.refl _)) | exact se rfl (CEnt.agg5 (CEnt.refl _) (CEnt.refl _) (CEnt.refl _) (CEnt.refl _) (CEnt.refl _)) | exact se rfl (CEnt.agg6 (CEnt.refl _) (CEnt.refl _) (CEnt.refl _) (CEnt.refl _) (CEnt.refl _) (CEnt.refl _)) | exact se_frzB _ rfl rfl rfl (by simp) (fun _ _ => CEnt.refl _)) ?_))) (hd : o.dst = none := by exact rfl) : AMd P G o ⟨env, b0, H⟩ K := m_callH0 ho hc hi hA he hd hK
theorem jmcO (i : Nat) {f : FuncId} {xs : Array Operand} {ats : Array TypeId} {args : List CV} {n m N : Nat} {F : Nat → CV} {d : Nat} {x0 : Option Nat × Res} (hA : AC G.gs P f [x0] args (OwnQ n m N F)) (hK : ∀ g, K ⟨(d, .os i g 0 n m) :: env, b0, H.set i (g, .blk N F)⟩) (hi : H[i]? = some x0 := by exact rfl) (ho : o.op = .call ⟨.value (.func f), xs, ats⟩ := by exact rfl) (hc : calleeB P f = true := by kernel_rfl) (he : SEL G ⟨env, b0, H⟩ xs.toList args := by (repeat (first | exact .nil | refine .cons (by first | exact se rfl (CEnt.refl _) | exact se rfl CEnt.nil | exact se rfl CEnt.nilB | exact se rfl (CEnt.osI rfl) | exact se rfl CEnt.opI | exact se_nilO rfl | exact se rfl (CEnt.agg2 (CEnt.refl _) (CEnt.refl _)) | exact se rfl (CEnt.agg3 (CEnt.refl _) (CEnt.refl _) (CEnt.refl _)) | exact se rfl (CEnt.agg4 (CEnt.refl _) (CEnt.refl _) (CEnt.refl _) (CEnt.refl _)) | exact se rfl (CEnt.agg5 (CEnt.refl _) (CEnt.refl _) (CEnt.refl _) (CEnt.refl _) (CEnt.refl _)) | exact se rfl (CEnt.agg6 (CEnt.refl _) (CEnt.refl _) (CEnt.refl _) (CEnt.refl _) (CEnt.refl _) (CEnt.refl _)) | exact se_frzB _ rfl rfl rfl (by simp) (fun _ _ => CEnt.refl _)) ?_))) (hd : o.dst = some d := by exact rfl) (hN : Nat.blt d G.N = true := by exact rfl) : AMd P G o ⟨env, b0, H⟩ K := m_callO ho hc hi hA he hd hN hK
theorem jmst (m : Nat) {t : TypeId} {p q : Operand} {i off n : Nat} {g : Option Nat} {f : Nat → CV} {c : CV} {l : List CV} (hK : K ⟨env, b0, H.set i (g, .blk n (updF f off l))⟩) (ho : o.op = .store t p q := by exact rfl) (hx : (⟨env, b0, H⟩ : AS).eval p = .op i g off := by exact rfl) (hH : H[i]? = some (g, .blk n f) := by exact rfl) (hy : (⟨env, b0, H⟩ : AS).eval q = c := by first | exact jev_t rfl | exact jev_l rfl rfl rfl | exact jev_f rfl) (hl : cellsC c = some l := by exact rfl) (hm : l.length = m := by exact rfl) (h5 : (P.info? t).map (·.size) = some m := by kernel_rfl) (hleaf : l.all leafC = true := by exact rfl) (hn : off + m ≤ n := by first | decide | omega | (dsimp only at *; omega)) (hd : o.dst = none := by exact rfl) : AMd P G o ⟨env, b0, H⟩ K :=
  m_store ho hx hH hy hl h5 hm hleaf hn _ (fun _ _ => CEnt.refl _) hd hK
theorem jmstF (m : Nat) (F : Nat → CV) {t : TypeId} {p q : Operand} {i off n : Nat} {g : Option Nat} {f : Nat → CV} {c : CV} {l : List CV} (hF : ∀ j, j < n → CEnt (updF f off l j) (F j)) (hK : K ⟨env, b0, H.set i (g, .blk n F)⟩) (ho : o.op = .store t p q := by exact rfl) (hx : (⟨env, b0, H⟩ : AS).eval p = .op i g off := by exact rfl) (hH : H[i]? = some (g, .blk n f) := by exact rfl) (hy : (⟨env, b0, H⟩ : AS).eval q = c := by first | exact jev_t rfl | exact jev_l rfl rfl rfl | exact jev_f rfl) (hl : cellsC c = some l := by exact rfl) (hm : l.length = m := by exact rfl) (h5 : (P.info? t).map (·.size) = some m := by kernel_rfl) (hleaf : l.all leafC = true := by exact rfl) (hn : off + m ≤ n := by first | decide | omega | (dsimp only at *; omega)) (hd : o.dst = none := by exact rfl) : AMd P G o ⟨env, b0, H⟩ K :=
  m_store ho hx hH hy hl h5 hm hleaf hn F hF hd hK
/-! ### ends -/
theorem javc {d : Nat} {t : TypeId} {i off n : Nat} {g : Option Nat} {f : Nat → CV} {c : CV} (h : look s.env s.b d = .op i g off := by exact rfl) (hH : Holds s i g n f := by first | exact .inl rfl | exact .inr rfl) (hc : f off = c := by first | exact jflO_eq rfl | exact jfz_eq rfl) (hn : off < n := by first | decide | omega | (dsimp only at *; omega)) (hT : jldQ P t = true := by kernel_rfl) : ARV P G s (.cell d t) c := by
  obtain ⟨ds, h1, ha⟩ := jldQ_ok hT
  exact arv_cell h hH h1 ha hn hc
theorem javA (m : Nat) {d : Nat} {t : TypeId} {i off n : Nat} {g : Option Nat} {f : Nat → CV} (h : look s.env s.b d = .op i g off := by exact rfl) (hH : Holds s i g n f := by first | exact .inl rfl | exact .inr rfl) (hn : off + m ≤ n := by first | decide | omega | (dsimp only at *; omega)) (hT : jtyQ P t m true = true := by kernel_rfl) : ARV P G s (.cell d t) (.agg m fun j => f (off + j)) := by
  obtain ⟨ds, h1, ha, h5⟩ := jtyQ_ok hT
  exact arv_cellA h hH h1 ha h5 hn
theorem javt {t : Nat} {c : CV} (h : s.eval (.tmp t) = c := by first | exact jev_t rfl | exact jev_l rfl rfl rfl | exact jev_f rfl) : ARV P G s (.tmp t) c := arv_tmp h
theorem jrt {fn : Func} {e : Exit} {v m : CV} (hres : ARes P G fn s v := by first | exact res_1 rfl javt | exact res_2 rfl javt javt | exact res_3 rfl javt javt javt | exact res_4 rfl javt javt javt javt | exact res_0 rfl) (hv : CEnt v m := by first | exact CEnt.refl _ | exact CEnt.nil) (he : e = .ret ∨ e = .normal := by first | exact .inl rfl | exact .inr rfl) : bodyR P G fn (fun r H => r = m ∧ H = []) e s := end_val he hres hv
theorem jlend {α : Type} {k : Nat} {φ : α → Prop} {μ : α → Nat} {D : List Nat} {M : α → List (Nat × CV)} {Hp : α → List (Option Nat × Res)} {b1 : Nat → CV} (p' : α) (h1 : φ p') (h2 : μ p' < k) (h5 : EntE s.env s.b (M p') := by (repeat (first | exact EntE.nil | refine EntE.cons (CEnt.refl _) ?_ | refine EntE.cons (CEnt.int (by omega)) ?_))) (h7 : HEnt (s.H.take (Hp p').length) (Hp p') := by (repeat (first | exact HEnt.nil | refine HEnt.same ?_ | refine HEnt.blk rfl (fun j hj => by rcases j with _|_|_|_|_|_|_|_|j <;> first | exact CEnt.refl _ | exact CEnt.int (by omega) | omega) ?_)))
    (h3 : BLe D b1 s.b := by first | exact .refl | exact .nest .refl rfl rfl | exact .nest (.nest .refl rfl rfl) rfl rfl | exact .nest (.nest (.nest .refl rfl rfl) rfl rfl) rfl rfl | (repeat (first | exact .refl | refine .nest ?_ rfl rfl | refine BLe.look2 ?_ rfl))) (h4 : (s.env.all fun x => D.any (Nat.beq x.1)) = true := by exact rfl) (h6 : (Hp p').length ≤ s.H.length := by exact Nat.le_of_ble_eq_true rfl) :
    ∃ p', φ p' ∧ μ p' < k ∧ BLe D b1 s.b ∧ (s.env.all fun x => D.any (Nat.beq x.1)) = true ∧ EntE s.env s.b (M p') ∧ (Hp p').length ≤ s.H.length ∧ HEnt (s.H.take (Hp p').length) (Hp p') := ⟨p', h1, h2, h3, h4, h5, h6, h7⟩
theorem jjend {α : Type} {φ : α → Prop} {D : List Nat} {M : α → List (Nat × CV)} {Hp : α → List (Option Nat × Res)} {b1 : Nat → CV} (p' : α) (h1 : φ p') (h5 : EntE s.env s.b (M p') := by (repeat (first | exact EntE.nil | refine EntE.cons (CEnt.refl _) ?_ | refine EntE.cons (CEnt.int (by omega)) ?_))) (h7 : HEnt (s.H.take (Hp p').length) (Hp p') := by (repeat (first | exact HEnt.nil | refine HEnt.same ?_ | refine HEnt.blk rfl (fun j hj => by rcases j with _|_|_|_|_|_|_|_|j <;> first | exact CEnt.refl _ | exact CEnt.int (by omega) | omega) ?_)))
    (h3 : BLe D b1 s.b := by first | exact .refl | exact .nest .refl rfl rfl | exact .nest (.nest .refl rfl rfl) rfl rfl | exact .nest (.nest (.nest .refl rfl rfl) rfl rfl) rfl rfl | (repeat (first | exact .refl | refine .nest ?_ rfl rfl | refine BLe.look2 ?_ rfl))) (h4 : (s.env.all fun x => D.any (Nat.beq x.1)) = true := by exact rfl) (h6 : (Hp p').length ≤ s.H.length := by exact Nat.le_of_ble_eq_true rfl) :
    ∃ p', φ p' ∧ BLe D b1 s.b ∧ (s.env.all fun x => D.any (Nat.beq x.1)) = true ∧ EntE s.env s.b (M p') ∧ (Hp p').length ≤ s.H.length ∧ HEnt (s.H.take (Hp p').length) (Hp p') := ⟨p', h1, h3, h4, h5, h6, h7⟩
end
section
variable {G : Gh} {o : Oper} {s : AS}
def jerrN : CV → Option Nat
  | .err k => some k
  | .c .nilIface => some 0
  | _ => none
def jerrZ (op : BinOp) (n : Nat) : Option Bool := match op with | .eql => some (decide (n = 0)) | .neq => some (decide (n ≠ 0)) | _ => none
theorem jre {op : BinOp} {x : Operand} {u : TypeId} {n : Nat} {z : Bool} (ho : o.op = .binOp op 27 x (.const .nilIface) u := by exact rfl) (hx : jerrN (s.eval x) = some n := by exact rfl) (hz : jerrZ op n = some z := by exact rfl) : ARd Tryd.prog G o s (.c (.bool z)) := by
  unfold jerrN at hx
  cases op <;> simp only [jerrZ, Option.some.injEq, reduceCtorEq] at hz
  all_goals subst hz
  · split at hx
    · rename_i h; cases hx; exact rd_eqE ho h
    · rename_i h; cases hx; exact rd_eqE0 ho h
    · cases hx
  · split at hx
    · rename_i h; cases hx; exact rd_neE ho h
    · rename_i h; cases hx; exact rd_neE0 ho h
    · cases hx
end
end Am
end Go.Proofs.YtdfjiodkmhpfkaaDoor

/- Slices of the library on bytes and numbers: Index, Contains, Reverse, Clone, Compare. -/
namespace Go.Proofs.YtdfjiodkmhpfkaaDoor
set_option linter.unusedVariables false
namespace Am
variable {gs : List Nat} [OkG gs]
open Go.RowKit
set_option maxRecDepth 100000

theorem isNaN8_ac {gs : List Nat} (c : UInt8) : ACp gs Tryd.prog 115 [.c (.int .u8 (c.toNat : Nat))] (.c (.bool false)) := by
  refine ac_of 6 Tryd.func115 rfl rfl rfl (fun al w0 F0 St0 => ?_)
  refine jcr ?_
  refine jq jrm ?_
  refine seq_nil ?_
  refine jcr ?_
  refine jq jrm ?_
  refine jq jrm ?_
  refine jq jrc ?_
  refine jq jrm ?_
  refine seq_nil ?_
  refine code_ret (jrt (hv := CEnt.bool (by simp)))
def cmp8 (a b : UInt8) : Int := if a.toNat < b.toNat then -1 else if b.toNat < a.toNat then 1 else 0
theorem cmp8_ac {gs : List Nat} (a b : UInt8) : ACp gs Tryd.prog 92 [.c (.int .u8 (a.toNat : Nat)), .c (.int .u8 (b.toNat : Nat))] (.c (.int .i64 (cmp8 a b))) := by
  refine ac_of 20 Tryd.func92 rfl rfl rfl (fun al w0 F0 St0 => ?_)
  refine jcr ?_
  refine jq jrm ?_
  refine seq_nil ?_
  refine jcr ?_
  refine jq jrm ?_
  refine jqe (jecP (isNaN8_ac a) ?_)
  refine jq jrm ?_
  refine seq_nil ?_
  refine jcr ?_
  refine jq jrm ?_
  refine jqe (jecP (isNaN8_ac b) ?_)
  refine jq jrm ?_
  refine seq_nil ?_
  refine jcs ?_
  refine jcr ?_
  refine jq jrm ?_
  refine seq_nil ?_
  refine jcc (fun h43 => ?_) fun h43 => ?_
  · refine jcs ?_
    refine jcr ?_
    refine jq jrm ?_
    refine seq_nil ?_
    refine jcc (fun h44 => ?_) fun h44 => ?_
    · refine jcr ?_
      refine jq jrm ?_
      refine seq_nil ?_
      refine code_ret (jtr (jtr (jrt (hv := ?_))))
      first | (exfalso; simp at *; done) | (refine CEnt.int ?_; unfold cmp8; split <;> first | omega | (split <;> omega))
    refine code_skip (jtn ?_)
    refine jcr ?_
    refine jq jrm ?_
    refine seq_nil ?_
    refine code_ret (jtr (jrt (hv := ?_)))
    first | (exfalso; simp at *; done) | (refine CEnt.int ?_; unfold cmp8; split <;> first | omega | (split <;> omega))
  refine code_skip (jtn ?_)
  refine jcs ?_
  refine jcr ?_
  refine jq jrm ?_
  refine seq_nil ?_
  refine jcc (fun h49 => ?_) fun h49 => ?_
  · refine jcr ?_
    refine jq jrm ?_
    refine seq_nil ?_
    refine code_ret (jtr (jrt (hv := ?_)))
    first | (exfalso; simp at *; done) | (refine CEnt.int ?_; unfold cmp8; split <;> first | omega | (split <;> omega))
  refine code_skip (jtn ?_)
  refine jcs ?_
  refine jcr ?_
  refine jq jrm ?_
  refine jq jrm ?_
  refine jq jrc ?_
  refine seq_nil ?_
  refine jcc (fun h52 => ?_) fun h52 => ?_
  · refine jcr ?_
    refine jq jrm ?_
    refine seq_nil ?_
    refine code_ret (jtr (jrt (hv := ?_)))
    first | (exfalso; simp at *; done) | (refine CEnt.int ?_; unfold cmp8; split <;> first | omega | (split <;> omega))
  refine code_skip (jtn ?_)
  refine jcs ?_
  refine jcr ?_
  refine jq jrm ?_
  refine jq jrm ?_
  refine jq jrc ?_
  refine seq_nil ?_
  refine jcc (fun h55 => ?_) fun h55 => ?_
  · refine jcr ?_
    refine jq jrm ?_
    refine seq_nil ?_
    refine code_ret (jtr (jrt (hv := ?_)))
    first | (exfalso; simp at *; done) | (refine CEnt.int ?_; unfold cmp8; split <;> first | omega | (split <;> omega))
  refine code_skip (jtn ?_)
  refine jcr ?_
  refine jq jrm ?_
  refine seq_nil ?_
  refine code_ret (jrt (hv := ?_))
  first | (exfalso; simp at *; done) | (refine CEnt.int ?_; unfold cmp8; split <;> first | omega | (split <;> omega))
/-- bytes in order -/
def cmpL : List UInt8 → List UInt8 → Int
  | [], [] => 0
  | [], _ :: _ => -1
  | _ :: _, [] => 1
  | a :: l, b :: r => if cmp8 a b ≠ 0 then cmp8 a b else cmpL l r
theorem cmpL_lt : ∀ l r : List UInt8, decide (cmpL l r < 0) = Op.bytesLess l r
  | [], [] => by simp [cmpL, Op.bytesLess]
  | [], _ :: _ => by simp [cmpL, Op.bytesLess]
  | _ :: _, [] => by simp [cmpL, Op.bytesLess]
  | a :: l, b :: r => by
    have ih := cmpL_lt l r
    rw [cmpL, Op.bytesLess, ← ih]
    have h1 : (a < b) ↔ a.toNat < b.toNat := UInt8.lt_iff_toNat_lt
    have h2 : (a = b) ↔ a.toNat = b.toNat := UInt8.toNat_inj.symm
    rw [Bool.eq_iff_iff]
    simp only [decide_eq_true_eq, Bool.or_eq_true, Bool.and_eq_true, beq_iff_eq, h1, h2]
    by_cases h3 : a.toNat < b.toNat
    · simp [cmp8, h3]
    · by_cases h4 : b.toNat < a.toNat
      · simp [cmp8, h3, h4]
        omega
      · have h5 : a.toNat = b.toNat := by omega
        simp [cmp8, h5]
theorem cmpL_eq : ∀ l r : List UInt8, cmpL l r = 0 ↔ l = r
  | [], [] => by simp [cmpL]
  | [], _ :: _ => by simp [cmpL]
  | _ :: _, [] => by simp [cmpL]
  | a :: l, b :: r => by
    have ih := cmpL_eq l r
    have h2 : (a = b) ↔ a.toNat = b.toNat := UInt8.toNat_inj.symm
    rw [cmpL, List.cons.injEq, h2]
    by_cases h3 : a.toNat < b.toNat
    · simp [cmp8, h3]
      omega
    · by_cases h4 : b.toNat < a.toNat
      · simp [cmp8, h3, h4]
        omega
      · have h5 : a.toNat = b.toNat := by omega
        simp [cmp8, h5, ih]
theorem cmpL_bd (l r : List UInt8) : -1 ≤ cmpL l r ∧ cmpL l r ≤ 1 := by
  induction l generalizing r with
  | nil => cases r <;> simp [cmpL]
  | cons a l ih =>
    cases r with
    | nil => simp [cmpL]
    | cons b r =>
      rw [cmpL]
      split
      · unfold cmp8; split <;> first | omega | (split <;> omega)
      · exact ih r
theorem cmpL_drop {l r : List UInt8} {i : Nat} (h1 : i < l.length) (h2 : i < r.length) : cmpL (l.drop i) (r.drop i) = if cmp8 (l.getD i 0) (r.getD i 0) ≠ 0 then cmp8 (l.getD i 0) (r.getD i 0) else cmpL (l.drop (i + 1)) (r.drop (i + 1)) := by
  rw [List.drop_eq_getElem_cons h1, List.drop_eq_getElem_cons h2, cmpL]
  simp [List.getD, h1, h2]
theorem compare8_ac {gs : List Nat} (l r : List UInt8) : ACp gs Tryd.prog 58 [bsC l, bsC r] (.c (.int .i64 (cmpL l r))) := by
  refine ac_len 0 rfl fun hlen => ?_
  refine ac_of 36 Tryd.func58 rfl rfl rfl (fun al w0 F0 St0 => ?_)
  refine jcr ?_
  refine jq jrm ?_
  refine seq_nil ?_
  refine jcs ?_
  refine jcr ?_
  refine jq jrm ?_
  refine jq jrl ?_
  refine jq jrm ?_
  refine seq_nil ?_
  refine code_block ?_
  refine l_loop (α := Nat) [4, 5, 6, 7, 8, 11, 12, 13, 14, 15, 16, 17, 18, 19, 20, 21, 22, 23, 24, 25, 26, 27, 28, 29, 30] (fun i => [(11, .c (.int .i64 (i : Nat)))]) (fun _ => []) (fun i => i ≤ l.length ∧ i ≤ r.length ∧ cmpL (l.drop i) (r.drop i) = cmpL l r) (fun i => l.length - i) (0) ?_ (fun _ => rfl) ?_ ?_ ?_
  · exact ⟨by omega, by omega, rfl⟩
  · (repeat (first | exact EntE.nil | refine EntE.cons (CEnt.refl _) ?_ | refine EntE.cons (CEnt.int (by omega)) ?_))
  · (repeat (first | exact HEnt.nil | refine HEnt.same ?_ | refine HEnt.blk rfl (fun j hj => by rcases j with _|_|_|_|_|_|_|_|j <;> first | exact CEnt.refl _ | exact CEnt.int (by omega) | omega) ?_))
  · rintro i ⟨hi, hj, he⟩
    refine jcr ?_
    refine jq jrc ?_
    refine seq_nil ?_
    refine jcs ?_
    refine jcc (fun h58 => ?_) fun h58 => ?_
    rotate_left
    · refine code_exit (jte (jte (jbx (jtn ?_))))
      refine jcs ?_
      refine jcr ?_
      refine jq jrm ?_
      refine jq jrl ?_
      refine jq jrm ?_
      refine jq jrl ?_
      refine jq jrc ?_
      refine seq_nil ?_
      refine jcc (fun h67 => ?_) fun h67 => ?_
      · refine jcr ?_
        refine jq jrm ?_
        refine seq_nil ?_
        refine code_ret (jtr (jrt (hv := ?_)))
        refine CEnt.int ?_
        have h1 : l.drop i = [] := List.drop_eq_nil_of_le (by omega)
        rw [← he, h1]
        first | (rw [List.drop_eq_nil_of_le (show r.length ≤ i by omega)]; rfl) | (rw [List.drop_eq_getElem_cons (show i < r.length by omega)]; rfl)
      refine code_skip (jtn ?_)
      refine jcr ?_
      refine jq jrm ?_
      refine seq_nil ?_
      refine code_ret (jrt (hv := ?_))
      refine CEnt.int ?_
      have h1 : l.drop i = [] := List.drop_eq_nil_of_le (by omega)
      rw [← he, h1]
      first | (rw [List.drop_eq_nil_of_le (show r.length ≤ i by omega)]; rfl) | (rw [List.drop_eq_getElem_cons (show i < r.length by omega)]; rfl)
    refine code_skip (jtn ?_)
    refine jcs ?_
    refine code_block ?_
    refine jcr ?_
    refine jq jrm ?_
    refine jq jri ?_
    first | refine jqo jrdo ?_ | refine jq jrdr ?_
    refine jq jrm ?_
    refine jq jrm ?_
    refine seq_nil ?_
    refine jcs ?_
    refine jcr ?_
    refine jq jrm ?_
    refine jq jrm ?_
    refine jq jrl ?_
    refine jq jrc ?_
    refine seq_nil ?_
    refine jcc (fun h59 => ?_) fun h59 => ?_
    · refine jcr ?_
      refine jq jrm ?_
      refine seq_nil ?_
      refine code_ret (jtr (jbr (jtr (jtr (jbr (jtr (jrt (hv := ?_))))))))
      refine CEnt.int ?_
      have : r.drop i = [] := List.drop_eq_nil_of_le (by omega)
      rw [← he, this, List.drop_eq_getElem_cons (by omega)]
      rfl
    refine code_skip (jtn ?_)
    refine jcr ?_
    refine jq jrm ?_
    refine jq jrm ?_
    refine jq jri ?_
    first | refine jqo jrdo ?_ | refine jq jrdr ?_
    refine jq jrm ?_
    refine seq_nil ?_
    refine jcr ?_
    refine jq jrm ?_
    refine jq jrm ?_
    refine jqe (jecP (cmp8_ac (l.getD i 0) (r.getD i 0)) ?_)
    refine jq jrm ?_
    refine seq_nil ?_
    refine jcr ?_
    refine jq jrm ?_
    refine jq jrc ?_
    refine seq_nil ?_
    refine jcc (fun h63 => ?_) fun h63 => ?_
    · refine jcr ?_
      refine jq jrm ?_
      refine jq jrm ?_
      refine seq_nil ?_
      refine code_ret (jbr (jtr (jtr (jbr (jtr (jrt (hv := ?_)))))))
      refine CEnt.int ?_
      rw [← he, cmpL_drop (l := l) (r := r) (i := i) (by omega) (by omega), if_pos h63]
    refine code_skip (jbn (jtn ?_))
    refine jcg ?_
    refine jq jra ?_
    refine jq jrm ?_
    refine seq_nil ?_
    refine jtn ?_
    refine jlend (i + 1) ?_ ?_
    · exact ⟨by omega, by omega, by rw [← he, cmpL_drop (l := l) (r := r) (i := i) (by omega) (by omega), if_neg h63]⟩
    · omega

/-- where a number first stands -/
def idxI (l : List Int) (x : Int) : Int := if x ∈ l then (l.idxOf x : Nat) else -1
/-- a list, turned at its ends up to i -/
def revJ (l : List UInt8) (i : Nat) : List UInt8 := (List.range l.length).map fun j => if j < i ∨ l.length ≤ j + i then l.reverse.getD j 0 else l.getD j 0
theorem revJ_len (l : List UInt8) (i : Nat) : (revJ l i).length = l.length := by simp [revJ]
theorem revJ_get {l : List UInt8} {i j : Nat} (h : j < l.length) : (revJ l i).getD j 0 = if j < i ∨ l.length ≤ j + i then l.reverse.getD j 0 else l.getD j 0 := by simp [revJ, List.getD, h]
theorem rev_get {l : List UInt8} {j : Nat} (h : j < l.length) : l.reverse.getD j 0 = l.getD (l.length - 1 - j) 0 := by
  simp [List.getD, List.getElem?_reverse h, show l.length - 1 - j < l.length by omega]
theorem revJ_all {l : List UInt8} {i : Nat} (h : l.length ≤ 2 * i + 1) : revJ l i = l.reverse := by
  apply List.ext_getElem
  · simp [revJ]
  · intro j h1 h2
    have hj : j < l.length := by simpa using h2
    have e := revJ_get (i := i) hj
    simp only [List.getD_eq_getElem?_getD, List.getElem?_eq_getElem h1, List.getElem?_eq_getElem h2, List.getElem?_eq_getElem hj, Option.getD_some] at e
    rw [e]
    split
    · rfl
    · have : j = l.length - 1 - j := by omega
      rw [List.getElem_reverse]
      congr 1
theorem revJ_zero (l : List UInt8) : revJ l 0 = l := by
  apply List.ext_getElem
  · simp [revJ]
  · intro j h1 h2
    have e := revJ_get (i := 0) h2
    simp only [List.getD_eq_getElem?_getD, List.getElem?_eq_getElem h1, List.getElem?_eq_getElem h2, Option.getD_some] at e
    rw [e, if_neg (by omega)]
def OwnL (g : Option Nat) (l : List UInt8) : CV → List (Option Nat × Res) → Prop := fun r H' => r = .c (.tuple #[]) ∧ H' = [(g, .blk l.length (byF l))]
theorem reverse8_ac {gs : List Nat} (g : Option Nat) (l : List UInt8) (hl : l.length ≤ 100000000000) : AC gs Tryd.prog 62 [(g, .blk l.length (byF l))] [.os 0 g 0 l.length 1] (OwnL g l.reverse) := by
  refine ac_of 28 Tryd.func62 rfl rfl rfl (fun al w0 F0 St0 => ?_)
  refine jcr ?_
  refine jq jrm ?_
  refine jq jrl ?_
  refine jq jra ?_
  refine jq jrm ?_
  refine jq jrm ?_
  refine seq_nil ?_
  refine code_block ?_
  refine l_loop (α := Nat) [2, 3, 7, 8, 9, 10, 11, 12, 13, 14, 15, 16, 17, 18, 19, 20, 21, 22, 23, 24, 25, 26, 27] (fun i => [(2, .c (.int .i64 (i : Nat))), (3, .c (.int .i64 ((l.length : Int) - 1 - i)))]) (fun i => [(g, .blk l.length (byF (revJ l i)))]) (fun i => 2 * i ≤ l.length + 1) (fun i => l.length - i) (0) ?_ (fun _ => rfl) ?_ ?_ ?_
  · show 2 * 0 ≤ l.length + 1; omega
  · exact .cons (CEnt.refl _) (.cons (CEnt.int (by omega)) .nil)
  · exact .blk rfl (fun j hj => by rw [revJ_zero]; exact CEnt.refl _) .nil
  · rintro i (hi : 2 * i ≤ l.length + 1)
    refine jcs ?_
    refine jcr ?_
    refine jq jrm ?_
    refine jq jrm ?_
    refine jq jrc ?_
    refine seq_nil ?_
    refine jcc (fun h484 => ?_) fun h484 => ?_
    rotate_left
    · refine code_exit (jte (jte (jbx ?_)))
      exact end_own (.inr rfl) _ _ [0] (by decide) rfl (res_0 rfl) ⟨rfl, by show [(g, Res.blk l.length (byF (revJ l i)))] = _; rw [revJ_all (by omega), List.length_reverse]⟩
    refine code_skip (jtn ?_)
    refine jcs ?_
    refine code_block ?_
    refine jcdZ (.rd 0 (.rd 1 (.rd 2 (.rd 3 (.rd 4 (.rd 5 (.rd 6 (.rd 7 (.rd 8 (.rd 9 (.rd 10 (.rd 11 (.rd 12 (.one 13 (.rd 14 (.one 15 .done)))))))))))))))) ?_
    refine jzq jrm ?_
    refine jzq jrm ?_
    refine jzq jrm ?_
    refine jzq jrm ?_
    refine jzq jrm ?_
    refine jzq jrm ?_
    refine jzq (jri (i := (l.length - 1 - i)) (hz := by first | omega | (simp only [List.length_append, List.length_cons, List.length_nil]; omega))) ?_
    first | refine jzo jrdo ?_ | refine jzq jrdr ?_
    refine jzq jrm ?_
    refine jzq jrm ?_
    refine jzq (jri (i := i) (hz := by first | omega | (simp only [List.length_append, List.length_cons, List.length_nil]; omega))) ?_
    first | refine jzo jrdo ?_ | refine jzq jrdr ?_
    refine jzq (jri (i := i) (hz := by first | omega | (simp only [List.length_append, List.length_cons, List.length_nil]; omega))) ?_
    refine jzm (jmst 1 ?_)
    refine jzq (jri (i := (l.length - 1 - i)) (hz := by first | omega | (simp only [List.length_append, List.length_cons, List.length_nil]; omega))) ?_
    refine jzm (jmst 1 ?_)
    refine jzd ?_
    refine jbn (jtn ?_)
    refine jcg ?_
    refine jq jrm ?_
    refine jq jra ?_
    refine jq jrm ?_
    refine jq jra ?_
    refine jq jrm ?_
    refine jq jrm ?_
    refine seq_nil ?_
    refine jtn ?_
    refine jlend (i + 1) ?_ ?_ (h7 := ?_)
    · show 2 * (i + 1) ≤ l.length + 1; omega
    · omega
    · exact .blk rfl (fun j hj => by
        refine (CEnt.of_eq (updF_one _ _ _ j)).trans ?_
        have hj : j < l.length := hj
        have e3 := revJ_get (i := i + 1) hj
        have ri := @rev_get l i (by omega)
        have rj := @rev_get l (l.length - 1 - i) (by omega)
        have ei := @revJ_get l i i (by omega)
        have ej := @revJ_get l i (l.length - 1 - i) (by omega)
        rw [if_neg (by omega)] at ei ej
        rw [show l.length - 1 - (l.length - 1 - i) = i by omega] at rj
        show CEnt (if j = _ then _ else updF (byF (revJ l i)) i [_] j) _
        rw [updF_one]
        unfold byF
        by_cases h1 : j = l.length - 1 - i
        · rw [if_pos h1]
          subst h1
          exact CEnt.int (by rw [ei, e3, if_pos (.inr (by omega)), rj])
        · rw [if_neg h1]
          by_cases h2 : j = i
          · rw [if_pos h2]
            subst h2
            exact CEnt.int (by rw [ej, e3, if_pos (.inl (by omega)), ri])
          · rw [if_neg h2]
            have e0 := revJ_get (i := i) hj
            refine CEnt.int ?_
            rw [e0, e3]
            by_cases h3 : j < i ∨ l.length ≤ j + i
            · rw [if_pos h3, if_pos (by omega)]
            · rw [if_neg h3, if_neg (by omega)]) .nil
end Am
end Go.Proofs.YtdfjiodkmhpfkaaDoor

/- slices.Compare at bytes: what it answers, and that the world is as it was. -/
namespace Go.Proofs.YtdfjiodkmhpfkaaDoor
set_option linter.unusedVariables false
open Go.RowKit
namespace Am
set_option maxRecDepth 100000

theorem isNaN8_run (x : Int) (w : World) : Calls Tryd.prog 115 #[.int .u8 x] w fun e w' => e = .returned (.bool false) ∧ w' = w := by
  go_enter Tryd.func115, Tryd.ntmps115
  go_wp2
  go_ret
  exact ⟨rfl, rfl⟩
set_option maxHeartbeats 1000000 in
theorem cmp8_run (a b : UInt8) (w : World) : Calls Tryd.prog 92 #[.int .u8 (a.toNat : Nat), .int .u8 (b.toNat : Nat)] w fun e w' => e = .returned (.int .i64 (cmp8 a b)) ∧ w' = w := by
  rcases Nat.lt_trichotomy a.toNat b.toNat with h | h | h
  · have HF : Hid (cmp8 a b = -1) := by unfold cmp8; rw [if_pos h]; rfl
    have h1 : decide (((a.toNat : Nat) : Int) < (b.toNat : Nat)) = true := by simp; omega
    go_enter Tryd.func92, Tryd.ntmps92
    go_wp2_with (go_at_call 115; refine (isNaN8_run _ _).mono ?_; rintro e w' ⟨rfl, rfl⟩)
    go_ret
    exact ⟨by rw [HF.out]; rfl, rfl⟩
  · have HF : Hid (cmp8 a b = 0) := by unfold cmp8; rw [if_neg (by omega), if_neg (by omega)]; rfl
    have h1 : decide (((a.toNat : Nat) : Int) < (b.toNat : Nat)) = false := by simp; omega
    have h2 : decide (((b.toNat : Nat) : Int) < (a.toNat : Nat)) = false := by simp; omega
    go_enter Tryd.func92, Tryd.ntmps92
    go_wp2_with (go_at_call 115; refine (isNaN8_run _ _).mono ?_; rintro e w' ⟨rfl, rfl⟩)
    go_ret
    exact ⟨by rw [HF.out]; rfl, rfl⟩
  · have HF : Hid (cmp8 a b = 1) := by unfold cmp8; rw [if_neg (by omega), if_pos h]; rfl
    have h1 : decide (((a.toNat : Nat) : Int) < (b.toNat : Nat)) = false := by simp; omega
    have h2 : decide (((b.toNat : Nat) : Int) < (a.toNat : Nat)) = true := by simp; omega
    go_enter Tryd.func92, Tryd.ntmps92
    go_wp2_with (go_at_call 115; refine (isNaN8_run _ _).mono ?_; rintro e w' ⟨rfl, rfl⟩)
    go_ret
    exact ⟨by rw [HF.out]; rfl, rfl⟩
theorem bs_cell {w : World} {ao : Option Addr} {n cap : Nat} {l : List UInt8} (h : Bs w (.slice ao n cap) l) {k : Nat} (hk : k < l.length) : ∃ b o, ao = some ⟨b, o, none⟩ ∧ w.cell? ⟨b, o + k, none⟩ = some (.int .u8 (l.getD k 0).toNat) := by
  obtain ⟨b, o, cap', e, h1, h2, h3⟩ := h.cons (by omega)
  injection e with e1 e2 e3
  exact ⟨b, o, e1, h3 k hk⟩
set_option maxHeartbeats 2000000 in
theorem compare8_run {w : World} {v1 v2 : Value} {l r : List UInt8} (h1 : Bs w v1 l) (h2 : Bs w v2 r) : Calls Tryd.prog 58 #[v1, v2] w fun e w' => e = .returned (.int .i64 (cmpL l r)) ∧ w' = w := by
  obtain ⟨ao1, cap1, rfl, a1, a2, -, -⟩ := id h1
  obtain ⟨ao2, cap2, rfl, b1, b2, -, -⟩ := id h2
  have H1 := Lib.hid h1
  have H2 := Lib.hid h2
  clear h1 h2
  have L1 : (l.length : Int) ≤ 9223372036854775807 := by omega
  have A1 := Lib.hid a1; have A2 := Lib.hid a2; have B1 := Lib.hid b1; have B2 := Lib.hid b2
  clear a1 a2 b1 b2
  go_enter Tryd.func58, Tryd.ntmps58
  go_wp2
  go_loopw [11] (fun i wr => ∃ k : Nat, Hid (k ≤ l.length ∧ k ≤ r.length ∧ cmpL (l.drop k) (r.drop k) = cmpL l r) ∧ i = .int .i64 k ∧ wr = w) (fun i _ => l.length - (intOf i).toNat)
  case atStart => exact ⟨0, ⟨Nat.zero_le _, Nat.zero_le _, rfl⟩, rfl, rfl⟩
  case round =>
    obtain ⟨k, HK, rfl, rfl⟩ := hrel
    by_cases hk : k < l.length
    · have q1 : decide ((k : Int) < (l.length : Int)) = true := by simp; omega
      obtain ⟨p1, o1, rfl, c1⟩ := bs_cell H1.out hk
      by_cases hr : k < r.length
      · have q2 : decide ((r.length : Int) ≤ (k : Int)) = false := by simp; omega
        obtain ⟨p2, o2, rfl, c2⟩ := bs_cell H2.out hr
        have HS := Lib.hid (cmpL_drop (l := l) (r := r) (i := k) hk hr)
        have i1 : (0 : Int) ≤ (k : Int) := by omega
        have i2 : (k : Int) < (l.length : Int) := by omega
        have i3 : (k : Int) < (r.length : Int) := by omega
        generalize l.getD k 0 = x at c1 HS
        generalize r.getD k 0 = y at c2 HS
        by_cases hz : cmp8 x y = 0
        · have HZ := Lib.hid hz
          have q3 : (cmp8 x y != 0) = false := by rw [hz]; rfl
          clear hz
          go_wp2_with (go_at_call 92; refine (cmp8_run _ _ _).mono ?_; rintro e w' ⟨rfl, rfl⟩)
          case roundEnd => exact ⟨⟨k + 1, ⟨by omega, by omega, by rw [← HK.out.2.2, HS.out, if_neg (fun e => e HZ.out)]⟩, by simp, trivial⟩, by simp [intOf]; omega⟩
        · have HF : Hid (cmpL l r = cmp8 x y) := by show _ = _; rw [← HK.out.2.2, HS.out, if_pos hz]
          have q3 : (cmp8 x y != 0) = true := by simp [hz]
          clear hz
          go_wp2_with (go_at_call 92; refine (cmp8_run _ _ _).mono ?_; rintro e w' ⟨rfl, rfl⟩)
          all_goals (go_ret; exact ⟨by rw [HF.out]; rfl, rfl⟩)
      · have HF : Hid (cmpL l r = 1) := by
          show _ = _
          rw [← HK.out.2.2, List.drop_eq_nil_of_le (by omega : r.length ≤ k), List.drop_eq_getElem_cons hk]; rfl
        have q2 : decide ((r.length : Int) ≤ (k : Int)) = true := by simp; omega
        have i1 : (0 : Int) ≤ (k : Int) := by omega
        have i2 : (k : Int) < (l.length : Int) := by omega
        go_wp2
        all_goals (go_ret; exact ⟨by rw [HF.out]; rfl, rfl⟩)
    · have q1 : decide ((k : Int) < (l.length : Int)) = false := by simp; omega
      have hkl : k = l.length := by have := HK.out.1; omega
      by_cases hr : l.length < r.length
      · have HF : Hid (cmpL l r = -1) := by
          show _ = _
          rw [← HK.out.2.2, hkl, List.drop_length, List.drop_eq_getElem_cons hr]; rfl
        have q2 : decide ((l.length : Int) < (r.length : Int)) = true := by simp; omega
        go_wp2
        all_goals (go_ret; exact ⟨by rw [HF.out]; rfl, rfl⟩)
      · have HF : Hid (cmpL l r = 0) := by
          show _ = _
          have e : r.length = l.length := by have := HK.out.2.1; omega
          rw [← HK.out.2.2, hkl, List.drop_length, ← e, List.drop_length]; rfl
        have q2 : decide ((l.length : Int) < (r.length : Int)) = false := by simp; omega
        go_wp2
        all_goals (go_ret; exact ⟨by rw [HF.out]; rfl, rfl⟩)
end Am
end Go.Proofs.YtdfjiodkmhpfkaaDoor

/- Bytes in order, and rows of bytes sorted: plain. -/
namespace Go.Proofs.YtdfjiodkmhpfkaaDoor
set_option linter.unusedVariables false
namespace Am

theorem cmp8_swap (a b : UInt8) : cmp8 b a = - cmp8 a b := by
  unfold cmp8
  rcases Nat.lt_trichotomy a.toNat b.toNat with h | h | h
  · rw [if_neg (by omega), if_pos h, if_pos h]; rfl
  · rw [if_neg (by omega), if_neg (by omega), if_neg (by omega), if_neg (by omega)]; rfl
  · rw [if_pos h, if_neg (by omega), if_pos h]
theorem cmp8_zero {a b : UInt8} (h : cmp8 a b = 0) : a = b := by
  unfold cmp8 at h
  split at h
  · omega
  · split at h
    · omega
    · exact UInt8.toNat_inj.1 (by omega)
theorem cmp8_iff (a b : UInt8) : (cmp8 a b < 0 ↔ a.toNat < b.toNat) ∧ (cmp8 a b ≤ 0 ↔ a.toNat ≤ b.toNat) := by
  unfold cmp8
  split
  · omega
  · split <;> omega
theorem cmpL_swap : ∀ l r : List UInt8, cmpL r l = - cmpL l r
  | [], [] => rfl
  | [], _ :: _ => rfl
  | _ :: _, [] => rfl
  | a :: l, b :: r => by
    have h := cmp8_swap a b
    have ih := cmpL_swap l r
    rw [cmpL, cmpL]
    by_cases e : cmp8 a b = 0
    · rw [if_neg (by omega), if_neg (by omega), ih]
    · rw [if_pos (by omega), if_pos e, h]
theorem cmpL_zero : ∀ {l r : List UInt8}, cmpL l r = 0 → l = r
  | [], [], _ => rfl
  | [], _ :: _, h => by simp [cmpL] at h
  | _ :: _, [], h => by simp [cmpL] at h
  | a :: l, b :: r, h => by
    rw [cmpL] at h
    by_cases e : cmp8 a b = 0
    · rw [if_neg (fun x => x e)] at h
      rw [cmp8_zero e, cmpL_zero h]
    · rw [if_pos e] at h; exact absurd h e
theorem cmpL_trans : ∀ {a b c : List UInt8}, cmpL a b ≤ 0 → cmpL b c ≤ 0 → cmpL a c ≤ 0
  | [], _, [], _, _ => Int.le_refl 0
  | [], _, _ :: _, _, _ => by show (-1 : Int) ≤ 0; decide
  | _ :: _, [], _, h, _ => by simp [cmpL] at h
  | _ :: _, _ :: _, [], _, h => by simp [cmpL] at h
  | x :: a, y :: b, z :: c, h1, h2 => by
    rw [cmpL] at h1 h2 ⊢
    have k1 := cmp8_iff x y; have k2 := cmp8_iff y z; have k3 := cmp8_iff x z
    by_cases e1 : cmp8 x y = 0
    · have e := cmp8_zero e1
      subst e
      rw [if_neg (fun q => q e1)] at h1
      by_cases e2 : cmp8 x z = 0
      · rw [if_neg (fun q => q e2)] at h2 ⊢
        exact cmpL_trans h1 h2
      · rw [if_pos e2] at h2 ⊢; exact h2
    · rw [if_pos e1] at h1
      by_cases e2 : cmp8 y z = 0
      · have e := cmp8_zero e2
        subst e
        rw [if_pos e1]; exact h1
      · rw [if_pos e2] at h2
        have e3 : cmp8 x z ≠ 0 := fun e => by
          have := cmp8_zero e
          subst this
          have := cmp8_swap x y
          omega
        rw [if_pos e3]
        omega
theorem cmpL_self (l : List UInt8) : cmpL l l = 0 := by have := cmpL_swap l l; omega
theorem cmpL_swo {α : Type} (L : α → List UInt8) : Go.Sort.SWO (fun x y : α => decide (cmpL (L x) (L y) < 0)) where
  irrefl := fun x => by rw [cmpL_self]; rfl
  trans := fun x y z h1 h2 => by
    simp only [decide_eq_true_eq] at h1 h2 ⊢
    have h3 := cmpL_trans (a := L x) (b := L y) (c := L z) (by omega) (by omega)
    by_cases e : cmpL (L x) (L z) = 0
    · have := cmpL_zero e
      have h4 := cmpL_swap (L y) (L z)
      rw [this] at h1
      omega
    · omega
  ntrans := fun x y z h1 h2 => by
    simp only [decide_eq_false_iff_not, Int.not_lt] at h1 h2 ⊢
    have s1 := cmpL_swap (L x) (L y); have s2 := cmpL_swap (L y) (L z); have s3 := cmpL_swap (L x) (L z)
    have h3 := cmpL_trans (a := L z) (b := L y) (c := L x) (by omega) (by omega)
    omega
def leL (a b : List UInt8) : Bool := decide (cmpL a b ≤ 0)
theorem leL_total (a b : List UInt8) : (leL a b || leL b a) = true := by
  have := cmpL_swap a b
  unfold leL
  by_cases h : cmpL a b ≤ 0
  · simp [h]
  · have : cmpL b a ≤ 0 := by omega
    simp [this]
theorem leL_trans (a b c : List UInt8) (h1 : leL a b = true) (h2 : leL b c = true) : leL a c = true := by
  unfold leL at h1 h2 ⊢
  simp only [decide_eq_true_eq] at h1 h2 ⊢
  exact cmpL_trans h1 h2
theorem leL_anti {a b : List UInt8} (h1 : leL a b = true) (h2 : leL b a = true) : a = b := by
  unfold leL at h1 h2
  simp only [decide_eq_true_eq] at h1 h2
  have := cmpL_swap a b
  exact cmpL_zero (by omega)
/-- rows of bytes, sorted -/
def sortL (ls : List (List UInt8)) : List (List UInt8) := ls.mergeSort leL
theorem sortL_perm (ls : List (List UInt8)) : (sortL ls).Perm ls := List.mergeSort_perm ls leL
theorem sortL_sorted (ls : List (List UInt8)) : (sortL ls).Pairwise fun a b => leL a b = true := List.pairwise_mergeSort leL_trans leL_total ls
theorem sorted_eq : ∀ {l r : List (List UInt8)}, l.Perm r → (l.Pairwise fun a b => leL a b = true) → (r.Pairwise fun a b => leL a b = true) → l = r
  | [], r, hp, _, _ => (List.nil_perm.1 hp).symm
  | a :: l, [], hp, _, _ => absurd hp.symm.nil_eq (by simp)
  | a :: l, b :: r, hp, h1, h2 => by
    have ha := List.pairwise_cons.1 h1
    have hb := List.pairwise_cons.1 h2
    have e : a = b := by
      have m1 : a ∈ b :: r := hp.subset (List.mem_cons_self ..)
      have m2 : b ∈ a :: l := hp.symm.subset (List.mem_cons_self ..)
      rcases List.mem_cons.1 m1 with h | h
      · exact h
      · rcases List.mem_cons.1 m2 with k | k
        · exact k.symm
        · exact leL_anti (ha.1 b k) (hb.1 a h)
    subst e
    rw [sorted_eq (List.perm_cons a |>.1 hp) ha.2 hb.2]
theorem sortL_of {l r : List (List UInt8)} (hp : l.Perm r) (h : l.Pairwise fun a b => leL a b = true) : l = sortL r := sorted_eq (hp.trans (sortL_perm r).symm) h (sortL_sorted r)
theorem sortL_perm_eq {l r : List (List UInt8)} (hp : l.Perm r) : sortL l = sortL r := sortL_of ((sortL_perm l).trans hp) (sortL_sorted l)
theorem sortL_length (ls : List (List UInt8)) : (sortL ls).length = ls.length := (sortL_perm ls).length_eq
end Am
end Go.Proofs.YtdfjiodkmhpfkaaDoor

/- slices.SortFunc with slices.Compare, at a call's own row of bytes. -/
namespace Go.Proofs.YtdfjiodkmhpfkaaDoor
set_option linter.unusedVariables false
open Go.RowKit
namespace Am
set_option maxRecDepth 100000
open Go.Sort (SWO PermIn SortedIn putCells putRow mapBlock ahead grow onCells)

def lbF (ls : List (List UInt8)) (j : Nat) : CV := bsC (ls.getD j [])
section
variable {α : Type} [Inhabited α] {enc : α → Value} {w : World} {g n : Nat} {d : Array α} {os : Array Obj}
theorem sortW_other {b : Nat} (hb : b < w.heap.size) (hn : b ≠ g) : (sortWorld enc w g 0 n d os).heap[b]? = w.heap[b]? := by
  show ((w.heap.modify g (onCells (putCells enc 0 d))) ++ os)[b]? = _
  rw [Array.getElem?_append_left (by simpa using hb), Array.getElem?_modify, if_neg (fun e => hn e.symm)]
theorem sortW_at {cur : Array Value} {t : TypeId} {z : Nat × Nat} (h : w.heap[g]? = some (.cells cur t z)) : (sortWorld enc w g 0 n d os).heap[g]? = some (.cells (putCells enc 0 d cur) t z) := by
  have hb : g < w.heap.size := (Array.getElem?_eq_some_iff.1 h).1
  show ((w.heap.modify g (onCells (putCells enc 0 d))) ++ os)[g]? = _
  rw [Array.getElem?_append_left (by simpa using hb), Array.getElem?_modify, if_pos rfl, h]
  rfl
theorem sortW_size : w.heap.size ≤ (sortWorld enc w g 0 n d os).heap.size := by
  show _ ≤ ((w.heap.modify g (onCells (putCells enc 0 d))) ++ os).size
  rw [Array.size_append, Array.size_modify]
  omega
end
theorem row_get {cs : Array Value} {m : Nat} {enc : Fin (m + 1) → Value} {d : Array (Fin (m + 1))} {i : Nat} (hi : i < d.size) (hc : d.size ≤ cs.size) : (putCells enc 0 d cs).getD i undef = enc d[i]! := by
  have h2 : i < (putCells enc 0 d cs).size := by simp [putCells]; omega
  rw [Array.getD_eq_getD_getElem?, Array.getElem?_eq_getElem h2]
  simp [putCells, hi]
theorem sort8_of {gs : List Nat} {P : Program} {fs fc : FuncId}
    (hnone : ∀ (p : Option Addr) (cap : Nat) (fv : Value) (w : World), Calls P fs #[.slice p 0 cap, fv] w fun e w' => e = .returned (.tuple #[]) ∧ w' = w)
    (hsort : ∀ (m : Nat) (enc : Fin (m + 1) → Value) (h1 : OneCell enc) (cf : Fin (m + 1) → Fin (m + 1) → Int) (hO : SWO (ltOf cf)) (blk cap : Nat) (d : Array (Fin (m + 1))) (w : World), CmpLays1 P fc #[] enc cf blk 0 d.size w → Go.Sort.Holds enc w blk 0 d → blk < w.heap.size → d.size < 4611686018427387904 →
      Calls P fs #[.slice (some ⟨blk, 0, none⟩) d.size cap, .func (.func fc) #[] #[]] w fun e w' => e = .returned (.tuple #[]) ∧ ∃ d' n os, PermIn 0 d.size d d' ∧ SortedIn (ltOf cf) 0 d.size d' ∧ w' = sortWorld enc w blk 0 n d' os)
    (hcmp : ∀ (w : World) (v1 v2 : Value) (l r : List UInt8), Bs w v1 l → Bs w v2 r → Calls P fc #[v1, v2] w fun e w' => e = .returned (.int .i64 (cmpL l r)) ∧ w' = w)
    (g : Option Nat) (ls : List (List UInt8)) (hl : ls.length ≤ 1000000000) : AC gs P fs [(g, .blk ls.length (lbF ls))] [.os 0 g 0 ls.length 1, .c (.func (.func fc) #[] #[])] (fun r H' => r = .c (.tuple #[]) ∧ H' = [(g, .blk ls.length (lbF (sortL ls)))]) := by
  intro al w St F0 vals he hs hv
  obtain ⟨fp, hp⟩ := he.hp
  have v0 := hv 0
  have v1 : vals.getD 1 undef = .func (.func fc) #[] #[] := hv 1
  have hnil : ls.length = 0 → sortL ls = ls := fun h => by
    have : ls = [] := List.eq_nil_of_length_eq_zero h
    subst this; simp [sortL]
  have same : ls.length = 0 → HRel al St w w.heap.size F0 [(g, .blk ls.length (lbF (sortL ls)))] := fun h => ⟨fp, by rw [hnil h]; exact hp⟩
  rw [vals2 hs, v1]
  by_cases hz : ls.length = 0
  · have hx : ∃ p cap, vals.getD 0 undef = .slice p 0 cap := by
      cases g with
      | none => exact ⟨none, 0, v0.2⟩
      | some b => obtain ⟨cap, h1, _⟩ := v0; exact ⟨_, cap, by rw [h1, hz]⟩
    obtain ⟨p, cap, hx⟩ := hx
    rw [hx]
    refine (hnone p cap _ w).mono ?_
    rintro e w' ⟨rfl, rfl⟩
    exact ⟨_, _, _, St, rfl, ⟨rfl, rfl⟩, rfl, Under.refl _ _, fun _ h => h, fun _ h => .inl h, he.s3, same hz⟩
  · cases g with
    | none => exact absurd v0.1 hz
    | some b =>
      obtain ⟨cap, h1, h2, h3, cur0, t0, z0, h4, h5⟩ := v0
      obtain ⟨hF, cur, t, k1, k2, k3⟩ := hp.rep 0 (some b) _ rfl
      have hF0 : F0 b := by
        rcases (hp.own 0 b ((hF b).2 rfl)).2.2 with h | h
        · have := (hp.own 0 b ((hF b).2 rfl)).1; omega
        · exact h
      have hSt : ∀ x, St x → x ≠ b := fun x hx e => (hp.own 0 b ((hF b).2 rfl)).2.1 (e ▸ hx)
      have hb : b < w.heap.size := (Array.getElem?_eq_some_iff.1 k1).1
      obtain ⟨m, hm⟩ : ∃ m, ls.length = m + 1 := ⟨ls.length - 1, by omega⟩
      let enc : Fin (m + 1) → Value := fun i => cur.getD i.val undef
      let d : Array (Fin (m + 1)) := Array.ofFn id
      have hd : d.size = ls.length := by simp [d, hm]
      have hrep : ∀ i : Fin (m + 1), RepC al St w (bsC (ls.getD i.val [])) (enc i) := fun i => k3 i.val (by omega)
      have hbs : ∀ (w' : World), KeepS St w w' → ∀ i : Fin (m + 1), Bs w' (enc i) (ls.getD i.val []) := fun w' hk i => bs_of_rep (rep_bs_keep (hrep i) hk)
      have hone : OneCell enc := fun i => by
        obtain ⟨ao, cap, e, _⟩ := hbs w (KeepS.refl _ _) i
        rw [e]; rfl
      have hkeep : ∀ (n : Nat) (d' : Array (Fin (m + 1))) (os : Array Obj), KeepS St w (sortWorld enc w b 0 n d' os) := fun n d' os x hx => sortW_other (he.s3 x hx) (hSt x hx)
      have hO := cmpL_swo (fun i : Fin (m + 1) => ls.getD i.val [])
      have hH : Go.Sort.Holds enc w b 0 d := fun j hj => by
        have hj2 : j < cur.size := by omega
        have e1 : d[j]! = ⟨j, by omega⟩ := by simp [d, show j < m + 1 by omega]
        refine ⟨?_, ?_⟩
        · simp only [World.cell?, k1, Nat.zero_add]
          rw [if_neg (by simp), e1]
          simp [enc, hj2]
        · simp [World.frozen?, k1]
      have key := hsort m enc hone (fun x y => cmpL (ls.getD x.val []) (ls.getD y.val [])) hO b cap d w (fun n os dk hdk x y => (hcmp _ _ _ _ _ (hbs _ (hkeep n dk os) x) (hbs _ (hkeep n dk os) y)).mono (by rintro e w' ⟨rfl, rfl⟩; exact ⟨rfl, 0, #[], by simp [World.drewN]⟩)) hH hb (by omega)
      rw [h1, ← hd]
      refine key.mono ?_
      rintro e w' ⟨rfl, d', n, os, hP, hS, rfl⟩
      have hd' : d'.size = ls.length := hP.1.trans hd
      have hms : (d'.toList.map fun i => ls.getD i.val []) = sortL ls := by
        refine sortL_of ?_ ?_
        · have h6 := hP.2.2
          have e1 : (d'.extract 0 d.size).toList = d'.toList := by rw [← hP.1]; simp
          have e2 : (d.extract 0 d.size).toList = d.toList := by simp
          rw [e1, e2] at h6
          refine (h6.map _).trans ?_
          have e3 : d.toList.map (fun i : Fin (m + 1) => ls.getD i.val []) = ls := by
            apply List.ext_getElem
            · simp [d, hm]
            · intro i h7 h8
              rw [List.getElem_map, Array.getElem_toList]
              have e4 : d[i]'(by rw [hd]; exact h8) = ⟨i, by omega⟩ := by simp only [d, Array.getElem_ofFn]; rfl
              rw [e4]; simp only [List.getD, List.getElem?_eq_getElem h8, Option.getD_some]
          rw [e3]
        · rw [List.pairwise_map, List.pairwise_iff_getElem]
          intro i j hi hj hij
          have h7 := hS i j (Nat.zero_le _) hij (by rw [← hP.1]; simpa using hj)
          have hi2 : i < d'.size := by simpa using hi
          have hj2 : j < d'.size := by simpa using hj
          rw [getElem!_pos d' i hi2, getElem!_pos d' j hj2] at h7
          unfold ltOf at h7
          simp only [decide_eq_false_iff_not, Int.not_lt] at h7
          have h8 := cmpL_swap (ls.getD (d'[j]).val []) (ls.getD (d'[i]).val [])
          unfold leL
          rw [decide_eq_true_eq]
          simp only [Array.getElem_toList]
          omega
      have hw := sortW_at (enc := enc) (n := n) (d := d') (os := os) k1
      have hsz := sortW_size (enc := enc) (w := w) (g := b) (n := n) (d := d') (os := os)
      have hput : (putCells enc 0 d' cur).size = cur.size := by simp [putCells]
      refine ⟨_, _, _, St, rfl, ⟨rfl, rfl⟩, rfl, ⟨rfl, rfl, rfl, hsz, fun x hx hn => sortW_other hx (fun e => hn (e ▸ hF0)), fun x cx tx zx hx => ?_⟩, fun _ h => h, fun _ h => .inl h, fun x hx => Nat.lt_of_lt_of_le (he.s3 x hx) hsz, fp, fun i g' r hi => ?_, hp.dis, fun i x hx => ?_, hp.out⟩
      · by_cases e : x = b
        · subst e
          rw [k1] at hx
          cases hx
          exact ⟨_, _, hw, hput⟩
        · exact ⟨cx, zx, (sortW_other (Array.getElem?_eq_some_iff.1 hx).1 e).trans hx, rfl⟩
      · cases i with
        | zero =>
          cases hi
          refine ⟨hF, _, t, hw, by rw [hput]; omega, fun i hi => ?_⟩
          have hi' : i < d'.size := by omega
          rw [row_get hi' (by omega)]
          have e : lbF (sortL ls) i = bsC (ls.getD (d'[i]!).val []) := by
            unfold lbF
            rw [← hms]
            simp [List.getD, hi']
          rw [e]
          exact rep_bs_keep (hrep _) (hkeep n d' os)
        | succ i => simp at hi
      · exact ⟨Nat.lt_of_lt_of_le (hp.own i x hx).1 hsz, (hp.own i x hx).2⟩
end Am
end Go.Proofs.YtdfjiodkmhpfkaaDoor

/- Slices of the library on slices of bytes: Grow at nil, Concat. -/
namespace Go.Proofs.YtdfjiodkmhpfkaaDoor
set_option linter.unusedVariables false
namespace Am
variable {gs : List Nat} [OkG gs]
open Go.RowKit
set_option maxRecDepth 100000

theorem grow8_ac {gs : List Nat} (n : Nat) (hn : n ≤ 100000000000) : AC gs Tryd.prog 93 [] [.c (.slice none 0 0), .c (.int .i64 (n : Nat))] (OwnQ 0 1 0 fun _ => .top) := by
  refine ac_of 27 Tryd.func93 rfl rfl rfl (fun al w0 F0 St0 => ?_)
  refine jcr ?_
  refine jq jrm ?_
  refine seq_nil ?_
  refine jcs ?_
  refine jcr ?_
  refine jq jrm ?_
  refine jq jrc ?_
  refine seq_nil ?_
  refine jcc (fun h423 => ?_) fun h423 => ?_
  · exfalso; omega
  refine code_skip (jtn ?_)
  refine jcs ?_
  refine jcr ?_
  refine jq jrm ?_
  refine jq jrm ?_
  refine jq (rd_capN rfl rfl Tryd.underlying46) ?_
  refine jq jrm ?_
  refine jq jrl ?_
  refine jq jra ?_
  refine jq jra ?_
  refine jq jrm ?_
  refine seq_nil ?_
  refine jcr ?_
  refine jq jrm ?_
  refine jq jrc ?_
  refine seq_nil ?_
  refine jcc (fun h426 => ?_) fun h426 => ?_
  rotate_left
  · refine code_skip (jtn ?_)
    first | refine code_ent (own_nil 0 1 (fun _ => .top) rfl) ?_ | skip
    refine jcr ?_
    refine jq jrm ?_
    refine jq jrm ?_
    refine seq_nil ?_
    refine code_ret ?_
    exact end_O 0 (.inl rfl) (res_1 rfl (arv_tmp rfl)) rfl rfl (Nat.le_refl _) (fun _ => rfl) (fun j hj => absurd hj (Nat.not_lt_zero j))
  refine jcg ?_
  refine jq jrm ?_
  refine jq jrm ?_
  refine jq (rd_capN rfl rfl Tryd.underlying46) ?_
  refine jq (rd_sliceN rfl rfl Tryd.underlying46 sz5 (bd_none _ _) (bd_some rfl (show _ = ((0 : Nat) : Int) by first | omega | (simp only [List.length_append, List.length_cons, List.length_nil]; omega))) (by (first | omega | decide | (dsimp only at *; omega))) (by (first | omega | decide | (dsimp only at *; omega)))) ?_
  refine jq jrm ?_
  refine jqe (e_appZ (F := fun _ => .top) rfl rfl rfl (show _ = ((n : Nat) : Int) by first | omega | (simp only [List.length_append, List.length_cons, List.length_nil]; omega)) (by (first | omega | decide | (dsimp only at *; omega))) Tryd.underlying46 Tryd.underlying3 sz5 (by decide) zr5 by5 (by (first | omega | decide | (dsimp only at *; omega))) (by (first | omega | decide | (dsimp only at *; omega))) rfl rfl rfl (fun p1 => ?_))
  refine jq jrm ?_
  refine jq jrl ?_
  first | refine jq (jrst (hz2 := (show _ = ((0 : Nat) : Int) by first | omega | (simp only [List.length_append, List.length_cons, List.length_nil]; omega)))) ?_ | refine jq (jrsr (hl := (bd_none _ _)) (hu := (bd_some rfl (show _ = ((0 : Nat) : Int) by first | omega | (simp only [List.length_append, List.length_cons, List.length_nil]; omega))))) ?_ | refine jq (jrso (hl := (bd_none _ _)) (hu := (bd_some rfl (show _ = ((0 : Nat) : Int) by first | omega | (simp only [List.length_append, List.length_cons, List.length_nil]; omega))))) ?_
  refine jq jrm ?_
  refine seq_nil ?_
  refine jtn ?_
  first | refine code_ent (own_nil 0 1 (fun _ => .top) rfl) ?_ | skip
  refine jcr ?_
  refine jq jrm ?_
  refine jq jrm ?_
  refine seq_nil ?_
  refine code_ret ?_
  exact end_O 0 (.inl rfl) (res_1 rfl (arv_tmp rfl)) rfl rfl (Nat.le_refl _) (fun _ => rfl) (fun j hj => absurd hj (Nat.not_lt_zero j))
theorem concat8_ac {gs : List Nat} (ls : List (List UInt8)) (h : sumL ls ≤ 10000000000) (hl : ls.length ≤ 1000000) : ACp gs Tryd.prog 59 [lbC ls] (bsC ls.flatten) := by
  refine ac_of 36 Tryd.func59 rfl rfl rfl (fun al w0 F0 St0 => ?_)
  refine jcr ?_
  refine jq jrm ?_
  refine seq_nil ?_
  refine jcr ?_
  refine jq jrm ?_
  refine seq_nil ?_
  refine jcs ?_
  refine jcr ?_
  refine jq jrm ?_
  refine jq jrl ?_
  refine jq jrm ?_
  refine seq_nil ?_
  refine code_block ?_
  refine l_loop (α := Nat) [3, 5, 11, 12, 13, 14, 15, 16, 17, 18, 19, 20, 21, 22] (fun i => [(3, .c (.int .i64 (sumL (ls.take i) : Nat))), (11, .c (.int .i64 (i : Nat)))]) (fun _ => []) (fun i => i ≤ ls.length) (fun i => ls.length - i) (0) ?_ (fun _ => rfl) ?_ ?_ ?_
  · exact Nat.zero_le _
  · exact .cons (CEnt.refl _) (.cons (CEnt.refl _) .nil)
  · (repeat (first | exact HEnt.nil | refine HEnt.same ?_ | refine HEnt.blk rfl (fun j hj => by rcases j with _|_|_|_|_|_|_|_|j <;> first | exact CEnt.refl _ | exact CEnt.int (by omega) | omega) ?_))
  · rintro i (hi : i ≤ ls.length)
    refine jcr ?_
    refine jq jrc ?_
    refine seq_nil ?_
    refine jcs ?_
    refine jcc (fun h493 => ?_) fun h493 => ?_
    · refine code_skip (jtn ?_)
      refine jcs ?_
      refine code_block ?_
      refine jcr ?_
      refine jq jri ?_
      first | refine jqo jrdo ?_ | refine jq jrdr ?_
      refine jq jrm ?_
      refine seq_nil ?_
      have hs1 := sumL_take (ls := ls) (i := i) (by omega)
      have hs2 := sumL_le ls (i + 1)
      refine jcr ?_
      refine jq jrm ?_
      refine jq jrm ?_
      refine jq jrl ?_
      refine jq jra ?_
      refine jq jrm ?_
      refine seq_nil ?_
      refine jcr ?_
      refine jq jrm ?_
      refine jq jrc ?_
      refine seq_nil ?_
      refine jcc (fun h495 => ?_) fun h495 => ?_
      · exfalso; omega
      refine code_skip (jbn (jtn ?_))
      refine jcg ?_
      refine jq jra ?_
      refine jq jrm ?_
      refine seq_nil ?_
      refine jtn ?_
      refine jlend (i + 1) ?_ ?_ (h5 := ?_)
      · show i + 1 ≤ ls.length; omega
      · omega
      · exact .cons (CEnt.int (by rw [sumL_take (by omega)]; omega)) (.cons (CEnt.int (by omega)) .nil)
    refine code_exit (jte (jte (jbx (jtn ?_))))
    have hs3 := sumL_le ls i
    refine jcr ?_
    refine jq jrm ?_
    refine jqe (jecO (grow8_ac (sumL (ls.take i)) (by omega)) (fun p1 => ?_))
    refine jq jrm ?_
    refine seq_nil ?_
    refine jcs ?_
    refine jcr ?_
    refine jq jrm ?_
    refine jq jrl ?_
    refine jq jrm ?_
    refine seq_nil ?_
    refine code_block ?_
    refine l_loop (α := Nat × Option Nat) [6, 8, 27, 28, 29, 30, 31, 32, 33, 34] (fun (j, g) => [(6, .os 0 g 0 ((ls.take j).flatten).length 1), (27, .c (.int .i64 (j : Nat)))]) (fun (j, g) => [(g, .blk ((ls.take j).flatten).length (byF (ls.take j).flatten))]) (fun j => j.1 ≤ ls.length) (fun j => ls.length - j.1) ((0, p1)) ?_ (fun _ => rfl) ?_ ?_ ?_
    · exact Nat.zero_le _
    · exact .cons (CEnt.refl _) (.cons (CEnt.refl _) .nil)
    · exact .blk rfl (fun j hj => absurd hj (Nat.not_lt_zero j)) .nil
    · rintro ⟨j, g'⟩ (hj : j ≤ ls.length)
      refine jcr ?_
      refine jq jrc ?_
      refine seq_nil ?_
      refine jcs ?_
      refine jcc (fun h503 => ?_) fun h503 => ?_
      rotate_left
      · refine code_exit (jte (jte (jbx (jtn ?_))))
        refine jcr ?_
        refine jq jrm ?_
        refine jq jrm ?_
        refine seq_nil ?_
        refine code_ent (freeze 0 rfl) ?_
        refine code_ent (thawB 2 ((ls.take j).flatten) rfl rfl (by first | rfl | simp) rfl) ?_
        refine code_ret (jrt (hv := ?_))
        refine CEnt.bs ?_
        rw [List.take_of_length_le (by omega)]
      refine code_skip (jtn ?_)
      refine jcs ?_
      refine code_block ?_
      refine jcr ?_
      refine jq jri ?_
      first | refine jqo jrdo ?_ | refine jq jrdr ?_
      refine jq jrm ?_
      refine seq_nil ?_
      have hf1 := sumL_take (ls := ls) (i := j) (by omega)
      have hf2 := sumL_le ls (j + 1)
      have hf3 := flat_len (ls.take j)
      refine jcg ?_
      refine jq jrm ?_
      refine jq jrm ?_
      first | refine jqm (m_appendB rfl rfl rfl (Nat.le_refl _) (fun _ _ => CEnt.refl _) (src_rs rfl) rfl (fun j hj => by simp only [Nat.div_one]; exact CEnt.refl _) Tryd.underlying46 nu46 sz5 zr5 by5 rfl (by first | omega | (simp; done) | (simp; omega) | (simp at *; omega)) (fun j hj => rfl) rfl rfl (fun p2 => ?_)) | refine jqm (m_appendB rfl rfl rfl (Nat.le_refl _) (fun _ _ => CEnt.refl _) (src_str rfl) rfl (fun j hj => CEnt.refl _) Tryd.underlying46 nu46 sz5 zr5 by5 rfl (by first | omega | (simp; done) | (simp; omega) | (simp at *; omega)) (fun j hj => rfl) rfl rfl (fun p2 => ?_)) | refine jqm (m_appendB rfl rfl rfl (Nat.le_refl _) (fun _ _ => CEnt.refl _) (src_os rfl (.inl rfl) (by omega)) rfl (fun j hj => by rw [Nat.zero_add]; exact CEnt.refl _) Tryd.underlying46 nu46 sz5 zr5 by5 rfl (by first | omega | (simp; done) | (simp; omega) | (simp at *; omega)) (fun j hj => rfl) rfl rfl (fun p2 => ?_))
      refine jq jrm ?_
      refine seq_nil ?_
      refine jbn (jtn ?_)
      refine jcg ?_
      refine jq jra ?_
      refine jq jrm ?_
      refine seq_nil ?_
      refine jtn ?_
      refine jlend ((j + 1, p2)) ?_ ?_ (h5 := ?_) (h7 := ?_)
      · show j + 1 ≤ ls.length; omega
      · show ls.length - (j + 1) < ls.length - j; omega
      · simp only [flat_take (show j < ls.length by omega)]
        exact .cons (CEnt.refl _) (.cons (CEnt.int (by omega)) .nil)
      · simp only [flat_take (show j < ls.length by omega)]
        exact .same .nil
end Am
end Go.Proofs.YtdfjiodkmhpfkaaDoor

/- Chapter 7: rows of bytes: cloned, sorted, told to be sorted, the same. -/
namespace Go.Proofs.YtdfjiodkmhpfkaaDoor
set_option linter.unusedVariables false
namespace Am
open Go.RowKit
set_option maxRecDepth 100000

theorem rowC_lb : RowC 1 lbF := fun l l2 j hj => by
  simp only [lbF, List.getD_eq_getElem?_getD]
  split
  · rw [List.getElem?_append_left (by omega)]
  · rw [List.getElem?_append_right (by omega), Nat.mul_one]
theorem lb_thaw {ls : List (List UInt8)} : ∀ a b, a < ls.length → b < 1 → CEnt (lbF ls (0 + (a * 1 + b))) (bsC (ls.getD a [])) := fun a b ha hb => CEnt.of_eq (by rw [show 0 + (a * 1 + b) = a by omega]; rfl)
theorem cloneL_ac {gs : List Nat} (l : List (List UInt8)) (hl : l.length ≤ 1000000) : AC gs Tryd.prog 56 [] [lbC l] (OwnQ l.length 1 l.length (lbF l)) := by
  refine ac_of 8 Tryd.func56 rfl rfl rfl (fun al w0 F0 St0 => ?_)
  refine jcr ?_
  refine jq jrm ?_
  refine seq_nil ?_
  refine jcs ?_
  refine jcr ?_
  refine jq jrm ?_
  refine seq_eqNil (wanted_none rfl) rfl rfl rfl Tryd.underlying45 rfl rfl (fun h357 => ?_) ?_
  · refine seq_nil ?_
    refine jcT ?_
    refine jcr ?_
    refine jq jrm ?_
    refine seq_nil ?_
    refine code_ent (own_nil 2 1 (lbF l) rfl) ?_
    refine code_ret (jtr ?_)
    exact end_O 0 (.inl rfl) (res_1 rfl (arv_tmp rfl)) rfl (by omega) (by omega) (fun _ => by omega) (fun j hj => by omega)
  · refine seq_nil ?_
    refine jcF ?_
    refine code_skip (jtn ?_)
    refine jcr ?_
    refine jqe (jebl 0 1 zr46 fun p1 => ?_)
    refine jq jrm ?_
    refine jqm (m_appendC (l := []) ( rowC_lb) rfl rfl rfl rfl (Nat.le_of_eq (Nat.zero_mul _)) (fun j hj => absurd hj (by simp)) (src_rs rfl) rfl (fun j hj => by first | exact CEnt.refl _ | (simp only [Nat.div_one]; exact CEnt.refl _)) Tryd.underlying45 nu45 sz46 zr46 by46 rfl (by first | omega | (simp; done) | (simp; omega) | (simp at *; omega)) (by first | omega | (simp; done) | (simp; omega) | (simp at *; omega)) (fun j hj => rfl) rfl rfl rfl (fun p2 => ?_))
    refine jq jrm ?_
    refine seq_nil ?_
    refine code_ret ?_
    exact end_O 0 (.inl rfl) (res_1 rfl (arv_tmp rfl)) rfl (by simp) (by simp) (fun _ => by simp) (fun j hj => CEnt.refl _)
theorem adj_sorted : ∀ {l : List (List UInt8)}, (∀ j, 1 ≤ j → j < l.length → leL (l.getD (j - 1) []) (l.getD j []) = true) → l.Pairwise fun a b => leL a b = true
  | [], _ => .nil
  | [a], _ => List.pairwise_cons.2 ⟨fun _ h => by simp at h, .nil⟩
  | a :: b :: r, h => by
    have ih := adj_sorted (l := b :: r) (fun j h1 h2 => by
      have := h (j + 1) (by omega) (by simpa using h2)
      obtain ⟨i, rfl⟩ : ∃ i, j = i + 1 := ⟨j - 1, by omega⟩
      simpa using this)
    have hab : leL a b = true := h 1 (Nat.le_refl _) (by simp)
    refine List.pairwise_cons.2 ⟨fun x hx => ?_, ih⟩
    rcases List.mem_cons.1 hx with rfl | hx
    · exact hab
    · exact leL_trans _ _ _ hab ((List.pairwise_cons.1 ih).1 x hx)
theorem sorted_adj {l : List (List UInt8)} (h : l.Pairwise fun a b => leL a b = true) {j : Nat} (h1 : 1 ≤ j) (h2 : j < l.length) : leL (l.getD (j - 1) []) (l.getD j []) = true := by
  have := List.pairwise_iff_getElem.1 h (j - 1) j (by omega) h2 (by omega)
  simpa [List.getD, h2, show j - 1 < l.length by omega] using this
theorem leL_cmp {a b : List UInt8} : leL a b = true ↔ 0 ≤ cmpL b a := by
  have := cmpL_swap a b
  unfold leL
  rw [decide_eq_true_eq]
  omega
theorem isSorted_ac {gs : List Nat} (l : List (List UInt8)) (hl : l.length ≤ 1000000) : ACp gs Tryd.prog 60 [lbC l, .fn 58 0 fun _ => .top] (.c (.bool (decide (sortL l = l)))) := by
  refine ac_of 25 Tryd.func60 rfl rfl rfl (fun al w0 F0 St0 => ?_)
  refine jcr ?_
  refine jq jrm ?_
  refine seq_nil ?_
  refine jcs ?_
  refine jcr ?_
  refine jq jrm ?_
  refine jq jrl ?_
  refine jq jra ?_
  refine jq jrm ?_
  refine seq_nil ?_
  refine code_block ?_
  refine l_loop (α := Int) [4, 5, 9, 10, 11, 12, 13, 14, 15, 16, 17, 18, 19, 20, 21, 22, 23, 24] (fun z => [(5, .c (.int .i64 z))]) (fun _ => []) (fun z => -1 ≤ z ∧ z ≤ (l.length : Int) - 1 ∧ ∀ j : Nat, 1 ≤ j → j < l.length → z < (j : Int) → leL (l.getD (j - 1) []) (l.getD j []) = true) (fun z => (z + 1).toNat) ((l.length : Int) - 1) ?_ (fun _ => rfl) ?_ ?_ ?_
  · exact ⟨by omega, by omega, fun j h1 h2 h3 => by omega⟩
  · (repeat (first | exact EntE.nil | refine EntE.cons (CEnt.refl _) ?_ | refine EntE.cons (CEnt.int (by omega)) ?_))
  · (repeat (first | exact HEnt.nil | refine HEnt.same ?_ | refine HEnt.blk rfl (fun j hj => by rcases j with _|_|_|_|_|_|_|_|j <;> first | exact CEnt.refl _ | exact CEnt.int (by omega) | omega) ?_))
  · rintro z ⟨hz1, hz2, hs⟩
    refine jcs ?_
    refine jcr ?_
    refine jq jrm ?_
    refine jq jrc ?_
    refine seq_nil ?_
    refine jcc (fun h54 => ?_) fun h54 => ?_
    rotate_left
    · refine code_exit (jte (jte (jbx (jtn ?_))))
      refine jcr ?_
      refine jq jrm ?_
      refine seq_nil ?_
      refine code_ret (jrt (hv := ?_))
      refine CEnt.bool ?_
      refine (decide_eq_true ?_).symm
      exact (sortL_of (List.Perm.refl l) (adj_sorted fun j h1 h2 => hs j h1 h2 (by omega))).symm
    refine code_skip (jtn ?_)
    refine jcs ?_
    refine code_block ?_
    refine jcs ?_
    refine jcd (.rd 0 (.rd 1 (.rd 2 (.rd 3 (.rd 4 (.rd 5 (.rd 6 (.rd 7 (.rd 8 (.rd 9 (.one 10 (.rd 11 .done)))))))))))) ?_
    refine jyq jrm ?_
    refine jyq jrm ?_
    refine jyq jrm ?_
    refine jyq (jri (i := z.toNat) (hz := by first | omega | (simp only [List.length_append, List.length_cons, List.length_nil]; omega))) ?_
    first | refine jyo jrdo ?_ | refine jyq jrdr ?_
    refine jyq jrm ?_
    refine jyq jrm ?_
    refine jyq jra ?_
    refine jyq (jri (i := (z - 1).toNat) (hz := by first | omega | (simp only [List.length_append, List.length_cons, List.length_nil]; omega))) ?_
    first | refine jyo jrdo ?_ | refine jyq jrdr ?_
    refine jye (e_callV rfl rfl (by first | assumption | kernel_rfl) (compare8_ac (l.getD z.toNat []) (l.getD (z - 1).toNat [])) (.cons (CEnt.refl _) (.cons (CEnt.refl _) .nil)) rfl rfl ?_)
    rintro _ _ ⟨rfl, rfl⟩
    refine jyq jrc ?_
    refine jyd ?_
    refine jtn ?_
    refine jcc (fun h55 => ?_) fun h55 => ?_
    · refine jcr ?_
      refine jq jrm ?_
      refine seq_nil ?_
      refine code_ret (jbr (jtr (jtr (jbr (jtr (jrt (hv := ?_)))))))
      refine CEnt.bool ?_
      refine (decide_eq_false fun h => ?_).symm
      have := sorted_adj (h ▸ sortL_sorted l) (j := z.toNat) (by omega) (by omega)
      rw [leL_cmp, show z.toNat - 1 = (z - 1).toNat by omega] at this
      omega
    refine code_skip (jbn (jtn ?_))
    refine jcg ?_
    refine jq jrm ?_
    refine jq jra ?_
    refine jq jrm ?_
    refine seq_nil ?_
    refine jtn ?_
    refine jlend (z - 1) ?_ ?_
    · exact ⟨by omega, by omega, fun j h1 h2 h3 => by
        by_cases e : (j : Int) = z
        · obtain rfl : z.toNat = j := by omega
          rw [leL_cmp, show z.toNat - 1 = (z - 1).toNat by omega]
          omega
        · exact hs j h1 h2 (by omega)⟩
    · omega
theorem sorted07_ac {gs : List Nat} (l : List (List UInt8)) (hl : l.length ≤ 1000000) : ACp gs Tryd.prog 29 [lbC l] (.c (.bool (decide (sortL l = l)))) := by
  refine ac_of 5 Tryd.func29 rfl rfl rfl (fun al w0 F0 St0 => ?_)
  refine jcr ?_
  refine jq jrm ?_
  refine seq_nil ?_
  refine jcr ?_
  refine jq jrm ?_
  refine jqe (jecP (isSorted_ac l hl) ?_ (ho := rfl) (he := (.cons (se rfl (CEnt.refl _)) (.cons (se rfl CEnt.fn0) .nil))))
  refine jq jrm ?_
  refine seq_nil ?_
  refine code_ret (jrt (hv := CEnt.refl _))
theorem bb_getD {l : List (List UInt8)} {i : Nat} (h : i < l.length) : l.getD i [] = l[i] := by simp [List.getD, h]
theorem sameLists_ac {gs : List Nat} (l r : List (List UInt8)) : ACp gs Tryd.prog 28 [lbC l, lbC r] (.c (.bool (decide (l = r)))) := by
  refine ac_len 0 rfl fun hlen => ?_
  refine ac_of 28 Tryd.func28 rfl rfl rfl (fun al w0 F0 St0 => ?_)
  refine jcr ?_
  refine jq jrm ?_
  refine seq_nil ?_
  refine jcs ?_
  refine jcr ?_
  refine jq jrm ?_
  refine jq jrl ?_
  refine jq jrm ?_
  refine jq jrl ?_
  refine jq jrc ?_
  refine seq_nil ?_
  refine jcc (fun h72 => ?_) fun h72 => ?_
  · refine jcr ?_
    refine jq jrm ?_
    refine seq_nil ?_
    refine code_ret (jtr (jrt (hv := ?_)))
    refine CEnt.bool ?_
    refine (decide_eq_false fun h => ?_).symm
    rw [h] at h72; omega
  refine code_skip (jtn ?_)
  refine jcs ?_
  refine jcr ?_
  refine jq jrm ?_
  refine jq jrl ?_
  refine jq jrm ?_
  refine seq_nil ?_
  refine code_block ?_
  refine l_loop (α := Nat) [4, 5, 13, 14, 15, 16, 17, 18, 19, 20, 21, 22, 23, 24, 25, 26, 27] (fun i => [(13, .c (.int .i64 (i : Nat)))]) (fun _ => []) (fun i => i ≤ l.length ∧ l.take i = r.take i) (fun i => l.length - i) (0) ?_ (fun _ => rfl) ?_ ?_ ?_
  · exact ⟨by omega, by simp⟩
  · (repeat (first | exact EntE.nil | refine EntE.cons (CEnt.refl _) ?_ | refine EntE.cons (CEnt.int (by omega)) ?_))
  · (repeat (first | exact HEnt.nil | refine HEnt.same ?_ | refine HEnt.blk rfl (fun j hj => by rcases j with _|_|_|_|_|_|_|_|j <;> first | exact CEnt.refl _ | exact CEnt.int (by omega) | omega) ?_))
  · rintro i ⟨hi, he⟩
    refine jcr ?_
    refine jq jrc ?_
    refine seq_nil ?_
    refine jcs ?_
    refine jcc (fun h75 => ?_) fun h75 => ?_
    rotate_left
    · refine code_exit (jte (jte (jbx (jtn ?_))))
      refine jcr ?_
      refine jq jrm ?_
      refine seq_nil ?_
      refine code_ret (jrt (hv := ?_))
      refine CEnt.bool ?_
      refine (decide_eq_true ?_).symm
      have e1 : l.take i = l := List.take_of_length_le (by omega)
      have e2 : r.take i = r := List.take_of_length_le (by omega)
      rw [← e1, he, e2]
    refine code_skip (jtn ?_)
    refine jcs ?_
    refine code_block ?_
    refine jcr ?_
    refine jq jrm ?_
    refine jq jrm ?_
    refine seq_nil ?_
    refine jcs ?_
    refine jcd (.rd 0 (.rd 1 (.rd 2 (.rd 3 (.rd 4 (.rd 5 (.rd 6 (.rd 7 (.rd 8 (.rd 9 (.rd 10 .done))))))))))) ?_
    refine jyq jrm ?_
    refine jyq jrm ?_
    refine jyq jri ?_
    first | refine jyo jrdo ?_ | refine jyq jrdr ?_
    first | refine jyq jrbs ?_ | refine jyo jrbo ?_ | refine jyq jrbn ?_
    refine jyq jrm ?_
    refine jyq jrm ?_
    refine jyq jri ?_
    first | refine jyo jrdo ?_ | refine jyq jrdr ?_
    first | refine jyq jrbs ?_ | refine jyo jrbo ?_ | refine jyq jrbn ?_
    refine jyq jrcs ?_
    refine jyd ?_
    refine jtn ?_
    refine jcc (fun h76 => ?_) fun h76 => ?_
    · refine jcr ?_
      refine jq jrm ?_
      refine seq_nil ?_
      refine code_ret (jbr (jtr (jtr (jbr (jtr (jrt (hv := ?_)))))))
      refine CEnt.bool ?_
      refine (decide_eq_false fun h => ?_).symm
      rw [h] at h76; exact h76 rfl
    refine code_skip (jbn (jtn ?_))
    refine jcg ?_
    refine jq jra ?_
    refine jq jrm ?_
    refine seq_nil ?_
    refine jtn ?_
    refine jlend (i + 1) ?_ ?_
    · exact ⟨by omega, by rw [List.take_succ_eq_append_getElem (show i < l.length by omega), List.take_succ_eq_append_getElem (show i < r.length by omega), he, ← bb_getD, ← bb_getD, Classical.not_not.1 h76]⟩
    · omega
end Am
end Go.Proofs.YtdfjiodkmhpfkaaDoor

/-
  DERIVED: THE SHELF's CONTRACTS AT THIS DUMP, IN PLAIN WORDS (tools/lay-plain.mjs out of 'TrydShelf.lean', which tools/lay-shelf.mjs wrote): THE SAME DECLARATIONS UNDER THE SAME NAMES: 'import', 'namespace', 'open', 'def', 'theorem' AND NOTHING ELSE: no command of the shelf's: FOR A HAND-IN. Each laying: the table of numbers ('.._ren') and one theorem, a field a fact of the dump's own or the kernel's comparison; each contract: ONE APPLICATION.
-/
namespace Go.Proofs
open Go.Shelf
def Tryd.lays169_ren : Go.Shelf.Ren := ⟨fun | 169 => 102 | n => n, fun | 70 => 144 | 9 => 9 | 0 => 0 | 72 => 146 | 37 => 46 | 127 => 175 | 3 => 3 | 5 => 5 | n => n, fun | n => n⟩
theorem Tryd.lays169 : Go.Proofs.Lays.n169 Tryd.prog Tryd.lays169_ren := {
  mixed := by kernel_rfl
  f169 := Tryd.func102.trans (congrArg some (by kernel_rfl))
  t0 := Tryd.underlying0
  a0 := Tryd.isAgg0
  z0 := Tryd.sizeOf0
  v0 := Tryd.zeroValue0
  t3 := Tryd.underlying3
  a3 := Tryd.isAgg3
  z3 := Tryd.sizeOf3
  v3 := Tryd.zeroValue3
  t9 := Tryd.underlying9
  a9 := Tryd.isAgg9
  z9 := Tryd.sizeOf9
  v9 := Tryd.zeroValue9
  t37 := Tryd.underlying46
  a37 := Tryd.isAgg46
  z37 := Tryd.sizeOf46
  v37 := Tryd.zeroValue46
  t70 := Tryd.underlying144
  a70 := Tryd.isAgg144
  z70 := Tryd.sizeOf144
  v70 := Tryd.zeroValue144
  t72 := Tryd.underlying146
  a72 := Tryd.isAgg146
  z72 := Tryd.sizeOf146
  v72 := Tryd.zeroValue146
  t127 := Tryd.underlying175
  a127 := Tryd.isAgg175
  z127 := Tryd.sizeOf175
  v127 := Tryd.zeroValue175 }
theorem Tryd.Builder_Extra_169 : Builder.Extra Tryd.prog Tryd.lays169_ren := {
  sizeBuilder := by kernel_rfl
  liesBuilder := by kernel_rfl
  t5 := Tryd.underlying5
  a5 := Tryd.isAgg5
  z5 := Tryd.sizeOf5
  v5 := Tryd.zeroValue5
  infoByte := by kernel_rfl
  cellsByte := by kernel_rfl
  sizeByte := by kernel_rfl
  neB5 := by decide }
open Go.RowKit in
/-- (*strings.Builder).String: "String returns the accumulated string.": OF A BUILDER THAT HOLDS AT LEAST ONE BYTE. ✋ THE MODEL FREEZES THOSE BYTES IN THE BUFFER (unsafe.String): a later write INTO them ends the model's run without an answer; a later append BEHIND them goes on. The statement's order of evaluation is drawn: one draw. (LAID: no walk: one application.) -/
theorem Tryd.Builder_String (B b : Nat) (l : List UInt8) (w : World) (h : Lib.IsBuilder 146 5 B b (Lib.byteCells l) w) (h0 : l ≠ []) :
    Calls Tryd.prog 102 #[.pointer (some ⟨b, 0, none⟩)] w fun e w' => e = .returned (.string ⟨l.toArray⟩) ∧ Below B w w' := Any.Builder_String Tryd.lays169 Tryd.Builder_Extra_169 B b l w h h0
open Go.RowKit in
/-- (*strings.Builder).String OF A BUILDER THAT HOLDS NO BYTE: the empty string. (Its buffer is nil, or a row of which it has taken nothing yet; where that row has NO capacity the model lays one new block for unsafe.SliceData's 'some address'.) One draw. (LAID: no walk: one application.) -/
theorem Tryd.Builder_String_empty (B b : Nat) (w : World) (h : Lib.IsBuilder 146 5 B b [] w) (hBw : B ≤ w.heap.size) :
    Calls Tryd.prog 102 #[.pointer (some ⟨b, 0, none⟩)] w fun e w' => e = .returned (.string ⟨#[]⟩) ∧ Below B w w' := Any.Builder_String_empty Tryd.lays169 Tryd.Builder_Extra_169 B b w h hBw
open Go.RowKit in
/-- (*strings.Builder).String: "String returns the accumulated string.": WHATEVER THE BUILDER HOLDS. (LAID: no walk: one application.) -/
theorem Tryd.Builder_String_any (B b : Nat) (l : List UInt8) (w : World) (h : Lib.IsBuilder 146 5 B b (Lib.byteCells l) w) (hBw : B ≤ w.heap.size) :
    Calls Tryd.prog 102 #[.pointer (some ⟨b, 0, none⟩)] w fun e w' => e = .returned (.string ⟨l.toArray⟩) ∧ Below B w w' := Any.Builder_String_any Tryd.lays169 Tryd.Builder_Extra_169 B b l w h hBw
def Tryd.lays241_ren : Go.Shelf.Ren := ⟨fun | 241 => 122 | 277 => 133 | n => n, fun | 70 => 144 | 3 => 3 | 0 => 0 | 72 => 146 | 37 => 46 | 5 => 5 | n => n, fun | n => n⟩
theorem Tryd.lays241 : Go.Proofs.Lays.n241 Tryd.prog Tryd.lays241_ren := {
  mixed := by kernel_rfl
  f241 := Tryd.func122.trans (congrArg some (by kernel_rfl))
  f277 := Tryd.func133.trans (congrArg some (by kernel_rfl))
  t0 := Tryd.underlying0
  a0 := Tryd.isAgg0
  z0 := Tryd.sizeOf0
  v0 := Tryd.zeroValue0
  t3 := Tryd.underlying3
  a3 := Tryd.isAgg3
  z3 := Tryd.sizeOf3
  v3 := Tryd.zeroValue3
  t37 := Tryd.underlying46
  a37 := Tryd.isAgg46
  z37 := Tryd.sizeOf46
  v37 := Tryd.zeroValue46
  t70 := Tryd.underlying144
  a70 := Tryd.isAgg144
  z70 := Tryd.sizeOf144
  v70 := Tryd.zeroValue144
  t72 := Tryd.underlying146
  a72 := Tryd.isAgg146
  z72 := Tryd.sizeOf146
  v72 := Tryd.zeroValue146 }
theorem Tryd.Builder_Extra_241 : Builder.Extra Tryd.prog Tryd.lays241_ren := {
  sizeBuilder := by kernel_rfl
  liesBuilder := by kernel_rfl
  t5 := Tryd.underlying5
  a5 := Tryd.isAgg5
  z5 := Tryd.sizeOf5
  v5 := Tryd.zeroValue5
  infoByte := by kernel_rfl
  cellsByte := by kernel_rfl
  sizeByte := by kernel_rfl
  neB5 := by decide }
open Go.RowKit in
/-- (*strings.Builder).grow (no doc but "grow copies the buffer to a new, larger buffer so that there are at least n bytes of capacity beyond len(b.buf)."): AT A BUILDER WITHOUT A BUFFER: a new row of whatever bytes for its buffer, none of them its own yet. Three draws. (LAID: no walk: one application.) -/
theorem Tryd.Builder_grow_fresh (B b n : Nat) (w : World) (hB : B ≤ b) (hbk : w.heap[b]? = some (.cells #[.pointer (some ⟨b, 0, none⟩), .slice none 0 0] 146 (0, 0))) (hBw : B ≤ w.heap.size) (hn : n ≤ 281474976710656) :
    Calls Tryd.prog 122 #[.pointer (some ⟨b, 0, none⟩), .int .i64 n] w fun e w' => e = .returned (.tuple #[]) ∧ (Lib.BuilderAt 146 5 B b (.pointer (some ⟨b, 0, none⟩)) [] w' ∧ Below B w w') := Any.Builder_grow_fresh Tryd.lays241 Tryd.Builder_Extra_241 B b n w hB hbk hBw hn
def Tryd.lays165_ren : Go.Shelf.Ren := ⟨fun | 165 => 100 | 240 => 121 | 241 => 122 | 276 => 132 | 277 => 133 | n => n, fun | 70 => 144 | 3 => 3 | 0 => 0 | 4 => 4 | 9 => 9 | 20 => 20 | 72 => 146 | 37 => 46 | 164 => 184 | 5 => 5 | n => n, fun | n => n⟩
theorem Tryd.lays165 : Go.Proofs.Lays.n165 Tryd.prog Tryd.lays165_ren := {
  mixed := by kernel_rfl
  f165 := Tryd.func100.trans (congrArg some (by kernel_rfl))
  f240 := Tryd.func121.trans (congrArg some (by kernel_rfl))
  f241 := Tryd.func122.trans (congrArg some (by kernel_rfl))
  f276 := Tryd.func132.trans (congrArg some (by kernel_rfl))
  f277 := Tryd.func133.trans (congrArg some (by kernel_rfl))
  t0 := Tryd.underlying0
  a0 := Tryd.isAgg0
  z0 := Tryd.sizeOf0
  v0 := Tryd.zeroValue0
  t3 := Tryd.underlying3
  a3 := Tryd.isAgg3
  z3 := Tryd.sizeOf3
  v3 := Tryd.zeroValue3
  t4 := Tryd.underlying4
  a4 := Tryd.isAgg4
  z4 := Tryd.sizeOf4
  v4 := Tryd.zeroValue4
  t9 := Tryd.underlying9
  a9 := Tryd.isAgg9
  z9 := Tryd.sizeOf9
  v9 := Tryd.zeroValue9
  t20 := Tryd.underlying20
  a20 := Tryd.isAgg20
  z20 := Tryd.sizeOf20
  v20 := Tryd.zeroValue20
  t37 := Tryd.underlying46
  a37 := Tryd.isAgg46
  z37 := Tryd.sizeOf46
  v37 := Tryd.zeroValue46
  t70 := Tryd.underlying144
  a70 := Tryd.isAgg144
  z70 := Tryd.sizeOf144
  v70 := Tryd.zeroValue144
  t72 := Tryd.underlying146
  a72 := Tryd.isAgg146
  z72 := Tryd.sizeOf146
  v72 := Tryd.zeroValue146
  t164 := Tryd.underlying184
  a164 := Tryd.isAgg184
  z164 := Tryd.sizeOf184
  v164 := Tryd.zeroValue184 }
theorem Tryd.Builder_Extra_165 : Builder.Extra Tryd.prog Tryd.lays165_ren := {
  sizeBuilder := by kernel_rfl
  liesBuilder := by kernel_rfl
  t5 := Tryd.underlying5
  a5 := Tryd.isAgg5
  z5 := Tryd.sizeOf5
  v5 := Tryd.zeroValue5
  infoByte := by kernel_rfl
  cellsByte := by kernel_rfl
  sizeByte := by kernel_rfl
  neB5 := by decide }
open Go.RowKit in
/-- (*strings.Builder).Grow AT A BUILDER THAT HAS NOT BEEN WRITTEN ('var b strings.Builder; b.Grow(n)'): "Grow grows b's capacity, if necessary, to guarantee space for another n bytes.": it holds no byte behind it as before it. (LAID: no walk: one application.) -/
theorem Tryd.Builder_Grow_fresh (B b n : Nat) (w : World) (hB : B ≤ b) (hbk : w.heap[b]? = some (.cells #[.pointer none, .slice none 0 0] 146 (0, 0))) (hBw : B ≤ w.heap.size) (hn : n ≤ 281474976710656) :
    Calls Tryd.prog 100 #[.pointer (some ⟨b, 0, none⟩), .int .i64 n] w fun e w' => e = .returned (.tuple #[]) ∧ (Lib.BuilderAt 146 5 B b (.pointer (some ⟨b, 0, none⟩)) [] w' ∧ Below B w w') := Any.Builder_Grow_fresh Tryd.lays165 Tryd.Builder_Extra_165 B b n w hB hbk hBw hn
def Tryd.lays156_ren : Go.Shelf.Ren := ⟨fun | 156 => 81 | 165 => 100 | 166 => 101 | 169 => 102 | 240 => 121 | 241 => 122 | 276 => 132 | 277 => 133 | n => n, fun | 31 => 32 | 9 => 9 | 3 => 3 | 4 => 4 | 0 => 0 | 20 => 20 | 72 => 146 | 76 => 55 | 70 => 144 | 37 => 46 | 75 => 27 | 127 => 175 | 164 => 184 | 5 => 5 | 80 => 148 | n => n, fun | n => n⟩
theorem Tryd.lays156 : Go.Proofs.Lays.n156 Tryd.prog Tryd.lays156_ren := {
  mixed := by kernel_rfl
  f156 := Tryd.func81.trans (congrArg some (by kernel_rfl))
  f165 := Tryd.func100.trans (congrArg some (by kernel_rfl))
  f166 := Tryd.func101.trans (congrArg some (by kernel_rfl))
  f169 := Tryd.func102.trans (congrArg some (by kernel_rfl))
  f240 := Tryd.func121.trans (congrArg some (by kernel_rfl))
  f241 := Tryd.func122.trans (congrArg some (by kernel_rfl))
  f276 := Tryd.func132.trans (congrArg some (by kernel_rfl))
  f277 := Tryd.func133.trans (congrArg some (by kernel_rfl))
  t0 := Tryd.underlying0
  a0 := Tryd.isAgg0
  z0 := Tryd.sizeOf0
  v0 := Tryd.zeroValue0
  t3 := Tryd.underlying3
  a3 := Tryd.isAgg3
  z3 := Tryd.sizeOf3
  v3 := Tryd.zeroValue3
  t4 := Tryd.underlying4
  a4 := Tryd.isAgg4
  z4 := Tryd.sizeOf4
  v4 := Tryd.zeroValue4
  t9 := Tryd.underlying9
  a9 := Tryd.isAgg9
  z9 := Tryd.sizeOf9
  v9 := Tryd.zeroValue9
  t20 := Tryd.underlying20
  a20 := Tryd.isAgg20
  z20 := Tryd.sizeOf20
  v20 := Tryd.zeroValue20
  t31 := Tryd.underlying32
  a31 := Tryd.isAgg32
  z31 := Tryd.sizeOf32
  v31 := Tryd.zeroValue32
  t37 := Tryd.underlying46
  a37 := Tryd.isAgg46
  z37 := Tryd.sizeOf46
  v37 := Tryd.zeroValue46
  t70 := Tryd.underlying144
  a70 := Tryd.isAgg144
  z70 := Tryd.sizeOf144
  v70 := Tryd.zeroValue144
  t72 := Tryd.underlying146
  a72 := Tryd.isAgg146
  z72 := Tryd.sizeOf146
  v72 := Tryd.zeroValue146
  t75 := Tryd.underlying27
  a75 := Tryd.isAgg27
  z75 := Tryd.sizeOf27
  v75 := Tryd.zeroValue27
  t76 := Tryd.underlying55
  a76 := Tryd.isAgg55
  z76 := Tryd.sizeOf55
  v76 := Tryd.zeroValue55
  t127 := Tryd.underlying175
  a127 := Tryd.isAgg175
  z127 := Tryd.sizeOf175
  v127 := Tryd.zeroValue175
  t164 := Tryd.underlying184
  a164 := Tryd.isAgg184
  z164 := Tryd.sizeOf184
  v164 := Tryd.zeroValue184 }
theorem Tryd.Builder_Extra_156 : Builder.Extra Tryd.prog Tryd.lays156_ren := {
  sizeBuilder := by kernel_rfl
  liesBuilder := by kernel_rfl
  t5 := Tryd.underlying5
  a5 := Tryd.isAgg5
  z5 := Tryd.sizeOf5
  v5 := Tryd.zeroValue5
  infoByte := by kernel_rfl
  cellsByte := by kernel_rfl
  sizeByte := by kernel_rfl
  neB5 := by decide }
open Go.RowKit in
/-- No element: the empty string; the world is as it was. (Whatever the slice's address and capacity: a nil slice too.) (LAID: no walk: one application.) -/
theorem Tryd.strings_Join_none (a : Option Addr) (c : Nat) (sep : ByteArray) (w : World) :
    Calls Tryd.prog 81 #[.slice a 0 c, .string sep] w fun e w' => e = .returned (.string ⟨#[]⟩) ∧ w' = w := Any.strings_Join_none Tryd.lays156 Tryd.Builder_Extra_156 a c sep w
open Go.RowKit in
/-- strings.Join: "Join concatenates the elements of its first argument to create a single string. The separator string sep is placed between elements in the resulting string.": HOWEVER MANY ELEMENTS. Below the heap's end the world is as it was. (LAID: no walk: one application.) -/
theorem Tryd.strings_Join (bk o c : Nat) (xs : List ByteArray) (sep : ByteArray) (w : World) (hcells : ∀ (j : Nat) x, xs[j]? = some x → w.cell? ⟨bk, o + j, none⟩ = some (.string x)) (hbk : bk < w.heap.size) (hN : xs.length ≤ 140737488355328) (hcap : xs.length ≤ c) (hlen : (Lib.join (xs.map (·.data.toList)) sep.data.toList).length ≤ 140737488355328) :
    Calls Tryd.prog 81 #[.slice (some ⟨bk, o, none⟩) xs.length c, .string sep] w fun e w' => e = .returned (.string ⟨(Lib.join (xs.map (·.data.toList)) sep.data.toList).toArray⟩) ∧ Below w.heap.size w w' := Any.strings_Join Tryd.lays156 Tryd.Builder_Extra_156 bk o c xs sep w hcells hbk hN hcap hlen
def Tryd.lays128_ren : Go.Shelf.Ren := ⟨fun | 128 => 105 | n => n, fun | 51 => 162 | 3 => 3 | 4 => 4 | 46 => 51 | 5 => 5 | 9 => 9 | n => n, fun | n => n⟩
theorem Tryd.lays128 : Go.Proofs.Lays.n128 Tryd.prog Tryd.lays128_ren := {
  mixed := by kernel_rfl
  f128 := Tryd.func105.trans (congrArg some (by kernel_rfl))
  t3 := Tryd.underlying3
  a3 := Tryd.isAgg3
  z3 := Tryd.sizeOf3
  v3 := Tryd.zeroValue3
  t4 := Tryd.underlying4
  a4 := Tryd.isAgg4
  z4 := Tryd.sizeOf4
  v4 := Tryd.zeroValue4
  t5 := Tryd.underlying5
  a5 := Tryd.isAgg5
  z5 := Tryd.sizeOf5
  v5 := Tryd.zeroValue5
  t9 := Tryd.underlying9
  a9 := Tryd.isAgg9
  z9 := Tryd.sizeOf9
  v9 := Tryd.zeroValue9
  t46 := Tryd.underlying51
  a46 := Tryd.isAgg51
  z46 := Tryd.sizeOf51
  v46 := Tryd.zeroValue51
  t51 := Tryd.underlying162
  a51 := Tryd.isAgg162
  z51 := Tryd.sizeOf162
  v51 := Tryd.zeroValue162 }
/-- bits.Len32: "Len32 returns the minimum number of bits required to represent x; the result is 0 for x == 0.": IT RETURNS 'Lib.bitLen x'; the world is as it was. ('h0', 'h1': x is a uint32.) (LAID: no walk: one application.) -/
theorem Tryd.bits_Len32 (x : Int) (w : World) (h0 : 0 ≤ x) (h1 : x ≤ 4294967295) :
    Calls Tryd.prog 105 #[.int .u32 x] w fun e w' => e = .returned (.int .i64 (Lib.bitLen x.toNat)) ∧ w' = w := Any.bits_Len32 Tryd.lays128 x w h0 h1
def Tryd.lays125_ren : Go.Shelf.Ren := ⟨fun | 125 => 90 | 128 => 105 | 129 => 106 | n => n, fun | 46 => 51 | 3 => 3 | 51 => 162 | 53 => 64 | 4 => 4 | 5 => 5 | 9 => 9 | n => n, fun | n => n⟩
theorem Tryd.lays125 : Go.Proofs.Lays.n125 Tryd.prog Tryd.lays125_ren := {
  mixed := by kernel_rfl
  f125 := Tryd.func90.trans (congrArg some (by kernel_rfl))
  f128 := Tryd.func105.trans (congrArg some (by kernel_rfl))
  f129 := Tryd.func106.trans (congrArg some (by kernel_rfl))
  t3 := Tryd.underlying3
  a3 := Tryd.isAgg3
  z3 := Tryd.sizeOf3
  v3 := Tryd.zeroValue3
  t4 := Tryd.underlying4
  a4 := Tryd.isAgg4
  z4 := Tryd.sizeOf4
  v4 := Tryd.zeroValue4
  t5 := Tryd.underlying5
  a5 := Tryd.isAgg5
  z5 := Tryd.sizeOf5
  v5 := Tryd.zeroValue5
  t9 := Tryd.underlying9
  a9 := Tryd.isAgg9
  z9 := Tryd.sizeOf9
  v9 := Tryd.zeroValue9
  t46 := Tryd.underlying51
  a46 := Tryd.isAgg51
  z46 := Tryd.sizeOf51
  v46 := Tryd.zeroValue51
  t51 := Tryd.underlying162
  a51 := Tryd.isAgg162
  z51 := Tryd.sizeOf162
  v51 := Tryd.zeroValue162
  t53 := Tryd.underlying64
  a53 := Tryd.isAgg64
  z53 := Tryd.sizeOf64
  v53 := Tryd.zeroValue64 }
/-- bits.Len: "Len returns the minimum number of bits required to represent x; the result is 0 for x == 0.": IT RETURNS 'Lib.bitLen x'; the world is as it was. (A uint has 64 bits in the model.) ITS CALLEE bits.Len64 IS MET BY ITS OWN CONTRACT OFF THE SHELF (lay that first). (LAID: no walk: one application.) -/
theorem Tryd.bits_Len (x : Int) (w : World) (h0 : 0 ≤ x) (h1 : x ≤ 18446744073709551615) :
    Calls Tryd.prog 90 #[.int .u64 x] w fun e w' => e = .returned (.int .i64 (Lib.bitLen x.toNat)) ∧ w' = w := Any.bits_Len Tryd.lays125 x w h0 h1
def Tryd.lays137_ren : Go.Shelf.Ren := ⟨fun | 137 => 68 | 217 => 95 | 266 => 117 | n => n, fun | 9 => 9 | 5 => 5 | 3 => 3 | n => n, fun | n => n⟩
theorem Tryd.lays137 : Go.Proofs.Lays.n137 Tryd.prog Tryd.lays137_ren := {
  mixed := by kernel_rfl
  f137 := Tryd.func68.trans (congrArg some (by kernel_rfl))
  f217 := Tryd.func95.trans (congrArg some (by kernel_rfl))
  f266 := Tryd.func117.trans (congrArg some (by kernel_rfl))
  t3 := Tryd.underlying3
  a3 := Tryd.isAgg3
  z3 := Tryd.sizeOf3
  v3 := Tryd.zeroValue3
  t5 := Tryd.underlying5
  a5 := Tryd.isAgg5
  z5 := Tryd.sizeOf5
  v5 := Tryd.zeroValue5
  t9 := Tryd.underlying9
  a9 := Tryd.isAgg9
  z9 := Tryd.sizeOf9
  v9 := Tryd.zeroValue9 }
open Go.RowKit in
/-- strings.IndexByte: "IndexByte returns the index of the first instance of c in s, or -1 if c is not present in s.": IT RETURNS 'Lib.indexByte s c'; the world is as it was. (LAID: no walk: one application.) -/
theorem Tryd.strings_IndexByte (s : ByteArray) (c : Int) (w : World) :
    Calls Tryd.prog 68 #[.string s, .int .u8 c] w fun e w' => e = .returned (.int .i64 (Lib.indexByte s.data.toList c.toNat.toUInt8)) ∧ w' = w := Any.strings_IndexByte Tryd.lays137 s c w
def Tryd.lays210_ren : Go.Shelf.Ren := ⟨fun | 210 => 94 | 206 => 116 | n => n, fun | 9 => 9 | 4 => 4 | 3 => 3 | n => n, fun | n => n⟩
theorem Tryd.lays210 : Go.Proofs.Lays.n210 Tryd.prog Tryd.lays210_ren := {
  mixed := by kernel_rfl
  f206 := Tryd.func116.trans (congrArg some (by kernel_rfl))
  f210 := Tryd.func94.trans (congrArg some (by kernel_rfl))
  t3 := Tryd.underlying3
  a3 := Tryd.isAgg3
  z3 := Tryd.sizeOf3
  v3 := Tryd.zeroValue3
  t4 := Tryd.underlying4
  a4 := Tryd.isAgg4
  z4 := Tryd.sizeOf4
  v4 := Tryd.zeroValue4
  t9 := Tryd.underlying9
  a9 := Tryd.isAgg9
  z9 := Tryd.sizeOf9
  v9 := Tryd.zeroValue9 }
open Go.RowKit in
/-- internal/stringslite.CutPrefix (what strings.CutPrefix calls). (LAID: no walk: one application.) -/
theorem Tryd.stringslite_CutPrefix (s p : ByteArray) (w : World) :
    Calls Tryd.prog 94 #[.string s, .string p] w fun e w' => e = .returned (.tuple #[.string ⟨(Lib.trimPrefix s.data.toList p.data.toList).toArray⟩, .bool (Lib.hasPrefix s.data.toList p.data.toList)]) ∧ w' = w := Any.stringslite_CutPrefix Tryd.lays210 s p w
def Tryd.lays103_ren : Go.Shelf.Ren := ⟨fun | 103 => 65 | 210 => 94 | 206 => 116 | n => n, fun | 9 => 9 | 4 => 4 | 24 => 38 | 3 => 3 | n => n, fun | n => n⟩
theorem Tryd.lays103 : Go.Proofs.Lays.n103 Tryd.prog Tryd.lays103_ren := {
  mixed := by kernel_rfl
  f103 := Tryd.func65.trans (congrArg some (by kernel_rfl))
  f206 := Tryd.func116.trans (congrArg some (by kernel_rfl))
  f210 := Tryd.func94.trans (congrArg some (by kernel_rfl))
  t3 := Tryd.underlying3
  a3 := Tryd.isAgg3
  z3 := Tryd.sizeOf3
  v3 := Tryd.zeroValue3
  t4 := Tryd.underlying4
  a4 := Tryd.isAgg4
  z4 := Tryd.sizeOf4
  v4 := Tryd.zeroValue4
  t9 := Tryd.underlying9
  a9 := Tryd.isAgg9
  z9 := Tryd.sizeOf9
  v9 := Tryd.zeroValue9
  t24 := Tryd.underlying38
  a24 := Tryd.isAgg38
  z24 := Tryd.sizeOf38
  v24 := Tryd.zeroValue38 }
open Go.RowKit in
/-- strings.CutPrefix: "CutPrefix returns s without the provided leading prefix string and reports whether it found the prefix. If s doesn't start with prefix, CutPrefix returns s, false. If prefix is the empty string, CutPrefix returns s, true.": IT RETURNS '(Lib.trimPrefix s p, Lib.hasPrefix s p)'; the world is as it was. (LAID: no walk: one application.) -/
theorem Tryd.strings_CutPrefix (s p : ByteArray) (w : World) :
    Calls Tryd.prog 65 #[.string s, .string p] w fun e w' => e = .returned (.tuple #[.string ⟨(Lib.trimPrefix s.data.toList p.data.toList).toArray⟩, .bool (Lib.hasPrefix s.data.toList p.data.toList)]) ∧ w' = w := Any.strings_CutPrefix Tryd.lays103 s p w
open Go.RowKit in
/-- (*strings.Builder).String: "String returns the accumulated string.": OF A BUILDER THAT HOLDS AT LEAST ONE BYTE. ✋ THE MODEL FREEZES THOSE BYTES IN THE BUFFER (unsafe.String): a later write INTO them ends the model's run without an answer; a later append BEHIND them goes on. The statement's order of evaluation is drawn: one draw. THE FORM '_f': IT SAYS BESIDES THAT THE BUILDER IS A BUILDER STILL ('Lib.IsBuilderF', the same bytes): SO IT CAN BE WRITTEN ON: 'b.WriteString(b.String()[:k])'. (LAID: no walk: one application.) -/
theorem Tryd.Builder_String_f (B b : Nat) (l : List UInt8) (w : World) (h : Lib.IsBuilderF 146 5 B b (Lib.byteCells l) w) (h0 : l ≠ []) :
    Calls Tryd.prog 102 #[.pointer (some ⟨b, 0, none⟩)] w fun e w' => e = .returned (.string ⟨l.toArray⟩) ∧ (Lib.IsBuilderF 146 5 B b (Lib.byteCells l) w' ∧ Below B w w') := Any.Builder_String_f Tryd.lays169 Tryd.Builder_Extra_169 B b l w h h0
open Go.RowKit in
/-- (*strings.Builder).String OF A BUILDER THAT HOLDS NO BYTE: the empty string; THE FORM '_f': a builder still. (LAID: no walk: one application.) -/
theorem Tryd.Builder_String_empty_f (B b : Nat) (w : World) (h : Lib.IsBuilderF 146 5 B b [] w) (hBw : B ≤ w.heap.size) :
    Calls Tryd.prog 102 #[.pointer (some ⟨b, 0, none⟩)] w fun e w' => e = .returned (.string ⟨#[]⟩) ∧ (Lib.IsBuilderF 146 5 B b [] w' ∧ Below B w w') := Any.Builder_String_empty_f Tryd.lays169 Tryd.Builder_Extra_169 B b w h hBw
open Go.RowKit in
/-- (*strings.Builder).String: "String returns the accumulated string.": WHATEVER THE BUILDER HOLDS; THE FORM '_f': OF A BUILDER THAT MAY HAVE BEEN READ BEFORE; AND IT IS A BUILDER STILL, holding the same bytes: it can be written on. (LAID: no walk: one application.) -/
theorem Tryd.Builder_String_any_f (B b : Nat) (l : List UInt8) (w : World) (h : Lib.IsBuilderF 146 5 B b (Lib.byteCells l) w) (hBw : B ≤ w.heap.size) :
    Calls Tryd.prog 102 #[.pointer (some ⟨b, 0, none⟩)] w fun e w' => e = .returned (.string ⟨l.toArray⟩) ∧ (Lib.IsBuilderF 146 5 B b (Lib.byteCells l) w' ∧ Below B w w') := Any.Builder_String_any_f Tryd.lays169 Tryd.Builder_Extra_169 B b l w h hBw
open Go.RowKit in
/-- (*strings.Builder).String: "String returns the accumulated string.": OF A BUILDER THAT HOLDS AT LEAST ONE BYTE. ✋ THE MODEL FREEZES THOSE BYTES IN THE BUFFER (unsafe.String): a later write INTO them ends the model's run without an answer; a later append BEHIND them goes on. The statement's order of evaluation is drawn: one draw. THE FORM '_k': OVER 'Lib.IsBuilderF' (a builder that 'String()' may have read), AND WITH THE FRAME THAT REACHES ABOVE THE BUILDER: 'Lib.OthersKept': every block that is not b and is no row of uint8's stands as it stood: the iterator of a range among them. (LAID: no walk: one application.) -/
theorem Tryd.Builder_String_k (B b : Nat) (l : List UInt8) (w : World) (h : Lib.IsBuilderF 146 5 B b (Lib.byteCells l) w) (h0 : l ≠ []) :
    Calls Tryd.prog 102 #[.pointer (some ⟨b, 0, none⟩)] w fun e w' => e = .returned (.string ⟨l.toArray⟩) ∧ (Lib.IsBuilderF 146 5 B b (Lib.byteCells l) w' ∧ Below B w w' ∧ Lib.OthersKept 5 (some b) w w') := Any.Builder_String_k Tryd.lays169 Tryd.Builder_Extra_169 B b l w h h0
open Go.RowKit in
/-- (*strings.Builder).String OF A BUILDER THAT HOLDS NO BYTE: the empty string; THE FORM '_k': OVER 'Lib.IsBuilderF' (a builder that 'String()' may have read), AND WITH THE FRAME THAT REACHES ABOVE THE BUILDER: 'Lib.OthersKept': every block that is not b and is no row of uint8's stands as it stood: the iterator of a range among them. (LAID: no walk: one application.) -/
theorem Tryd.Builder_String_empty_k (B b : Nat) (w : World) (h : Lib.IsBuilderF 146 5 B b [] w) (hBw : B ≤ w.heap.size) :
    Calls Tryd.prog 102 #[.pointer (some ⟨b, 0, none⟩)] w fun e w' => e = .returned (.string ⟨#[]⟩) ∧ (Lib.IsBuilderF 146 5 B b [] w' ∧ Below B w w' ∧ Lib.OthersKept 5 (some b) w w') := Any.Builder_String_empty_k Tryd.lays169 Tryd.Builder_Extra_169 B b w h hBw
open Go.RowKit in
/-- (*strings.Builder).String: "String returns the accumulated string.": WHATEVER THE BUILDER HOLDS; THE FORM '_k': OVER 'Lib.IsBuilderF' (a builder that 'String()' may have read), AND WITH THE FRAME THAT REACHES ABOVE THE BUILDER: 'Lib.OthersKept': every block that is not b and is no row of uint8's stands as it stood: the iterator of a range among them. (LAID: no walk: one application.) -/
theorem Tryd.Builder_String_any_k (B b : Nat) (l : List UInt8) (w : World) (h : Lib.IsBuilderF 146 5 B b (Lib.byteCells l) w) (hBw : B ≤ w.heap.size) :
    Calls Tryd.prog 102 #[.pointer (some ⟨b, 0, none⟩)] w fun e w' => e = .returned (.string ⟨l.toArray⟩) ∧ (Lib.IsBuilderF 146 5 B b (Lib.byteCells l) w' ∧ Below B w w' ∧ Lib.OthersKept 5 (some b) w w') := Any.Builder_String_any_k Tryd.lays169 Tryd.Builder_Extra_169 B b l w h hBw
def Tryd.lays195_ren : Go.Shelf.Ren := ⟨fun | 195 => 128 | n => n, fun | 9 => 9 | 3 => 3 | 0 => 0 | 4 => 4 | n => n, fun | n => n⟩
theorem Tryd.lays195 : Go.Proofs.Lays.n195 Tryd.prog Tryd.lays195_ren := {
  mixed := by kernel_rfl
  f195 := Tryd.func128.trans (congrArg some (by kernel_rfl))
  t0 := Tryd.underlying0
  a0 := Tryd.isAgg0
  z0 := Tryd.sizeOf0
  v0 := Tryd.zeroValue0
  t3 := Tryd.underlying3
  a3 := Tryd.isAgg3
  z3 := Tryd.sizeOf3
  v3 := Tryd.zeroValue3
  t4 := Tryd.underlying4
  a4 := Tryd.isAgg4
  z4 := Tryd.sizeOf4
  v4 := Tryd.zeroValue4
  t9 := Tryd.underlying9
  a9 := Tryd.isAgg9
  z9 := Tryd.sizeOf9
  v9 := Tryd.zeroValue9 }
open Go.RowKit in
/-- unicode/utf8.RuneCountInString: "RuneCountInString is like RuneCount but its input is a string." ("RuneCount returns the number of runes in p. Erroneous and short encodings are treated as single runes of width 1 byte."): EVERY STRING, valid UTF-8 or not: 'Lib.runeCount s' (plain Lean over the model's own 'Utf8.decode'; 'Lib.runeCount_le': at most len(s); 'Lib.runeCount_ascii': on ASCII: len(s)). THE ONE CONDITION: len(s) below 2^63 - 1 (the counter does not wrap): the form's reach pays it. THE WORLD BEHIND THE CALL: ONE BLOCK MORE: the model's iterator over s, at its end: all else as it was. (LAID: no walk: one application.) -/
theorem Tryd.utf8_RuneCountInString (s : ByteArray) (w : World) (hs : s.size < 9223372036854775807) :
    Calls Tryd.prog 128 #[.string s] w fun e w' => e = .returned (.int .i64 (Lib.runeCount s)) ∧ ∃ pos, w' = w.iter s pos := Any.utf8_RuneCountInString Tryd.lays195 s w hs
open Go.RowKit in
/-- (*strings.Builder).grow (no doc but "grow copies the buffer to a new, larger buffer so that there are at least n bytes of capacity beyond len(b.buf)."): AT A BUILDER WITHOUT A BUFFER: a new row of whatever bytes for its buffer, none of them its own yet. Three draws. (LAID: no walk: one application.) -/
theorem Tryd.Builder_grow_fresh_cap (B b n : Nat) (w : World) (hB : B ≤ b) (hbk : w.heap[b]? = some (.cells #[.pointer (some ⟨b, 0, none⟩), .slice none 0 0] 146 (0, 0))) (hBw : B ≤ w.heap.size) (hn : n ≤ 281474976710656) :
    Calls Tryd.prog 122 #[.pointer (some ⟨b, 0, none⟩), .int .i64 n] w fun e w' => e = .returned (.tuple #[]) ∧ (Lib.BuilderAt 146 5 B b (.pointer (some ⟨b, 0, none⟩)) [] w' ∧ Below B w w') ∧ ∃ p cap, w'.cell? ⟨b, 1, none⟩ = some (.slice p 0 cap) ∧ n ≤ cap := Any.Builder_grow_fresh_cap Tryd.lays241 Tryd.Builder_Extra_241 B b n w hB hbk hBw hn
open Go.RowKit in
/-- (*strings.Builder).Grow AT A BUILDER THAT HAS NOT BEEN WRITTEN ('var b strings.Builder; b.Grow(n)'): "Grow grows b's capacity, if necessary, to guarantee space for another n bytes.": it holds no byte behind it as before it. (LAID: no walk: one application.) -/
theorem Tryd.Builder_Grow_fresh_cap (B b n : Nat) (w : World) (hB : B ≤ b) (hbk : w.heap[b]? = some (.cells #[.pointer none, .slice none 0 0] 146 (0, 0))) (hBw : B ≤ w.heap.size) (hn : n ≤ 281474976710656) :
    Calls Tryd.prog 100 #[.pointer (some ⟨b, 0, none⟩), .int .i64 n] w fun e w' => e = .returned (.tuple #[]) ∧ (Lib.BuilderAt 146 5 B b (.pointer (some ⟨b, 0, none⟩)) [] w' ∧ Below B w w') ∧ ∃ p cap, w'.cell? ⟨b, 1, none⟩ = some (.slice p 0 cap) ∧ n ≤ cap := Any.Builder_Grow_fresh_cap Tryd.lays165 Tryd.Builder_Extra_165 B b n w hB hbk hBw hn
def Tryd.lays129_ren : Go.Shelf.Ren := ⟨fun | 129 => 106 | n => n, fun | 53 => 64 | 3 => 3 | 4 => 4 | 46 => 51 | 5 => 5 | 9 => 9 | n => n, fun | n => n⟩
theorem Tryd.lays129 : Go.Proofs.Lays.n129 Tryd.prog Tryd.lays129_ren := {
  mixed := by kernel_rfl
  f129 := Tryd.func106.trans (congrArg some (by kernel_rfl))
  t3 := Tryd.underlying3
  a3 := Tryd.isAgg3
  z3 := Tryd.sizeOf3
  v3 := Tryd.zeroValue3
  t4 := Tryd.underlying4
  a4 := Tryd.isAgg4
  z4 := Tryd.sizeOf4
  v4 := Tryd.zeroValue4
  t5 := Tryd.underlying5
  a5 := Tryd.isAgg5
  z5 := Tryd.sizeOf5
  v5 := Tryd.zeroValue5
  t9 := Tryd.underlying9
  a9 := Tryd.isAgg9
  z9 := Tryd.sizeOf9
  v9 := Tryd.zeroValue9
  t46 := Tryd.underlying51
  a46 := Tryd.isAgg51
  z46 := Tryd.sizeOf51
  v46 := Tryd.zeroValue51
  t53 := Tryd.underlying64
  a53 := Tryd.isAgg64
  z53 := Tryd.sizeOf64
  v53 := Tryd.zeroValue64 }
/-- bits.Len64: "Len64 returns the minimum number of bits required to represent x; the result is 0 for x == 0.": IT RETURNS 'Lib.bitLen x'; the world is as it was. ('h0', 'h1': x is a uint64.) (LAID: no walk: one application.) -/
theorem Tryd.bits_Len64 (x : Int) (w : World) (h0 : 0 ≤ x) (h1 : x ≤ 18446744073709551615) :
    Calls Tryd.prog 106 #[.int .u64 x] w fun e w' => e = .returned (.int .i64 (Lib.bitLen x.toNat)) ∧ w' = w := Any.bits_Len64 Tryd.lays129 x w h0 h1
def Tryd.lays217_ren : Go.Shelf.Ren := ⟨fun | 217 => 95 | 266 => 117 | n => n, fun | 9 => 9 | 5 => 5 | 3 => 3 | n => n, fun | n => n⟩
theorem Tryd.lays217 : Go.Proofs.Lays.n217 Tryd.prog Tryd.lays217_ren := {
  mixed := by kernel_rfl
  f217 := Tryd.func95.trans (congrArg some (by kernel_rfl))
  f266 := Tryd.func117.trans (congrArg some (by kernel_rfl))
  t3 := Tryd.underlying3
  a3 := Tryd.isAgg3
  z3 := Tryd.sizeOf3
  v3 := Tryd.zeroValue3
  t5 := Tryd.underlying5
  a5 := Tryd.isAgg5
  z5 := Tryd.sizeOf5
  v5 := Tryd.zeroValue5
  t9 := Tryd.underlying9
  a9 := Tryd.isAgg9
  z9 := Tryd.sizeOf9
  v9 := Tryd.zeroValue9 }
open Go.RowKit Go.Lib in
/-- internal/stringslite.IndexByte (what strings.IndexByte calls): IT RETURNS 'Lib.indexByte s c'; the world is as it was. (LAID: no walk: one application.) -/
theorem Tryd.stringslite_IndexByte (s : ByteArray) (c : Int) (w : World) :
    Calls Tryd.prog 95 #[.string s, .int .u8 c] w fun e w' => e = .returned (.int .i64 (Lib.indexByte s.data.toList c.toNat.toUInt8)) ∧ w' = w := Any.stringslite_IndexByte Tryd.lays217 s c w
def Tryd.lays224_ren : Go.Shelf.Ren := ⟨fun | 224 => 137 | n => n, fun | 3 => 3 | n => n, fun | n => n⟩
theorem Tryd.lays224 : Go.Proofs.Lays.n224 Tryd.prog Tryd.lays224_ren := {
  mixed := by kernel_rfl
  f224 := Tryd.func137.trans (congrArg some (by kernel_rfl))
  t3 := Tryd.underlying3
  a3 := Tryd.isAgg3
  z3 := Tryd.sizeOf3
  v3 := Tryd.zeroValue3 }
open Go.RowKit Go.Lib in
/-- internal/bytealg.Cutover: "Cutover reports the number of failures of IndexByte we should tolerate before switching over to Index. n is the number of bytes processed so far.": on amd64: (n + 16) / 8. (LAID: no walk: one application.) -/
theorem Tryd.bytealg_Cutover (n : Int) (h0 : 0 ≤ n) (h1 : n < 4611686018427387904) (w : World) :
    Calls Tryd.prog 137 #[.int .i64 n] w fun e w' => e = .returned (.int .i64 ((n + 16) / 8)) ∧ w' = w := Any.bytealg_Cutover Tryd.lays224 n h0 h1 w
def Tryd.lays314_ren : Go.Shelf.Ren := ⟨fun | 314 => 139 | n => n, fun | 9 => 9 | 51 => 162 | 3 => 3 | 4 => 4 | 5 => 5 | 46 => 51 | n => n, fun | n => n⟩
theorem Tryd.lays314 : Go.Proofs.Lays.n314 Tryd.prog Tryd.lays314_ren := {
  mixed := by kernel_rfl
  f314 := Tryd.func139.trans (congrArg some (by kernel_rfl))
  t3 := Tryd.underlying3
  a3 := Tryd.isAgg3
  z3 := Tryd.sizeOf3
  v3 := Tryd.zeroValue3
  t4 := Tryd.underlying4
  a4 := Tryd.isAgg4
  z4 := Tryd.sizeOf4
  v4 := Tryd.zeroValue4
  t5 := Tryd.underlying5
  a5 := Tryd.isAgg5
  z5 := Tryd.sizeOf5
  v5 := Tryd.zeroValue5
  t9 := Tryd.underlying9
  a9 := Tryd.isAgg9
  z9 := Tryd.sizeOf9
  v9 := Tryd.zeroValue9
  t46 := Tryd.underlying51
  a46 := Tryd.isAgg51
  z46 := Tryd.sizeOf51
  v46 := Tryd.zeroValue51
  t51 := Tryd.underlying162
  a51 := Tryd.isAgg162
  z51 := Tryd.sizeOf162
  v51 := Tryd.zeroValue162 }
open Go.RowKit Go.Lib in
/-- hashStr: "returns the hash and the appropriate multiplicative factor for use in Rabin-Karp algorithm": THE HASH OF ALL OF sep, AND 16777619 ^ len(sep), both in uint32. (LAID: no walk: one application.) -/
theorem Tryd.bytealg_hashStr (sep : ByteArray) (hs : sep.size < 4294967281) (w : World) :
    Calls Tryd.prog 139 #[.string sep] w fun e w' => e = .returned (.tuple #[.int .u32 (RK.H sep.data.toList % 4294967296), .int .u32 (16777619 ^ sep.size % 4294967296)]) ∧ w' = w := Any.bytealg_hashStr Tryd.lays314 sep hs w
def Tryd.lays267_ren : Go.Shelf.Ren := ⟨fun | 267 => 138 | 314 => 139 | n => n, fun | 9 => 9 | 3 => 3 | 146 => 195 | 51 => 162 | 4 => 4 | 5 => 5 | 46 => 51 | n => n, fun | n => n⟩
theorem Tryd.lays267 : Go.Proofs.Lays.n267 Tryd.prog Tryd.lays267_ren := {
  mixed := by kernel_rfl
  f267 := Tryd.func138.trans (congrArg some (by kernel_rfl))
  f314 := Tryd.func139.trans (congrArg some (by kernel_rfl))
  t3 := Tryd.underlying3
  a3 := Tryd.isAgg3
  z3 := Tryd.sizeOf3
  v3 := Tryd.zeroValue3
  t4 := Tryd.underlying4
  a4 := Tryd.isAgg4
  z4 := Tryd.sizeOf4
  v4 := Tryd.zeroValue4
  t5 := Tryd.underlying5
  a5 := Tryd.isAgg5
  z5 := Tryd.sizeOf5
  v5 := Tryd.zeroValue5
  t9 := Tryd.underlying9
  a9 := Tryd.isAgg9
  z9 := Tryd.sizeOf9
  v9 := Tryd.zeroValue9
  t46 := Tryd.underlying51
  a46 := Tryd.isAgg51
  z46 := Tryd.sizeOf51
  v46 := Tryd.zeroValue51
  t51 := Tryd.underlying162
  a51 := Tryd.isAgg162
  z51 := Tryd.sizeOf162
  v51 := Tryd.zeroValue162
  t146 := Tryd.underlying195
  a146 := Tryd.isAgg195
  z146 := Tryd.sizeOf195
  v146 := Tryd.zeroValue195 }
open Go.RowKit Go.Lib in
theorem Tryd.bytealg_IndexRabinKarp (s sep : ByteArray) (h1 : 1 ≤ sep.size) (h2 : sep.size ≤ s.size) (hs : s.size < 4294967281) (w : World) :
    Calls Tryd.prog 138 #[.string s, .string sep] w fun e w' => e = .returned (.int .i64 (Lib.index s.data.toList sep.data.toList)) ∧ w' = w := Any.bytealg_IndexRabinKarp Tryd.lays267 s sep h1 h2 hs w
def Tryd.lays219_ren : Go.Shelf.Ren := ⟨fun | 219 => 131 | 217 => 95 | 225 => 136 | 224 => 137 | 267 => 138 | 266 => 117 | 314 => 139 | n => n, fun | 9 => 9 | 3 => 3 | 4 => 4 | 5 => 5 | 46 => 51 | 146 => 195 | 51 => 162 | n => n, fun | 1 => 28 | n => n⟩
theorem Tryd.lays219 : Go.Proofs.Lays.n219 Tryd.prog Tryd.lays219_ren := {
  mixed := by kernel_rfl
  f217 := Tryd.func95.trans (congrArg some (by kernel_rfl))
  f219 := Tryd.func131.trans (congrArg some (by kernel_rfl))
  f224 := Tryd.func137.trans (congrArg some (by kernel_rfl))
  f225 := Tryd.func136.trans (congrArg some (by kernel_rfl))
  f266 := Tryd.func117.trans (congrArg some (by kernel_rfl))
  f267 := Tryd.func138.trans (congrArg some (by kernel_rfl))
  f314 := Tryd.func139.trans (congrArg some (by kernel_rfl))
  t3 := Tryd.underlying3
  a3 := Tryd.isAgg3
  z3 := Tryd.sizeOf3
  v3 := Tryd.zeroValue3
  t4 := Tryd.underlying4
  a4 := Tryd.isAgg4
  z4 := Tryd.sizeOf4
  v4 := Tryd.zeroValue4
  t5 := Tryd.underlying5
  a5 := Tryd.isAgg5
  z5 := Tryd.sizeOf5
  v5 := Tryd.zeroValue5
  t9 := Tryd.underlying9
  a9 := Tryd.isAgg9
  z9 := Tryd.sizeOf9
  v9 := Tryd.zeroValue9
  t46 := Tryd.underlying51
  a46 := Tryd.isAgg51
  z46 := Tryd.sizeOf51
  v46 := Tryd.zeroValue51
  t51 := Tryd.underlying162
  a51 := Tryd.isAgg162
  z51 := Tryd.sizeOf162
  v51 := Tryd.zeroValue162
  t146 := Tryd.underlying195
  a146 := Tryd.isAgg195
  z146 := Tryd.sizeOf195
  v146 := Tryd.zeroValue195
  g1 := by kernel_rfl }
open Go.RowKit Go.Lib in
/-- internal/stringslite.Index (what strings.Index calls) AT A substr OF ONE BYTE c: IT RETURNS 'Lib.indexByte s c'; the world is as it was. (LAID: no walk: one application.) -/
theorem Tryd.stringslite_Index_one (s : ByteArray) (c : UInt8) (w : World) :
    Calls Tryd.prog 131 #[.string s, .string ⟨#[c]⟩] w fun e w' => e = .returned (.int .i64 (Lib.indexByte s.data.toList c)) ∧ w' = w := Any.stringslite_Index_one Tryd.lays219 s c w
open Go.RowKit Go.Lib in
/-- internal/stringslite.Index (what strings.Index calls) AT A substr OF WHATEVER LENGTH: IT RETURNS 'Lib.index s substr'; the world is as it was. 'm': what internal/bytealg.MaxLen holds: whatever. (LAID: no walk: one application.) -/
theorem Tryd.stringslite_Index (s sub : ByteArray) (m : Int) (w : World) (hs : s.size < 4294967281) (hm : w.cell? ⟨28, 0, none⟩ = some (.int .i64 m)) :
    Calls Tryd.prog 131 #[.string s, .string sub] w fun e w' => e = .returned (.int .i64 (Lib.index s.data.toList sub.data.toList)) ∧ w' = w := Any.stringslite_Index Tryd.lays219 s sub m w hs hm
def Tryd.lays143_ren : Go.Shelf.Ren := ⟨fun | 143 => 120 | 219 => 131 | 217 => 95 | 225 => 136 | 224 => 137 | 267 => 138 | 266 => 117 | 314 => 139 | n => n, fun | 9 => 9 | 3 => 3 | 4 => 4 | 5 => 5 | 46 => 51 | 146 => 195 | 51 => 162 | n => n, fun | 1 => 28 | n => n⟩
theorem Tryd.lays143 : Go.Proofs.Lays.n143 Tryd.prog Tryd.lays143_ren := {
  mixed := by kernel_rfl
  f143 := Tryd.func120.trans (congrArg some (by kernel_rfl))
  f217 := Tryd.func95.trans (congrArg some (by kernel_rfl))
  f219 := Tryd.func131.trans (congrArg some (by kernel_rfl))
  f224 := Tryd.func137.trans (congrArg some (by kernel_rfl))
  f225 := Tryd.func136.trans (congrArg some (by kernel_rfl))
  f266 := Tryd.func117.trans (congrArg some (by kernel_rfl))
  f267 := Tryd.func138.trans (congrArg some (by kernel_rfl))
  f314 := Tryd.func139.trans (congrArg some (by kernel_rfl))
  t3 := Tryd.underlying3
  a3 := Tryd.isAgg3
  z3 := Tryd.sizeOf3
  v3 := Tryd.zeroValue3
  t4 := Tryd.underlying4
  a4 := Tryd.isAgg4
  z4 := Tryd.sizeOf4
  v4 := Tryd.zeroValue4
  t5 := Tryd.underlying5
  a5 := Tryd.isAgg5
  z5 := Tryd.sizeOf5
  v5 := Tryd.zeroValue5
  t9 := Tryd.underlying9
  a9 := Tryd.isAgg9
  z9 := Tryd.sizeOf9
  v9 := Tryd.zeroValue9
  t46 := Tryd.underlying51
  a46 := Tryd.isAgg51
  z46 := Tryd.sizeOf51
  v46 := Tryd.zeroValue51
  t51 := Tryd.underlying162
  a51 := Tryd.isAgg162
  z51 := Tryd.sizeOf162
  v51 := Tryd.zeroValue162
  t146 := Tryd.underlying195
  a146 := Tryd.isAgg195
  z146 := Tryd.sizeOf195
  v146 := Tryd.zeroValue195
  g1 := by kernel_rfl }
open Go.RowKit Go.Lib in
/-- strings.Index: "Index returns the index of the first instance of substr in s, or -1 if substr is not present in s.": AT A substr OF ONE BYTE c: IT RETURNS 'Lib.indexByte s c'; the world is as it was. (LAID: no walk: one application.) -/
theorem Tryd.strings_Index_one (s : ByteArray) (c : UInt8) (w : World) :
    Calls Tryd.prog 120 #[.string s, .string ⟨#[c]⟩] w fun e w' => e = .returned (.int .i64 (Lib.indexByte s.data.toList c)) ∧ w' = w := Any.strings_Index_one Tryd.lays143 s c w
open Go.RowKit Go.Lib in
/-- strings.Index: "Index returns the index of the first instance of substr in s, or -1 if substr is not present in s.": IT RETURNS 'Lib.index s substr'; the world is as it was. (LAID: no walk: one application.) -/
theorem Tryd.strings_Index (s sub : ByteArray) (m : Int) (w : World) (hs : s.size < 4294967281) (hm : w.cell? ⟨28, 0, none⟩ = some (.int .i64 m)) :
    Calls Tryd.prog 120 #[.string s, .string sub] w fun e w' => e = .returned (.int .i64 (Lib.index s.data.toList sub.data.toList)) ∧ w' = w := Any.strings_Index Tryd.lays143 s sub m w hs hm
def Tryd.lays138_ren : Go.Shelf.Ren := ⟨fun | 138 => 119 | 195 => 128 | 218 => 130 | 143 => 120 | 219 => 131 | 217 => 95 | 225 => 136 | 224 => 137 | 267 => 138 | 266 => 117 | 314 => 139 | n => n, fun | 9 => 9 | 3 => 3 | 4 => 4 | 5 => 5 | 0 => 0 | 46 => 51 | 146 => 195 | 51 => 162 | n => n, fun | 1 => 28 | n => n⟩
theorem Tryd.lays138 : Go.Proofs.Lays.n138 Tryd.prog Tryd.lays138_ren := {
  mixed := by kernel_rfl
  f138 := Tryd.func119.trans (congrArg some (by kernel_rfl))
  f143 := Tryd.func120.trans (congrArg some (by kernel_rfl))
  f195 := Tryd.func128.trans (congrArg some (by kernel_rfl))
  f217 := Tryd.func95.trans (congrArg some (by kernel_rfl))
  f218 := Tryd.func130.trans (congrArg some (by kernel_rfl))
  f219 := Tryd.func131.trans (congrArg some (by kernel_rfl))
  f224 := Tryd.func137.trans (congrArg some (by kernel_rfl))
  f225 := Tryd.func136.trans (congrArg some (by kernel_rfl))
  f266 := Tryd.func117.trans (congrArg some (by kernel_rfl))
  f267 := Tryd.func138.trans (congrArg some (by kernel_rfl))
  f314 := Tryd.func139.trans (congrArg some (by kernel_rfl))
  t0 := Tryd.underlying0
  a0 := Tryd.isAgg0
  z0 := Tryd.sizeOf0
  v0 := Tryd.zeroValue0
  t3 := Tryd.underlying3
  a3 := Tryd.isAgg3
  z3 := Tryd.sizeOf3
  v3 := Tryd.zeroValue3
  t4 := Tryd.underlying4
  a4 := Tryd.isAgg4
  z4 := Tryd.sizeOf4
  v4 := Tryd.zeroValue4
  t5 := Tryd.underlying5
  a5 := Tryd.isAgg5
  z5 := Tryd.sizeOf5
  v5 := Tryd.zeroValue5
  t9 := Tryd.underlying9
  a9 := Tryd.isAgg9
  z9 := Tryd.sizeOf9
  v9 := Tryd.zeroValue9
  t46 := Tryd.underlying51
  a46 := Tryd.isAgg51
  z46 := Tryd.sizeOf51
  v46 := Tryd.zeroValue51
  t51 := Tryd.underlying162
  a51 := Tryd.isAgg162
  z51 := Tryd.sizeOf162
  v51 := Tryd.zeroValue162
  t146 := Tryd.underlying195
  a146 := Tryd.isAgg195
  z146 := Tryd.sizeOf195
  v146 := Tryd.zeroValue195
  g1 := by kernel_rfl }
open Go.RowKit Go.Lib in
/-- strings.Count AT A substr OF ONE BYTE ('hp'): "Count counts the number of non-overlapping instances of substr in s.": IT RETURNS 'Lib.countByte s (that byte)'; the world is as it was. ✋ NO CONTRACT HERE YET at an empty substr (utf8.RuneCountInString) or at a longer one (a loop over strings.Index). (LAID: no walk: one application.) -/
theorem Tryd.strings_Count_one (s : ByteArray) (c : UInt8) (w : World) :
    Calls Tryd.prog 119 #[.string s, .string ⟨#[c]⟩] w fun e w' => e = .returned (.int .i64 (Lib.countByte s.data.toList c)) ∧ w' = w := Any.strings_Count_one Tryd.lays138 s c w
open Go.RowKit Go.Lib in
/-- strings.Count AT A substr OF TWO BYTES OR MORE: "Count counts the number of non-overlapping instances of substr in s.": IT RETURNS 'Lib.count s substr'; the world is as it was. (LAID: no walk: one application.) -/
theorem Tryd.strings_Count (s sub : ByteArray) (m : Int) (w : World) (hs : s.size < 4294967281) (hm : w.cell? ⟨28, 0, none⟩ = some (.int .i64 m)) (h2 : 2 ≤ sub.size) :
    Calls Tryd.prog 119 #[.string s, .string sub] w fun e w' => e = .returned (.int .i64 (Lib.countB s sub)) ∧ w' = w := Any.strings_Count Tryd.lays138 s sub m w hs hm h2
def Tryd.laysM219_ren : Go.Shelf.Ren := ⟨fun | 219 => 131 | 217 => 95 | 225 => 136 | 224 => 137 | 267 => 138 | 266 => 117 | 314 => 139 | n => n, fun | 9 => 9 | 3 => 3 | 4 => 4 | 5 => 5 | 46 => 51 | 146 => 195 | 51 => 162 | n => n, fun | 1 => 28 | n => n⟩
theorem Tryd.laysM219 : Go.Proofs.LaysM.n219 Tryd.prog Tryd.laysM219_ren := {
  mixed := by kernel_rfl
  f217 := Tryd.func95.trans (congrArg some (by kernel_rfl))
  f219 := Tryd.func131.trans (congrArg some (by kernel_rfl))
  f224 := Tryd.func137.trans (congrArg some (by kernel_rfl))
  f225 := Tryd.func136.trans (congrArg some (by kernel_rfl))
  f266 := Tryd.func117.trans (congrArg some (by kernel_rfl))
  f267 := Tryd.func138.trans (congrArg some (by kernel_rfl))
  f314 := Tryd.func139.trans (congrArg some (by kernel_rfl))
  t3 := Tryd.underlying3
  a3 := Tryd.isAgg3
  z3 := Tryd.sizeOf3
  v3 := Tryd.zeroValue3
  t4 := Tryd.underlying4
  a4 := Tryd.isAgg4
  z4 := Tryd.sizeOf4
  v4 := Tryd.zeroValue4
  t5 := Tryd.underlying5
  a5 := Tryd.isAgg5
  z5 := Tryd.sizeOf5
  v5 := Tryd.zeroValue5
  t9 := Tryd.underlying9
  a9 := Tryd.isAgg9
  z9 := Tryd.sizeOf9
  v9 := Tryd.zeroValue9
  t46 := Tryd.underlying51
  a46 := Tryd.isAgg51
  z46 := Tryd.sizeOf51
  v46 := Tryd.zeroValue51
  t51 := Tryd.underlying162
  a51 := Tryd.isAgg162
  z51 := Tryd.sizeOf162
  v51 := Tryd.zeroValue162
  t146 := Tryd.underlying195
  a146 := Tryd.isAgg195
  z146 := Tryd.sizeOf195
  v146 := Tryd.zeroValue195
  g1 := by kernel_rfl
  i3 := by kernel_rfl
  i4 := by kernel_rfl
  i5 := by kernel_rfl
  i9 := by kernel_rfl
  i46 := by kernel_rfl
  i51 := by kernel_rfl
  i146 := by kernel_rfl
  m1 := by kernel_rfl
  s1_3 := fun w h => Go.Proofs.cell_of_shapedOpen_int (zero := #[.int .i64 0]) (t := 3) h (of_decide_eq_true (by kernel_rfl)) (by kernel_rfl) rfl (by kernel_rfl) (by kernel_rfl) Tryd.underlying3 }
open Go.RowKit Go.Lib in
theorem Tryd.stringslite_Index_shaped (s sub : ByteArray) (w : World) (h : w.ShapedOpen Tryd.prog) (hs : s.size < 4294967281) :
    Calls Tryd.prog 131 #[.string s, .string sub] w fun e w' => e = .returned (.int .i64 (Lib.index s.data.toList sub.data.toList)) ∧ w' = w := Any.stringslite_Index_shaped Tryd.laysM219 s sub w h hs
def Tryd.laysM143_ren : Go.Shelf.Ren := ⟨fun | 143 => 120 | 219 => 131 | 217 => 95 | 225 => 136 | 224 => 137 | 267 => 138 | 266 => 117 | 314 => 139 | n => n, fun | 9 => 9 | 3 => 3 | 4 => 4 | 5 => 5 | 46 => 51 | 146 => 195 | 51 => 162 | n => n, fun | 1 => 28 | n => n⟩
theorem Tryd.laysM143 : Go.Proofs.LaysM.n143 Tryd.prog Tryd.laysM143_ren := {
  mixed := by kernel_rfl
  f143 := Tryd.func120.trans (congrArg some (by kernel_rfl))
  f217 := Tryd.func95.trans (congrArg some (by kernel_rfl))
  f219 := Tryd.func131.trans (congrArg some (by kernel_rfl))
  f224 := Tryd.func137.trans (congrArg some (by kernel_rfl))
  f225 := Tryd.func136.trans (congrArg some (by kernel_rfl))
  f266 := Tryd.func117.trans (congrArg some (by kernel_rfl))
  f267 := Tryd.func138.trans (congrArg some (by kernel_rfl))
  f314 := Tryd.func139.trans (congrArg some (by kernel_rfl))
  t3 := Tryd.underlying3
  a3 := Tryd.isAgg3
  z3 := Tryd.sizeOf3
  v3 := Tryd.zeroValue3
  t4 := Tryd.underlying4
  a4 := Tryd.isAgg4
  z4 := Tryd.sizeOf4
  v4 := Tryd.zeroValue4
  t5 := Tryd.underlying5
  a5 := Tryd.isAgg5
  z5 := Tryd.sizeOf5
  v5 := Tryd.zeroValue5
  t9 := Tryd.underlying9
  a9 := Tryd.isAgg9
  z9 := Tryd.sizeOf9
  v9 := Tryd.zeroValue9
  t46 := Tryd.underlying51
  a46 := Tryd.isAgg51
  z46 := Tryd.sizeOf51
  v46 := Tryd.zeroValue51
  t51 := Tryd.underlying162
  a51 := Tryd.isAgg162
  z51 := Tryd.sizeOf162
  v51 := Tryd.zeroValue162
  t146 := Tryd.underlying195
  a146 := Tryd.isAgg195
  z146 := Tryd.sizeOf195
  v146 := Tryd.zeroValue195
  g1 := by kernel_rfl
  i3 := by kernel_rfl
  i4 := by kernel_rfl
  i5 := by kernel_rfl
  i9 := by kernel_rfl
  i46 := by kernel_rfl
  i51 := by kernel_rfl
  i146 := by kernel_rfl
  m1 := by kernel_rfl
  s1_3 := fun w h => Go.Proofs.cell_of_shapedOpen_int (zero := #[.int .i64 0]) (t := 3) h (of_decide_eq_true (by kernel_rfl)) (by kernel_rfl) rfl (by kernel_rfl) (by kernel_rfl) Tryd.underlying3 }
open Go.RowKit Go.Lib in
theorem Tryd.strings_Index_shaped (s sub : ByteArray) (w : World) (h : w.ShapedOpen Tryd.prog) (hs : s.size < 4294967281) :
    Calls Tryd.prog 120 #[.string s, .string sub] w fun e w' => e = .returned (.int .i64 (Lib.index s.data.toList sub.data.toList)) ∧ w' = w := Any.strings_Index_shaped Tryd.laysM143 s sub w h hs
def Tryd.laysM138_ren : Go.Shelf.Ren := ⟨fun | 138 => 119 | 195 => 128 | 218 => 130 | 143 => 120 | 219 => 131 | 217 => 95 | 225 => 136 | 224 => 137 | 267 => 138 | 266 => 117 | 314 => 139 | n => n, fun | 9 => 9 | 3 => 3 | 4 => 4 | 5 => 5 | 0 => 0 | 46 => 51 | 146 => 195 | 51 => 162 | n => n, fun | 1 => 28 | n => n⟩
theorem Tryd.laysM138 : Go.Proofs.LaysM.n138 Tryd.prog Tryd.laysM138_ren := {
  mixed := by kernel_rfl
  f138 := Tryd.func119.trans (congrArg some (by kernel_rfl))
  f143 := Tryd.func120.trans (congrArg some (by kernel_rfl))
  f195 := Tryd.func128.trans (congrArg some (by kernel_rfl))
  f217 := Tryd.func95.trans (congrArg some (by kernel_rfl))
  f218 := Tryd.func130.trans (congrArg some (by kernel_rfl))
  f219 := Tryd.func131.trans (congrArg some (by kernel_rfl))
  f224 := Tryd.func137.trans (congrArg some (by kernel_rfl))
  f225 := Tryd.func136.trans (congrArg some (by kernel_rfl))
  f266 := Tryd.func117.trans (congrArg some (by kernel_rfl))
  f267 := Tryd.func138.trans (congrArg some (by kernel_rfl))
  f314 := Tryd.func139.trans (congrArg some (by kernel_rfl))
  t0 := Tryd.underlying0
  a0 := Tryd.isAgg0
  z0 := Tryd.sizeOf0
  v0 := Tryd.zeroValue0
  t3 := Tryd.underlying3
  a3 := Tryd.isAgg3
  z3 := Tryd.sizeOf3
  v3 := Tryd.zeroValue3
  t4 := Tryd.underlying4
  a4 := Tryd.isAgg4
  z4 := Tryd.sizeOf4
  v4 := Tryd.zeroValue4
  t5 := Tryd.underlying5
  a5 := Tryd.isAgg5
  z5 := Tryd.sizeOf5
  v5 := Tryd.zeroValue5
  t9 := Tryd.underlying9
  a9 := Tryd.isAgg9
  z9 := Tryd.sizeOf9
  v9 := Tryd.zeroValue9
  t46 := Tryd.underlying51
  a46 := Tryd.isAgg51
  z46 := Tryd.sizeOf51
  v46 := Tryd.zeroValue51
  t51 := Tryd.underlying162
  a51 := Tryd.isAgg162
  z51 := Tryd.sizeOf162
  v51 := Tryd.zeroValue162
  t146 := Tryd.underlying195
  a146 := Tryd.isAgg195
  z146 := Tryd.sizeOf195
  v146 := Tryd.zeroValue195
  g1 := by kernel_rfl
  i0 := by kernel_rfl
  i3 := by kernel_rfl
  i4 := by kernel_rfl
  i5 := by kernel_rfl
  i9 := by kernel_rfl
  i46 := by kernel_rfl
  i51 := by kernel_rfl
  i146 := by kernel_rfl
  m1 := by kernel_rfl
  s1_3 := fun w h => Go.Proofs.cell_of_shapedOpen_int (zero := #[.int .i64 0]) (t := 3) h (of_decide_eq_true (by kernel_rfl)) (by kernel_rfl) rfl (by kernel_rfl) (by kernel_rfl) Tryd.underlying3 }
open Go.RowKit Go.Lib in
theorem Tryd.strings_Count_shaped (s sub : ByteArray) (w : World) (h : w.ShapedOpen Tryd.prog) (hs : s.size < 4294967281) (h2 : 2 ≤ sub.size) :
    Calls Tryd.prog 119 #[.string s, .string sub] w fun e w' => e = .returned (.int .i64 (Lib.countB s sub)) ∧ w' = w := Any.strings_Count_shaped Tryd.laysM138 s sub w h hs h2
def Tryd.lays206_ren : Go.Shelf.Ren := ⟨fun | 206 => 116 | n => n, fun | 9 => 9 | 4 => 4 | 3 => 3 | n => n, fun | n => n⟩
theorem Tryd.lays206 : Go.Proofs.Lays.n206 Tryd.prog Tryd.lays206_ren := {
  mixed := by kernel_rfl
  f206 := Tryd.func116.trans (congrArg some (by kernel_rfl))
  t3 := Tryd.underlying3
  a3 := Tryd.isAgg3
  z3 := Tryd.sizeOf3
  v3 := Tryd.zeroValue3
  t4 := Tryd.underlying4
  a4 := Tryd.isAgg4
  z4 := Tryd.sizeOf4
  v4 := Tryd.zeroValue4
  t9 := Tryd.underlying9
  a9 := Tryd.isAgg9
  z9 := Tryd.sizeOf9
  v9 := Tryd.zeroValue9 }
open Go.RowKit Go.Lib in
/-- internal/stringslite.HasPrefix (what strings.HasPrefix calls). (LAID: no walk: one application.) -/
theorem Tryd.stringslite_HasPrefix (s p : ByteArray) (w : World) :
    Calls Tryd.prog 116 #[.string s, .string p] w fun e w' => e = .returned (.bool (Lib.hasPrefix s.data.toList p.data.toList)) ∧ w' = w := Any.stringslite_HasPrefix Tryd.lays206 s p w
open Go.RowKit Go.Lib in
/-- strings.Count at whatever sep that is not empty: the two roads under one statement. (LAID: no walk: one application.) -/
theorem Tryd.strings_Count_any (s sep : ByteArray) (m : Int) (w : World) (hs : s.size < 4294967281) (hm : w.cell? ⟨28, 0, none⟩ = some (.int .i64 m)) (h1 : 1 ≤ sep.size) :
    Calls Tryd.prog 119 #[.string s, .string sep] w fun e w' => e = .returned (.int .i64 (Lib.countB s sep)) ∧ w' = w := Any.strings_Count_any Tryd.lays138 s sep m w hs hm h1
def Tryd.lays221_ren : Go.Shelf.Ren := ⟨fun | 221 => 96 | 268 => 118 | 138 => 119 | 143 => 120 | 195 => 128 | 197 => 129 | 218 => 130 | 219 => 131 | 260 => 135 | 217 => 95 | 225 => 136 | 224 => 137 | 267 => 138 | 266 => 117 | 314 => 139 | n => n, fun | 9 => 9 | 3 => 3 | 31 => 32 | 4 => 4 | 0 => 0 | 105 => 182 | 21 => 21 | 5 => 5 | 46 => 51 | 119 => 191 | 139 => 194 | 138 => 193 | 146 => 195 | 51 => 162 | n => n, fun | 1 => 28 | 3 => 29 | 4 => 30 | n => n⟩
theorem Tryd.lays221 : Go.Proofs.Lays.n221 Tryd.prog Tryd.lays221_ren := {
  mixed := by kernel_rfl
  f138 := Tryd.func119.trans (congrArg some (by kernel_rfl))
  f143 := Tryd.func120.trans (congrArg some (by kernel_rfl))
  f195 := Tryd.func128.trans (congrArg some (by kernel_rfl))
  f197 := Tryd.func129.trans (congrArg some (by kernel_rfl))
  f217 := Tryd.func95.trans (congrArg some (by kernel_rfl))
  f218 := Tryd.func130.trans (congrArg some (by kernel_rfl))
  f219 := Tryd.func131.trans (congrArg some (by kernel_rfl))
  f221 := Tryd.func96.trans (congrArg some (by kernel_rfl))
  f224 := Tryd.func137.trans (congrArg some (by kernel_rfl))
  f225 := Tryd.func136.trans (congrArg some (by kernel_rfl))
  f260 := Tryd.func135.trans (congrArg some (by kernel_rfl))
  f266 := Tryd.func117.trans (congrArg some (by kernel_rfl))
  f267 := Tryd.func138.trans (congrArg some (by kernel_rfl))
  f268 := Tryd.func118.trans (congrArg some (by kernel_rfl))
  f314 := Tryd.func139.trans (congrArg some (by kernel_rfl))
  t0 := Tryd.underlying0
  a0 := Tryd.isAgg0
  z0 := Tryd.sizeOf0
  v0 := Tryd.zeroValue0
  t3 := Tryd.underlying3
  a3 := Tryd.isAgg3
  z3 := Tryd.sizeOf3
  v3 := Tryd.zeroValue3
  t4 := Tryd.underlying4
  a4 := Tryd.isAgg4
  z4 := Tryd.sizeOf4
  v4 := Tryd.zeroValue4
  t5 := Tryd.underlying5
  a5 := Tryd.isAgg5
  z5 := Tryd.sizeOf5
  v5 := Tryd.zeroValue5
  t9 := Tryd.underlying9
  a9 := Tryd.isAgg9
  z9 := Tryd.sizeOf9
  v9 := Tryd.zeroValue9
  t21 := Tryd.underlying21
  a21 := Tryd.isAgg21
  z21 := Tryd.sizeOf21
  v21 := Tryd.zeroValue21
  t31 := Tryd.underlying32
  a31 := Tryd.isAgg32
  z31 := Tryd.sizeOf32
  v31 := Tryd.zeroValue32
  t46 := Tryd.underlying51
  a46 := Tryd.isAgg51
  z46 := Tryd.sizeOf51
  v46 := Tryd.zeroValue51
  t51 := Tryd.underlying162
  a51 := Tryd.isAgg162
  z51 := Tryd.sizeOf162
  v51 := Tryd.zeroValue162
  t105 := Tryd.underlying182
  a105 := Tryd.isAgg182
  z105 := Tryd.sizeOf182
  v105 := Tryd.zeroValue182
  t119 := Tryd.underlying191
  a119 := Tryd.isAgg191
  z119 := Tryd.sizeOf191
  t138 := Tryd.underlying193
  a138 := Tryd.isAgg193
  z138 := Tryd.sizeOf193
  v138 := Tryd.zeroValue193
  t139 := Tryd.underlying194
  a139 := Tryd.isAgg194
  z139 := Tryd.sizeOf194
  v139 := Tryd.zeroValue194
  t146 := Tryd.underlying195
  a146 := Tryd.isAgg195
  z146 := Tryd.sizeOf195
  v146 := Tryd.zeroValue195
  g1 := by kernel_rfl
  g3 := by kernel_rfl
  g4 := by kernel_rfl }
open Go.RowKit Go.Lib in
theorem Tryd.strings_genSplit (s sep : ByteArray) (sv : Nat) (n : Int) (N : Nat) (m : Int) (w : World) (hs : s.size < 4294967281) (hm : w.cell? ⟨28, 0, none⟩ = some (.int .i64 m)) (h1 : 1 ≤ sep.size) (hsv : sv ≤ sep.size) (hn0 : n ≠ 0) (hn63 : n ≤ 9223372036854775807) (hN : (N : Int) = min (if n < 0 then (Lib.countB s sep : Int) + 1 else n) ((s.size : Int) + 1)) :
    Calls Tryd.prog 96 #[.string s, .string sep, .int .i64 sv, .int .i64 n] w fun e w' =>
      e = .returned (.slice (some ⟨w.heap.size, 0, none⟩) (Lib.splitB sep sv (N - 1) s).length N) ∧ w' = w.alloc (.cells (Lib.cellsOf (Lib.splitB sep sv (N - 1) s) N) 9) := Any.strings_genSplit Tryd.lays221 (by kernel_rfl) s sep sv n N m w hs hm h1 hsv hn0 hn63 hN
def Tryd.lays146_ren : Go.Shelf.Ren := ⟨fun | 146 => 70 | 221 => 96 | 268 => 118 | 138 => 119 | 143 => 120 | 195 => 128 | 197 => 129 | 218 => 130 | 219 => 131 | 260 => 135 | 217 => 95 | 225 => 136 | 224 => 137 | 267 => 138 | 266 => 117 | 314 => 139 | n => n, fun | 9 => 9 | 31 => 32 | 3 => 3 | 4 => 4 | 0 => 0 | 105 => 182 | 21 => 21 | 5 => 5 | 46 => 51 | 119 => 191 | 139 => 194 | 138 => 193 | 146 => 195 | 51 => 162 | n => n, fun | 1 => 28 | 3 => 29 | 4 => 30 | n => n⟩
theorem Tryd.lays146 : Go.Proofs.Lays.n146 Tryd.prog Tryd.lays146_ren := {
  mixed := by kernel_rfl
  f138 := Tryd.func119.trans (congrArg some (by kernel_rfl))
  f143 := Tryd.func120.trans (congrArg some (by kernel_rfl))
  f146 := Tryd.func70.trans (congrArg some (by kernel_rfl))
  f195 := Tryd.func128.trans (congrArg some (by kernel_rfl))
  f197 := Tryd.func129.trans (congrArg some (by kernel_rfl))
  f217 := Tryd.func95.trans (congrArg some (by kernel_rfl))
  f218 := Tryd.func130.trans (congrArg some (by kernel_rfl))
  f219 := Tryd.func131.trans (congrArg some (by kernel_rfl))
  f221 := Tryd.func96.trans (congrArg some (by kernel_rfl))
  f224 := Tryd.func137.trans (congrArg some (by kernel_rfl))
  f225 := Tryd.func136.trans (congrArg some (by kernel_rfl))
  f260 := Tryd.func135.trans (congrArg some (by kernel_rfl))
  f266 := Tryd.func117.trans (congrArg some (by kernel_rfl))
  f267 := Tryd.func138.trans (congrArg some (by kernel_rfl))
  f268 := Tryd.func118.trans (congrArg some (by kernel_rfl))
  f314 := Tryd.func139.trans (congrArg some (by kernel_rfl))
  t0 := Tryd.underlying0
  a0 := Tryd.isAgg0
  z0 := Tryd.sizeOf0
  v0 := Tryd.zeroValue0
  t3 := Tryd.underlying3
  a3 := Tryd.isAgg3
  z3 := Tryd.sizeOf3
  v3 := Tryd.zeroValue3
  t4 := Tryd.underlying4
  a4 := Tryd.isAgg4
  z4 := Tryd.sizeOf4
  v4 := Tryd.zeroValue4
  t5 := Tryd.underlying5
  a5 := Tryd.isAgg5
  z5 := Tryd.sizeOf5
  v5 := Tryd.zeroValue5
  t9 := Tryd.underlying9
  a9 := Tryd.isAgg9
  z9 := Tryd.sizeOf9
  v9 := Tryd.zeroValue9
  t21 := Tryd.underlying21
  a21 := Tryd.isAgg21
  z21 := Tryd.sizeOf21
  v21 := Tryd.zeroValue21
  t31 := Tryd.underlying32
  a31 := Tryd.isAgg32
  z31 := Tryd.sizeOf32
  v31 := Tryd.zeroValue32
  t46 := Tryd.underlying51
  a46 := Tryd.isAgg51
  z46 := Tryd.sizeOf51
  v46 := Tryd.zeroValue51
  t51 := Tryd.underlying162
  a51 := Tryd.isAgg162
  z51 := Tryd.sizeOf162
  v51 := Tryd.zeroValue162
  t105 := Tryd.underlying182
  a105 := Tryd.isAgg182
  z105 := Tryd.sizeOf182
  v105 := Tryd.zeroValue182
  t119 := Tryd.underlying191
  a119 := Tryd.isAgg191
  z119 := Tryd.sizeOf191
  t138 := Tryd.underlying193
  a138 := Tryd.isAgg193
  z138 := Tryd.sizeOf193
  v138 := Tryd.zeroValue193
  t139 := Tryd.underlying194
  a139 := Tryd.isAgg194
  z139 := Tryd.sizeOf194
  v139 := Tryd.zeroValue194
  t146 := Tryd.underlying195
  a146 := Tryd.isAgg195
  z146 := Tryd.sizeOf195
  v146 := Tryd.zeroValue195
  g1 := by kernel_rfl
  g3 := by kernel_rfl
  g4 := by kernel_rfl }
open Go.RowKit Go.Lib in
/-- strings.Split. (LAID: no walk: one application.) -/
theorem Tryd.strings_Split (s sep : ByteArray) (m : Int) (w : World) (hs : s.size < 4294967281) (hm : w.cell? ⟨28, 0, none⟩ = some (.int .i64 m)) (h1 : 1 ≤ sep.size) :
    Calls Tryd.prog 70 #[.string s, .string sep] w fun e w' =>
      e = .returned (.slice (some ⟨w.heap.size, 0, none⟩) (Lib.countB s sep + 1) (Lib.countB s sep + 1)) ∧ w' = w.alloc (.cells ((Lib.splitB sep 0 (Lib.countB s sep) s).map Value.string).toArray 9) := Any.strings_Split Tryd.lays146 (by kernel_rfl) s sep m w hs hm h1
def Tryd.laysM146_ren : Go.Shelf.Ren := ⟨fun | 146 => 70 | 221 => 96 | 268 => 118 | 138 => 119 | 143 => 120 | 195 => 128 | 197 => 129 | 218 => 130 | 219 => 131 | 260 => 135 | 217 => 95 | 225 => 136 | 224 => 137 | 267 => 138 | 266 => 117 | 314 => 139 | n => n, fun | 9 => 9 | 31 => 32 | 3 => 3 | 4 => 4 | 0 => 0 | 105 => 182 | 21 => 21 | 5 => 5 | 46 => 51 | 119 => 191 | 139 => 194 | 138 => 193 | 146 => 195 | 51 => 162 | n => n, fun | 1 => 28 | 3 => 29 | 4 => 30 | n => n⟩
theorem Tryd.laysM146 : Go.Proofs.LaysM.n146 Tryd.prog Tryd.laysM146_ren := {
  mixed := by kernel_rfl
  f138 := Tryd.func119.trans (congrArg some (by kernel_rfl))
  f143 := Tryd.func120.trans (congrArg some (by kernel_rfl))
  f146 := Tryd.func70.trans (congrArg some (by kernel_rfl))
  f195 := Tryd.func128.trans (congrArg some (by kernel_rfl))
  f197 := Tryd.func129.trans (congrArg some (by kernel_rfl))
  f217 := Tryd.func95.trans (congrArg some (by kernel_rfl))
  f218 := Tryd.func130.trans (congrArg some (by kernel_rfl))
  f219 := Tryd.func131.trans (congrArg some (by kernel_rfl))
  f221 := Tryd.func96.trans (congrArg some (by kernel_rfl))
  f224 := Tryd.func137.trans (congrArg some (by kernel_rfl))
  f225 := Tryd.func136.trans (congrArg some (by kernel_rfl))
  f260 := Tryd.func135.trans (congrArg some (by kernel_rfl))
  f266 := Tryd.func117.trans (congrArg some (by kernel_rfl))
  f267 := Tryd.func138.trans (congrArg some (by kernel_rfl))
  f268 := Tryd.func118.trans (congrArg some (by kernel_rfl))
  f314 := Tryd.func139.trans (congrArg some (by kernel_rfl))
  t0 := Tryd.underlying0
  a0 := Tryd.isAgg0
  z0 := Tryd.sizeOf0
  v0 := Tryd.zeroValue0
  t3 := Tryd.underlying3
  a3 := Tryd.isAgg3
  z3 := Tryd.sizeOf3
  v3 := Tryd.zeroValue3
  t4 := Tryd.underlying4
  a4 := Tryd.isAgg4
  z4 := Tryd.sizeOf4
  v4 := Tryd.zeroValue4
  t5 := Tryd.underlying5
  a5 := Tryd.isAgg5
  z5 := Tryd.sizeOf5
  v5 := Tryd.zeroValue5
  t9 := Tryd.underlying9
  a9 := Tryd.isAgg9
  z9 := Tryd.sizeOf9
  v9 := Tryd.zeroValue9
  t21 := Tryd.underlying21
  a21 := Tryd.isAgg21
  z21 := Tryd.sizeOf21
  v21 := Tryd.zeroValue21
  t31 := Tryd.underlying32
  a31 := Tryd.isAgg32
  z31 := Tryd.sizeOf32
  v31 := Tryd.zeroValue32
  t46 := Tryd.underlying51
  a46 := Tryd.isAgg51
  z46 := Tryd.sizeOf51
  v46 := Tryd.zeroValue51
  t51 := Tryd.underlying162
  a51 := Tryd.isAgg162
  z51 := Tryd.sizeOf162
  v51 := Tryd.zeroValue162
  t105 := Tryd.underlying182
  a105 := Tryd.isAgg182
  z105 := Tryd.sizeOf182
  v105 := Tryd.zeroValue182
  t119 := Tryd.underlying191
  a119 := Tryd.isAgg191
  z119 := Tryd.sizeOf191
  t138 := Tryd.underlying193
  a138 := Tryd.isAgg193
  z138 := Tryd.sizeOf193
  v138 := Tryd.zeroValue193
  t139 := Tryd.underlying194
  a139 := Tryd.isAgg194
  z139 := Tryd.sizeOf194
  v139 := Tryd.zeroValue194
  t146 := Tryd.underlying195
  a146 := Tryd.isAgg195
  z146 := Tryd.sizeOf195
  v146 := Tryd.zeroValue195
  g1 := by kernel_rfl
  g3 := by kernel_rfl
  g4 := by kernel_rfl
  i0 := by kernel_rfl
  i3 := by kernel_rfl
  i4 := by kernel_rfl
  i5 := by kernel_rfl
  i9 := by kernel_rfl
  i21 := by kernel_rfl
  i31 := by kernel_rfl
  i46 := by kernel_rfl
  i51 := by kernel_rfl
  i105 := by kernel_rfl
  i138 := by kernel_rfl
  i139 := by kernel_rfl
  i146 := by kernel_rfl
  m1 := by kernel_rfl
  s1_3 := fun w h => Go.Proofs.cell_of_shapedOpen_int (zero := #[.int .i64 0]) (t := 3) h (of_decide_eq_true (by kernel_rfl)) (by kernel_rfl) rfl (by kernel_rfl) (by kernel_rfl) Tryd.underlying3
  m3 := by kernel_rfl
  m4 := by kernel_rfl }
open Go.RowKit Go.Lib in
/-- strings.Split, sep not empty. (LAID: no walk: one application.) -/
theorem Tryd.strings_Split_shaped (s sep : ByteArray) (w : World) (h : w.ShapedOpen Tryd.prog) (hs : s.size < 4294967281) (h1 : 1 ≤ sep.size) :
    Calls Tryd.prog 70 #[.string s, .string sep] w fun e w' =>
      e = .returned (.slice (some ⟨w.heap.size, 0, none⟩) (Lib.countB s sep + 1) (Lib.countB s sep + 1)) ∧ w' = w.alloc (.cells ((Lib.splitB sep 0 (Lib.countB s sep) s).map Value.string).toArray 9) := Any.strings_Split_shaped Tryd.laysM146 s sep w h hs h1
def Tryd.lays197_ren : Go.Shelf.Ren := ⟨fun | 197 => 129 | 260 => 135 | n => n, fun | 9 => 9 | 21 => 21 | 3 => 3 | 4 => 4 | 5 => 5 | 105 => 182 | 119 => 191 | 0 => 0 | 46 => 51 | 139 => 194 | 138 => 193 | n => n, fun | 3 => 29 | 4 => 30 | n => n⟩
theorem Tryd.lays197 : Go.Proofs.Lays.n197 Tryd.prog Tryd.lays197_ren := {
  mixed := by kernel_rfl
  f197 := Tryd.func129.trans (congrArg some (by kernel_rfl))
  f260 := Tryd.func135.trans (congrArg some (by kernel_rfl))
  t0 := Tryd.underlying0
  a0 := Tryd.isAgg0
  z0 := Tryd.sizeOf0
  v0 := Tryd.zeroValue0
  t3 := Tryd.underlying3
  a3 := Tryd.isAgg3
  z3 := Tryd.sizeOf3
  v3 := Tryd.zeroValue3
  t4 := Tryd.underlying4
  a4 := Tryd.isAgg4
  z4 := Tryd.sizeOf4
  v4 := Tryd.zeroValue4
  t5 := Tryd.underlying5
  a5 := Tryd.isAgg5
  z5 := Tryd.sizeOf5
  v5 := Tryd.zeroValue5
  t9 := Tryd.underlying9
  a9 := Tryd.isAgg9
  z9 := Tryd.sizeOf9
  v9 := Tryd.zeroValue9
  t21 := Tryd.underlying21
  a21 := Tryd.isAgg21
  z21 := Tryd.sizeOf21
  v21 := Tryd.zeroValue21
  t46 := Tryd.underlying51
  a46 := Tryd.isAgg51
  z46 := Tryd.sizeOf51
  v46 := Tryd.zeroValue51
  t105 := Tryd.underlying182
  a105 := Tryd.isAgg182
  z105 := Tryd.sizeOf182
  v105 := Tryd.zeroValue182
  t119 := Tryd.underlying191
  a119 := Tryd.isAgg191
  z119 := Tryd.sizeOf191
  t138 := Tryd.underlying193
  a138 := Tryd.isAgg193
  z138 := Tryd.sizeOf193
  v138 := Tryd.zeroValue193
  t139 := Tryd.underlying194
  a139 := Tryd.isAgg194
  z139 := Tryd.sizeOf194
  v139 := Tryd.zeroValue194
  g3 := by kernel_rfl
  g4 := by kernel_rfl }
open Go.RowKit Go.Lib in
/-- unicode/utf8.DecodeRuneInString: "DecodeRuneInString is like DecodeRune but its input is a string.": ("DecodeRune unpacks the first UTF-8 encoding in p and returns the rune and its width in bytes."): WHERE s BEGINS WITH AN ASCII BYTE x: (x, 1). (LAID: no walk: one application.) -/
theorem Tryd.utf8_DecodeRuneInString_ascii (s : ByteArray) (x : UInt8) (w : World) (h0 : s.data.toList[0]? = some x) (hx : x.toNat < 128) :
    Calls Tryd.prog 129 #[.string s] w fun e w' => e = .returned (.tuple #[.int .i32 x.toNat, .int .i64 1]) ∧ w' = w := Any.utf8_DecodeRuneInString_ascii Tryd.lays197 s x w h0 hx
open Go.RowKit Go.Lib in
theorem Tryd.utf8_RuneCountInString_ascii (s : ByteArray) (w : World) (hs : s.size < 4294967281) (hascii : ∀ (j : Nat) b, s.data.toList[j]? = some b → b.toNat < 128) :
    Calls Tryd.prog 128 #[.string s] w fun e w' => e = .returned (.int .i64 s.size) ∧ w' = w.iter s s.size := Any.utf8_RuneCountInString_ascii Tryd.lays195 s w hs hascii
def Tryd.lays268_ren : Go.Shelf.Ren := ⟨fun | 268 => 118 | 195 => 128 | 197 => 129 | 260 => 135 | n => n, fun | 9 => 9 | 3 => 3 | 31 => 32 | 4 => 4 | 105 => 182 | 21 => 21 | 0 => 0 | 5 => 5 | 119 => 191 | 46 => 51 | 139 => 194 | 138 => 193 | n => n, fun | 3 => 29 | 4 => 30 | n => n⟩
theorem Tryd.lays268 : Go.Proofs.Lays.n268 Tryd.prog Tryd.lays268_ren := {
  mixed := by kernel_rfl
  f195 := Tryd.func128.trans (congrArg some (by kernel_rfl))
  f197 := Tryd.func129.trans (congrArg some (by kernel_rfl))
  f260 := Tryd.func135.trans (congrArg some (by kernel_rfl))
  f268 := Tryd.func118.trans (congrArg some (by kernel_rfl))
  t0 := Tryd.underlying0
  a0 := Tryd.isAgg0
  z0 := Tryd.sizeOf0
  v0 := Tryd.zeroValue0
  t3 := Tryd.underlying3
  a3 := Tryd.isAgg3
  z3 := Tryd.sizeOf3
  v3 := Tryd.zeroValue3
  t4 := Tryd.underlying4
  a4 := Tryd.isAgg4
  z4 := Tryd.sizeOf4
  v4 := Tryd.zeroValue4
  t5 := Tryd.underlying5
  a5 := Tryd.isAgg5
  z5 := Tryd.sizeOf5
  v5 := Tryd.zeroValue5
  t9 := Tryd.underlying9
  a9 := Tryd.isAgg9
  z9 := Tryd.sizeOf9
  v9 := Tryd.zeroValue9
  t21 := Tryd.underlying21
  a21 := Tryd.isAgg21
  z21 := Tryd.sizeOf21
  v21 := Tryd.zeroValue21
  t31 := Tryd.underlying32
  a31 := Tryd.isAgg32
  z31 := Tryd.sizeOf32
  v31 := Tryd.zeroValue32
  t46 := Tryd.underlying51
  a46 := Tryd.isAgg51
  z46 := Tryd.sizeOf51
  v46 := Tryd.zeroValue51
  t105 := Tryd.underlying182
  a105 := Tryd.isAgg182
  z105 := Tryd.sizeOf182
  v105 := Tryd.zeroValue182
  t119 := Tryd.underlying191
  a119 := Tryd.isAgg191
  z119 := Tryd.sizeOf191
  t138 := Tryd.underlying193
  a138 := Tryd.isAgg193
  z138 := Tryd.sizeOf193
  v138 := Tryd.zeroValue193
  t139 := Tryd.underlying194
  a139 := Tryd.isAgg194
  z139 := Tryd.sizeOf194
  v139 := Tryd.zeroValue194
  g3 := by kernel_rfl
  g4 := by kernel_rfl }
open Go.RowKit Go.Lib in
theorem Tryd.strings_explode_all (s : ByteArray) (n : Int) (w : World) (hn : n < 0) (hs : s.size < 4294967281) (hascii : ∀ (j : Nat) b, s.data.toList[j]? = some b → b.toNat < 128) :
    Calls Tryd.prog 118 #[.string s, .int .i64 n] w fun e w' =>
      e = .returned (.slice (some ⟨(w.iter s s.size).heap.size, 0, none⟩) s.size s.size) ∧ w' = (w.iter s s.size).alloc (.cells ((Lib.charsB s).map Value.string).toArray 9) := Any.strings_explode_all Tryd.lays268 (by kernel_rfl) s n w hn hs hascii
open Go.RowKit Go.Lib in
/-- strings.genSplit at sep == "", n < 0: 'return explode(s, n)'. (LAID: no walk: one application.) -/
theorem Tryd.strings_genSplit_chars (s sep : ByteArray) (sv n : Int) (w : World) (h0 : sep.size = 0) (hn : n < 0) (hs : s.size < 4294967281) (hascii : ∀ (j : Nat) b, s.data.toList[j]? = some b → b.toNat < 128) :
    Calls Tryd.prog 96 #[.string s, .string sep, .int .i64 sv, .int .i64 n] w fun e w' =>
      e = .returned (.slice (some ⟨(w.iter s s.size).heap.size, 0, none⟩) s.size s.size) ∧ w' = (w.iter s s.size).alloc (.cells ((Lib.charsB s).map Value.string).toArray 9) := Any.strings_genSplit_chars Tryd.lays221 (by kernel_rfl) s sep sv n w h0 hn hs hascii
open Go.RowKit Go.Lib in
/-- strings.Split(s, ""), s ASCII: a piece a byte. (LAID: no walk: one application.) -/
theorem Tryd.strings_Split_chars (s sep : ByteArray) (w : World) (h0 : sep.size = 0) (hs : s.size < 4294967281) (hascii : ∀ (j : Nat) b, s.data.toList[j]? = some b → b.toNat < 128) :
    Calls Tryd.prog 70 #[.string s, .string sep] w fun e w' =>
      e = .returned (.slice (some ⟨(w.iter s s.size).heap.size, 0, none⟩) s.size s.size) ∧ w' = (w.iter s s.size).alloc (.cells ((Lib.charsB s).map Value.string).toArray 9) := Any.strings_Split_chars Tryd.lays146 (by kernel_rfl) s sep w h0 hs hascii
def Tryd.lays260_ren : Go.Shelf.Ren := ⟨fun | 260 => 135 | n => n, fun | 9 => 9 | 21 => 21 | 3 => 3 | 4 => 4 | 5 => 5 | 119 => 191 | 0 => 0 | 46 => 51 | 139 => 194 | 138 => 193 | n => n, fun | 3 => 29 | 4 => 30 | n => n⟩
theorem Tryd.lays260 : Go.Proofs.Lays.n260 Tryd.prog Tryd.lays260_ren := {
  mixed := by kernel_rfl
  f260 := Tryd.func135.trans (congrArg some (by kernel_rfl))
  t0 := Tryd.underlying0
  a0 := Tryd.isAgg0
  z0 := Tryd.sizeOf0
  v0 := Tryd.zeroValue0
  t3 := Tryd.underlying3
  a3 := Tryd.isAgg3
  z3 := Tryd.sizeOf3
  v3 := Tryd.zeroValue3
  t4 := Tryd.underlying4
  a4 := Tryd.isAgg4
  z4 := Tryd.sizeOf4
  v4 := Tryd.zeroValue4
  t5 := Tryd.underlying5
  a5 := Tryd.isAgg5
  z5 := Tryd.sizeOf5
  v5 := Tryd.zeroValue5
  t9 := Tryd.underlying9
  a9 := Tryd.isAgg9
  z9 := Tryd.sizeOf9
  v9 := Tryd.zeroValue9
  t21 := Tryd.underlying21
  a21 := Tryd.isAgg21
  z21 := Tryd.sizeOf21
  v21 := Tryd.zeroValue21
  t46 := Tryd.underlying51
  a46 := Tryd.isAgg51
  z46 := Tryd.sizeOf51
  v46 := Tryd.zeroValue51
  t119 := Tryd.underlying191
  a119 := Tryd.isAgg191
  z119 := Tryd.sizeOf191
  t138 := Tryd.underlying193
  a138 := Tryd.isAgg193
  z138 := Tryd.sizeOf193
  v138 := Tryd.zeroValue193
  t139 := Tryd.underlying194
  a139 := Tryd.isAgg194
  z139 := Tryd.sizeOf194
  v139 := Tryd.zeroValue194
  g3 := by kernel_rfl
  g4 := by kernel_rfl }
open Go.RowKit Go.Lib in
theorem Tryd.utf8_decodeRuneInStringSlow (s : ByteArray) (w : World) (hT : Lib.Utf8Tabs 29 30 w) :
    Calls Tryd.prog 135 #[.string s] w fun e w' => e = .returned (.tuple #[.int .i32 (Lib.decodeGo s).1, .int .i64 (Lib.decodeGo s).2]) ∧ Below w.heap.size w w' := Any.utf8_decodeRuneInStringSlow Tryd.lays260 s w hT
open Go.RowKit Go.Lib in
/-- **unicode/utf8.DecodeRuneInString AT EVERY STRING.** (LAID: no walk: one application.) -/
theorem Tryd.utf8_DecodeRuneInString (s : ByteArray) (w : World) (hT : Lib.Utf8Tabs 29 30 w) :
    Calls Tryd.prog 129 #[.string s] w fun e w' => e = .returned (.tuple #[.int .i32 (Lib.decodeGo s).1, .int .i64 (Lib.decodeGo s).2]) ∧ Below w.heap.size w w' := Any.utf8_DecodeRuneInString Tryd.lays197 s w hT
def Tryd.sortB_ren : Go.Shelf.Ren := ⟨fun | 6 => 57 | 15 => 90 | 14 => 91 | 28 => 105 | 29 => 106 | 20 => 107 | 21 => 108 | 22 => 109 | 23 => 110 | 24 => 111 | 25 => 112 | 26 => 113 | 27 => 114 | 46 => 123 | 47 => 124 | 48 => 125 | 49 => 126 | 50 => 127 | 57 => 134 | n => n, fun | 22 => 45 | 24 => 46 | 25 => 98 | 3 => 3 | 39 => 51 | 0 => 0 | 53 => 162 | 55 => 64 | 4 => 4 | 46 => 166 | 45 => 165 | 50 => 57 | 5 => 5 | 9 => 9 | 66 => 176 | 70 => 138 | 76 => 187 | 77 => 188 | n => n, fun | n => n⟩
theorem Tryd.sortB : Go.Proofs.SlLaysF.n6 Tryd.prog Tryd.sortB_ren := {
  mixed := by kernel_rfl
  f6 := ⟨Tryd.f57.name, by decide, Tryd.func57.trans (congrArg some (by kernel_rfl))⟩
  f14 := ⟨Tryd.f91.name, by decide, Tryd.func91.trans (congrArg some (by kernel_rfl))⟩
  f15 := Tryd.func90.trans (congrArg some (by kernel_rfl))
  f20 := ⟨Tryd.f107.name, by decide, Tryd.func107.trans (congrArg some (by kernel_rfl))⟩
  f21 := ⟨Tryd.f108.name, by decide, Tryd.func108.trans (congrArg some (by kernel_rfl))⟩
  f22 := ⟨Tryd.f109.name, by decide, Tryd.func109.trans (congrArg some (by kernel_rfl))⟩
  f23 := ⟨Tryd.f110.name, by decide, Tryd.func110.trans (congrArg some (by kernel_rfl))⟩
  f24 := ⟨Tryd.f111.name, by decide, Tryd.func111.trans (congrArg some (by kernel_rfl))⟩
  f25 := ⟨Tryd.f112.name, by decide, Tryd.func112.trans (congrArg some (by kernel_rfl))⟩
  f26 := ⟨Tryd.f113.name, by decide, Tryd.func113.trans (congrArg some (by kernel_rfl))⟩
  f27 := ⟨Tryd.f114.name, by decide, Tryd.func114.trans (congrArg some (by kernel_rfl))⟩
  f28 := Tryd.func105.trans (congrArg some (by kernel_rfl))
  f29 := Tryd.func106.trans (congrArg some (by kernel_rfl))
  f46 := ⟨Tryd.f123.name, by decide, Tryd.func123.trans (congrArg some (by kernel_rfl))⟩
  f47 := Tryd.func124.trans (congrArg some (by kernel_rfl))
  f48 := Tryd.func125.trans (congrArg some (by kernel_rfl))
  f49 := ⟨Tryd.f126.name, by decide, Tryd.func126.trans (congrArg some (by kernel_rfl))⟩
  f50 := ⟨Tryd.f127.name, by decide, Tryd.func127.trans (congrArg some (by kernel_rfl))⟩
  f57 := ⟨Tryd.f134.name, by decide, Tryd.func134.trans (congrArg some (by kernel_rfl))⟩
  t0 := Tryd.underlying0
  a0 := Tryd.isAgg0
  z0 := Tryd.sizeOf0
  v0 := Tryd.zeroValue0
  t3 := Tryd.underlying3
  a3 := Tryd.isAgg3
  z3 := Tryd.sizeOf3
  v3 := Tryd.zeroValue3
  t4 := Tryd.underlying4
  a4 := Tryd.isAgg4
  z4 := Tryd.sizeOf4
  v4 := Tryd.zeroValue4
  t5 := Tryd.underlying5
  a5 := Tryd.isAgg5
  z5 := Tryd.sizeOf5
  v5 := Tryd.zeroValue5
  t9 := Tryd.underlying9
  a9 := Tryd.isAgg9
  z9 := Tryd.sizeOf9
  v9 := Tryd.zeroValue9
  t22 := Tryd.underlying45
  a22 := Tryd.isAgg45
  z22 := Tryd.sizeOf45
  v22 := Tryd.zeroValue45
  a24 := Tryd.isAgg46
  z24 := Tryd.sizeOf46
  t25 := Tryd.underlying98
  a25 := Tryd.isAgg98
  z25 := Tryd.sizeOf98
  v25 := Tryd.zeroValue98
  t39 := Tryd.underlying51
  a39 := Tryd.isAgg51
  z39 := Tryd.sizeOf51
  v39 := Tryd.zeroValue51
  t45 := Tryd.underlying165
  a45 := Tryd.isAgg165
  z45 := Tryd.sizeOf165
  v45 := Tryd.zeroValue165
  t46 := Tryd.underlying166
  a46 := Tryd.isAgg166
  z46 := Tryd.sizeOf166
  v46 := Tryd.zeroValue166
  t50 := Tryd.underlying57
  a50 := Tryd.isAgg57
  z50 := Tryd.sizeOf57
  v50 := Tryd.zeroValue57
  t53 := Tryd.underlying162
  a53 := Tryd.isAgg162
  z53 := Tryd.sizeOf162
  v53 := Tryd.zeroValue162
  t55 := Tryd.underlying64
  a55 := Tryd.isAgg64
  z55 := Tryd.sizeOf64
  v55 := Tryd.zeroValue64
  t66 := Tryd.underlying176
  a66 := Tryd.isAgg176
  z66 := Tryd.sizeOf176
  v66 := Tryd.zeroValue176
  t70 := Tryd.underlying138
  a70 := Tryd.isAgg138
  z70 := Tryd.sizeOf138
  v70 := Tryd.zeroValue138
  t76 := Tryd.underlying187
  a76 := Tryd.isAgg187
  z76 := Tryd.sizeOf187
  v76 := Tryd.zeroValue187
  t77 := Tryd.underlying188
  a77 := Tryd.isAgg188
  z77 := Tryd.sizeOf188
  v77 := Tryd.zeroValue188 }
end Go.Proofs

/- Chapter 7: rows of bytes, sorted: the program's way and the reference's. -/
namespace Go.Proofs.YtdfjiodkmhpfkaaDoor
set_option linter.unusedVariables false
namespace Am
open Go.RowKit
set_option maxRecDepth 100000

theorem sort8_ac {gs : List Nat} (g : Option Nat) (ls : List (List UInt8)) (hl : ls.length ≤ 1000000000) : AC gs Tryd.prog 57 [(g, .blk ls.length (lbF ls))] [.os 0 g 0 ls.length 1, .c (.func (.func 58) #[] #[])] (fun r H' => r = .c (.tuple #[]) ∧ H' = [(g, .blk ls.length (lbF (sortL ls)))]) :=
  sort8_of (fun p cap fv w => AnyF.slices_SortFunc_none (P := Tryd.prog) (ρ := Tryd.sortB_ren) { Tryd.sortB with } p cap fv w)
    (fun m enc h1 cf hO blk cap d w hc hH hb hs => Any.slices_SortFunc (P := Tryd.prog) (ρ := Tryd.sortB_ren) Tryd.sortB enc h1 cf hO 58 #[] blk 0 cap d w (fun args W => run_enter (by kernel_rfl) args W) hc hH hb hs)
    (fun w v1 v2 l r h1 h2 => compare8_run h1 h2) g ls hl
theorem sumL_sort (ls : List (List UInt8)) : sumL (sortL ls) = sumL ls := ((sortL_perm ls).map List.length).sum_nat
theorem set_ac {gs : List Nat} (ls : List (List UInt8)) (hl : ls.length ≤ 1000000) (hs : sumL ls ≤ 10000000000) : ACp gs Tryd.prog 27 [lbC ls] (bsC (sortL ls).flatten) := by
  have hsl := sortL_length ls
  refine ac_of 10 Tryd.func27 rfl rfl rfl (fun al w0 F0 St0 => ?_)
  refine jcr ?_
  refine jq jrm ?_
  refine seq_nil ?_
  refine jcr ?_
  refine jq jrm ?_
  refine jqe (jecO (cloneL_ac ls hl) (fun p1 => ?_))
  refine jq jrm ?_
  refine seq_nil ?_
  refine jcr ?_
  refine jq jrm ?_
  refine jqm (jmcH 0 (sort8_ac p1 ls (by omega)) ?_)
  rintro _ _ ⟨rfl, rfl⟩
  refine ⟨_, _, rfl, CEnt.refl _, ?_⟩
  refine seq_nil ?_
  refine code_ent (freeze 0 rfl) ?_
  refine code_ent (thaw 3 (fun b _ => bsC ((sortL ls).getD b [])) rfl rfl (by omega) (fun a b ha hb => lb_thaw a b (by omega) hb)) ?_
  refine code_ent (weaken 3 (lbC (sortL ls)) (CEnt.rs hsl.symm fun i j _ _ => CEnt.refl _)) ?_
  refine jcr ?_
  refine jq jrm ?_
  refine jqe (jecP (concat8_ac (sortL ls) (by rw [sumL_sort]; exact hs) (by omega)) ?_)
  refine jq jrm ?_
  refine seq_nil ?_
  refine code_ret (jrt (hv := CEnt.refl _))
theorem gt_cmp (a b : List UInt8) : (!(Op.bytesLess a b || a == b)) = decide (0 < cmpL a b) := by
  rw [← cmpL_lt]
  have hs := cmpL_swap a b
  rcases Int.lt_trichotomy (cmpL a b) 0 with h | h | h
  · simp [h]; omega
  · have := cmpL_zero h
    subst this
    simp [h]
  · have hne : ¬ a = b := fun e => by subst e; rw [cmpL_self] at h; omega
    simp [hne, show ¬ cmpL a b < 0 by omega, h]
theorem lb_take {X : List (List UInt8)} {k j : Nat} (h : j < k) : bsC (X.getD (0 + j / 1) []) = lbF (X.take k) j := by
  unfold lbF
  simp [List.getD, List.getElem?_take, h]
theorem lb_drop {X : List (List UInt8)} {k j : Nat} : bsC (X.getD (k + j / 1) []) = lbF (X.drop k) j := by
  unfold lbF
  simp [List.getD, List.getElem?_drop]
/-- an element put where it belongs -/
theorem insert_sorted {X l : List (List UInt8)} {x : List UInt8} {k : Nat} (hX : X = sortL l) (hk : k ≤ X.length) (hlo : k = 0 ∨ leL (X.getD (k - 1) []) x = true) (hhi : ∀ j, k ≤ j → j < X.length → leL x (X.getD j []) = true) : X.take k ++ [x] ++ X.drop k = sortL (l ++ [x]) := by
  have hs : X.Pairwise fun a b => leL a b = true := hX ▸ sortL_sorted l
  have hp : X.Perm l := hX ▸ sortL_perm l
  refine sortL_of ?_ ?_
  · have h1 : (X.take k ++ [x] ++ X.drop k).Perm (X.take k ++ X.drop k ++ [x]) := by
      rw [List.append_assoc, List.append_assoc]
      exact List.Perm.append_left _ List.perm_append_comm
    rw [List.take_append_drop] at h1
    exact h1.trans (hp.append_right [x])
  · have hlow : ∀ a ∈ X.take k, leL a x = true := fun a ha => by
      obtain ⟨i, hi, rfl⟩ := List.mem_iff_getElem.1 ha
      rw [List.length_take] at hi
      rw [List.getElem_take]
      rcases hlo with h0 | h0
      · omega
      · by_cases e : i = k - 1
        · have : X.getD (k - 1) [] = X[i]'(by omega) := by subst e; simp [List.getD, show k - 1 < X.length by omega]
          rwa [this] at h0
        · refine leL_trans _ _ _ ?_ h0
          have := List.pairwise_iff_getElem.1 hs i (k - 1) (by omega) (by omega) (by omega)
          rwa [show X.getD (k - 1) [] = X[k - 1]'(by omega) by simp [List.getD, show k - 1 < X.length by omega]]
    have hhigh : ∀ a ∈ X.drop k, leL x a = true := fun a ha => by
      obtain ⟨i, hi, rfl⟩ := List.mem_iff_getElem.1 ha
      rw [List.length_drop] at hi
      rw [List.getElem_drop]
      have := hhi (k + i) (by omega) (by omega)
      rwa [show X.getD (k + i) [] = X[k + i]'(by omega) by simp [List.getD, show k + i < X.length by omega]] at this
    rw [List.pairwise_append, List.pairwise_append]
    refine ⟨⟨hs.take, List.pairwise_cons.2 ⟨fun _ h => by simp at h, .nil⟩, fun a ha b hb => ?_⟩, hs.drop, fun a ha b hb => ?_⟩
    · rw [List.mem_singleton.1 hb]; exact hlow a ha
    · rcases List.mem_append.1 ha with ha | ha
      · exact leL_trans _ _ _ (hlow a ha) (hhigh b hb)
      · rw [List.mem_singleton.1 ha]; exact hhigh b hb
set_option maxHeartbeats 1000000 in
theorem rsorted07_ac {gs : List Nat} (ls : List (List UInt8)) (hl : ls.length ≤ 1000000) : ACp gs Tryd.prog 26 [lbC ls] (lbC (sortL ls)) := by
  refine ac_of 48 Tryd.func26 rfl rfl rfl (fun al w0 F0 St0 => ?_)
  refine jcr ?_
  refine jq jrm ?_
  refine seq_nil ?_
  refine jcr ?_
  refine jqe (jebl 0 1 zr46 fun p1 => ?_)
  refine jq jrm ?_
  refine seq_nil ?_
  refine jcs ?_
  refine jcr ?_
  refine jq jrm ?_
  refine jq jrl ?_
  refine jq jrm ?_
  refine seq_nil ?_
  refine code_block ?_
  refine l_loop (α := Nat × List (List UInt8) × Option Nat) [3, 5, 6, 7, 11, 12, 13, 14, 15, 16, 17, 18, 19, 20, 21, 22, 23, 24, 25, 26, 27, 28, 29, 30, 31, 32, 33, 34, 35, 36, 37, 38, 39, 40, 41, 42, 43, 44, 45, 46] (fun (i, X, g) => [(11, .c (.int .i64 (i : Nat))), (3, .os 0 g 0 X.length 1)]) (fun (i, X, g) => [(g, .blk X.length (lbF X))]) (fun (i, X, g) => i ≤ ls.length ∧ X = sortL (ls.take i)) (fun (i, X, g) => ls.length - i) ((0, [], p1)) ?_ (fun _ => rfl) ?_ ?_ ?_
  · exact ⟨Nat.zero_le _, by simp [sortL]⟩
  · exact .cons (CEnt.refl _) (.cons (CEnt.refl _) .nil)
  · exact .blk rfl (fun j hj => absurd hj (Nat.not_lt_zero j)) .nil
  · rintro ⟨i, X, g⟩ ⟨(hi : i ≤ ls.length), hX⟩
    have hXl : X.length = i := by rw [hX, sortL_length, List.length_take]; omega
    obtain ⟨x, hx⟩ : ∃ x, x = ls.getD i [] := ⟨_, rfl⟩
    refine jcr ?_
    refine jq jrc ?_
    refine seq_nil ?_
    refine jcs ?_
    refine jcc (fun h115 => ?_) fun h115 => ?_
    rotate_left
    · refine code_exit (jte (jte (jbx (jtn ?_))))
      refine jcr ?_
      refine jq jrm ?_
      refine jq jrm ?_
      refine seq_nil ?_
      have hiL : i = ls.length := by omega
      rw [hiL, List.take_length] at hX
      refine code_ent (freeze 0 rfl) ?_
      refine code_ent (thaw 2 (fun b _ => bsC (X.getD b [])) rfl rfl (by omega) (fun a b ha hb => lb_thaw a b ha hb)) ?_
      refine code_ret (jrt (hv := ?_))
      rw [← hX]; exact CEnt.refl _
    refine code_skip (jtn ?_)
    refine jcs ?_
    refine code_block ?_
    refine jcr ?_
    refine jq jri ?_
    first | refine jqo jrdo ?_ | refine jq jrdr ?_
    refine jq jrm ?_
    refine seq_nil ?_
    refine code_ent (freeze 0 rfl) ?_
    refine code_ent (thaw 3 (fun b _ => bsC (X.getD b [])) rfl rfl (by omega) (fun a b ha hb => lb_thaw a b ha hb)) ?_
    refine code_ent (pick_ent (H' := []) [] (by decide) rfl) ?_
    refine jcr ?_
    refine jq jrm ?_
    refine jq jrl ?_
    refine jq jrm ?_
    refine seq_nil ?_
    refine jcs ?_
    refine code_block ?_
    refine code_ent (weaken 5 (bsC x) (CEnt.bs hx.symm)) ?_
    refine l_loop (α := Nat) [6, 17, 18, 19, 20, 21, 22, 23, 24, 25, 26, 27, 28, 29, 30, 31] (fun k => [(6, .c (.int .i64 (k : Nat)))]) (fun _ => []) (fun k => k ≤ X.length ∧ ∀ j, k ≤ j → j < X.length → leL x (X.getD j []) = true) (fun k => k) (X.length) ?_ (fun _ => rfl) ?_ ?_ ?_
    · exact ⟨Nat.le_refl _, fun j h1 h2 => by omega⟩
    · (repeat (first | exact EntE.nil | refine EntE.cons (CEnt.refl _) ?_ | refine EntE.cons (CEnt.int (by omega)) ?_))
    · (repeat (first | exact HEnt.nil | refine HEnt.same ?_ | refine HEnt.blk rfl (fun j hj => by rcases j with _|_|_|_|_|_|_|_|j <;> first | exact CEnt.refl _ | exact CEnt.int (by omega) | omega) ?_))
    · rintro k ⟨hk, hgt⟩
      refine jcs ?_
      refine jcs ?_
      refine jcd (.rd 0 (.rd 1 (.rd 2 (.rd 3 (.rd 4 (.rd 5 (.rd 6 (.rd 7 (.rd 8 (.rd 9 (.rd 10 (.rd 11 (.rd 12 .done))))))))))))) ?_
      refine jyq jrm ?_
      refine jyq jrc ?_
      refine jyq jrm ?_
      refine jysp 19 (fun g117 => ?_) fun g117 => ?_
      rotate_left
      · refine jys ?_
        refine jys ?_
        refine jys ?_
        refine jys ?_
        refine jys ?_
        refine jys ?_
        refine jys ?_
        refine jys ?_
        refine jys ?_
        refine jyq jrpF ?_
        refine jyd ?_
        refine jtn ?_
        refine jcF ?_
        refine code_exit (jte (jte (jbx (jtn ?_))))
        have hlo : k = 0 ∨ leL (X.getD (k - 1) []) x = true := by
          first
            | (left; omega)
            | (right; have hh := h117; rw [gt_cmp, decide_eq_false_iff_not] at hh; have := cmpL_swap (X.getD (k - 1) []) x; rw [leL_cmp]; omega)
        refine jcr ?_
        refine jqe (jebl 0 1 zr46 fun p2 => ?_)
        refine jq jrm ?_
        refine jq jrm ?_
        first | refine jq (jrsr (hl := (bd_none _ _)) (hu := (bd_some rfl (show _ = ((k : Nat) : Int) by first | omega | (simp only [List.length_append, List.length_cons, List.length_nil]; omega))))) ?_ | refine jq (jrso (hl := (bd_none _ _)) (hu := (bd_some rfl (show _ = ((k : Nat) : Int) by first | omega | (simp only [List.length_append, List.length_cons, List.length_nil]; omega))))) ?_
        refine jqm (m_appendC rowC_lb (l := []) (l2 := X.take k) rfl rfl rfl rfl (Nat.le_of_eq (Nat.zero_mul _)) (fun j hj => absurd hj (by simp)) (src_rs rfl) (by rw [List.length_take]; omega) (fun j hj => CEnt.of_eq (lb_take (by rw [List.length_take] at hj; omega))) Tryd.underlying45 nu45 sz46 zr46 by46 rfl (by simp; omega) (by simp; omega) (fun j hj => rfl) rfl rfl (Nat.mul_one _) (fun p3 => ?_))
        refine jq jrm ?_
        refine seq_nil ?_
        refine jcr ?_
        refine jq jrm ?_
        refine jq jrm ?_
        refine jqe (jebl 1 1 zr46 fun p4 => ?_)
        refine jqm (m_appendC rowC_lb (l := [] ++ X.take k) (l2 := [x]) rfl rfl (by simp) rfl (by simp) (fun j hj => CEnt.refl _) (src_os rfl (.inl rfl) (by decide)) rfl (fun j hj => by obtain rfl : j = 0 := (by simp at hj; omega); exact CEnt.refl _) Tryd.underlying45 nu45 sz46 zr46 by46 rfl (by simp; omega) (by simp; omega) (fun j hj => by obtain rfl : j = 0 := (by omega); rfl) rfl rfl (Nat.mul_one _) (fun p5 => ?_))
        refine jq jrm ?_
        refine seq_nil ?_
        refine jcg ?_
        refine jq jrm ?_
        refine jq jrm ?_
        refine jq jrm ?_
        first | refine jq (jrsr (hl := (bd_some rfl (show _ = ((k : Nat) : Int) by first | omega | (simp only [List.length_append, List.length_cons, List.length_nil]; omega)))) (hu := (bd_none _ _))) ?_ | refine jq (jrso (hl := (bd_some rfl (show _ = ((k : Nat) : Int) by first | omega | (simp only [List.length_append, List.length_cons, List.length_nil]; omega)))) (hu := (bd_none _ _))) ?_
        refine jqm (m_appendC rowC_lb (l := [] ++ X.take k ++ [x]) (l2 := X.drop k) rfl rfl (by simp) rfl (by simp) (fun j hj => CEnt.refl _) (src_rs rfl) (by rw [List.length_drop]) (fun j hj => CEnt.of_eq lb_drop) Tryd.underlying45 nu45 sz46 zr46 by46 rfl (by simp; omega) (by simp; omega) (fun j hj => rfl) rfl rfl (Nat.mul_one _) (fun p6 => ?_))
        refine jq jrm ?_
        refine seq_nil ?_
        refine jbn (jtn ?_)
        refine jcg ?_
        refine jq jra ?_
        refine jq jrm ?_
        refine seq_nil ?_
        refine jtn ?_
        refine jlend ((i + 1, X.take k ++ [x] ++ X.drop k, p6)) ?_ ?_ (h5 := ?_) (h7 := ?_)
        · exact ⟨by omega, by
            have e : ls.take (i + 1) = ls.take i ++ [x] := by rw [hx, List.take_succ_eq_append_getElem (by omega)]; simp [List.getD, show i < ls.length by omega]
            rw [e]
            exact insert_sorted hX hk hlo (fun j h1 h2 => hgt j h1 h2)⟩
        · show ls.length - (i + 1) < ls.length - i; omega
        · exact .cons (CEnt.int (by omega)) (.cons (CEnt.refl _) .nil)
        · exact .same .nil
      refine jyq jrm ?_
      refine jyq jrm ?_
      refine jyq jra ?_
      refine jyq (jri (i := (k - 1)) (hz := by first | omega | (simp only [List.length_append, List.length_cons, List.length_nil]; omega))) ?_
      first | refine jyo jrdo ?_ | refine jyq jrdr ?_
      first | refine jyq jrbs ?_ | refine jyo jrbo ?_ | refine jyq jrbn ?_
      refine jyq jrm ?_
      first | refine jyq jrbs ?_ | refine jyo jrbo ?_ | refine jyq jrbn ?_
      refine jyq jrcs ?_
      refine jyq jrpT ?_
      refine jyd ?_
      refine jtn ?_
      refine jcc (fun h117 => ?_) fun h117 => ?_
      · refine code_skip (jtn ?_)
        refine code_block ?_
        refine jcg ?_
        refine jq jrm ?_
        refine jq jra ?_
        refine jq jrm ?_
        refine seq_nil ?_
        refine jbn (jtn ?_)
        refine jlend (k - 1) ?_ ?_ (h5 := ?_)
        · exact ⟨by omega, fun j h1 h2 => by
            by_cases e : j = k - 1
            · subst e
              have := h117
              rw [gt_cmp, decide_eq_true_eq] at this
              rw [leL_cmp]; omega
            · exact hgt j (by omega) h2⟩
        · show k - 1 < k; omega
        · exact .cons (CEnt.int (by omega)) .nil
      refine code_exit (jte (jte (jbx (jtn ?_))))
      have hlo : k = 0 ∨ leL (X.getD (k - 1) []) x = true := by
        first
          | (left; omega)
          | (right; have hh := h117; rw [gt_cmp, decide_eq_false_iff_not] at hh; have := cmpL_swap (X.getD (k - 1) []) x; rw [leL_cmp]; omega)
      refine jcr ?_
      refine jqe (jebl 0 1 zr46 fun p2 => ?_)
      refine jq jrm ?_
      refine jq jrm ?_
      first | refine jq (jrsr (hl := (bd_none _ _)) (hu := (bd_some rfl (show _ = ((k : Nat) : Int) by first | omega | (simp only [List.length_append, List.length_cons, List.length_nil]; omega))))) ?_ | refine jq (jrso (hl := (bd_none _ _)) (hu := (bd_some rfl (show _ = ((k : Nat) : Int) by first | omega | (simp only [List.length_append, List.length_cons, List.length_nil]; omega))))) ?_
      refine jqm (m_appendC rowC_lb (l := []) (l2 := X.take k) rfl rfl rfl rfl (Nat.le_of_eq (Nat.zero_mul _)) (fun j hj => absurd hj (by simp)) (src_rs rfl) (by rw [List.length_take]; omega) (fun j hj => CEnt.of_eq (lb_take (by rw [List.length_take] at hj; omega))) Tryd.underlying45 nu45 sz46 zr46 by46 rfl (by simp; omega) (by simp; omega) (fun j hj => rfl) rfl rfl (Nat.mul_one _) (fun p3 => ?_))
      refine jq jrm ?_
      refine seq_nil ?_
      refine jcr ?_
      refine jq jrm ?_
      refine jq jrm ?_
      refine jqe (jebl 1 1 zr46 fun p4 => ?_)
      refine jqm (m_appendC rowC_lb (l := [] ++ X.take k) (l2 := [x]) rfl rfl (by simp) rfl (by simp) (fun j hj => CEnt.refl _) (src_os rfl (.inl rfl) (by decide)) rfl (fun j hj => by obtain rfl : j = 0 := (by simp at hj; omega); exact CEnt.refl _) Tryd.underlying45 nu45 sz46 zr46 by46 rfl (by simp; omega) (by simp; omega) (fun j hj => by obtain rfl : j = 0 := (by omega); rfl) rfl rfl (Nat.mul_one _) (fun p5 => ?_))
      refine jq jrm ?_
      refine seq_nil ?_
      refine jcg ?_
      refine jq jrm ?_
      refine jq jrm ?_
      refine jq jrm ?_
      first | refine jq (jrsr (hl := (bd_some rfl (show _ = ((k : Nat) : Int) by first | omega | (simp only [List.length_append, List.length_cons, List.length_nil]; omega)))) (hu := (bd_none _ _))) ?_ | refine jq (jrso (hl := (bd_some rfl (show _ = ((k : Nat) : Int) by first | omega | (simp only [List.length_append, List.length_cons, List.length_nil]; omega)))) (hu := (bd_none _ _))) ?_
      refine jqm (m_appendC rowC_lb (l := [] ++ X.take k ++ [x]) (l2 := X.drop k) rfl rfl (by simp) rfl (by simp) (fun j hj => CEnt.refl _) (src_rs rfl) (by rw [List.length_drop]) (fun j hj => CEnt.of_eq lb_drop) Tryd.underlying45 nu45 sz46 zr46 by46 rfl (by simp; omega) (by simp; omega) (fun j hj => rfl) rfl rfl (Nat.mul_one _) (fun p6 => ?_))
      refine jq jrm ?_
      refine seq_nil ?_
      refine jbn (jtn ?_)
      refine jcg ?_
      refine jq jra ?_
      refine jq jrm ?_
      refine seq_nil ?_
      refine jtn ?_
      refine jlend ((i + 1, X.take k ++ [x] ++ X.drop k, p6)) ?_ ?_ (h5 := ?_) (h7 := ?_)
      · exact ⟨by omega, by
          have e : ls.take (i + 1) = ls.take i ++ [x] := by rw [hx, List.take_succ_eq_append_getElem (by omega)]; simp [List.getD, show i < ls.length by omega]
          rw [e]
          exact insert_sorted hX hk hlo (fun j h1 h2 => hgt j h1 h2)⟩
      · show ls.length - (i + 1) < ls.length - i; omega
      · exact .cons (CEnt.int (by omega)) (.cons (CEnt.refl _) .nil)
      · exact .same .nil
end Am
end Go.Proofs.YtdfjiodkmhpfkaaDoor
