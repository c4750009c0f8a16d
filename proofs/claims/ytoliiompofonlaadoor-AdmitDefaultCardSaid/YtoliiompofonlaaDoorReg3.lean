
/- A region that draws its order and ends in operations that come behind all others: its first m operations by XReg2's walk, the rest one behind the other. -/
import Derived.Test.YtoliiompofonlaaDoorReg2
namespace Go.Proofs.YtoliiompofonlaaDoor
set_option linter.unusedVariables false
open Go.RowKit
section
variable {P : Program} {ops : Array Oper} {Q : Exit → Act → World → Prop} {md : Region.Mode} {m : Nat} {R : Act → World → Prop}

def fullB (m : Nat) (listed : Array Bool) : Bool := (List.range m).all fun i => listed.getD i false
theorem fullB_spec {listed : Array Bool} : fullB m listed = true ↔ ∀ i, i < m → listed.getD i false = true := by
  simp [fullB, List.all_eq_true]
/-- what is listed hangs on what is listed -/
def ClosedL (md : Region.Mode) (ops : Array Oper) (listed : Array Bool) : Prop := ∀ (i : Nat) o, ops[i]? = some o → listed.getD i false = true → ∀ e ∈ o.after, Region.binds md e = true → listed.getD e.on false = true
/-- the operations from m on come behind all those ahead -/
def coverB (md : Region.Mode) (ops : Array Oper) (m : Nat) : Bool :=
  ((List.range m).all fun i => (List.range (m + 1)).any fun k => Nat.blt i k && (ops[k]?).any fun o => o.after.any fun e => Region.binds md e && e.on == i) &&
  ((List.range ops.size).all fun j => Nat.ble j m || (List.range j).any fun k => Nat.ble m k && (ops[j]?).any fun o => o.after.any fun e => Region.binds md e && e.on == k)

theorem any_some {α : Type} {p : α → Bool} {x : Option α} (h : x.any p = true) : ∃ o, x = some o ∧ p o = true := by
  cases x with
  | none => cases h
  | some o => exact ⟨o, rfl, h⟩
theorem not_both {listed : Array Bool} {i j : Nat} (hji : j ≠ i) (h0 : listed.getD j true = false) (h1 : (listed.setIfInBounds i true).getD j false = true) : False := by
  have e : (listed.setIfInBounds i true)[j]? = listed[j]? := Array.getElem?_setIfInBounds_ne (Ne.symm hji)
  simp only [Array.getD_eq_getD_getElem?] at h0 h1
  rw [e] at h1
  cases h : listed[j]? with
  | none => rw [h] at h0; cases h0
  | some b => rw [h] at h0 h1; simp at h0 h1; rw [h0] at h1; cases h1
theorem cover_ready (hc : coverB md ops m = true) {listed : Array Bool} (hcl : ClosedL md ops listed) : ∀ (n j : Nat), j = m + n → (∀ o, ops[j]? = some o → ∀ e ∈ o.after, Region.binds md e = true → listed.getD e.on false = true) → j < ops.size → fullB m listed = true := by
  simp only [coverB, Bool.and_eq_true, List.all_eq_true, List.any_eq_true, List.mem_range, Bool.or_eq_true] at hc
  obtain ⟨h1, h2⟩ := hc
  intro n
  induction n using Nat.strongRecOn with
  | _ n ih =>
    intro j hj hr hlt
    by_cases hn : n = 0
    · subst hn
      have hj : j = m := by omega
      subst hj
      rw [fullB_spec]
      have key : ∀ d i, i + d = j → d ≠ 0 → listed.getD i false = true := by
        intro d
        induction d using Nat.strongRecOn with
        | _ d ihd =>
          intro i hid hd
          obtain ⟨k, hk, hk2⟩ := h1 i (by omega)
          obtain ⟨hik, hk3⟩ := hk2
          have hik : i < k := Nat.le_of_ble_eq_true hik
          obtain ⟨o, ho, ha⟩ := any_some hk3
          obtain ⟨e, he, hbe⟩ := Array.any_eq_true'.1 ha
          simp only [Bool.and_eq_true, beq_iff_eq] at hbe
          by_cases hkj : k = j
          · subst hkj
            have := hr o ho e he hbe.1
            rwa [hbe.2] at this
          · have := hcl k o ho (ihd (j - k) (by omega) k (by omega) (by omega)) e he hbe.1
            rwa [hbe.2] at this
      intro i hi
      exact key (j - i) i (by omega) (by omega)
    · have h3 := h2 j hlt
      rcases h3 with h3 | ⟨k, hk, hk2, hk3⟩
      · have := Nat.le_of_ble_eq_true h3; omega
      · have hk2 : m ≤ k := Nat.le_of_ble_eq_true hk2
        obtain ⟨o, ho, ha⟩ := any_some hk3
        obtain ⟨e, he, hbe⟩ := Array.any_eq_true'.1 ha
        simp only [Bool.and_eq_true, beq_iff_eq] at hbe
        have hl := hr o ho e he hbe.1
        rw [hbe.2] at hl
        refine ih (k - m) (by omega) k (by omega) (fun o' ho' e' he' hb' => hcl k o' ho' hl e' he' hb') ?_
        omega

theorem ready_lt (hc : coverB md ops m = true) {listed : Array Bool} (hcl : ClosedL md ops listed) (hf : fullB m listed = false) {j : Nat} (hj : j ∈ Region.ready md ops listed) : j < m := by
  rcases Nat.lt_or_ge j m with h | h
  · exact h
  · obtain ⟨hun, o, ho, hall⟩ := mem_ready.1 hj
    have := cover_ready hc hcl (j - m) j (by omega) (fun o' ho' e he hb => by
      rw [ho] at ho'; cases ho'
      exact hall e he hb) (Array.getElem?_eq_some_iff.1 ho).1
    rw [this] at hf; cases hf

def wpB (P : Program) (md : Region.Mode) (ops : Array Oper) (Q : Exit → Act → World → Prop) (m : Nat) (R : Act → World → Prop) : Nat → Array Bool → Act → World → Prop
  | 0, listed, a, w => fullB m listed = true ∧ ∀ n : Ext w, R a n.w
  | f + 1, listed, a, w => (fullB m listed = true → ∀ n : Ext w, R a n.w) ∧
    (fullB m listed = false → Region.ready md ops listed ≠ [] ∧ ∀ i ∈ Region.ready md ops listed, ∀ n : Ext w, wpOp P ops Q i (fun a' w' => Below n.w.heap.size n.w w' ∧ wpB P md ops Q m R f (listed.setIfInBounds i true) a' w') a n.w)

theorem wpB_mono : ∀ (f : Nat) (listed : Array Bool) (a : Act) (w W : World), Below w.heap.size w W → wpB P md ops Q m R f listed a w → wpB P md ops Q m R f listed a W
  | 0, _, _, _, _, hb, h => ⟨h.1, fun n => h.2 (n.up hb)⟩
  | _ + 1, _, _, _, _, hb, h => ⟨fun h0 n => h.1 h0 (n.up hb), fun h0 => ⟨(h.2 h0).1, fun i hi n => (h.2 h0).2 i hi (n.up hb)⟩⟩

theorem getD_set_true {listed : Array Bool} {i j : Nat} (h : listed.getD j false = true) : (listed.setIfInBounds i true).getD j false = true := by
  by_cases hij : i = j
  · subst hij
    have : i < listed.size := by
      rcases Nat.lt_or_ge i listed.size with h' | h'
      · exact h'
      · simp [Array.getElem?_eq_none h'] at h
    simp [this]
  · simpa [Array.getElem?_setIfInBounds_ne hij] using h

theorem closed_set {listed : Array Bool} (hcl : ClosedL md ops listed) {i : Nat} (hi : i ∈ Region.ready md ops listed) : ClosedL md ops (listed.setIfInBounds i true) := by
  obtain ⟨hun, oi, hoi, hall⟩ := mem_ready.1 hi
  intro k o ho hk e he hb
  by_cases hik : k = i
  · subst hik
    rw [hoi] at ho; cases ho
    exact getD_set_true (hall e he hb)
  · have hk' : listed.getD k false = true := by simpa [Array.getElem?_setIfInBounds_ne (Ne.symm hik)] using hk
    exact getD_set_true (hcl k o ho hk' e he hb)

theorem wpB_first {i : Nat} {oi : Oper} {v : Value} (hc : coverB md ops m = true) (hi : ops[i]? = some oi) (him : i < m) (hsel : ∀ (j : Nat) (o : Oper) cs b, ops[j]? = some o → o.op ≠ .select cs b)
    (hQ : ∀ c a w, Q (.panic c) (a.put oi.dst v) w → Q (.panic c) a w) :
    ∀ (fuel : Nat) (listed : Array Bool) (a : Act) (w : World), ClosedL md ops listed →
      (∀ j oj, ops[j]? = some oj → j < m → j ≠ i → listed.getD j true = false → (∀ e ∈ oj.after, Region.binds md e = true → e.on ≠ i) → oi.apart ops oj = true) →
      i ∈ Region.ready md ops listed → YieldsE P ops w oi v a →
      wpB P md ops Q m R fuel (listed.setIfInBounds i true) (a.put oi.dst v) w → wpB P md ops Q m R (fuel + 1) listed a w := by
  have nf : ∀ {listed : Array Bool}, i ∈ Region.ready md ops listed → fullB m listed = false := fun {listed} hr => by
    cases h : fullB m listed with
    | false => rfl
    | true =>
      have := fullB_spec.1 h i him
      have h0 := (mem_ready.1 hr).1
      rcases Nat.lt_or_ge i listed.size with h' | h'
      · simp [h'] at h0 this; rw [h0] at this; cases this
      · simp [Array.getElem?_eq_none h'] at this
  intro fuel
  induction fuel with
  | zero =>
    intro listed a w hcl _ hr hy H
    have hnf := nf hr
    refine ⟨fun h => (by rw [hnf] at h; cases h), fun _ => ⟨(by intro h; rw [h] at hr; cases hr), fun j hj n => ?_⟩⟩
    by_cases hji : j = i
    · subst hji
      exact YieldsIf.wpOp hi hy n.below ⟨Below.refl _ _, wpB_mono 0 _ _ _ _ n.below H⟩
    · have hjm := ready_lt hc hcl hnf hj
      have h1 := fullB_spec.1 H.1 j hjm
      exact (not_both hji (mem_ready.1 hj).1 h1).elim
  | succ fuel ih =>
    intro listed a w hcl hfree hr hy H
    have hnf := nf hr
    refine ⟨fun h => (by rw [hnf] at h; cases h), fun _ => ⟨(by intro h; rw [h] at hr; cases hr), fun j hj n => ?_⟩⟩
    by_cases hji : j = i
    · subst hji
      exact YieldsIf.wpOp hi hy n.below ⟨Below.refl _ _, wpB_mono (fuel + 1) _ _ _ _ n.below H⟩
    · have hjm := ready_lt hc hcl hnf hj
      obtain ⟨hjun, oj, hoj, hall⟩ := mem_ready.1 hj
      have hnf2 : fullB m (listed.setIfInBounds i true) = false := by
        cases h : fullB m (listed.setIfInBounds i true) with
        | false => rfl
        | true =>
          have h1 := fullB_spec.1 h j hjm
          exact (not_both hji hjun h1).elim
      have h1 := (H.2 hnf2).2 j (ready_mono hj hji) n
      have hnot : ∀ e ∈ oj.after, Region.binds md e = true → e.on ≠ i := fun e he hb heq => by
        have h1 := hall e he hb
        have h0 := (mem_ready.1 hr).1
        rw [heq] at h1
        rcases Nat.lt_or_ge i listed.size with h' | h'
        · simp [h'] at h0 h1; rw [h0] at h1; cases h1
        · simp [Array.getElem?_eq_none h'] at h1
      have h2 := wpOp_putIf hoj (hfree j oj hoj hjm hji hjun hnot) (fun cs b => hsel i oi cs b hi) (fun cs b => hsel j oj cs b hoj) hQ (YieldsE.mono n.below hy) h1
      have hfree' : ∀ k ok, ops[k]? = some ok → k < m → k ≠ i → (listed.setIfInBounds j true).getD k true = false →
          (∀ e ∈ ok.after, Region.binds md e = true → e.on ≠ i) → oi.apart ops ok = true := fun k ok hk hkm hki hun hno => by
        refine hfree k ok hk hkm hki ?_ hno
        by_cases hjk : j = k
        · subst hjk; exact hjun
        · rw [getD_set_ne true hjk] at hun; exact hun
      refine wpOp_mono (fun a' w' h3 => ⟨h3.2.1, ih (listed.setIfInBounds j true) a' w' (closed_set hcl hj) hfree' (ready_mono hr (Ne.symm hji)) (YieldsE.mono h3.2.1 h3.1) ?_⟩) h2
      rw [Array.setIfInBounds_comm _ _ hji]
      exact h3.2.2

/-- the walk's end: R -/
def wpTB (P : Program) (ops : Array Oper) (Q : Exit → Act → World → Prop) (R : Act → World → Prop) : Ord → Act → World → Prop
  | .done, a, w => ∀ n : Ext w, R a n.w
  | .rd i k, a, w => ∃ v o, ops[i]? = some o ∧ YieldsE P ops w o v a ∧ wpTB P ops Q R k (a.put o.dst v) w
  | .one i k, a, w => ∀ n : Ext w, wpOp P ops Q i (fun a' w' => Below n.w.heap.size n.w w' ∧ wpTB P ops Q R k a' w') a n.w
  | .two i k j l, a, w =>
    (∀ n : Ext w, wpOp P ops Q i (fun a' w' => Below n.w.heap.size n.w w' ∧ wpTB P ops Q R k a' w') a n.w) ∧
    (∀ n : Ext w, wpOp P ops Q j (fun a' w' => Below n.w.heap.size n.w w' ∧ wpTB P ops Q R l a' w') a n.w)

def freeB (md : Region.Mode) (ops : Array Oper) (m : Nat) (listed : Array Bool) (i : Nat) : Bool := match ops[i]? with
  | none => false
  | some oi => (List.range m).all fun j => Nat.beq j i || listed.getD j true || match ops[j]? with | none => true | some oj => (oj.after.any fun e => Region.binds md e && e.on == i) || oi.apart ops oj
theorem freeB_spec {listed : Array Bool} {i : Nat} {oi : Oper} (hi : ops[i]? = some oi) (h : freeB md ops m listed i = true) :
    ∀ j oj, ops[j]? = some oj → j < m → j ≠ i → listed.getD j true = false → (∀ e ∈ oj.after, Region.binds md e = true → e.on ≠ i) → oi.apart ops oj = true := by
  intro j oj hj hjm hji hun hno
  simp only [freeB, hi, List.all_eq_true, List.mem_range] at h
  have := h j hjm
  simp only [hun, hj, Bool.or_false, Bool.or_eq_true] at this
  rcases this with h1 | h1 | h1
  · exact absurd (Nat.eq_of_beq_eq_true h1) hji
  · obtain ⟨e, he, hb⟩ := Array.any_eq_true'.1 h1
    simp only [Bool.and_eq_true, beq_iff_eq] at hb
    exact absurd hb.2 (hno e he hb.1)
  · exact h1

def orderB2 (md : Region.Mode) (ops : Array Oper) (m : Nat) : Ord → Array Bool → Bool
  | .done, listed => fullB m listed
  | .rd i k, listed => (Region.ready md ops listed).contains i && Nat.blt i m && freeB md ops m listed i && orderB2 md ops m k (listed.setIfInBounds i true)
  | .one i k, listed => !fullB m listed && Region.ready md ops listed == [i] && orderB2 md ops m k (listed.setIfInBounds i true)
  | .two i k j l, listed => !fullB m listed && Region.ready md ops listed == [i, j] && (k.len == l.len) && orderB2 md ops m k (listed.setIfInBounds i true) && orderB2 md ops m l (listed.setIfInBounds j true)

theorem wpB_of (hc : coverB md ops m = true) (hs : Region.noSelect ops = true) (hQ : ∀ c a w, ¬ Q (.panic c) a w) : ∀ (l : Ord) (listed : Array Bool) (a : Act) (w : World), ClosedL md ops listed → orderB2 md ops m l listed = true → wpTB P ops Q R l a w → wpB P md ops Q m R l.len listed a w
  | .done, listed, a, w, _, hB, h => ⟨hB, h⟩
  | .rd i r, listed, a, w, hcl, hB, h => by
    simp only [orderB2, Bool.and_eq_true] at hB
    obtain ⟨⟨⟨hr, him⟩, hf⟩, hB'⟩ := hB
    obtain ⟨v, o, ho, hy, hK⟩ := h
    have hr' : i ∈ Region.ready md ops listed := by simpa using hr
    exact wpB_first hc ho (Nat.le_of_ble_eq_true him) (Region.noSelect_spec hs) (fun c a w h => absurd h (hQ c _ w)) r.len listed a w hcl (freeB_spec ho hf) hr' hy (wpB_of hc hs hQ r _ _ _ (closed_set hcl hr') hB' hK)
  | .one i r, listed, a, w, hcl, hB, h => by
    simp only [orderB2, Bool.and_eq_true, beq_iff_eq, Bool.not_eq_true'] at hB
    obtain ⟨⟨hnf, hr⟩, hB'⟩ := hB
    have hi : i ∈ Region.ready md ops listed := by rw [hr]; exact List.mem_singleton.2 rfl
    refine ⟨fun h0 => (by rw [hnf] at h0; cases h0), fun _ => ⟨(by rw [hr]; simp), fun j hj n => ?_⟩⟩
    rw [hr] at hj
    obtain rfl := List.mem_singleton.1 hj
    exact wpOp_mono (fun a' w' h' => ⟨h'.1, wpB_of hc hs hQ r _ _ _ (closed_set hcl hi) hB' h'.2⟩) (h n)
  | .two i r j l, listed, a, w, hcl, hB, h => by
    simp only [orderB2, Bool.and_eq_true, beq_iff_eq, Bool.not_eq_true'] at hB
    obtain ⟨⟨⟨⟨hnf, h1⟩, h2⟩, h3⟩, h4⟩ := hB
    have hi : i ∈ Region.ready md ops listed := by rw [h1]; simp
    have hj : j ∈ Region.ready md ops listed := by rw [h1]; simp
    refine ⟨fun h0 => (by rw [hnf] at h0; cases h0), fun _ => ⟨(by rw [h1]; simp), fun q hq n => ?_⟩⟩
    rw [h1] at hq
    simp only [List.mem_cons, List.not_mem_nil, or_false] at hq
    rcases hq with rfl | rfl
    · exact wpOp_mono (fun a' w' h' => ⟨h'.1, wpB_of hc hs hQ r _ _ _ (closed_set hcl hi) h3 h'.2⟩) (h.1 n)
    · refine wpOp_mono (fun a' w' h' => ⟨h'.1, ?_⟩) (h.2 n)
      show wpB P md ops Q m R r.len _ _ _
      rw [h2]
      exact wpB_of hc hs hQ l _ _ _ (closed_set hcl hj) h4 h'.2

theorem wpAny_fuel : ∀ (f k : Nat) (listed : Array Bool) (a : Act) (w : World), wpAny P md ops Q f listed a w → wpAny P md ops Q (f + k) listed a w
  | 0, 0, _, _, _, h => h
  | 0, k + 1, listed, a, w, h => by
    rw [Nat.zero_add]
    exact ⟨fun _ => h.2, fun i hi => (by rw [h.1] at hi; cases hi)⟩
  | f + 1, k, listed, a, w, h => by
    rw [Nat.add_right_comm]
    exact ⟨h.1, fun i hi => wpOp_mono (fun a' w' h' => wpAny_fuel f k _ a' w' h') (h.2 i hi)⟩

/-- the first m listed, the others not -/
def barL (m n : Nat) : Array Bool := (List.replicate m true ++ List.replicate (n - m) false).toArray
theorem listed_bar {listed : Array Bool} (hm : m ≤ ops.size) (hsz : listed.size = ops.size) (hf : fullB m listed = true) (ht : ∀ j, m ≤ j → listed.getD j false = false) : listed = barL m ops.size := by
  apply Array.ext_getElem?
  intro j
  rcases Nat.lt_or_ge j listed.size with h | h
  · have e : listed[j]? = some (listed.getD j false) := by simp [h]
    rw [e]
    rcases Nat.lt_or_ge j m with h1 | h1
    · rw [fullB_spec.1 hf j h1]
      simp [barL, List.getElem?_append, h1]
    · rw [ht j h1]
      simp [barL, List.getElem?_append, show ¬ j < m by omega, show j - m < ops.size - m by omega]
  · rw [Array.getElem?_eq_none h]
    simp [barL]
    omega

theorem wpAny_of_B (hc : coverB md ops m = true) (hm : m ≤ ops.size) (g : Nat) : ∀ (f : Nat) (listed : Array Bool) (a : Act) (w : World), listed.size = ops.size → ClosedL md ops listed → (∀ j, m ≤ j → listed.getD j false = false) →
    wpB P md ops Q m (fun a w => wpAny P md ops Q g (barL m ops.size) a w) f listed a w → wpAny P md ops Q (f + g) listed a w
  | 0, listed, a, w, hsz, _, ht, h => by
    rw [Nat.zero_add, listed_bar hm hsz h.1 ht]
    exact h.2 ⟨w, Below.refl _ _⟩
  | f + 1, listed, a, w, hsz, hcl, ht, h => by
    cases hf : fullB m listed with
    | true =>
      rw [listed_bar hm hsz hf ht, Nat.add_comm]
      exact wpAny_fuel g (f + 1) _ a w (h.1 hf ⟨w, Below.refl _ _⟩)
    | false =>
      obtain ⟨hne, h2⟩ := h.2 hf
      rw [Nat.add_right_comm]
      refine ⟨fun h0 => absurd h0 hne, fun i hi => wpOp_mono (fun a' w' h' => wpAny_of_B hc hm g f _ a' w' (by simp [hsz]) (closed_set hcl hi) (fun j hj => ?_) h'.2) (h2 i hi ⟨w, Below.refl _ _⟩)⟩
      have him := ready_lt hc hcl hf hi
      have := ht j hj
      simpa [Array.getElem?_setIfInBounds_ne (show i ≠ j by omega)] using this

/-- the rest: one behind the other -/
def tailB (md : Region.Mode) (ops : Array Oper) : Nat → Nat → Array Bool → Bool
  | 0, _, listed => Region.ready md ops listed == []
  | f + 1, i, listed => Region.ready md ops listed == [i] && tailB md ops f (i + 1) (listed.setIfInBounds i true)
theorem wpAny_tail : ∀ (f i : Nat) (listed : Array Bool) (a : Act) (w : World), tailB md ops f i listed = true → wpOps P ops Q ((List.range f).map (i + ·)) a w → wpAny P md ops Q f listed a w
  | 0, i, listed, a, w, hB, h => ⟨by simpa [tailB] using hB, by simpa [wpOps] using h⟩
  | f + 1, i, listed, a, w, hB, h => by
    simp only [tailB, Bool.and_eq_true, beq_iff_eq] at hB
    refine ⟨fun h0 => (by rw [hB.1] at h0; cases h0), fun j hj => ?_⟩
    rw [hB.1] at hj
    obtain rfl := List.mem_singleton.1 hj
    rw [List.range_succ_eq_map, List.map_cons, wpOps_cons, Nat.add_zero, List.map_map] at h
    have e : ((fun x => j + x) ∘ Nat.succ) = (fun x => j + 1 + x) := funext fun x => by simp; omega
    rw [e] at h
    exact wpOp_mono (fun a' w' h' => wpAny_tail f (j + 1) _ a' w' hB.2 h') h

def wpXB (P : Program) (ops : Array Oper) (Q : Exit → Act → World → Prop) (R : Act → World → Prop) : OrdO → Act → World → Prop
  | .done, a, w => ∀ n : Ext w, R a n.w
  | .rd o r, a, w => ∃ v, YieldsE P ops w o v a ∧ wpXB P ops Q R r (a.put o.dst v) w
  | .one o r, a, w => ∀ n : Ext w, if Region.wanted o (yielded ops a.tmps) then o.wp P a n.w (fun a' w' => Below n.w.heap.size n.w w' ∧ wpXB P ops Q R r a' w') Q else wpXB P ops Q R r (a.put o.dst undef) w
  | .two o r p l, a, w =>
    (∀ n : Ext w, if Region.wanted o (yielded ops a.tmps) then o.wp P a n.w (fun a' w' => Below n.w.heap.size n.w w' ∧ wpXB P ops Q R r a' w') Q else wpXB P ops Q R r (a.put o.dst undef) w) ∧
    (∀ n : Ext w, if Region.wanted p (yielded ops a.tmps) then p.wp P a n.w (fun a' w' => Below n.w.heap.size n.w w' ∧ wpXB P ops Q R l a' w') Q else wpXB P ops Q R l (a.put p.dst undef) w)
theorem wpTB_mono : ∀ (r : Ord) (a : Act) (w W : World), Below w.heap.size w W → wpTB P ops Q R r a w → wpTB P ops Q R r a W
  | .done, _, _, _, hb, h => fun n => h (n.up hb)
  | .rd _ k, _, _, _, hb, ⟨v, o, ho, hy, h⟩ => ⟨v, o, ho, YieldsE.mono hb hy, wpTB_mono k _ _ _ hb h⟩
  | .one _ _, _, _, _, hb, h => fun n => h (n.up hb)
  | .two _ _ _ _, _, _, _, hb, h => ⟨fun n => h.1 (n.up hb), fun n => h.2 (n.up hb)⟩
theorem wpOp_of_XB {i : Nat} {o : Oper} {a : Act} {w : World} {k : Ord} {r : OrdO} (ho : ops[i]? = some o) (hk : ∀ a' w', wpXB P ops Q R r a' w' → wpTB P ops Q R k a' w')
    (h : ∀ n : Ext w, if Region.wanted o (yielded ops a.tmps) then o.wp P a n.w (fun a' w' => Below n.w.heap.size n.w w' ∧ wpXB P ops Q R r a' w') Q else wpXB P ops Q R r (a.put o.dst undef) w) :
    ∀ n : Ext w, wpOp P ops Q i (fun a' w' => Below n.w.heap.size n.w w' ∧ wpTB P ops Q R k a' w') a n.w := by
  intro n
  have h := h n
  unfold wpOp
  simp only [ho]
  split
  · rename_i hw
    rw [if_pos hw] at h
    exact .inl (Oper.wp_mono (fun a' w' h' => ⟨h'.1, hk _ _ h'.2⟩) h)
  · rename_i hw
    rw [if_neg hw] at h
    exact ⟨Below.refl _ _, wpTB_mono k _ _ _ n.below (hk _ _ h)⟩
theorem wpTB_of_X : ∀ (l : Ord) (a : Act) (w : World), l.within ops.size = true → wpXB P ops Q R (opsOfT ops l) a w → wpTB P ops Q R l a w
  | .done, _, _, _, h => h
  | .rd i k, a, w, hl, h => by
    simp only [Ord.within, Bool.and_eq_true, decide_eq_true_eq] at hl
    have ho : ops[i]? = some ops[i] := Array.getElem?_eq_getElem hl.1
    simp only [opsOfT, ho] at h
    obtain ⟨v, hy, hk⟩ := h
    exact ⟨v, ops[i], ho, hy, wpTB_of_X k _ _ hl.2 hk⟩
  | .one i k, a, w, hl, h => by
    simp only [Ord.within, Bool.and_eq_true, decide_eq_true_eq] at hl
    have ho : ops[i]? = some ops[i] := Array.getElem?_eq_getElem hl.1
    simp only [opsOfT, ho] at h
    exact wpOp_of_XB ho (fun a' w' => wpTB_of_X k a' w' hl.2) h
  | .two i k j l, a, w, hl, h => by
    simp only [Ord.within, Bool.and_eq_true, decide_eq_true_eq] at hl
    have ho : ops[i]? = some ops[i] := Array.getElem?_eq_getElem hl.1.1.1
    have hp : ops[j]? = some ops[j] := Array.getElem?_eq_getElem hl.1.2
    simp only [opsOfT, ho, hp] at h
    exact ⟨wpOp_of_XB ho (fun a' w' => wpTB_of_X k a' w' hl.1.1.2) h.1, wpOp_of_XB hp (fun a' w' => wpTB_of_X l a' w' hl.2) h.2⟩

theorem rep_false (n i : Nat) : (Array.replicate n false).getD i false = false := by
  rcases Nat.lt_or_ge i n with h | h
  · simp [h]
  · simp [Nat.not_lt.2 h]
theorem closed_none (n : Nat) : ClosedL md ops (Array.replicate n false) := fun i o _ hi => by rw [rep_false] at hi; cases hi
theorem wpX_of_XB : ∀ (t : OrdO) (a : Act) (w : World), wpXB P ops Q (Q .normal) t a w → wpX P ops Q t a w
  | .done, _, _, h => h
  | .rd _ r, _, _, ⟨v, hy, h⟩ => ⟨v, hy, wpX_of_XB r _ _ h⟩
  | .one o r, a, w, h => fun n => by
    have h := h n
    split
    · rename_i hw; rw [if_pos hw] at h; exact Oper.wp_mono (fun a' w' h' => ⟨h'.1, wpX_of_XB r _ _ h'.2⟩) h
    · rename_i hw; rw [if_neg hw] at h; exact wpX_of_XB r _ _ h
  | .two o r p l, a, w, h => ⟨fun n => by
    have h := h.1 n
    split
    · rename_i hw; rw [if_pos hw] at h; exact Oper.wp_mono (fun a' w' h' => ⟨h'.1, wpX_of_XB r _ _ h'.2⟩) h
    · rename_i hw; rw [if_neg hw] at h; exact wpX_of_XB r _ _ h, fun n => by
    have h := h.2 n
    split
    · rename_i hw; rw [if_pos hw] at h; exact Oper.wp_mono (fun a' w' h' => ⟨h'.1, wpX_of_XB l _ _ h'.2⟩) h
    · rename_i hw; rw [if_neg hw] at h; exact wpX_of_XB l _ _ h⟩

theorem any_XB {a : Act} {w : World} (m : Nat) (l : Ord) (hs : Region.noSelect ops = true) (hm : Nat.ble m ops.size = true) (hl : l.len = m) (hin : l.within ops.size = true) (hc : coverB .any ops m = true)
    (hB : orderB2 .any ops m l (Array.replicate ops.size false) = true) (ht : tailB .any ops (ops.size - m) m (barL m ops.size) = true)
    (h : wpXB P ops (NoPanic Q) (fun a w => wpOps P ops (NoPanic Q) ((List.range (ops.size - m)).map (m + ·)) a w) (opsOfT ops l) a w) : wpAny P .any ops (NoPanic Q) ops.size (Array.replicate ops.size false) a w.drew := by
  have hm := Nat.le_of_ble_eq_true hm
  have h1 := wpB_of (md := .any) hc hs (fun c a w h => h) l _ a w (closed_none _) hB (wpTB_of_X l a w hin h)
  have h2 := wpB_mono _ _ _ _ _ (below_drew1 w) h1
  have h3 : wpB P .any ops (NoPanic Q) m (fun a w => wpAny P .any ops (NoPanic Q) (ops.size - m) (barL m ops.size) a w) l.len (Array.replicate ops.size false) a w.drew := by
    have mono : ∀ (f : Nat) (listed : Array Bool) (a : Act) (w : World), wpB P .any ops (NoPanic Q) m (fun a w => wpOps P ops (NoPanic Q) ((List.range (ops.size - m)).map (m + ·)) a w) f listed a w → wpB P .any ops (NoPanic Q) m (fun a w => wpAny P .any ops (NoPanic Q) (ops.size - m) (barL m ops.size) a w) f listed a w := by
      intro f
      induction f with
      | zero => exact fun listed a w h => ⟨h.1, fun n => wpAny_tail _ _ _ _ _ ht (h.2 n)⟩
      | succ f ih => exact fun listed a w h => ⟨fun h0 n => wpAny_tail _ _ _ _ _ ht (h.1 h0 n), fun h0 => ⟨(h.2 h0).1, fun i hi n => wpOp_mono (fun a' w' h' => ⟨h'.1, ih _ a' w' h'.2⟩) ((h.2 h0).2 i hi n)⟩⟩
    exact mono _ _ _ _ h2
  have h4 := wpAny_of_B hc hm (ops.size - m) _ _ _ _ (by simp) (closed_none _) (fun j _ => rep_false _ _) h3
  rw [hl, show m + (ops.size - m) = ops.size by omega] at h4
  exact h4
end
end Go.Proofs.YtoliiompofonlaaDoor
