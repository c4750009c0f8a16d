
/- A region that draws its order, in which calls make memory: one walk in one order serves every order. What only reads may come at any time; a call comes when nothing else may. -/
import Derived.Test.YtoliiompofonlaaDoorBase
import Derived.OrdersHeld
import Derived.Deep.RegionHeld3
namespace Go.Proofs.YtoliiompofonlaaDoor
set_option linter.unusedVariables false
open Go.RowKit

/-- the worlds that lie beyond w: nothing of w has turned in them -/
def Ext (w : World) : Type := { W : World // Below w.heap.size w W }
def Ext.w {w : World} (n : Ext w) : World := n.1
theorem Ext.below {w : World} (n : Ext w) : Below w.heap.size w n.w := n.2
instance (w : World) : Nonempty (Ext w) := ⟨⟨w, Below.refl _ _⟩⟩
theorem Ext.cell {w : World} {p : Addr} {v : Value} (h : w.cell? p = some v) (n : Ext w) : n.w.cell? p = some v := below_cell n.below h
def Ext.up {w W : World} (h : Below w.heap.size w W) (n : Ext W) : Ext w := ⟨n.w, below_then h n.below⟩

section
variable {P : Program} {ops : Array Oper} {Q : Exit → Act → World → Prop} {md : Region.Mode}

def wpAnyE (P : Program) (md : Region.Mode) (ops : Array Oper) (Q : Exit → Act → World → Prop) : Nat → Array Bool → Act → World → Prop
  | 0, listed, a, w => Region.ready md ops listed = [] ∧ ∀ n : Ext w, Q .normal a n.w
  | fuel + 1, listed, a, w =>
    (Region.ready md ops listed = [] → ∀ n : Ext w, Q .normal a n.w) ∧
    ∀ i ∈ Region.ready md ops listed, ∀ n : Ext w, wpOp P ops Q i (fun a' w' => Below n.w.heap.size n.w w' ∧ wpAnyE P md ops Q fuel (listed.setIfInBounds i true) a' w') a n.w

theorem wpAnyE_mono : ∀ (fuel : Nat) (listed : Array Bool) (a : Act) (w W : World), Below w.heap.size w W → wpAnyE P md ops Q fuel listed a w → wpAnyE P md ops Q fuel listed a W
  | 0, _, _, _, _, hb, h => ⟨h.1, fun n => h.2 (n.up hb)⟩
  | _ + 1, _, _, _, _, hb, h => ⟨fun h0 n => h.1 h0 (n.up hb), fun i hi n => h.2 i hi (n.up hb)⟩

theorem wpAny_of_E : ∀ (fuel : Nat) (listed : Array Bool) (a : Act) (w : World), wpAnyE P md ops Q fuel listed a w → wpAny P md ops Q fuel listed a w
  | 0, _, _, w, h => ⟨h.1, h.2 ⟨w, Below.refl _ _⟩⟩
  | fuel + 1, _, _, w, h => ⟨fun h0 => h.1 h0 ⟨w, Below.refl _ _⟩, fun i hi => wpOp_mono (fun a' w' h' => wpAny_of_E fuel _ a' w' h'.2) (h.2 i hi ⟨w, Below.refl _ _⟩)⟩

/-- in every world beyond w the operation gives v, and does nothing else -/
def YieldsE (P : Program) (ops : Array Oper) (w : World) (o : Oper) (v : Value) (a : Act) : Prop := YieldsIf P ops (fun W => Below w.heap.size w W) o v a

theorem YieldsE.mono {w W : World} {o : Oper} {v : Value} {a : Act} (hb : Below w.heap.size w W) (h : YieldsE P ops w o v a) : YieldsE P ops W o v a :=
  h.imp (fun ⟨h1, h2⟩ => ⟨h1, fun X hX => h2 X (below_then hb hX)⟩) id

theorem wpAnyE_first {i : Nat} {oi : Oper} {v : Value} (hi : ops[i]? = some oi) (hsel : ∀ (j : Nat) (o : Oper) cs b, ops[j]? = some o → o.op ≠ .select cs b)
    (hQ : ∀ c a w, Q (.panic c) (a.put oi.dst v) w → Q (.panic c) a w) :
    ∀ (fuel : Nat) (listed : Array Bool) (a : Act) (w : World),
      (∀ j oj, ops[j]? = some oj → j ≠ i → listed.getD j true = false → (∀ e ∈ oj.after, Region.binds md e = true → e.on ≠ i) → oi.apart ops oj = true) →
      i ∈ Region.ready md ops listed → YieldsE P ops w oi v a →
      wpAnyE P md ops Q fuel (listed.setIfInBounds i true) (a.put oi.dst v) w → wpAnyE P md ops Q (fuel + 1) listed a w := by
  intro fuel
  induction fuel with
  | zero =>
    intro listed a w _ hr hy H
    refine ⟨fun h => (by rw [h] at hr; cases hr), fun j hj n => ?_⟩
    by_cases hji : j = i
    · subst hji
      exact YieldsIf.wpOp hi hy n.below ⟨Below.refl _ _, wpAnyE_mono 0 _ _ _ _ n.below H⟩
    · have := ready_mono hj hji
      rw [H.1] at this
      cases this
  | succ fuel ih =>
    intro listed a w hfree hr hy H
    refine ⟨fun h => (by rw [h] at hr; cases hr), fun j hj n => ?_⟩
    by_cases hji : j = i
    · subst hji
      exact YieldsIf.wpOp hi hy n.below ⟨Below.refl _ _, wpAnyE_mono (fuel + 1) _ _ _ _ n.below H⟩
    · have h1 := H.2 j (ready_mono hj hji) n
      obtain ⟨hjun, oj, hoj, hall⟩ := mem_ready.1 hj
      have hnot : ∀ e ∈ oj.after, Region.binds md e = true → e.on ≠ i := fun e he hb heq => by
        have h1 := hall e he hb
        have h0 := (mem_ready.1 hr).1
        rw [heq] at h1
        rcases Nat.lt_or_ge i listed.size with h' | h'
        · simp [h'] at h0 h1; rw [h0] at h1; cases h1
        · simp [Array.getElem?_eq_none h'] at h1
      have h2 := wpOp_putIf hoj (hfree j oj hoj hji hjun hnot) (fun cs b => hsel i oi cs b hi) (fun cs b => hsel j oj cs b hoj) hQ (YieldsE.mono n.below hy) h1
      have hfree' : ∀ k ok, ops[k]? = some ok → k ≠ i → (listed.setIfInBounds j true).getD k true = false →
          (∀ e ∈ ok.after, Region.binds md e = true → e.on ≠ i) → oi.apart ops ok = true := fun k ok hk hki hun hno => by
        refine hfree k ok hk hki ?_ hno
        by_cases hjk : j = k
        · subst hjk; exact hjun
        · rw [getD_set_ne true hjk] at hun; exact hun
      refine wpOp_mono (fun a' w' h3 => ⟨h3.2.1, ih (listed.setIfInBounds j true) a' w' hfree' (ready_mono hr (Ne.symm hji)) (YieldsE.mono h3.2.1 h3.1) ?_⟩) h2
      rw [Array.setIfInBounds_comm _ _ hji]
      exact h3.2.2

/-- the walk: 'false': it only reads; 'true': it comes when nothing else may -/
def wpE (P : Program) (ops : Array Oper) (Q : Exit → Act → World → Prop) : List (Nat × Bool) → Act → World → Prop
  | [], a, w => ∀ n : Ext w, Q .normal a n.w
  | (i, false) :: r, a, w => ∃ v o, ops[i]? = some o ∧ YieldsE P ops w o v a ∧ wpE P ops Q r (a.put o.dst v) w
  | (i, true) :: r, a, w => ∀ n : Ext w, wpOp P ops Q i (fun a' w' => Below n.w.heap.size n.w w' ∧ wpE P ops Q r a' w') a n.w

theorem wpE_mono : ∀ (r : List (Nat × Bool)) (a : Act) (w W : World), Below w.heap.size w W → wpE P ops Q r a w → wpE P ops Q r a W
  | [], _, _, _, hb, h => fun n => h (n.up hb)
  | (_, false) :: r, _, _, _, hb, ⟨v, o, ho, hy, h⟩ => ⟨v, o, ho, YieldsE.mono hb hy, wpE_mono r _ _ _ hb h⟩
  | (_, true) :: _, _, _, _, hb, h => fun n => h (n.up hb)

/-- may it be walked in this order? -/
def orderB (md : Region.Mode) (ops : Array Oper) : List (Nat × Bool) → Array Bool → Bool
  | [], listed => Region.ready md ops listed == []
  | (i, false) :: r, listed => (Region.ready md ops listed).contains i && Region.free md ops listed i && orderB md ops r (listed.setIfInBounds i true)
  | (i, true) :: r, listed => Region.ready md ops listed == [i] && orderB md ops r (listed.setIfInBounds i true)

theorem wpAnyE_of (hs : Region.noSelect ops = true) (hQ : ∀ c a w, ¬ Q (.panic c) a w) : ∀ (l : List (Nat × Bool)) (listed : Array Bool) (a : Act) (w : World), orderB md ops l listed = true → wpE P ops Q l a w → wpAnyE P md ops Q l.length listed a w
  | [], listed, a, w, hB, h => ⟨by simpa [orderB] using hB, h⟩
  | (i, false) :: r, listed, a, w, hB, h => by
    simp only [orderB, Bool.and_eq_true] at hB
    obtain ⟨⟨hr, hf⟩, hB'⟩ := hB
    obtain ⟨v, o, ho, hy, hK⟩ := h
    exact wpAnyE_first ho (Region.noSelect_spec hs) (fun c a w h => absurd h (hQ c _ w)) r.length listed a w (Region.free_spec ho hf) (by simpa using hr) hy (wpAnyE_of hs hQ r _ _ _ hB' hK)
  | (i, true) :: r, listed, a, w, hB, h => by
    simp only [orderB, Bool.and_eq_true, beq_iff_eq] at hB
    refine ⟨fun h0 => (by rw [hB.1] at h0; cases h0), fun j hj n => ?_⟩
    rw [hB.1] at hj
    obtain rfl := List.mem_singleton.1 hj
    exact wpOp_mono (fun a' w' h' => ⟨h'.1, wpAnyE_of hs hQ r _ _ _ hB.2 h'.2⟩) (h n)

theorem below_drew1 (w : World) : Below w.heap.size w w.drew := ⟨rfl, rfl, rfl, Nat.le_refl _, fun _ _ => rfl⟩

/-- one walk, in an order that may be -/
theorem wp_region_E {id : Nat} {a : Act} {w : World} (l : List (Nat × Bool)) (hm : P.follows .mixedOrders = true) (hs : Region.noSelect ops = true) (hl : l.length = ops.size)
    (hB : orderB .any ops l (Array.replicate ops.size false) = true) (h : wpE P ops (NoPanic Q) l a w) : (Code.region id ops true).wp P Q a w := by
  refine wp_region_noPanic (wp_region_any hm (wpAny_of_E _ _ _ _ (wpAnyE_mono _ _ _ _ _ (below_drew1 w) ?_)))
  have := wpAnyE_of hs (fun c a w h => h) l _ a w hB h
  rwa [hl] at this

/-! ### the steps of that walk: the operations written out -/
def opsOf (ops : Array Oper) (l : List (Nat × Bool)) : List (Oper × Bool) := l.filterMap fun x => (ops[x.1]?).map fun o => (o, x.2)

def wpO (P : Program) (ops : Array Oper) (Q : Exit → Act → World → Prop) : List (Oper × Bool) → Act → World → Prop
  | [], a, w => ∀ n : Ext w, Q .normal a n.w
  | (o, false) :: r, a, w => ∃ v, YieldsE P ops w o v a ∧ wpO P ops Q r (a.put o.dst v) w
  | (o, true) :: r, a, w => ∀ n : Ext w, if Region.wanted o (yielded ops a.tmps) then o.wp P a n.w (fun a' w' => Below n.w.heap.size n.w w' ∧ wpO P ops Q r a' w') Q else wpO P ops Q r (a.put o.dst undef) w

theorem wpE_of_O : ∀ (l : List (Nat × Bool)) (a : Act) (w : World), (∀ x ∈ l, x.1 < ops.size) → wpO P ops Q (opsOf ops l) a w → wpE P ops Q l a w
  | [], _, _, _, h => h
  | (i, b) :: r, a, w, hl, h => by
    have hi : i < ops.size := hl (i, b) (List.mem_cons_self ..)
    have ho : ops[i]? = some ops[i] := Array.getElem?_eq_getElem hi
    have hr := fun x hx => hl x (List.mem_cons_of_mem _ hx)
    have e : opsOf ops ((i, b) :: r) = (ops[i], b) :: opsOf ops r := by simp [opsOf, ho]
    rw [e] at h
    cases b with
    | false =>
      obtain ⟨v, hy, hk⟩ := h
      exact ⟨v, ops[i], ho, hy, wpE_of_O r _ _ hr hk⟩
    | true =>
      intro n
      have h := h n
      unfold wpOp
      simp only [ho]
      split
      · rename_i hw
        rw [if_pos hw] at h
        exact .inl (Oper.wp_mono (fun a' w' h' => ⟨h'.1, wpE_of_O r _ _ hr h'.2⟩) h)
      · rename_i hw
        rw [if_neg hw] at h
        exact ⟨Below.refl _ _, wpE_mono r _ _ _ n.below (wpE_of_O r _ _ hr h)⟩

/-- one walk, in an order that may be, the operations written out -/
theorem wp_region_O {id : Nat} {a : Act} {w : World} (l : List (Nat × Bool)) (hm : P.follows .mixedOrders = true) (hs : Region.noSelect ops = true) (hl : l.length = ops.size)
    (hin : (l.all fun x => decide (x.1 < ops.size)) = true)
    (hB : orderB .any ops l (Array.replicate ops.size false) = true) (h : wpO P ops (NoPanic Q) (opsOf ops l) a w) : (Code.region id ops true).wp P Q a w :=
  wp_region_E l hm hs hl hB (wpE_of_O l a w (fun x hx => by simpa using List.all_eq_true.1 hin x hx) h)

theorem wpO_skip {r : List (Oper × Bool)} {a : Act} {w : World} {o : Oper} (hw : Region.wanted o (yielded ops a.tmps) = false)
    (h : wpO P ops Q r (a.put o.dst undef) w) : wpO P ops Q ((o, false) :: r) a w := ⟨undef, .inr ⟨hw, rfl⟩, h⟩
theorem wpO_val {r : List (Oper × Bool)} {a : Act} {w : World} {o : Oper} (hw : Region.wanted o (yielded ops a.tmps) = true)
    (h : ∃ v, (∀ n : Ext w, (execOp a.eval o).run P n.w = .ok (.value v) n.w) ∧ wpO P ops Q r (a.put o.dst v) w) : wpO P ops Q ((o, false) :: r) a w :=
  let ⟨v, h1, h2⟩ := h
  ⟨v, .inl ⟨hw, fun W hW => h1 ⟨W, hW⟩⟩, h2⟩
theorem wpO_move {r : List (Oper × Bool)} {a : Act} {w : World} {o : Oper} {x : Operand} (hx : o.op = .move x) (hw : Region.wanted o (yielded ops a.tmps) = true)
    (h : wpO P ops Q r (a.put o.dst (a.eval x)) w) : wpO P ops Q ((o, false) :: r) a w :=
  ⟨_, .inl ⟨hw, fun W _ => BigFrame.run_move x hx W⟩, h⟩
theorem wpO_assign {r : List (Oper × Bool)} {a : Act} {w : World} {o : Oper} {x : Operand} (hx : o.op = .assign x) (hw : Region.wanted o (yielded ops a.tmps) = true)
    (h : wpO P ops Q r (a.put o.dst (a.eval x)) w) : wpO P ops Q ((o, false) :: r) a w :=
  ⟨_, .inl ⟨hw, fun W _ => BigFrame.run_assign x hx W⟩, h⟩
/-- a call, met by its contract in whatever world beyond w -/
theorem wpO_call {r : List (Oper × Bool)} {a : Act} {w : World} {o : Oper} (hw : Region.wanted o (yielded ops a.tmps) = true)
    (h : ∃ f args, (∀ n : Ext w, (execOp a.eval o).run P n.w = .ok (.enter f args) n.w) ∧
      ∀ n : Ext w, Calls P f args n.w fun e w' => ∃ v, e = .returned v ∧ Below n.w.heap.size n.w w' ∧ wpO P ops Q r (a.put o.dst v) w') : wpO P ops Q ((o, true) :: r) a w := fun n => by
  obtain ⟨f, args, hr, h⟩ := h
  rw [if_pos hw]
  unfold Oper.wp
  rw [hr n]
  show Calls P f args n.w _
  exact (h n).mono fun e w' ⟨v, he, hb, hk⟩ => by subst he; exact ⟨hb, hk⟩
theorem wpO_nocall {r : List (Oper × Bool)} {a : Act} {w : World} {o : Oper} (hw : Region.wanted o (yielded ops a.tmps) = false)
    (h : wpO P ops Q r (a.put o.dst undef) w) : wpO P ops Q ((o, true) :: r) a w := fun _ => by
  rw [if_neg (by rw [hw]; exact Bool.false_ne_true)]
  exact h
end
end Go.Proofs.YtoliiompofonlaaDoor
