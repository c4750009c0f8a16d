
/- XReg's walk where two operations that make memory may both come next: each of the two is walked first once. -/
import Derived.Test.YtoliiompofonlaaDoorReg
namespace Go.Proofs.YtoliiompofonlaaDoor
set_option linter.unusedVariables false
open Go.RowKit

inductive Ord where
  | done
  | rd (i : Nat) (k : Ord)
  | one (i : Nat) (k : Ord)
  | two (i : Nat) (k : Ord) (j : Nat) (m : Ord)

def Ord.len : Ord → Nat
  | .done => 0
  | .rd _ k => k.len + 1
  | .one _ k => k.len + 1
  | .two _ k _ _ => k.len + 1

def Ord.within (n : Nat) : Ord → Bool
  | .done => true
  | .rd i k => decide (i < n) && k.within n
  | .one i k => decide (i < n) && k.within n
  | .two i k j m => decide (i < n) && k.within n && decide (j < n) && m.within n

section
variable {P : Program} {ops : Array Oper} {Q : Exit → Act → World → Prop} {md : Region.Mode}

def wpT (P : Program) (ops : Array Oper) (Q : Exit → Act → World → Prop) : Ord → Act → World → Prop
  | .done, a, w => ∀ n : Ext w, Q .normal a n.w
  | .rd i k, a, w => ∃ v o, ops[i]? = some o ∧ YieldsE P ops w o v a ∧ wpT P ops Q k (a.put o.dst v) w
  | .one i k, a, w => ∀ n : Ext w, wpOp P ops Q i (fun a' w' => Below n.w.heap.size n.w w' ∧ wpT P ops Q k a' w') a n.w
  | .two i k j m, a, w =>
    (∀ n : Ext w, wpOp P ops Q i (fun a' w' => Below n.w.heap.size n.w w' ∧ wpT P ops Q k a' w') a n.w) ∧
    (∀ n : Ext w, wpOp P ops Q j (fun a' w' => Below n.w.heap.size n.w w' ∧ wpT P ops Q m a' w') a n.w)

theorem wpT_mono : ∀ (r : Ord) (a : Act) (w W : World), Below w.heap.size w W → wpT P ops Q r a w → wpT P ops Q r a W
  | .done, _, _, _, hb, h => fun n => h (n.up hb)
  | .rd _ k, _, _, _, hb, ⟨v, o, ho, hy, h⟩ => ⟨v, o, ho, YieldsE.mono hb hy, wpT_mono k _ _ _ hb h⟩
  | .one _ _, _, _, _, hb, h => fun n => h (n.up hb)
  | .two _ _ _ _, _, _, _, hb, h => ⟨fun n => h.1 (n.up hb), fun n => h.2 (n.up hb)⟩

def orderT (md : Region.Mode) (ops : Array Oper) : Ord → Array Bool → Bool
  | .done, listed => Region.ready md ops listed == []
  | .rd i k, listed => (Region.ready md ops listed).contains i && Region.free md ops listed i && orderT md ops k (listed.setIfInBounds i true)
  | .one i k, listed => Region.ready md ops listed == [i] && orderT md ops k (listed.setIfInBounds i true)
  | .two i k j m, listed => Region.ready md ops listed == [i, j] && (k.len == m.len) && orderT md ops k (listed.setIfInBounds i true) && orderT md ops m (listed.setIfInBounds j true)

theorem wpAnyE_ofT (hs : Region.noSelect ops = true) (hQ : ∀ c a w, ¬ Q (.panic c) a w) : ∀ (l : Ord) (listed : Array Bool) (a : Act) (w : World), orderT md ops l listed = true → wpT P ops Q l a w → wpAnyE P md ops Q l.len listed a w
  | .done, listed, a, w, hB, h => ⟨by simpa [orderT] using hB, h⟩
  | .rd i r, listed, a, w, hB, h => by
    simp only [orderT, Bool.and_eq_true] at hB
    obtain ⟨⟨hr, hf⟩, hB'⟩ := hB
    obtain ⟨v, o, ho, hy, hK⟩ := h
    exact wpAnyE_first ho (Region.noSelect_spec hs) (fun c a w h => absurd h (hQ c _ w)) r.len listed a w (Region.free_spec ho hf) (by simpa using hr) hy (wpAnyE_ofT hs hQ r _ _ _ hB' hK)
  | .one i r, listed, a, w, hB, h => by
    simp only [orderT, Bool.and_eq_true, beq_iff_eq] at hB
    refine ⟨fun h0 => (by rw [hB.1] at h0; cases h0), fun j hj n => ?_⟩
    rw [hB.1] at hj
    obtain rfl := List.mem_singleton.1 hj
    exact wpOp_mono (fun a' w' h' => ⟨h'.1, wpAnyE_ofT hs hQ r _ _ _ hB.2 h'.2⟩) (h n)
  | .two i r j m, listed, a, w, hB, h => by
    simp only [orderT, Bool.and_eq_true, beq_iff_eq] at hB
    obtain ⟨⟨⟨h1, h2⟩, h3⟩, h4⟩ := hB
    refine ⟨fun h0 => (by rw [h1] at h0; cases h0), fun q hq n => ?_⟩
    rw [h1] at hq
    simp only [List.mem_cons, List.not_mem_nil, or_false] at hq
    rcases hq with rfl | rfl
    · exact wpOp_mono (fun a' w' h' => ⟨h'.1, wpAnyE_ofT hs hQ r _ _ _ h3 h'.2⟩) (h.1 n)
    · refine wpOp_mono (fun a' w' h' => ⟨h'.1, ?_⟩) (h.2 n)
      show wpAnyE P md ops Q r.len _ _ _
      rw [h2]
      exact wpAnyE_ofT hs hQ m _ _ _ h4 h'.2

/-! ### the operations written out -/
inductive OrdO where
  | done
  | rd (o : Oper) (k : OrdO)
  | one (o : Oper) (k : OrdO)
  | two (o : Oper) (k : OrdO) (p : Oper) (m : OrdO)

def opsOfT (ops : Array Oper) : Ord → OrdO
  | .done => .done
  | .rd i k => match ops[i]? with | some o => .rd o (opsOfT ops k) | none => .done
  | .one i k => match ops[i]? with | some o => .one o (opsOfT ops k) | none => .done
  | .two i k j m => match ops[i]?, ops[j]? with | some o, some p => .two o (opsOfT ops k) p (opsOfT ops m) | _, _ => .done

def wpX (P : Program) (ops : Array Oper) (Q : Exit → Act → World → Prop) : OrdO → Act → World → Prop
  | .done, a, w => ∀ n : Ext w, Q .normal a n.w
  | .rd o r, a, w => ∃ v, YieldsE P ops w o v a ∧ wpX P ops Q r (a.put o.dst v) w
  | .one o r, a, w => ∀ n : Ext w, if Region.wanted o (yielded ops a.tmps) then o.wp P a n.w (fun a' w' => Below n.w.heap.size n.w w' ∧ wpX P ops Q r a' w') Q else wpX P ops Q r (a.put o.dst undef) w
  | .two o r p m, a, w =>
    (∀ n : Ext w, if Region.wanted o (yielded ops a.tmps) then o.wp P a n.w (fun a' w' => Below n.w.heap.size n.w w' ∧ wpX P ops Q r a' w') Q else wpX P ops Q r (a.put o.dst undef) w) ∧
    (∀ n : Ext w, if Region.wanted p (yielded ops a.tmps) then p.wp P a n.w (fun a' w' => Below n.w.heap.size n.w w' ∧ wpX P ops Q m a' w') Q else wpX P ops Q m (a.put p.dst undef) w)

theorem wpOp_of_X {i : Nat} {o : Oper} {a : Act} {w : World} {k : Ord} {r : OrdO} (ho : ops[i]? = some o) (hk : ∀ a' w', wpX P ops Q r a' w' → wpT P ops Q k a' w')
    (h : ∀ n : Ext w, if Region.wanted o (yielded ops a.tmps) then o.wp P a n.w (fun a' w' => Below n.w.heap.size n.w w' ∧ wpX P ops Q r a' w') Q else wpX P ops Q r (a.put o.dst undef) w) :
    ∀ n : Ext w, wpOp P ops Q i (fun a' w' => Below n.w.heap.size n.w w' ∧ wpT P ops Q k a' w') a n.w := by
  intro n
  have h := h n
  unfold wpOp
  simp only [ho]
  split
  · rename_i hw
    rw [if_pos hw] at h
    exact .inl (Oper.wp_mono (fun a' w' h' => ⟨h'.1, hk _ _ h'.2⟩) h)
  · rename_i hw
    rw [if_neg hw] at h
    exact ⟨Below.refl _ _, wpT_mono k _ _ _ n.below (hk _ _ h)⟩

theorem wpT_of_X : ∀ (l : Ord) (a : Act) (w : World), l.within ops.size = true → wpX P ops Q (opsOfT ops l) a w → wpT P ops Q l a w
  | .done, _, _, _, h => h
  | .rd i k, a, w, hl, h => by
    simp only [Ord.within, Bool.and_eq_true, decide_eq_true_eq] at hl
    have ho : ops[i]? = some ops[i] := Array.getElem?_eq_getElem hl.1
    simp only [opsOfT, ho] at h
    obtain ⟨v, hy, hk⟩ := h
    exact ⟨v, ops[i], ho, hy, wpT_of_X k _ _ hl.2 hk⟩
  | .one i k, a, w, hl, h => by
    simp only [Ord.within, Bool.and_eq_true, decide_eq_true_eq] at hl
    have ho : ops[i]? = some ops[i] := Array.getElem?_eq_getElem hl.1
    simp only [opsOfT, ho] at h
    exact wpOp_of_X ho (fun a' w' => wpT_of_X k a' w' hl.2) h
  | .two i k j m, a, w, hl, h => by
    simp only [Ord.within, Bool.and_eq_true, decide_eq_true_eq] at hl
    have ho : ops[i]? = some ops[i] := Array.getElem?_eq_getElem hl.1.1.1
    have hp : ops[j]? = some ops[j] := Array.getElem?_eq_getElem hl.1.2
    simp only [opsOfT, ho, hp] at h
    exact ⟨wpOp_of_X ho (fun a' w' => wpT_of_X k a' w' hl.1.1.2) h.1, wpOp_of_X hp (fun a' w' => wpT_of_X m a' w' hl.2) h.2⟩

theorem any_X {a : Act} {w : World} (l : Ord) (hs : Region.noSelect ops = true) (hl : l.len = ops.size)
    (hin : l.within ops.size = true)
    (hB : orderT .any ops l (Array.replicate ops.size false) = true) (h : wpX P ops (NoPanic Q) (opsOfT ops l) a w) : wpAny P .any ops (NoPanic Q) ops.size (Array.replicate ops.size false) a w.drew := by
  refine wpAny_of_E _ _ _ _ (wpAnyE_mono _ _ _ _ _ (below_drew1 w) ?_)
  have := wpAnyE_ofT hs (fun c a w h => h) l _ a w hB (wpT_of_X l a w hin h)
  rwa [hl] at this
theorem wp_region_X {id : Nat} {a : Act} {w : World} (l : Ord) (hm : P.follows .mixedOrders = true) (hs : Region.noSelect ops = true) (hl : l.len = ops.size)
    (hin : l.within ops.size = true)
    (hB : orderT .any ops l (Array.replicate ops.size false) = true) (h : wpX P ops (NoPanic Q) (opsOfT ops l) a w) : (Code.region id ops true).wp P Q a w :=
  wp_region_noPanic (wp_region_any hm (any_X l hs hl hin hB h))

theorem wpX_skip {r : OrdO} {a : Act} {w : World} {o : Oper} (hw : Region.wanted o (yielded ops a.tmps) = false)
    (h : wpX P ops Q r (a.put o.dst undef) w) : wpX P ops Q (.rd o r) a w := ⟨undef, .inr ⟨hw, rfl⟩, h⟩
theorem wpX_val {r : OrdO} {a : Act} {w : World} {o : Oper} (hw : Region.wanted o (yielded ops a.tmps) = true)
    (h : ∃ v, (∀ n : Ext w, (execOp a.eval o).run P n.w = .ok (.value v) n.w) ∧ wpX P ops Q r (a.put o.dst v) w) : wpX P ops Q (.rd o r) a w :=
  let ⟨v, h1, h2⟩ := h
  ⟨v, .inl ⟨hw, fun W hW => h1 ⟨W, hW⟩⟩, h2⟩
theorem wpX_two {r m : OrdO} {a : Act} {w : World} {o p : Oper} (h1 : wpX P ops Q (.one o r) a w) (h2 : wpX P ops Q (.one p m) a w) : wpX P ops Q (.two o r p m) a w := ⟨h1, h2⟩
theorem wpX_call {r : OrdO} {a : Act} {w : World} {o : Oper} (hw : Region.wanted o (yielded ops a.tmps) = true)
    (h : ∃ f args, (∀ n : Ext w, (execOp a.eval o).run P n.w = .ok (.enter f args) n.w) ∧
      ∀ n : Ext w, Calls P f args n.w fun e w' => ∃ v, e = .returned v ∧ Below n.w.heap.size n.w w' ∧ wpX P ops Q r (a.put o.dst v) w') : wpX P ops Q (.one o r) a w := fun n => by
  obtain ⟨f, args, hr, h⟩ := h
  rw [if_pos hw]
  unfold Oper.wp
  rw [hr n]
  show Calls P f args n.w _
  exact (h n).mono fun e w' ⟨v, he, hb, hk⟩ => by subst he; exact ⟨hb, hk⟩
theorem wpX_nocall {r : OrdO} {a : Act} {w : World} {o : Oper} (hw : Region.wanted o (yielded ops a.tmps) = false)
    (h : wpX P ops Q r (a.put o.dst undef) w) : wpX P ops Q (.one o r) a w := fun _ => by
  rw [if_neg (by rw [hw]; exact Bool.false_ne_true)]
  exact h
/-- an operation that makes memory -/
theorem wpX_make {r : OrdO} {a : Act} {w : World} {o : Oper} (hw : Region.wanted o (yielded ops a.tmps) = true)
    (h : ∀ n : Ext w, ∃ v W, (execOp a.eval o).run P n.w = .ok (.value v) W ∧ Below n.w.heap.size n.w W ∧ wpX P ops Q r (a.put o.dst v) W) : wpX P ops Q (.one o r) a w := fun n => by
  obtain ⟨v, W, hr, hb, hk⟩ := h n
  rw [if_pos hw]
  unfold Oper.wp
  rw [hr]
  exact ⟨hb, hk⟩
end
end Go.Proofs.YtoliiompofonlaaDoor
