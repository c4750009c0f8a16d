
/- Regions whose operations may write into blocks of their own: what reads only from blocks that stay may come at any time. -/
import Derived.Test.YtoliiompofonlaaDoorReg3
namespace Go.Proofs.YtoliiompofonlaaDoor
set_option linter.unusedVariables false
open Go.RowKit
/-- the blocks of S are as they were -/
def KeepS (S : Nat → Prop) (w W : World) : Prop := ∀ b, S b → W.heap[b]? = w.heap[b]?
theorem KeepS.refl (S : Nat → Prop) (w : World) : KeepS S w w := fun _ _ => rfl
theorem KeepS.trans {S : Nat → Prop} {a b c : World} (h : KeepS S a b) (k : KeepS S b c) : KeepS S a c := fun x hx => (k x hx).trans (h x hx)
section
variable {P : Program} {ops : Array Oper} {Q : Exit → Act → World → Prop} {md : Region.Mode} {S : Nat → Prop}

def YieldsS (P : Program) (ops : Array Oper) (S : Nat → Prop) (w : World) (o : Oper) (v : Value) (a : Act) : Prop := YieldsIf P ops (fun W => KeepS S w W) o v a
theorem YieldsS.mono {w W : World} {o : Oper} {v : Value} {a : Act} (hb : KeepS S w W) (h : YieldsS P ops S w o v a) : YieldsS P ops S W o v a :=
  h.imp (fun ⟨h1, h2⟩ => ⟨h1, fun X hX => h2 X (hb.trans hX)⟩) id

theorem YieldsS.grow {S' : Nat → Prop} {w : World} {o : Oper} {v : Value} {a : Act} (hs : ∀ b, S b → S' b) (h : YieldsS P ops S w o v a) : YieldsS P ops S' w o v a :=
  h.imp (fun ⟨h1, h2⟩ => ⟨h1, fun X hX => h2 X fun b hb => hX b (hs b hb)⟩) id
/-- may the operation turn what there is? -/
def isMod (o : Oper) : Bool := match o.op with
  | .move _ | .assign _ | .pick .. | .load .. | .binOp .. | .unOp .. | .convert .. | .slice .. | .fieldAddr .. | .field .. | .indexAddr .. | .index .. | .extract .. => false
  | _ => true
/-- all that may turn what there is comes behind operation i -/
def behindB (ops : Array Oper) (i : Nat) : Bool := ops.all fun p => !isMod p || p.after.any fun e => Region.binds .any e && Nat.beq e.on i
def ownB (ops : Array Oper) (o : Oper) : Bool := (List.range ops.size).all fun i => !((ops[i]?).any fun q => q.dst == o.dst) || behindB ops i
def YieldsB (P : Program) (ops : Array Oper) (w : World) (o : Oper) (v : Value) (a : Act) : Prop := YieldsIf P ops (fun W => Below w.heap.size w W) o v a
theorem YieldsB.mono {w W : World} {o : Oper} {v : Value} {a : Act} (hb : Below w.heap.size w W) (h : YieldsB P ops w o v a) : YieldsB P ops W o v a :=
  h.imp (fun ⟨h1, h2⟩ => ⟨h1, fun X hX => h2 X (below_then hb hX)⟩) id
/-- what a step leaves: the blocks of S; all blocks, if it isn't one that turns things -/
def Kept (S : Nat → Prop) (o : Option Oper) (w W : World) : Prop := KeepS S w W ∧ (o.any isMod = false → Below w.heap.size w W)
theorem Kept.refl (S : Nat → Prop) (o : Option Oper) (w : World) : Kept S o w w := ⟨KeepS.refl S w, fun _ => Below.refl _ _⟩

def wpAnyS (P : Program) (md : Region.Mode) (ops : Array Oper) (Q : Exit → Act → World → Prop) : (Nat → Prop) → Nat → Array Bool → Act → World → Prop
  | _, 0, listed, a, w => Region.ready md ops listed = [] ∧ Q .normal a w
  | S, fuel + 1, listed, a, w =>
    (Region.ready md ops listed = [] → Q .normal a w) ∧
    ∀ i ∈ Region.ready md ops listed, wpOp P ops Q i (fun a' w' => Kept S ops[i]? w w' ∧ ∃ S', (∀ b, S b → S' b) ∧ wpAnyS P md ops Q S' fuel (listed.setIfInBounds i true) a' w') a w

theorem wpAny_of_S : ∀ (fuel : Nat) (S : Nat → Prop) (listed : Array Bool) (a : Act) (w : World), wpAnyS P md ops Q S fuel listed a w → wpAny P md ops Q fuel listed a w
  | 0, _, _, _, _, h => h
  | fuel + 1, _, _, _, _, h => ⟨h.1, fun i hi => wpOp_mono (fun a' w' ⟨_, _, _, h'⟩ => wpAny_of_S fuel _ _ a' w' h') (h.2 i hi)⟩

theorem wpAnyS_first {i : Nat} {oi : Oper} {v : Value} (hi : ops[i]? = some oi) (hsel : ∀ (j : Nat) (o : Oper) cs b, ops[j]? = some o → o.op ≠ .select cs b)
    (hQ : ∀ c a w, Q (.panic c) (a.put oi.dst v) w → Q (.panic c) a w) :
    ∀ (fuel : Nat) (S : Nat → Prop) (listed : Array Bool) (a : Act) (w : World),
      (∀ j oj, ops[j]? = some oj → j ≠ i → listed.getD j true = false → (∀ e ∈ oj.after, Region.binds md e = true → e.on ≠ i) → oi.apart ops oj = true) →
      i ∈ Region.ready md ops listed → YieldsS P ops S w oi v a →
      wpAnyS P md ops Q S fuel (listed.setIfInBounds i true) (a.put oi.dst v) w → wpAnyS P md ops Q S (fuel + 1) listed a w := by
  intro fuel
  induction fuel with
  | zero =>
    intro S listed a w _ hr hy H
    refine ⟨fun h => (by rw [h] at hr; cases hr), fun j hj => ?_⟩
    by_cases hji : j = i
    · subst hji
      exact YieldsIf.wpOp hi hy (KeepS.refl S w) ⟨Kept.refl S _ w, S, fun _ h => h, H⟩
    · have := ready_mono hj hji
      rw [H.1] at this
      cases this
  | succ fuel ih =>
    intro S listed a w hfree hr hy H
    refine ⟨fun h => (by rw [h] at hr; cases hr), fun j hj => ?_⟩
    by_cases hji : j = i
    · subst hji
      exact YieldsIf.wpOp hi hy (KeepS.refl S w) ⟨Kept.refl S _ w, S, fun _ h => h, H⟩
    · have h1 := H.2 j (ready_mono hj hji)
      obtain ⟨hjun, oj, hoj, hall⟩ := mem_ready.1 hj
      have hnot : ∀ e ∈ oj.after, Region.binds md e = true → e.on ≠ i := fun e he hb heq => by
        have h1 := hall e he hb
        have h0 := (mem_ready.1 hr).1
        rw [heq] at h1
        rcases Nat.lt_or_ge i listed.size with h' | h'
        · simp [h'] at h0 h1; rw [h0] at h1; cases h1
        · simp [Array.getElem?_eq_none h'] at h1
      have h2 := wpOp_putIf hoj (hfree j oj hoj hji hjun hnot) (fun cs b => hsel i oi cs b hi) (fun cs b => hsel j oj cs b hoj) hQ hy h1
      have hfree' : ∀ k ok, ops[k]? = some ok → k ≠ i → (listed.setIfInBounds j true).getD k true = false →
          (∀ e ∈ ok.after, Region.binds md e = true → e.on ≠ i) → oi.apart ops ok = true := fun k ok hk hki hun hno => by
        refine hfree k ok hk hki ?_ hno
        by_cases hjk : j = k
        · subst hjk; exact hjun
        · rw [getD_set_ne true hjk] at hun; exact hun
      refine wpOp_mono (fun a' w' ⟨h3, h4, S', hSS, h5⟩ => ⟨h4, S', hSS, ih S' (listed.setIfInBounds j true) a' w' hfree' (ready_mono hr (Ne.symm hji)) (YieldsS.grow hSS (YieldsS.mono h4.1 h3)) ?_⟩) h2
      rw [Array.setIfInBounds_comm _ _ hji]
      exact h5

theorem wpAnyS_firstB {i : Nat} {oi : Oper} {v : Value} (hi : ops[i]? = some oi) (hbe : behindB ops i = true) (hsel : ∀ (j : Nat) (o : Oper) cs b, ops[j]? = some o → o.op ≠ .select cs b)
    (hQ : ∀ c a w, Q (.panic c) (a.put oi.dst v) w → Q (.panic c) a w) :
    ∀ (fuel : Nat) (S : Nat → Prop) (listed : Array Bool) (a : Act) (w : World),
      (∀ j oj, ops[j]? = some oj → j ≠ i → listed.getD j true = false → (∀ e ∈ oj.after, Region.binds .any e = true → e.on ≠ i) → oi.apart ops oj = true) →
      i ∈ Region.ready .any ops listed → YieldsB P ops w oi v a →
      wpAnyS P .any ops Q S fuel (listed.setIfInBounds i true) (a.put oi.dst v) w → wpAnyS P .any ops Q S (fuel + 1) listed a w := by
  intro fuel
  induction fuel with
  | zero =>
    intro S listed a w _ hr hy H
    refine ⟨fun h => (by rw [h] at hr; cases hr), fun j hj => ?_⟩
    by_cases hji : j = i
    · subst hji
      exact YieldsIf.wpOp hi hy (Below.refl _ _) ⟨Kept.refl S _ w, S, fun _ h => h, H⟩
    · have := ready_mono hj hji
      rw [H.1] at this
      cases this
  | succ fuel ih =>
    intro S listed a w hfree hr hy H
    refine ⟨fun h => (by rw [h] at hr; cases hr), fun j hj => ?_⟩
    by_cases hji : j = i
    · subst hji
      exact YieldsIf.wpOp hi hy (Below.refl _ _) ⟨Kept.refl S _ w, S, fun _ h => h, H⟩
    · have h1 := H.2 j (ready_mono hj hji)
      obtain ⟨hjun, oj, hoj, hall⟩ := mem_ready.1 hj
      have hnot : ∀ e ∈ oj.after, Region.binds .any e = true → e.on ≠ i := fun e he hb heq => by
        have h1 := hall e he hb
        have h0 := (mem_ready.1 hr).1
        rw [heq] at h1
        rcases Nat.lt_or_ge i listed.size with h' | h'
        · simp [h'] at h0 h1; rw [h0] at h1; cases h1
        · simp [Array.getElem?_eq_none h'] at h1
      have hmod : isMod oj = false := by
        have h3 := Array.all_eq_true.1 hbe j (Array.getElem?_eq_some_iff.1 hoj).1
        have h4 : ops[j]'(Array.getElem?_eq_some_iff.1 hoj).1 = oj := (Array.getElem?_eq_some_iff.1 hoj).2
        rw [h4] at h3
        cases hm : isMod oj with
        | false => rfl
        | true =>
          rw [hm] at h3
          simp only [Bool.not_true, Bool.false_or] at h3
          obtain ⟨q, hq, h5⟩ := Array.any_eq_true.1 h3
          simp only [Bool.and_eq_true] at h5
          exact absurd (Nat.eq_of_beq_eq_true h5.2) (hnot _ (Array.getElem_mem hq) h5.1)
      have h2 := wpOp_putIf hoj (hfree j oj hoj hji hjun hnot) (fun cs b => hsel i oi cs b hi) (fun cs b => hsel j oj cs b hoj) hQ hy h1
      have hfree' : ∀ k ok, ops[k]? = some ok → k ≠ i → (listed.setIfInBounds j true).getD k true = false →
          (∀ e ∈ ok.after, Region.binds .any e = true → e.on ≠ i) → oi.apart ops ok = true := fun k ok hk hki hun hno => by
        refine hfree k ok hk hki ?_ hno
        by_cases hjk : j = k
        · subst hjk; exact hjun
        · rw [getD_set_ne true hjk] at hun; exact hun
      refine wpOp_mono (fun a' w' ⟨h3, h4, S', hSS, h5⟩ => ⟨h4, S', hSS, ih S' (listed.setIfInBounds j true) a' w' hfree' (ready_mono hr (Ne.symm hji)) (YieldsB.mono (h4.2 (by rw [hoj]; exact hmod)) h3) ?_⟩) h2
      rw [Array.setIfInBounds_comm _ _ hji]
      exact h5

/-- the walk, the operations written out -/
def wpXS (P : Program) (ops : Array Oper) (Q : Exit → Act → World → Prop) : (Nat → Prop) → OrdO → Act → World → Prop
  | _, .done, a, w => Q .normal a w
  | S, .rd o r, a, w => ∃ v, (YieldsS P ops S w o v a ∨ (ownB ops o = true ∧ YieldsB P ops w o v a)) ∧ wpXS P ops Q S r (a.put o.dst v) w
  | S, .one o r, a, w => if Region.wanted o (yielded ops a.tmps) then o.wp P a w (fun a' w' => Kept S (some o) w w' ∧ ∃ S', (∀ b, S b → S' b) ∧ wpXS P ops Q S' r a' w') Q else ∃ S', (∀ b, S b → S' b) ∧ wpXS P ops Q S' r (a.put o.dst undef) w
  | S, .two o r p l, a, w =>
    (if Region.wanted o (yielded ops a.tmps) then o.wp P a w (fun a' w' => Kept S (some o) w w' ∧ ∃ S', (∀ b, S b → S' b) ∧ wpXS P ops Q S' r a' w') Q else ∃ S', (∀ b, S b → S' b) ∧ wpXS P ops Q S' r (a.put o.dst undef) w) ∧
    (if Region.wanted p (yielded ops a.tmps) then p.wp P a w (fun a' w' => Kept S (some p) w w' ∧ ∃ S', (∀ b, S b → S' b) ∧ wpXS P ops Q S' l a' w') Q else ∃ S', (∀ b, S b → S' b) ∧ wpXS P ops Q S' l (a.put p.dst undef) w)

theorem Kept.lower {S S1 : Nat → Prop} {o : Option Oper} {w W : World} (hs : ∀ b, S b → S1 b) (h : Kept S1 o w W) : Kept S o w W := ⟨fun b hb => h.1 b (hs b hb), h.2⟩
/-- what comes next is no read: the blocks that stay may be fewer -/
theorem wpXS_lower {S S1 : Nat → Prop} {o : Oper} {r : OrdO} {a : Act} {w : World} (hs : ∀ b, S b → S1 b) (h : wpXS P ops Q S1 (.one o r) a w) : wpXS P ops Q S (.one o r) a w := by
  unfold wpXS at h ⊢
  split
  · rename_i hw
    rw [if_pos hw] at h
    exact Oper.wp_mono (fun a' w' ⟨h1, S', h2, h3⟩ => ⟨h1.lower hs, S', fun b hb => h2 b (hs b hb), h3⟩) h
  · rename_i hw
    rw [if_neg hw] at h
    obtain ⟨S', h2, h3⟩ := h
    exact ⟨S', fun b hb => h2 b (hs b hb), h3⟩

theorem wpOp_of_XS {i : Nat} {o : Oper} {a : Act} {w : World} {K K' : (Nat → Prop) → Act → World → Prop} (ho : ops[i]? = some o) (hk : ∀ S a' w', K S a' w' → K' S a' w')
    (h : if Region.wanted o (yielded ops a.tmps) then o.wp P a w (fun a' w' => Kept S (some o) w w' ∧ ∃ S', (∀ b, S b → S' b) ∧ K S' a' w') Q else ∃ S', (∀ b, S b → S' b) ∧ K S' (a.put o.dst undef) w) : wpOp P ops Q i (fun a' w' => Kept S ops[i]? w w' ∧ ∃ S', (∀ b, S b → S' b) ∧ K' S' a' w') a w := by
  unfold wpOp
  simp only [ho]
  split
  · rename_i hw
    rw [if_pos hw] at h
    exact .inl (Oper.wp_mono (fun a' w' h' => ⟨h'.1, let ⟨S', h1, h2⟩ := h'.2; ⟨S', h1, hk _ _ _ h2⟩⟩) h)
  · rename_i hw
    rw [if_neg hw] at h
    exact ⟨Kept.refl S _ w, let ⟨S', h1, h2⟩ := h; ⟨S', h1, hk _ _ _ h2⟩⟩

theorem wpAnyS_ofX (hs : Region.noSelect ops = true) (hQ : ∀ c a w, ¬ Q (.panic c) a w) : ∀ (l : Ord) (S : Nat → Prop) (listed : Array Bool) (a : Act) (w : World), l.within ops.size = true → orderT .any ops l listed = true → wpXS P ops Q S (opsOfT ops l) a w → wpAnyS P .any ops Q S l.len listed a w
  | .done, S, listed, a, w, _, hB, h => ⟨by simpa [orderT] using hB, h⟩
  | .rd i r, S, listed, a, w, hl, hB, h => by
    simp only [Ord.within, Bool.and_eq_true, decide_eq_true_eq] at hl
    have ho : ops[i]? = some ops[i] := Array.getElem?_eq_getElem hl.1
    simp only [opsOfT, ho] at h
    simp only [orderT, Bool.and_eq_true] at hB
    obtain ⟨⟨hr, hf⟩, hB'⟩ := hB
    obtain ⟨v, hy, hK⟩ := h
    rcases hy with hy | ⟨hown, hy⟩
    · exact wpAnyS_first ho (Region.noSelect_spec hs) (fun c a w h => absurd h (hQ c _ w)) r.len S listed a w (Region.free_spec ho hf) (by simpa using hr) hy (wpAnyS_ofX hs hQ r _ _ _ _ hl.2 hB' hK)
    · have hbe : behindB ops i = true := by
        have := List.all_eq_true.1 hown i (List.mem_range.2 hl.1)
        simpa [ho] using this
      exact wpAnyS_firstB ho hbe (Region.noSelect_spec hs) (fun c a w h => absurd h (hQ c _ w)) r.len S listed a w (Region.free_spec ho hf) (by simpa using hr) hy (wpAnyS_ofX hs hQ r _ _ _ _ hl.2 hB' hK)
  | .one i r, S, listed, a, w, hl, hB, h => by
    simp only [Ord.within, Bool.and_eq_true, decide_eq_true_eq] at hl
    have ho : ops[i]? = some ops[i] := Array.getElem?_eq_getElem hl.1
    simp only [opsOfT, ho] at h
    simp only [orderT, Bool.and_eq_true, beq_iff_eq] at hB
    refine ⟨fun h0 => (by rw [hB.1] at h0; cases h0), fun j hj => ?_⟩
    rw [hB.1] at hj
    obtain rfl := List.mem_singleton.1 hj
    exact wpOp_of_XS ho (fun S' a' w' => wpAnyS_ofX hs hQ r S' _ a' w' hl.2 hB.2) h
  | .two i r j l, S, listed, a, w, hl, hB, h => by
    simp only [Ord.within, Bool.and_eq_true, decide_eq_true_eq] at hl
    have ho : ops[i]? = some ops[i] := Array.getElem?_eq_getElem hl.1.1.1
    have hp : ops[j]? = some ops[j] := Array.getElem?_eq_getElem hl.1.2
    simp only [opsOfT, ho, hp] at h
    simp only [orderT, Bool.and_eq_true, beq_iff_eq] at hB
    obtain ⟨⟨⟨h1, h2⟩, h3⟩, h4⟩ := hB
    refine ⟨fun h0 => (by rw [h1] at h0; cases h0), fun q hq => ?_⟩
    rw [h1] at hq
    simp only [List.mem_cons, List.not_mem_nil, or_false] at hq
    rcases hq with rfl | rfl
    · exact wpOp_of_XS ho (fun S' a' w' => wpAnyS_ofX hs hQ r S' _ a' w' hl.1.1.2 h3) h.1
    · refine wpOp_of_XS hp (fun S' a' w' h' => ?_) h.2
      show wpAnyS P .any ops Q S' r.len _ _ _
      rw [h2]
      exact wpAnyS_ofX hs hQ l S' _ a' w' hl.2 h4 h'

/-- a region: its first m operations by the walk t, the rest by the walk u -/
theorem any_XS {a : Act} {w : World} (m : Nat) (t u : Ord) (hs : Region.noSelect ops = true) (hm : Nat.ble m ops.size = true) (hl : t.len = m) (hin : t.within ops.size = true) (hc : coverB .any ops m = true)
    (hB : orderB2 .any ops m t (Array.replicate ops.size false) = true) (hul : u.len = ops.size - m) (huin : u.within ops.size = true) (hu : orderT .any ops u (barL m ops.size) = true)
    (h : wpXB P ops (NoPanic Q) (fun a w => ∃ S, wpXS P ops (NoPanic Q) S (opsOfT ops u) a w) (opsOfT ops t) a w) : wpAny P .any ops (NoPanic Q) ops.size (Array.replicate ops.size false) a w.drew := by
  have hm := Nat.le_of_ble_eq_true hm
  have h1 := wpB_of (md := .any) hc hs (fun c a w h => h) t _ a w (closed_none _) hB (wpTB_of_X t a w hin h)
  have h2 := wpB_mono _ _ _ _ _ (below_drew1 w) h1
  have h3 : wpB P .any ops (NoPanic Q) m (fun a w => wpAny P .any ops (NoPanic Q) (ops.size - m) (barL m ops.size) a w) t.len (Array.replicate ops.size false) a w.drew := by
    have tail : ∀ a w, (∃ S, wpXS P ops (NoPanic Q) S (opsOfT ops u) a w) → wpAny P .any ops (NoPanic Q) (ops.size - m) (barL m ops.size) a w := fun a w ⟨S, hS⟩ => by
      have := wpAny_of_S _ _ _ _ _ (wpAnyS_ofX hs (fun c a w h => h) u S (barL m ops.size) a w huin hu hS)
      rwa [hul] at this
    have mono : ∀ (f : Nat) (listed : Array Bool) (a : Act) (w : World), wpB P .any ops (NoPanic Q) m (fun a w => ∃ S, wpXS P ops (NoPanic Q) S (opsOfT ops u) a w) f listed a w → wpB P .any ops (NoPanic Q) m (fun a w => wpAny P .any ops (NoPanic Q) (ops.size - m) (barL m ops.size) a w) f listed a w := by
      intro f
      induction f with
      | zero => exact fun listed a w h => ⟨h.1, fun n => tail _ _ (h.2 n)⟩
      | succ f ih => exact fun listed a w h => ⟨fun h0 n => tail _ _ (h.1 h0 n), fun h0 => ⟨(h.2 h0).1, fun i hi n => wpOp_mono (fun a' w' h' => ⟨h'.1, ih _ a' w' h'.2⟩) ((h.2 h0).2 i hi n)⟩⟩
    exact mono _ _ _ _ h2
  have h4 := wpAny_of_B hc hm (ops.size - m) _ _ _ _ (by simp) (closed_none _) (fun j _ => rep_false _ _) h3
  rw [hl, show m + (ops.size - m) = ops.size by omega] at h4
  exact h4
theorem any_S {a : Act} {w : World} (u : Ord) (hs : Region.noSelect ops = true) (hul : u.len = ops.size) (huin : u.within ops.size = true) (hu : orderT .any ops u (Array.replicate ops.size false) = true)
    (h : wpXS P ops (NoPanic Q) S (opsOfT ops u) a w.drew) : wpAny P .any ops (NoPanic Q) ops.size (Array.replicate ops.size false) a w.drew := by
  have := wpAny_of_S _ _ _ _ _ (wpAnyS_ofX hs (fun c a w h => h) u S _ a w.drew huin hu h)
  rwa [hul] at this
end
end Go.Proofs.YtoliiompofonlaaDoor
