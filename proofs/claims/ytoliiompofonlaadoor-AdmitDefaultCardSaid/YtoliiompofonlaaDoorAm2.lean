
/- The abstract walk, second part: sequences of operations, regions in any order, the rules of code, calls and results. -/
import Derived.Test.YtoliiompofonlaaDoorAm1
namespace Go.Proofs.YtoliiompofonlaaDoor
set_option linter.unusedVariables false
open Go.RowKit
namespace Am
section
variable {P : Program} {G : Gh} {ops : Array Oper} {o : Oper} {s : AS} {r : List Oper} {K : AS → Prop}

def Wanted (G : Gh) (ops : Array Oper) (o : Oper) (s : AS) (b : Bool) : Prop := ∀ St a w, RelSt G St s a w → Region.wanted o (yielded ops a.tmps) = b
theorem wanted_none (h : o.guard = none) : Wanted G ops o s true := fun _ _ _ _ => by simp [Region.wanted, h]
theorem wanted_is {j d : Nat} {b t : Bool} (h : o.guard = some (j, b)) (hd : (ops[j]?).bind (·.dst) = some d) (hN : Nat.blt d G.N = true) (hl : look s.env s.b d = .c (.bool t)) (u : Bool) (hu : (t == b) = u) : Wanted G ops o s u := fun St a w hr => by
  have hlt : d < a.tmps.size := by rw [hr.sz]; exact Nat.le_of_ble_eq_true hN
  have he := hr.env d
  rw [hl] at he
  have he : a.tmps.getD d undef = .bool t := he
  have hg : a.tmps[d]? = some (.bool t) := by
    rw [Array.getElem?_eq_getElem hlt, ← he]
    simp [hlt]
  simp only [Region.wanted, h, yielded, hd, Option.bind_some, hg]
  rw [← hu]
  cases t <;> cases b <;> rfl

/-- the operation only reads, and from blocks that stay: it gives a value that reads as v, now and while those blocks stay -/
def ARd (P : Program) (G : Gh) (o : Oper) (s : AS) (v : CV) : Prop := ∀ St a w, RelSt G St s a w → ∃ x, (∀ W, KeepS St w W → (execOp a.eval o).run P W = .ok (.value x) W) ∧ RepC G.al St w v x
/-- the operation only reads, from blocks of its own too -/
def ARdO (P : Program) (G : Gh) (o : Oper) (s : AS) (v : CV) : Prop := ∀ St a w, RelSt G St s a w → ∃ x, (∀ W, Below w.heap.size w W → (execOp a.eval o).run P W = .ok (.value x) W) ∧ RepC G.al St w v x
theorem keep_of_below {St : Nat → Prop} {a : Act} {w W : World} (h : RelSt G St s a w) (hW : Below w.heap.size w W) : KeepS St w W := fun b hb => hW.block b (h.s3 b hb)
theorem ARd.own {v : CV} (h : ARd P G o s v) : ARdO P G o s v := fun St a w hr => by
  obtain ⟨x, h1, h2⟩ := h St a w hr
  exact ⟨x, fun W hW => h1 W (keep_of_below hr hW), h2⟩
/-- the operation makes memory, or calls: nothing that there was has turned -/
def AEx (P : Program) (G : Gh) (o : Oper) (s : AS) (K : AS → Prop) : Prop := ∀ St a w, RelSt G St s a w → ∀ Q, o.wp P a w (fun a' w' => Below w.heap.size w w' ∧ ∃ St', (∀ b, St b → St' b) ∧ ∃ s', K s' ∧ RelSt G St' s' a' w') Q
/-- the operation writes into blocks of the call's own -/
def AMd (P : Program) (G : Gh) (o : Oper) (s : AS) (K : AS → Prop) : Prop := ∀ St a w, RelSt G St s a w → ∀ Q, o.wp P a w (fun a' w' => KeepS St w w' ∧ ∃ St', (∀ b, St b → St' b) ∧ ∃ s', K s' ∧ RelSt G St' s' a' w') Q

/-- an operation's step; in a function that may call yield: in its fence -/
def oneB (G : Gh) (P : Program) (o : Oper) (a : Act) (w : World) (K : Act → World → Prop) (Q : Exit → Act → World → Prop) : Prop := o.wp P a w K Q ∨ (G.yl = true ∧ o.wpIn (frd G.rd) 0 P a w K Q)
def wpSeq (G : Gh) (P : Program) (ops : Array Oper) (Q : Exit → Act → World → Prop) : List Oper → Act → World → Prop
  | [], a, w => Q .normal a w
  | o :: r, a, w => if Region.wanted o (yielded ops a.tmps) then oneB G P o a w (wpSeq G P ops Q r) Q else wpSeq G P ops Q r (a.put o.dst undef) w

theorem wpOps_of_seq {Q : Exit → Act → World → Prop} (hy : G.yl = false) : ∀ (l : List Nat) (a : Act) (w : World), wpSeq G P ops Q (l.filterMap (ops[·]?)) a w → wpOps P ops Q l a w
  | [], _, _, h => h
  | i :: l, a, w, h => by
    unfold wpOps
    cases hi : ops[i]? with
    | none =>
      simp only [List.filterMap_cons, hi] at h ⊢
      exact wpOps_of_seq hy l a w h
    | some o =>
      simp only [List.filterMap_cons, hi, wpSeq] at h ⊢
      split
      · rename_i hw
        rw [if_pos hw] at h
        rcases h with h | h
        · exact .inl (Oper.wp_mono (fun a' w' h' => wpOps_of_seq hy l a' w' h') h)
        · rw [hy] at h; cases h.1
      · rename_i hw
        rw [if_neg hw] at h
        exact wpOps_of_seq hy l _ w h
theorem wpOpsIn_of_seq {Q : Exit → Act → World → Prop} (hd : rdB G.rd ops = true) : ∀ (l : List Nat) (a : Act) (w : World), wpSeq G P ops Q (l.filterMap (ops[·]?)) a w → wpOpsIn (frd G.rd) 0 P ops Q l a w
  | [], _, _, h => h
  | i :: l, a, w, h => by
    unfold wpOpsIn
    cases hi : ops[i]? with
    | none =>
      simp only [List.filterMap_cons, hi] at h ⊢
      exact wpOpsIn_of_seq hd l a w h
    | some o =>
      simp only [List.filterMap_cons, hi, wpSeq] at h ⊢
      split
      · rename_i hw
        rw [if_pos hw] at h
        rcases h with h | h
        · exact Oper.wp_in (rdB_at hd hi) (Oper.wp_mono (fun a' w' h' => wpOpsIn_of_seq hd l a' w' h') h)
        · exact Oper.wpIn_mono (fun a' w' h' => wpOpsIn_of_seq hd l a' w' h') h.2
      · rename_i hw
        rw [if_neg hw] at h
        exact ⟨fun f _ => trivial, wpOpsIn_of_seq hd l _ w h⟩

theorem range_filterMap (ops : Array Oper) : (List.range ops.size).filterMap (ops[·]?) = ops.toList := by
  apply List.ext_getElem?
  intro i
  have h : ∀ (l : List Nat), (∀ x ∈ l, x < ops.size) → l.filterMap (ops[·]?) = l.map fun x => ops.getD x default := by
    intro l hl
    induction l with
    | nil => rfl
    | cons x l ih =>
      have hx := hl x (List.mem_cons_self ..)
      simp only [List.filterMap_cons, List.map_cons, Array.getElem?_eq_getElem hx]
      rw [ih fun y hy => hl y (List.mem_cons_of_mem _ hy)]
      simp [hx]
  rw [h _ (fun x hx => List.mem_range.1 hx)]
  by_cases hi : i < ops.size
  · simp [hi]
  · simp [hi, Nat.le_of_not_lt hi]

def ASeq (P : Program) (G : Gh) (ops : Array Oper) (l : List Oper) (s : AS) (K : AS → Prop) : Prop :=
  ∀ a w, Rel G s a w → ∀ Q : Exit → Act → World → Prop, (∀ s' a' w', K s' → Rel G s' a' w' → Q .normal a' w') → wpSeq G P ops Q l a w

def dstOk (G : Gh) (o : Oper) : Bool := match o.dst with | some d => Nat.blt d G.N | none => true
theorem dst_of (h : dstOk G o = true) : ∀ d, o.dst = some d → d < G.N := fun d hd => by
  simp only [dstOk, hd] at h
  exact Nat.le_of_ble_eq_true h

theorem seq_nil (h : K s) : ASeq P G ops [] s K := fun _ _ hr _ hQ => hQ _ _ _ h hr
theorem seq_rdO {v : CV} (hw : Wanted G ops o s true) (hd : dstOk G o = true) (h : ARdO P G o s v) (hk : ASeq P G ops r (s.put o.dst v) K) : ASeq P G ops (o :: r) s K := fun a w ⟨St, hr⟩ Q hQ => by
  unfold wpSeq
  rw [if_pos (hw St a w hr)]
  refine .inl ?_
  obtain ⟨x, hx, hv⟩ := h St a w hr
  unfold Oper.wp
  rw [hx w (Below.refl _ _)]
  exact hk _ _ ⟨St, hr.put (dst_of hd) hv⟩ Q hQ
theorem seq_rd {v : CV} (hw : Wanted G ops o s true) (hd : dstOk G o = true) (h : ARd P G o s v) (hk : ASeq P G ops r (s.put o.dst v) K) : ASeq P G ops (o :: r) s K := seq_rdO hw hd h.own hk
theorem seq_skip (hw : Wanted G ops o s false) (hd : dstOk G o = true) (hk : ASeq P G ops r (s.put o.dst (.c undef)) K) : ASeq P G ops (o :: r) s K := fun a w ⟨St, hr⟩ Q hQ => by
  unfold wpSeq
  rw [if_neg (by rw [hw St a w hr]; exact Bool.false_ne_true)]
  exact hk _ _ ⟨St, hr.put (v := .c undef) (dst_of hd) rfl⟩ Q hQ
theorem seq_ex (hw : Wanted G ops o s true) (h : AEx P G o s (fun s' => ASeq P G ops r s' K)) : ASeq P G ops (o :: r) s K := fun a w hr Q hQ => by
  unfold wpSeq
  obtain ⟨St, hs⟩ := id hr
  rw [if_pos (hw St a w hs)]
  exact .inl (Oper.wp_mono (fun a' w' ⟨_, St', _, s', h1, h2⟩ => h1 a' w' ⟨St', h2⟩ Q hQ) (h St a w hs Q))
theorem seq_md (hw : Wanted G ops o s true) (h : AMd P G o s (fun s' => ASeq P G ops r s' K)) : ASeq P G ops (o :: r) s K := fun a w hr Q hQ => by
  unfold wpSeq
  obtain ⟨St, hs⟩ := id hr
  rw [if_pos (hw St a w hs)]
  exact .inl (Oper.wp_mono (fun a' w' ⟨_, St', _, s', h1, h2⟩ => h1 a' w' ⟨St', h2⟩ Q hQ) (h St a w hs Q))
theorem AEx.md (h : AEx P G o s K) : AMd P G o s K := fun St a w hr Q => Oper.wp_mono (fun _ _ h => ⟨keep_of_below hr h.1, h.2⟩) (h St a w hr Q)

/-! ### regions that draw their order -/
def AX (P : Program) (G : Gh) (ops : Array Oper) (t : OrdO) (s : AS) (K : AS → Prop) : Prop :=
  ∀ a w, Rel G s a w → ∀ (Q : Exit → Act → World → Prop) (R : Act → World → Prop), (∀ s' a' w', K s' → Rel G s' a' w' → R a' w') → wpXB P ops Q R t a w

theorem x_done (h : K s) : AX P G ops .done s K := fun _ _ hr _ _ hQ n => hQ _ _ _ h (hr.ext n.below)
theorem x_rdO {t : OrdO} {v : CV} (hw : Wanted G ops o s true) (hd : dstOk G o = true) (h : ARdO P G o s v) (hk : AX P G ops t (s.put o.dst v) K) : AX P G ops (.rd o t) s K := fun a w ⟨St, hr⟩ Q R hQ => by
  obtain ⟨x, hx, hv⟩ := h St a w hr
  exact ⟨x, .inl ⟨hw St a w hr, fun W hW => hx W hW⟩, hk _ _ ⟨St, hr.put (dst_of hd) hv⟩ Q R hQ⟩
theorem x_rd {t : OrdO} {v : CV} (hw : Wanted G ops o s true) (hd : dstOk G o = true) (h : ARd P G o s v) (hk : AX P G ops t (s.put o.dst v) K) : AX P G ops (.rd o t) s K := x_rdO hw hd h.own hk
theorem x_skip {t : OrdO} (hw : Wanted G ops o s false) (hd : dstOk G o = true) (hk : AX P G ops t (s.put o.dst (.c undef)) K) : AX P G ops (.rd o t) s K := fun a w ⟨St, hr⟩ Q R hQ =>
  ⟨undef, .inr ⟨hw St a w hr, rfl⟩, hk _ _ ⟨St, hr.put (v := .c undef) (dst_of hd) rfl⟩ Q R hQ⟩
theorem x_one {t : OrdO} (hw : Wanted G ops o s true) (h : AEx P G o s (fun s' => AX P G ops t s' K)) : AX P G ops (.one o t) s K := fun a w hr Q R hQ n => by
  obtain ⟨St, hs⟩ := id hr
  rw [if_pos (hw St a w hs)]
  exact Oper.wp_mono (fun a' w' ⟨hb, St', _, s', h1, h2⟩ => ⟨hb, h1 a' w' ⟨St', h2⟩ Q R hQ⟩) (h St a n.w (hs.ext n.below) Q)
theorem x_noone {t : OrdO} (hw : Wanted G ops o s false) (hd : dstOk G o = true) (hk : AX P G ops t (s.put o.dst (.c undef)) K) : AX P G ops (.one o t) s K := fun a w ⟨St, hr⟩ Q R hQ n => by
  rw [if_neg (by rw [hw St a w hr]; exact Bool.false_ne_true)]
  exact hk _ _ ⟨St, hr.put (v := .c undef) (dst_of hd) rfl⟩ Q R hQ
theorem x_two {p : Oper} {t u : OrdO} (h1 : AX P G ops (.one o t) s K) (h2 : AX P G ops (.one p u) s K) : AX P G ops (.two o t p u) s K := fun a w hr Q R hQ => ⟨h1 a w hr Q R hQ, h2 a w hr Q R hQ⟩

/-! ### the tail of a drawn region: stores into own blocks and reads of what stays -/
def AZ (P : Program) (G : Gh) (ops : Array Oper) (t : OrdO) (s : AS) (K : AS → Prop) : Prop :=
  ∀ St a w, RelSt G St s a w → ∀ Q : Exit → Act → World → Prop, (∀ s' a' w', K s' → Rel G s' a' w' → Q .normal a' w') → ∃ St', (∀ b, St b → St' b) ∧ wpXS P ops Q St' t a w
theorem z_done (h : K s) : AZ P G ops .done s K := fun St _ _ hr _ hQ => ⟨St, fun _ h => h, hQ _ _ _ h ⟨_, hr⟩⟩
theorem z_rd {t : OrdO} {v : CV} (hw : Wanted G ops o s true) (hd : dstOk G o = true) (h : ARd P G o s v) (hk : AZ P G ops t (s.put o.dst v) K) : AZ P G ops (.rd o t) s K := fun St a w hr Q hQ => by
  obtain ⟨x, hx, hv⟩ := h St a w hr
  obtain ⟨St', hs, h2⟩ := hk _ _ _ (hr.put (dst_of hd) hv) Q hQ
  exact ⟨St', hs, x, .inl (YieldsS.grow hs (.inl ⟨hw St a w hr, fun W hW => hx W hW⟩)), h2⟩
/-- a read of own blocks, if all that writes comes behind it -/
theorem z_rdO {t : OrdO} {v : CV} (hw : Wanted G ops o s true) (hd : dstOk G o = true) (hb : ownB ops o = true) (h : ARdO P G o s v) (hk : AZ P G ops t (s.put o.dst v) K) : AZ P G ops (.rd o t) s K := fun St a w hr Q hQ => by
  obtain ⟨x, hx, hv⟩ := h St a w hr
  obtain ⟨St', hs, h2⟩ := hk _ _ _ (hr.put (dst_of hd) hv) Q hQ
  exact ⟨St', hs, x, .inr ⟨hb, .inl ⟨hw St a w hr, fun W hW => hx W hW⟩⟩, h2⟩
theorem z_skip {t : OrdO} (hw : Wanted G ops o s false) (hd : dstOk G o = true) (hk : AZ P G ops t (s.put o.dst (.c undef)) K) : AZ P G ops (.rd o t) s K := fun St a w hr Q hQ => by
  obtain ⟨St', hs, h2⟩ := hk _ _ _ (hr.put (v := .c undef) (dst_of hd) rfl) Q hQ
  exact ⟨St', hs, undef, .inl (.inr ⟨hw St a w hr, rfl⟩), h2⟩
/-- an operation that writes own blocks -/
theorem z_md {t : OrdO} (hw : Wanted G ops o s true) (hm : isMod o = true) (h : AMd P G o s (fun s' => AZ P G ops t s' K)) : AZ P G ops (.one o t) s K := fun St a w hr Q hQ => by
  refine ⟨St, fun _ h => h, ?_⟩
  unfold wpXS
  rw [if_pos (hw St a w hr)]
  refine Oper.wp_mono (fun a' w' ⟨hb, St', hs, s', h1, h2⟩ => ?_) (h St a w hr Q)
  obtain ⟨St2, hs2, h3⟩ := h1 St' a' w' h2 Q hQ
  exact ⟨⟨hb, fun h => by rw [Option.any_some, hm] at h; cases h⟩, St2, fun b hb => hs2 b (hs b hb), h3⟩
/-- an operation that makes memory, or calls -/
theorem z_ex {t : OrdO} (hw : Wanted G ops o s true) (h : AEx P G o s (fun s' => AZ P G ops t s' K)) : AZ P G ops (.one o t) s K := fun St a w hr Q hQ => by
  refine ⟨St, fun _ h => h, ?_⟩
  unfold wpXS
  rw [if_pos (hw St a w hr)]
  refine Oper.wp_mono (fun a' w' ⟨hb, St', hs, s', h1, h2⟩ => ?_) (h St a w hr Q)
  obtain ⟨St2, hs2, h3⟩ := h1 St' a' w' h2 Q hQ
  exact ⟨⟨keep_of_below hr hb, fun _ => hb⟩, St2, fun b hb => hs2 b (hs b hb), h3⟩
theorem z_one1O {t : OrdO} {v : CV} (hw : Wanted G ops o s true) (hd : dstOk G o = true) (h : ARdO P G o s v) (hk : AZ P G ops t (s.put o.dst v) K) : AZ P G ops (.one o t) s K :=
  z_ex hw fun St a w hr Q => by
    obtain ⟨x, hx, hv⟩ := h St a w hr
    unfold Oper.wp
    rw [hx w (Below.refl _ _)]
    exact ⟨Below.refl _ _, St, fun _ h => h, _, hk, hr.put (dst_of hd) hv⟩
theorem z_one1 {t : OrdO} {v : CV} (hw : Wanted G ops o s true) (hd : dstOk G o = true) (h : ARd P G o s v) (hk : AZ P G ops t (s.put o.dst v) K) : AZ P G ops (.one o t) s K := z_one1O hw hd h.own hk
theorem z_noone {t : OrdO} (hw : Wanted G ops o s false) (hd : dstOk G o = true) (hk : AZ P G ops t (s.put o.dst (.c undef)) K) : AZ P G ops (.one o t) s K := fun St a w hr Q hQ => by
  refine ⟨St, fun _ h => h, ?_⟩
  unfold wpXS
  rw [if_neg (by rw [hw St a w hr]; exact Bool.false_ne_true)]
  exact hk _ _ _ (hr.put (v := .c undef) (dst_of hd) rfl) Q hQ
theorem z_two {p : Oper} {t u : OrdO} (h1 : AZ P G ops (.one o t) s K) (h2 : AZ P G ops (.one p u) s K) : AZ P G ops (.two o t p u) s K := fun St a w hr Q hQ => by
  obtain ⟨S1, hs1, h3⟩ := h1 St a w hr Q hQ
  obtain ⟨S2, hs2, h4⟩ := h2 St a w hr Q hQ
  have h3 := wpXS_lower hs1 h3
  have h4 := wpXS_lower hs2 h4
  unfold wpXS at h3 h4
  exact ⟨St, fun _ h => h, h3, h4⟩

/-! ### code -/
def ACode (P : Program) (G : Gh) (c : Code) (s : AS) (R : Exit → AS → Prop) : Prop :=
  ∀ a w, Rel G s a w → ∀ Q : Exit → Act → World → Prop, (∀ e s' a' w', R e s' → Rel G s' a' w' → Q e a' w') → c.wpIn (frd G.rd) 0 P Q a w
def thenR (Y : AS → Prop) (R : Exit → AS → Prop) : Exit → AS → Prop
  | .normal, s => Y s
  | e, s => R e s
def blockR (id : Nat) (R : Exit → AS → Prop) : Exit → AS → Prop
  | .exit j, s => match Nat.beq j id with | true => R .normal s | false => R (.exit j) s
  | e, s => R e s
variable {R : Exit → AS → Prop} {x y c : Code}

theorem code_region {id : Nat} (h : ASeq P G ops ops.toList s (R .normal)) (hd : rdB G.rd ops = true := by rfl) : ACode P G (.region id ops false) s R := fun a w hr Q hQ =>
  wpIn_region (wpOpsIn_of_seq hd _ a w (by rw [range_filterMap]; exact h a w hr Q (hQ .normal)))
theorem code_draw {id : Nat} (t : Ord) (hm : P.follows .mixedOrders = true) (hs : Region.noSelect ops = true) (hl : t.len = ops.size) (hin : t.within ops.size = true)
    (hB : orderT .any ops t (Array.replicate ops.size false) = true) (h : AX P G ops (opsOfT ops t) s (R .normal)) (hd : rdB G.rd ops = true := by rfl) : ACode P G (.region id ops true) s R := fun a w hr Q hQ =>
  wpIn_any hd hm (any_X t hs hl hin hB (wpX_of_XB _ _ _ (h a w hr _ _ (fun s' a' w' h1 h2 => NoPanic.normal (hQ .normal s' a' w' h1 h2)))))
theorem range_tail (ops : Array Oper) (m : Nat) (hm : m ≤ ops.size) : ((List.range (ops.size - m)).map (m + ·)).filterMap (ops[·]?) = ops.toList.drop m := by
  rw [← range_filterMap, show List.range ops.size = List.range m ++ (List.range (ops.size - m)).map (m + ·) by
    conv => lhs; rw [show ops.size = m + (ops.size - m) by omega, List.range_add]]
  rw [List.filterMap_append]
  have e : ((List.range m).filterMap (ops[·]?)).length = m := by
    have h : ∀ l : List Nat, (∀ x ∈ l, x < ops.size) → (l.filterMap (ops[·]?)).length = l.length := by
      intro l hl
      induction l with
      | nil => rfl
      | cons x l ih =>
        simp only [List.filterMap_cons, Array.getElem?_eq_getElem (hl x (List.mem_cons_self ..)), List.length_cons]
        rw [ih fun y hy => hl y (List.mem_cons_of_mem _ hy)]
    rw [h _ (fun x hx => by have := List.mem_range.1 hx; omega), List.length_range]
  rw [List.drop_left' e]
theorem code_drawB {id : Nat} (m : Nat) (t : Ord) (hmix : P.follows .mixedOrders = true) (hs : Region.noSelect ops = true) (hm : Nat.ble m ops.size = true) (hl : t.len = m) (hin : t.within ops.size = true) (hc : coverB .any ops m = true)
    (hB : orderB2 .any ops m t (Array.replicate ops.size false) = true) (ht : tailB .any ops (ops.size - m) m (barL m ops.size) = true)
    (h : AX P G ops (opsOfT ops t) s (fun s' => ASeq P G ops (ops.toList.drop m) s' (R .normal))) (hd : rdB G.rd ops = true := by rfl) (hy : G.yl = false := by rfl) : ACode P G (.region id ops true) s R := fun a w hr Q hQ =>
  wpIn_any hd hmix (any_XB m t hs hm hl hin hc hB ht (h a w hr _ _ (fun s' a' w' h1 h2 => wpOps_of_seq hy _ a' w' (by
    rw [range_tail ops m (Nat.le_of_ble_eq_true hm)]
    exact h1 a' w' h2 _ (fun s'' a'' w'' h3 h4 => NoPanic.normal (hQ .normal s'' a'' w'' h3 h4))))))
theorem code_drawC {id : Nat} (m : Nat) (t u : Ord) (hmix : P.follows .mixedOrders = true) (hs : Region.noSelect ops = true) (hm : Nat.ble m ops.size = true) (hl : t.len = m) (hin : t.within ops.size = true) (hc : coverB .any ops m = true)
    (hB : orderB2 .any ops m t (Array.replicate ops.size false) = true) (hul : u.len = ops.size - m) (huin : u.within ops.size = true) (hu : orderT .any ops u (barL m ops.size) = true)
    (h : AX P G ops (opsOfT ops t) s (fun s' => AZ P G ops (opsOfT ops u) s' (R .normal))) (hd : rdB G.rd ops = true := by rfl) : ACode P G (.region id ops true) s R := fun a w hr Q hQ =>
  wpIn_any hd hmix (any_XS m t u hs hm hl hin hc hB hul huin hu (h a w hr _ _ (fun s' a' w' h1 ⟨St, h2⟩ => let ⟨St', _, h5⟩ := h1 St a' w' h2 (NoPanic (OnlyN Q)) (fun s'' a'' w'' h3 h4 => NoPanic.normal (hQ .normal s'' a'' w'' h3 h4)); ⟨St', h5⟩)))
theorem code_drawZ {id : Nat} (u : Ord) (hmix : P.follows .mixedOrders = true) (hs : Region.noSelect ops = true) (hul : u.len = ops.size) (huin : u.within ops.size = true) (hu : orderT .any ops u (Array.replicate ops.size false) = true)
    (h : AZ P G ops (opsOfT ops u) s (R .normal)) (hd : rdB G.rd ops = true := by rfl) : ACode P G (.region id ops true) s R := fun a w ⟨St, hr⟩ Q hQ =>
  let ⟨St', _, h5⟩ := h St a w.drew (hr.ext (below_drew1 w)) (NoPanic (OnlyN Q)) (fun s'' a'' w'' h3 h4 => NoPanic.normal (hQ .normal s'' a'' w'' h3 h4))
  wpIn_any hd hmix (any_S (S := St') u hs hul huin hu h5)
theorem code_seq (h : ACode P G x s (thenR (fun s' => ACode P G y s' R) R)) : ACode P G (.seq x y) s R := fun a w hr Q hQ =>
  wpIn_seq (h a w hr _ (fun e s' a' w' h1 h2 => by
    cases e with
    | normal => exact h1 a' w' h2 Q hQ
    | _ => exact hQ _ s' a' w' h1 h2))
theorem code_cond {d : Operand} {t : Bool} (hl : s.eval d = .c (.bool t)) (ht : t = true → ACode P G x s R) (hf : t = false → ACode P G y s R) : ACode P G (.cond d x y) s R := fun a w hr Q hQ => by
  obtain ⟨St, hs⟩ := id hr
  have he := hs.eval d
  rw [hl] at he
  have he : a.eval d = .bool t := he
  exact wpIn_cond_split he (fun h => ht h a w hr Q hQ) (fun h => hf h a w hr Q hQ)
theorem code_block {id : Nat} (h : ACode P G c s (blockR id R)) : ACode P G (.block id c) s R := fun a w hr Q hQ =>
  wpIn_block (h a w hr _ (fun e s' a' w' h1 h2 => by
    cases e with
    | exit j =>
      show if j = id then _ else _
      rcases beq_cases j id with ⟨hb, hj⟩ | ⟨hb, hj⟩
      · rw [if_pos hj]
        simp only [blockR, hb] at h1
        exact hQ .normal s' a' w' h1 h2
      · rw [if_neg hj]
        simp only [blockR, hb] at h1
        exact hQ _ s' a' w' h1 h2
    | _ => exact hQ _ s' a' w' h1 h2))
theorem code_exit {id : Nat} (h : R (.exit id) s) : ACode P G (.exit id) s R := fun a w hr _ hQ => wpIn_exit (hQ _ s a w h hr)
theorem code_ret (h : R .ret s) : ACode P G .ret s R := fun a w hr _ hQ => wpIn_ret (hQ _ s a w h hr)
theorem code_skip (h : R .normal s) : ACode P G .skip s R := fun a w hr _ hQ => wpIn_skip (hQ _ s a w h hr)
theorem code_label {l : Nat} (h : R .normal s) : ACode P G (.label l) s R := fun a w hr _ hQ => wpIn_label (hQ _ s a w h hr)

def EntS (G : Gh) (s s' : AS) : Prop := ∀ St a w, RelSt G St s a w → ∃ St', (∀ b, St b → St' b) ∧ RelSt G St' s' a w
theorem EntS.rel {s s' : AS} (h : EntS G s s') {a : Act} {w : World} (hr : Rel G s a w) : Rel G s' a w := let ⟨St, hr⟩ := hr; let ⟨St', _, h2⟩ := h St a w hr; ⟨St', h2⟩
theorem EntS.refl (s : AS) : EntS G s s := fun St _ _ h => ⟨St, fun _ h => h, h⟩
theorem ents {env env' : List (Nat × CV)} {b b' : Nat → CV} {H H' : List (Option Nat × Res)} (he : ∀ d, CEnt (look env b d) (look env' b' d)) (l : List Nat) (hl : l.Nodup) (hH : pickL H l = H') : EntS G ⟨env, b, H⟩ ⟨env', b', H'⟩ := fun St _ _ h => by
  have h1 := h.ent he
  exact ⟨St, fun _ h => h, h1.df, h1.sz, h1.env, h1.un, h1.s1, h1.s2, h1.s3, h1.hp.pick l hl hH, h1.sn, h1.sg⟩
theorem EntS.trans {s s' s'' : AS} (h : EntS G s s') (k : EntS G s' s'') : EntS G s s'' := fun St a w hr => let ⟨S1, h1, h2⟩ := h St a w hr; let ⟨S2, h3, h4⟩ := k S1 a w h2; ⟨S2, fun b hb => h3 b (h1 b hb), h4⟩
theorem ent_h {env : List (Nat × CV)} {b : Nat → CV} {H H' : List (Option Nat × Res)} (h : HEnt H H') : EntS G ⟨env, b, H⟩ ⟨env, b, H'⟩ := fun St _ _ hr => ⟨St, fun _ h => h, hr.df, hr.sz, hr.env, hr.un, hr.s1, hr.s2, hr.s3, hr.hp.hent h, hr.sn, hr.sg⟩
theorem code_ent {s' : AS} (he : EntS G s s') (h : ACode P G c s' R) : ACode P G c s R := fun a w hr Q hQ => h a w (he.rel hr) Q hQ
theorem code_mono {R' : Exit → AS → Prop} (h : ACode P G c s R') (hR : ∀ e s, R' e s → R e s) : ACode P G c s R := fun a w hr Q hQ => h a w hr Q (fun e s' a' w' h1 h2 => hQ e s' a' w' (hR e s' h1) h2)

theorem code_loop {α : Type} (S : α → AS) (φ : α → Prop) (μ : α → Nat) (p0 : α) (h0 : φ p0) (he : EntS G s (S p0))
    (hr : ∀ p, φ p → ACode P G c (S p) (thenR (fun s' => ∃ p', φ p' ∧ μ p' < μ p ∧ EntS G s' (S p')) R)) : ACode P G (.loop c) s R := by
  intro a w hrel Q hQ b k cs hro hb hroom
  have key : ∀ n p a w, μ p = n → φ p → Rel G (S p) a w → ∃ e a' w', Q e a' w' ∧ ArrivesIn (Machine.fenced P (frd G.rd)) P (lone (b.atR a (.code c :: .inLoop c :: k)) cs w) b k cs e a' w' := by
    intro n
    induction n using Nat.strongRecOn with
    | _ n ih =>
      intro p a w hn hp hrel
      have hwp := hr p hp a w hrel (Exit.then (fun a' w' => ∃ p', φ p' ∧ μ p' < μ p ∧ Rel G (S p') a' w') Q) (fun e s' a' w' h1 h2 => by
        cases e with
        | normal =>
          obtain ⟨p', h3, h4, h5⟩ := h1
          exact ⟨p', h3, h4, h5.rel h2⟩
        | _ => exact hQ _ s' a' w' h1 h2)
      obtain ⟨e, a₁, w₁, hq, harr⟩ := hwp b (.inLoop c :: k) cs hro hb hroom
      cases e with
      | normal =>
        obtain ⟨p', hp', hlt, hrel'⟩ := hq
        obtain ⟨e₂, a₂, w₂, hq₂, harr₂⟩ := ih (μ p') (hn ▸ hlt) p' a₁ w₁ rfl hp' hrel'
        exact ⟨e₂, a₂, w₂, hq₂, .of_steps (StepsIn.trans harr (.one (fenced_calm hb hroom rfl) stepR_inLoop)) harr₂⟩
      | exit id => exact ⟨_, a₁, w₁, hq, .pass (x := .inLoop c) rfl (fun _ _ => .inl (by simp)) harr⟩
      | goto l => exact ⟨_, a₁, w₁, hq, .pass (x := .inLoop c) rfl (fun _ _ => .inl (by simp)) harr⟩
      | ret => exact ⟨_, a₁, w₁, hq, .pass (x := .inLoop c) rfl (fun _ _ => .inl (by simp)) harr⟩
      | panic ch => exact ⟨_, a₁, w₁, hq, .pass (x := .inLoop c) rfl (fun _ _ => .inl (by simp)) harr⟩
      | outgrown => exact ⟨_, a₁, w₁, hq, .pass (x := .inLoop c) rfl (fun _ _ => .inl (by simp)) harr⟩
  obtain ⟨e, a', w', hq, harr⟩ := key _ p0 a w rfl h0 (he.rel hrel)
  exact ⟨e, a', w', hq, .of_steps (.one (fenced_calm hb hroom rfl) stepR_loop) harr⟩

/-- the slots D are laid down -/
def lay (D : List Nat) (env : List (Nat × CV)) (b : Nat → CV) (d : Nat) : CV := match D.any (Nat.beq d) with | true => .top | false => look env b d
theorem range_nodup (n : Nat) : (List.range n).Nodup := List.nodup_range
theorem pickL_range (H : List (Option Nat × Res)) (n : Nat) (hn : n ≤ H.length) : pickL H (List.range n) = H.take n := by
  apply List.ext_getElem?
  intro i
  simp only [pickL, List.getElem?_map]
  by_cases hi : i < n
  · rw [List.getElem?_range hi]
    have : i < H.length := by omega
    simp [List.getElem?_take, hi, this]
  · rw [List.getElem?_eq_none (by simp; omega)]
    simp [List.getElem?_take, hi]

/-- below a loop's head the floor may have been laid anew by loops within, all in the slots D -/
inductive BLe (D : List Nat) (b0 : Nat → CV) : (Nat → CV) → Prop
  | refl : BLe D b0 b0
  | nest {D2 : List Nat} {env2 : List (Nat × CV)} {b2 : Nat → CV} : BLe D b0 b2 → (D2.all fun d => D.any (Nat.beq d)) = true → (env2.all fun x => D.any (Nat.beq x.1)) = true → BLe D b0 (lay D2 env2 b2)
theorem look_keys {D : List Nat} : ∀ {l : List (Nat × CV)} (b : Nat → CV) (d : Nat), (l.all fun x => D.any (Nat.beq x.1)) = true → D.any (Nat.beq d) = false → look l b d = b d
  | [], _, _, _, _ => rfl
  | (e, v) :: r, b, d, h, hd => by
    simp only [List.all_cons, Bool.and_eq_true] at h
    have hne : e ≠ d := fun x => by rw [x, hd] at h; exact absurd h.1 Bool.noConfusion
    rw [look_other _ _ _ hne]
    exact look_keys b d h.2 hd
theorem BLe.ent {D : List Nat} {b0 b' : Nat → CV} (h : BLe D b0 b') (ht : ∀ d, D.any (Nat.beq d) = true → b0 d = .top) : ∀ d, CEnt (b' d) (b0 d) := by
  induction h with
  | refl => exact fun d => CEnt.refl _
  | @nest D2 env2 b2 h1 h2 h3 ih =>
    intro d
    cases hd : D.any (Nat.beq d) with
    | true => rw [ht d hd]; exact CEnt.top _
    | false =>
      have hD : D2.any (Nat.beq d) = false := by
        cases h4 : D2.any (Nat.beq d) with
        | false => rfl
        | true =>
          obtain ⟨e, he, hb⟩ := List.any_eq_true.1 h4
          have h5 := List.all_eq_true.1 h2 e he
          rw [← Nat.eq_of_beq_eq_true hb, hd] at h5
          exact absurd h5 Bool.noConfusion
      have e : lay D2 env2 b2 d = b2 d := by
        simp only [lay]
        rw [hD]
        exact look_keys b2 d h3 hd
      rw [e]
      exact ih d
/-- a loop: D: the slots that its rounds write; M p: what some of them hold at a round's head; Hp p: the blocks there -/
theorem code_loopD {α : Type} (D : List Nat) (M : α → List (Nat × CV)) (Hp : α → List (Option Nat × Res)) (φ : α → Prop) (μ : α → Nat) (p0 : α) (h0 : φ p0) (hM : ∀ p, ((M p).all fun x => D.any (Nat.beq x.1)) = true) (he : EntE s.env s.b (M p0)) (hH : HEnt s.H (Hp p0))
    (hr : ∀ p, φ p → ACode P G c ⟨M p, lay D s.env s.b, Hp p⟩ (thenR (fun s' => ∃ p', φ p' ∧ μ p' < μ p ∧ BLe D (lay D s.env s.b) s'.b ∧ (s'.env.all fun x => D.any (Nat.beq x.1)) = true ∧ EntE s'.env s'.b (M p') ∧ (Hp p').length ≤ s'.H.length ∧ HEnt (s'.H.take (Hp p').length) (Hp p')) R)) : ACode P G (.loop c) s R := by
  have top0 : ∀ d, D.any (Nat.beq d) = true → lay D s.env s.b d = .top := fun d hd => by simp only [lay]; rw [hd]
  have top : ∀ (l : List (Nat × CV)), (l.all fun x => D.any (Nat.beq x.1)) = true → ∀ d v, (d, v) ∈ l → lay D s.env s.b d = .top := fun l hl d v hv => by
    have := List.all_eq_true.1 hl _ hv
    simp only [lay]
    simp only at this
    rw [this]
  refine code_loop (fun p => ⟨M p, lay D s.env s.b, Hp p⟩) φ μ p0 h0 ?_ (fun p hp => code_mono (hr p hp) (fun e s' h => ?_))
  · have he' : ∀ d, CEnt (look s.env s.b d) (look (M p0) (lay D s.env s.b) d) := EntE.look he fun d _ => by
      simp only [lay]
      split
      · exact CEnt.top _
      · exact CEnt.refl _
    have h1 := ents (G := G) (H := s.H) (H' := s.H) he' (List.range s.H.length) (range_nodup _) (by rw [pickL_range _ _ (Nat.le_refl _), List.take_length])
    exact h1.trans (ent_h hH)
  · cases e with
    | normal =>
      obtain ⟨p', h1, h2, h3, h4, h5, h6, h7⟩ := h
      refine ⟨p', h1, h2, ?_⟩
      have he' : ∀ d, CEnt (look s'.env s'.b d) (look (M p') (lay D s.env s.b) d) := EntE.look h5 fun d hd => by
        have key : ∀ l : List (Nat × CV), (l.all fun x => D.any (Nat.beq x.1)) = true → CEnt (look l s'.b d) (lay D s.env s.b d) := by
          intro l hl
          induction l with
          | nil => exact h3.ent top0 d
          | cons x r ih =>
            obtain ⟨q, v⟩ := x
            by_cases hq : q = d
            · rw [top _ hl d v (by rw [hq]; exact List.mem_cons_self ..)]; exact CEnt.top _
            · rw [look_other _ _ _ hq]
              exact ih (by simp only [List.all_cons, Bool.and_eq_true] at hl; exact hl.2)
        exact key _ h4
      have h8 := ents (G := G) (H := s'.H) (H' := s'.H.take (Hp p').length) he' (List.range (Hp p').length) (range_nodup _) (by rw [pickL_range _ _ h6])
      exact h8.trans (ent_h h7)
    | _ => exact h

theorem BLe.out {D : List Nat} {b0 b' : Nat → CV} (h : BLe D b0 b') : ∀ d, D.any (Nat.beq d) = false → b' d = b0 d := by
  induction h with
  | refl => exact fun d _ => rfl
  | @nest D2 env2 b2 h1 h2 h3 ih =>
    intro d hd
    have hD : D2.any (Nat.beq d) = false := by
      cases h4 : D2.any (Nat.beq d) with
      | false => rfl
      | true =>
        obtain ⟨e, he, hb⟩ := List.any_eq_true.1 h4
        have h5 := List.all_eq_true.1 h2 e he
        rw [← Nat.eq_of_beq_eq_true hb, hd] at h5
        exact absurd h5 Bool.noConfusion
    have e : lay D2 env2 b2 d = b2 d := by
      simp only [lay]
      rw [hD]
      exact look_keys b2 d h3 hd
    rw [e]
    exact ih d hd
/-- ways that meet: D: the slots that they write; M p: what some of them hold where they meet -/
theorem code_join {α : Type} {d : Code} (D : List Nat) (M : α → List (Nat × CV)) (Hp : α → List (Option Nat × Res)) (φ : α → Prop) (hM : ∀ p, ((M p).all fun x => D.any (Nat.beq x.1)) = true)
    (h1 : ACode P G c ⟨[], look s.env s.b, s.H⟩ (thenR (fun s' => ∃ p, φ p ∧ BLe D (look s.env s.b) s'.b ∧ (s'.env.all fun x => D.any (Nat.beq x.1)) = true ∧ EntE s'.env s'.b (M p) ∧ (Hp p).length ≤ s'.H.length ∧ HEnt (s'.H.take (Hp p).length) (Hp p)) R))
    (h2 : ∀ p, φ p → ACode P G d ⟨M p, lay D s.env s.b, Hp p⟩ R) : ACode P G (.seq c d) s R := by
  have h0 : EntS G s ⟨[], look s.env s.b, s.H⟩ := by
    have := ents (G := G) (env := s.env) (b := s.b) (env' := []) (b' := look s.env s.b) (H := s.H) (H' := s.H) (fun d => CEnt.refl _) (List.range s.H.length) (range_nodup _) (by rw [pickL_range _ _ (Nat.le_refl _), List.take_length])
    exact this
  refine code_ent h0 (code_seq (code_mono h1 fun e s' h => ?_))
  cases e with
  | normal =>
    obtain ⟨p, h3, h4, h5, h6, h7, h8⟩ := h
    refine code_ent ?_ (h2 p h3)
    have he' : ∀ d, CEnt (look s'.env s'.b d) (look (M p) (lay D s.env s.b) d) := EntE.look h6 fun d hd => by
      cases hD : D.any (Nat.beq d) with
      | true => simp only [lay]; rw [hD]; exact CEnt.top _
      | false =>
        have e1 : look s'.env s'.b d = s'.b d := look_keys s'.b d h5 hD
        have e2 : lay D s.env s.b d = look s.env s.b d := by simp only [lay]; rw [hD]
        rw [e1, e2, h4.out d hD]
        exact CEnt.refl _
    have h9 := ents (G := G) (H := s'.H) (H' := s'.H.take (Hp p).length) he' (List.range (Hp p).length) (range_nodup _) (by rw [pickL_range _ _ h7])
    exact h9.trans (ent_h h8)
  | _ => exact h

/-! ### calls -/
/-- what a call asks of the world that it begins in -/
structure Entry (gs : List Nat) (al : List Addr) (St F0 : Nat → Prop) (H : List (Option Nat × Res)) (w : World) : Prop where
  s3 : ∀ b, St b → b < w.heap.size
  sn : SentL w gs al
  sg : (∀ g ∈ lst gs, St g) ∧ ∀ a ∈ al, St a.block
  hp : ∃ fp, HFoot al St w w.heap.size F0 H fp
  f0 : ∀ b, F0 b → ¬ St b

/-- the call f at what reads as args, with blocks of its own H: it returns what reads as r, and leaves blocks H', so that Q r H' -/
def AC (gs : List Nat) (P : Program) (f : FuncId) (H : List (Option Nat × Res)) (args : List CV) (Q : CV → List (Option Nat × Res) → Prop) : Prop :=
  ∀ al w St F0 (vals : Array Value), Entry gs al St F0 H w → vals.size = args.length → (∀ i, RepC al St w (fl args i) (vals.getD i undef)) →
    Calls P f vals w fun e w' => ∃ v r H' St', e = .returned v ∧ Q r H' ∧ RepC al St' w' r v ∧ Under F0 w w' ∧ (∀ b, St b → St' b) ∧ (∀ b, St' b → St b ∨ w.heap.size ≤ b ∨ F0 b) ∧ (∀ b, St' b → b < w'.heap.size) ∧ HRel al St' w' w.heap.size F0 H'

theorem AC.mono {gs : List Nat} {f : FuncId} {H : List (Option Nat × Res)} {args : List CV} {Q Q' : CV → List (Option Nat × Res) → Prop} (h : AC gs P f H args Q) (hQ : ∀ r H', Q r H' → Q' r H') : AC gs P f H args Q' :=
  fun al w St F0 vals he hs hv => (h al w St F0 vals he hs hv).mono fun _ _ ⟨v, r, H', St', h1, h2, h3⟩ => ⟨v, r, H', St', h1, hQ _ _ h2, h3⟩

/-- the results in the slots -/
def ARes (P : Program) (G : Gh) (fn : Func) (s : AS) (r : CV) : Prop := ∀ St a w, RelSt G St s a w → ∃ v, (results fn a.tmps).run P w = .ok v w ∧ RepC G.al St w r v

def bodyR (P : Program) (G : Gh) (fn : Func) (Q : CV → List (Option Nat × Res) → Prop) : Exit → AS → Prop
  | .normal, s | .ret, s => ∃ r H', ARes P G fn s r ∧ Q r H' ∧ ∀ St a w, RelSt G St s a w → HRel G.al St w G.w0.heap.size G.F0 H'
  | _, _ => False

def env0 : Nat → List CV → List (Nat × CV)
  | _, [] => []
  | i, x :: r => (i, x) :: env0 (i + 1) r
theorem look_env0 (b : Nat → CV) (hb : ∀ d, b d = .top) (l : List CV) : ∀ (i d : Nat), look (env0 i l) b d = if d < i then .top else fl l (d - i) := by
  induction l with
  | nil => intro i d; simp [env0, look, fl, hb]
  | cons x r ih =>
    intro i d
    by_cases h : i = d
    · subst h; rw [env0, look_same]; simp [fl]
    · rw [env0, look_other _ _ _ h, ih]
      by_cases h2 : d < i
      · rw [if_pos (by omega), if_pos h2]
      · rw [if_neg (by omega), if_neg h2]
        obtain ⟨m, hm⟩ : ∃ m, d - i = m + 1 := ⟨d - i - 1, by omega⟩
        rw [hm, show d - (i + 1) = m by omega, fl]

theorem fl_none : ∀ (l : List CV) (i : Nat), l.length ≤ i → fl l i = .top
  | [], _, _ => by simp [fl]
  | _ :: r, 0, h => by simp at h
  | _ :: r, i + 1, h => by rw [fl]; exact fl_none r i (by simpa using h)

/-- the marks are taken, the results read -/
theorem leaves_of {fn : Func} {R : Ending → World → Prop} : ∀ (Ds : List Nat) (tmps : Array Value) (w : World) (St : Nat → Prop), RelSt G St s { tmps := tmps, defers := Ds.map markD } w →
    (∀ w', RelSt G St s { tmps := tmps, defers := [] } w' → ∃ v, (results fn tmps).run P w' = .ok v w' ∧ R (.returned v) w') → LeavesInM Fence.wide 0 P fn tmps R (Ds.map markD) .returning w
  | [], tmps, w, St, hr, h => h w hr
  | D :: Ds, tmps, w, St, hr, h => by
    obtain ⟨h1, h2⟩ := RelSt.take hr
    exact ⟨fun e => (by cases e), .inl ⟨D, _, rfl, run_takeDeferred h1, leaves_of Ds tmps _ St h2 h⟩⟩
/-- a function's contract, by a walk through its code -/
theorem ac_ofY {gs : List Nat} {f : FuncId} {fn : Func} {H : List (Option Nat × Res)} {args : List CV} {Q : CV → List (Option Nat × Res) → Prop} (yl : Bool) (n : Nat) (hf : P.funcs[f]? = some fn) (hb : fn.body = some c) (hn : fn.ntmps = n) (hle : Nat.ble args.length n = true)
    (h : ∀ (al : List Addr) (w0 : World) (F0 St0 : Nat → Prop), ACode P ⟨gs, al, w0, F0, St0, n, none, yl⟩ c ⟨env0 0 args, fun _ => .top, H⟩ (bodyR P ⟨gs, al, w0, F0, St0, n, none, yl⟩ fn Q)) : AC gs P f H args Q := by
  intro al w St F0 vals he hs hv
  have hle : args.length ≤ n := Nat.le_of_ble_eq_true hle
  refine callsIn_wide.1 (callsIn_of_wp_marks (F := Fence.wide) (n := 0) hf hb trivial (h al w F0 St { tmps := vals ++ Array.replicate (fn.ntmps - vals.size) undef, defers := [] } w ⟨St, DefOk.none _ _ _, ?_, ?_, Under.refl _ _, fun _ h => h, fun _ h => .inl h, he.s3, he.hp, he.sn, he.sg⟩ _ ?_))
  · simp [hn, hs]; omega
  · intro d
    show RepC al St w (look (env0 0 args) (fun _ => .top) d) _
    rw [look_env0 _ (fun _ => rfl), if_neg (by omega), Nat.sub_zero]
    have := hv d
    by_cases hd : d < args.length
    · have e : (vals ++ Array.replicate (fn.ntmps - vals.size) undef).getD d undef = vals.getD d undef := by
        simp [hs, hd, Array.getElem?_append_left]
      rw [e]
      exact this
    · rw [fl_none args d (by omega)]
      trivial
  · intro e s' a' w' h1 h2
    obtain ⟨St', hr⟩ := h2
    have key : ∀ {r H'}, ARes P ⟨gs, al, w, F0, St, n, none, yl⟩ fn s' r → Q r H' → (∀ Sx a w', RelSt ⟨gs, al, w, F0, St, n, none, yl⟩ Sx s' a w' → HRel al Sx w' w.heap.size F0 H') → LeavesInM Fence.wide 0 P fn a'.tmps (fun e w' => ∃ v_1 r H' St', e = Ending.returned v_1 ∧ Q r H' ∧ RepC al St' w' r v_1 ∧ Under F0 w w' ∧ (∀ b, St b → St' b) ∧ (∀ b, St' b → St b ∨ w.heap.size ≤ b ∨ F0 b) ∧ (∀ b, St' b → b < w'.heap.size) ∧ HRel al St' w' w.heap.size F0 H') a'.defers .returning w' := by
      intro r H' hres hq hh
      obtain ⟨Ds, hD, _⟩ := hr.df
      obtain ⟨tmps, ds⟩ := a'
      simp only at hD
      subst hD
      refine leaves_of Ds tmps w' St' hr fun w'' hr' => ?_
      obtain ⟨v, hv, hrep⟩ := hres St' _ w'' hr'
      exact ⟨v, hv, v, r, H', St', rfl, hq, hrep, hr'.un, hr'.s1, hr'.s2, hr'.s3, hh St' _ w'' hr'⟩
    cases e with
    | normal => obtain ⟨r, H', hres, hq, hh⟩ := h1; exact key hres hq hh
    | ret => obtain ⟨r, H', hres, hq, hh⟩ := h1; exact key hres hq hh
    | _ => exact h1.elim
theorem ac_of {gs : List Nat} {f : FuncId} {fn : Func} {H : List (Option Nat × Res)} {args : List CV} {Q : CV → List (Option Nat × Res) → Prop} (n : Nat) (hf : P.funcs[f]? = some fn) (hb : fn.body = some c) (hn : fn.ntmps = n) (hle : Nat.ble args.length n = true)
    (h : ∀ (al : List Addr) (w0 : World) (F0 St0 : Nat → Prop), ACode P ⟨gs, al, w0, F0, St0, n, none, false⟩ c ⟨env0 0 args, fun _ => .top, H⟩ (bodyR P ⟨gs, al, w0, F0, St0, n, none, false⟩ fn Q)) : AC gs P f H args Q := ac_ofY false n hf hb hn hle h

/-- the end: nothing of its own is handed on -/
theorem end_pure {fn : Func} {Q : CV → List (Option Nat × Res) → Prop} {e : Exit} (he : e = .ret ∨ e = .normal) (v : CV) (hres : ARes P G fn s v) (hq : Q v []) : bodyR P G fn Q e s := by
  have h : ∃ r H', ARes P G fn s r ∧ Q r H' ∧ ∀ St a w, RelSt G St s a w → HRel G.al St w G.w0.heap.size G.F0 H' := ⟨v, [], hres, hq, fun _ _ _ _ => HRel.none _ _ _ _ _⟩
  rcases he with rfl | rfl <;> exact h
/-- the end: blocks of its own are handed on -/
theorem end_own {fn : Func} {Q : CV → List (Option Nat × Res) → Prop} {e : Exit} (he : e = .ret ∨ e = .normal) (v : CV) (H' : List (Option Nat × Res)) (l : List Nat) (hl : l.Nodup) (hH : pickL s.H l = H') (hres : ARes P G fn s v) (hq : Q v H') : bodyR P G fn Q e s := by
  have h : ∃ r H', ARes P G fn s r ∧ Q r H' ∧ ∀ St a w, RelSt G St s a w → HRel G.al St w G.w0.heap.size G.F0 H' := ⟨v, H', hres, hq, fun _ _ _ hr => hr.hp.pick l hl hH⟩
  rcases he with rfl | rfl <;> exact h

theorem res1 {fn : Func} {t : Nat} {v : CV} (h : fn.results = #[.tmp t]) (hv : look s.env s.b t = v) : ARes P G fn s v := fun St a w hr => by
  have he := hr.env t
  rw [hv] at he
  exact ⟨a.tmps.getD t undef, by simp [results, h], he⟩
theorem res2 {fn : Func} {t u : Nat} {v1 v2 : CV} (h : fn.results = #[.tmp t, .tmp u]) (h1 : look s.env s.b t = v1) (h2 : look s.env s.b u = v2) : ARes P G fn s (.tup 2 (fl [v1, v2])) := fun St a w hr => by
  have e1 := hr.env t
  have e2 := hr.env u
  rw [h1] at e1
  rw [h2] at e2
  refine ⟨.tuple #[a.tmps.getD t undef, a.tmps.getD u undef], by simp [results, h], _, rfl, rfl, fun i hi => ?_⟩
  match i, hi with
  | 0, _ => exact e1
  | 1, _ => exact e2
theorem res3 {fn : Func} {t u z : Nat} {v1 v2 v3 : CV} (h : fn.results = #[.tmp t, .tmp u, .tmp z]) (h1 : look s.env s.b t = v1) (h2 : look s.env s.b u = v2) (h3 : look s.env s.b z = v3) : ARes P G fn s (.tup 3 (fl [v1, v2, v3])) := fun St a w hr => by
  have e1 := hr.env t
  have e2 := hr.env u
  have e3 := hr.env z
  rw [h1] at e1
  rw [h2] at e2
  rw [h3] at e3
  refine ⟨.tuple #[a.tmps.getD t undef, a.tmps.getD u undef, a.tmps.getD z undef], by simp [results, h], _, rfl, rfl, fun i hi => ?_⟩
  match i, hi with
  | 0, _ => exact e1
  | 1, _ => exact e2
  | 2, _ => exact e3
theorem ARes.ent {fn : Func} {v v' : CV} (h : ARes P G fn s v) (hv : CEnt v v') : ARes P G fn s v' := fun St a w hr => by
  obtain ⟨x, h1, h2⟩ := h St a w hr
  exact ⟨x, h1, hv _ _ _ _ h2⟩
end
end Am
end Go.Proofs.YtoliiompofonlaaDoor
