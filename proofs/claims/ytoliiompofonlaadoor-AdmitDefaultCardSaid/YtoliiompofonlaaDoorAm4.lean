
/- The abstract walk, fourth part: operations that make memory or write into it; calls. -/
import Derived.Test.YtoliiompofonlaaDoorAm3
namespace Go.Proofs.YtoliiompofonlaaDoor
set_option linter.unusedVariables false
open Go.RowKit
namespace Am
section
variable {P : Program} {G : Gh} {ops : Array Oper} {o : Oper} {s : AS} {K : AS → Prop} {t u : TypeId} {x y : Operand} {k : IntKind}

/-- what the put slot and the new blocks make of a state -/
def AS.with (s : AS) (dst : Option Tmp) (v : CV) (H : List (Option Nat × Res)) : AS := ⟨(s.put dst v).env, s.b, H⟩

theorem HFoot.len {al : List Addr} {St : Nat → Prop} {w : World} {base : Nat} {F0 : Nat → Prop} {H : List (Option Nat × Res)} {fp : Nat → Nat → Prop} (h : HFoot al St w base F0 H fp) {i b : Nat} (hb : fp i b) : i < H.length := by
  rcases Nat.lt_or_ge i H.length with h1 | h1
  · exact h1
  · exact absurd hb (h.out i h1 b)

/-- a new row, behind a step that turned nothing -/
theorem RelSt.fresh {St : Nat → Prop} {a : Act} {w w' : World} (h : RelSt G St s a w) (hb : Below w.heap.size w w') {g : Nat} (hg : w.heap.size ≤ g) {cs : Array Value} {ty : TypeId} (hc : w'.heap[g]? = some (.cells cs ty (0, 0)))
    {n : Nat} {f : Nat → CV} (hn : n ≤ cs.size) (hf : ∀ j, j < n → RepC G.al St w' (f j) (cs.getD j undef)) : RelSt G St ⟨s.env, s.b, s.H ++ [(some g, .blk n f)]⟩ a w' := by
  have h1 := h.ext hb
  have hlt : g < w'.heap.size := (Array.getElem?_eq_some_iff.1 hc).1
  refine ⟨h1.df, h1.sz, h1.env, h1.un, h1.s1, h1.s2, h1.s3, ?_, h1.sn, h1.sg⟩
  obtain ⟨fp, hp⟩ := h.hp
  obtain ⟨fp1, hp1⟩ := h1.hp
  have he : Evo St w w' := Evo.of_below hb h.s3
  have hnew : ∀ i, ¬ fp i g := fun i hi => by have := (hp.own i g hi).1; omega
  refine ⟨fun i b => if i = s.H.length then b = g else fp i b, fun i q r hi => ?_, fun i j b h2 h3 => ?_, fun i b h2 => ?_, fun i hi b h2 => ?_⟩
  · by_cases e : i = s.H.length
    · subst e
      simp at hi
      obtain ⟨rfl, rfl⟩ := hi
      exact ⟨fun b => by simp, cs, ty, hc, hn, hf⟩
    · have hi' : s.H[i]? = some (q, r) := by
        rcases Nat.lt_or_ge i s.H.length with h4 | h4
        · rwa [List.getElem?_append_left h4] at hi
        · rw [List.getElem?_eq_none (by simp; omega)] at hi; cases hi
      have e2 : (fun b => if i = s.H.length then b = g else fp i b) = fp i := funext fun b => by simp [e]
      show r.rep G.al St w' (fun b => if i = s.H.length then b = g else fp i b) q
      rw [e2]
      exact Res.rep_evo he (fun _ x => x) (fun b hF => hb.block b (hp.own i b hF).1) (hp.rep i q r hi')
  · by_cases e1 : i = s.H.length <;> by_cases e2 : j = s.H.length
    · omega
    · simp only [e1, e2, if_true, if_false] at h2 h3; subst h2; exact absurd h3 (hnew j)
    · simp only [e1, e2, if_true, if_false] at h2 h3; subst h3; exact absurd h2 (hnew i)
    · simp only [e1, e2, if_false] at h2 h3; exact hp.dis i j b h2 h3
  · by_cases e : i = s.H.length
    · simp only [e, if_true] at h2
      subst h2
      exact ⟨hlt, fun hs => by have := h.s3 _ hs; omega, .inl (Nat.le_trans h.un.size hg)⟩
    · simp only [e, if_false] at h2
      obtain ⟨h3, h4, h5⟩ := hp.own i b h2
      exact ⟨Nat.lt_of_lt_of_le h3 hb.size, h4, h5⟩
  · have e : i ≠ s.H.length := by simp at hi; omega
    simp only [e, if_false] at h2
    exact hp.out i (by simp at hi; omega) b h2

theorem below_alloc (w : World) (x : Obj) : Below w.heap.size w (w.alloc x) := (Below.refl _ _).alloc (Nat.le_refl _) _

/-- an operation that gives a new row -/
theorem AEx.new {n : Nat} {f : Nat → CV} (hd : dstOk G o = true) (v : Option Nat → CV)
    (h : ∀ St a w, RelSt G St s a w → ∃ w' g cs ty x, (execOp a.eval o).run P w = .ok (.value x) w' ∧ Below w.heap.size w w' ∧ w.heap.size ≤ g ∧ w'.heap[g]? = some (.cells cs ty (0, 0)) ∧ n ≤ cs.size ∧ (∀ j, j < n → RepC G.al St w' (f j) (cs.getD j undef)) ∧ RepC G.al St w' (v (some g)) x)
    (hK : ∀ g, K (s.with o.dst (v g) (s.H ++ [(g, .blk n f)]))) : AEx P G o s K := fun St a w hr Q => by
  obtain ⟨w', g, cs, ty, x, h1, h2, h3, h4, h5, h6, h7⟩ := h St a w hr
  unfold Oper.wp
  rw [h1]
  refine ⟨h2, St, fun _ h => h, _, hK (some g), ?_⟩
  have := (hr.fresh h2 h3 h4 h5 h6).put (dst := o.dst) (v := v (some g)) (x := x) (dst_of hd) h7
  cases ho : o.dst with
  | none => rw [ho] at this; exact this
  | some d => rw [ho] at this; exact this

theorem ex_alloc {z : Value} {n : Nat} (ho : o.op = .alloc t) (hz : (P.info? t).map (·.zero) = some (some z)) (hn : z.cells.size = n) (hd : dstOk G o = true)
    (hK : ∀ g, K (s.with o.dst (.op s.H.length g 0) (s.H ++ [(g, .blk n fun j => .c (z.cells.getD j undef))]))) : AEx P G o s K :=
  AEx.new hd (fun g => .op s.H.length g 0) (fun St a w hr => by
    obtain ⟨info, hi, hz⟩ := Option.map_eq_some_iff.1 hz
    refine ⟨w.alloc (.cells z.cells t), w.heap.size, z.cells, t, .pointer (some ⟨w.heap.size, 0, none⟩), ?_, below_alloc w _, Nat.le_refl _, heap_alloc_new w _, by omega, fun j _ => rfl, _, rfl, rfl⟩
    simp only [execOp, ho]
    refine vOk ?_
    simp [Instr.alloc, zeroValue, typeInfo, hi, hz, newVar, newRow]) hK

/-! ### what a value's cells hold -/
def cellsC : CV → Option (List CV)
  | .agg n f => some ((List.range n).map f)
  | .c (.tuple _) => none
  | .c v => some (v.cells.toList.map .c)
  | .top => none
  | .tup _ _ => none
  | x => some [x]
def RepL (al : List Addr) (St : Nat → Prop) (w : World) (l : List CV) (cs : Array Value) : Prop := cs.size = l.length ∧ ∀ i, i < l.length → RepC al St w (fl l i) (cs.getD i undef)

theorem fl_get : ∀ (l : List CV) (i : Nat), fl l i = l.getD i .top
  | [], i => by simp [fl]
  | x :: r, 0 => rfl
  | x :: r, i + 1 => by rw [fl, fl_get r i]; simp
theorem repL_one {al : List Addr} {St : Nat → Prop} {w : World} {c : CV} {v : Value} (h : RepC al St w c v) : RepL al St w [c] #[v] :=
  ⟨rfl, fun i hi => by
    have : i = 0 := by simp at hi; omega
    subst this
    exact h⟩
theorem cells_rep {al : List Addr} {St : Nat → Prop} {w : World} : ∀ {c : CV} {v : Value} {l : List CV}, RepC al St w c v → cellsC c = some l → RepL al St w l v.cells
  | .agg n f, v, l, ⟨cs, h1, h2, h3⟩, hc => by
    simp only [cellsC, Option.some.injEq] at hc
    subst hc h1
    refine ⟨by simp [Value.cells, h2], fun i hi => ?_⟩
    have hi : i < n := by simpa using hi
    rw [fl_get]
    have := h3 i hi
    simpa [Value.cells, hi, List.getD] using this
  | .c u, v, l, h, hc => by
    have h : v = u := h
    subst h
    have key : ∀ l', cellsC (.c v) = some l' → l' = v.cells.toList.map .c := by
      intro l' h'
      cases v <;> simp [cellsC] at h' <;> exact h'.symm
    rw [key l hc]
    refine ⟨by simp, fun i hi => ?_⟩
    have hi : i < v.cells.size := by simpa using hi
    rw [fl_get]
    simp [List.getD, hi]
    rfl
  | .err n, v, l, h, hc => by
    simp only [cellsC, Option.some.injEq] at hc
    subst hc
    have h' : v = ev al n := h
    have e : v.cells = #[v] := by subst h'; unfold ev; split <;> rfl
    rw [e]
    exact repL_one (c := .err n) h
  | .rs k n f, v, l, h, hc => by
    simp only [cellsC, Option.some.injEq] at hc
    subst hc
    have e : v.cells = #[v] := by obtain ⟨ao, cap, h1, _⟩ := h; subst h1; rfl
    rw [e]
    exact repL_one (c := .rs k n f) h
  | .rp n f, v, l, h, hc => by
    simp only [cellsC, Option.some.injEq] at hc
    subst hc
    have e : v.cells = #[v] := by obtain ⟨b, q, h1, _⟩ := h; subst h1; rfl
    rw [e]
    exact repL_one (c := .rp n f) h
  | .os i none off n k, v, l, h, hc => by
    simp only [cellsC, Option.some.injEq] at hc
    subst hc
    have e : v.cells = #[v] := by rw [h.2]; rfl
    rw [e]
    exact repL_one (c := .os i none off n k) h
  | .os i (some g) off n k, v, l, h, hc => by
    simp only [cellsC, Option.some.injEq] at hc
    subst hc
    have e : v.cells = #[v] := by obtain ⟨cap, h1, _⟩ := h; rw [h1]; rfl
    rw [e]
    exact repL_one (c := .os i (some g) off n k) h
  | .op i g off, v, l, h, hc => by
    simp only [cellsC, Option.some.injEq] at hc
    subst hc
    have e : v.cells = #[v] := by obtain ⟨b, _, h1⟩ := h; rw [h1]; rfl
    rw [e]
    exact repL_one (c := .op i g off) h
  | .pv p, v, l, h, hc => by
    simp only [cellsC, Option.some.injEq] at hc
    subst hc
    rw [(p.one h).1]
    exact repL_one (c := .pv p) h
  | .fn g n f, v, l, h, hc => by
    simp only [cellsC, Option.some.injEq] at hc
    subst hc
    have e : v.cells = #[v] := by obtain ⟨cs, h1, _⟩ := h; rw [h1]; rfl
    rw [e]
    exact repL_one (c := .fn g n f) h

theorem ex_box {n : Nat} {c : CV} {l : List CV} (ho : o.op = .box t x) (hx : s.eval x = c) (hl : cellsC c = some l) (hn : l.length = n) (hd : dstOk G o = true)
    (hK : ∀ g, K (s.with o.dst (.op s.H.length g 0) (s.H ++ [(g, .blk n (fl l))]))) : AEx P G o s K :=
  AEx.new hd (fun g => .op s.H.length g 0) (fun St a w hr => by
    have hr' := cells_rep (evR hr hx) hl
    refine ⟨w.alloc (.cells (a.eval x).cells t), w.heap.size, (a.eval x).cells, t, .pointer (some ⟨w.heap.size, 0, none⟩), ?_, below_alloc w _, Nat.le_refl _, heap_alloc_new w _, by rw [hr'.1]; omega, fun j hj => ?_, _, rfl, rfl⟩
    · simp only [execOp, ho]
      refine vOk ?_
      simp [Instr.box, newVar, newRow]
    · exact RepC.evo (Evo.of_below (below_alloc w _) hr.s3) (fun _ h => h) _ _ (hr'.2 j (by omega))) hK

/-! ### literals -/
def setAt : List CV → Nat → List CV → List CV
  | cs, _, [] => cs
  | cs, i, x :: r => setAt (cs.set i x) (i + 1) r
theorem setAt_length : ∀ (l : List CV) (cs : List CV) (i : Nat), (setAt cs i l).length = cs.length
  | [], _, _ => rfl
  | x :: r, cs, i => by rw [setAt, setAt_length]; simp
def fillC (place : Nat → Option (Nat × Nat)) : List CV → List (Nat × CV) → Option (List CV)
  | cs, [] => some cs
  | cs, (i, v) :: r =>
    match place i, cellsC v with
    | some (off, size), some l => if l.length ≠ size || off + l.length > cs.length then none else fillC place (setAt cs off l) r
    | _, _ => none

theorem repL_set {al : List Addr} {St : Nat → Prop} {w : World} {l : List CV} {cs : Array Value} {c : CV} {v : Value} (h : RepL al St w l cs) (i : Nat) (hv : RepC al St w c v) : RepL al St w (l.set i c) (cs.setIfInBounds i v) := by
  refine ⟨by simp [h.1], fun j hj => ?_⟩
  have hj : j < l.length := by simpa using hj
  rw [fl_get]
  have hjc : j < cs.size := by rw [h.1]; exact hj
  by_cases e : i = j
  · subst e
    simp [List.getD, hj, hjc]
    exact hv
  · have := h.2 j hj
    rw [fl_get] at this
    simp [List.getD, e, Array.getElem?_setIfInBounds_ne] at this ⊢
    exact this
theorem repL_setAt {al : List Addr} {St : Nat → Prop} {w : World} : ∀ (vs : List Value) (ls : List CV) (l : List CV) (cs : Array Value) (off j : Nat), RepL al St w l cs → vs.length = ls.length → (∀ i, i < ls.length → RepC al St w (fl ls i) (vs.getD i undef)) →
    RepL al St w (setAt l (off + j) ls) ((vs.zipIdx j).foldl (fun cs (c, j) => cs.setIfInBounds (off + j) c) cs)
  | [], [], _, _, _, _, h, _, _ => h
  | [], _ :: _, _, _, _, _, _, hl, _ => by simp at hl
  | _ :: _, [], _, _, _, _, _, hl, _ => by simp at hl
  | v :: vs, c :: ls, l, cs, off, j, h, hl, hv => by
    simp only [setAt, List.zipIdx_cons, List.foldl_cons]
    have h0 := hv 0 (by simp)
    have := repL_setAt vs ls (l.set (off + j) c) (cs.setIfInBounds (off + j) v) off (j + 1) (repL_set h _ h0) (by simpa using hl) (fun i hi => by
      have := hv (i + 1) (by simp; omega)
      simpa [fl] using this)
    rw [← Nat.add_assoc] at this
    exact this
theorem fill_rep {al : List Addr} {St : Nat → Prop} {w : World} {place : Nat → Option (Nat × Nat)} : ∀ (ps : List (Nat × Value)) (qs : List (Nat × CV)) (l : List CV) (cs : Array Value) (l' : List CV), RepL al St w l cs → ps.length = qs.length →
    (∀ i, i < qs.length → (ps.getD i (0, undef)).1 = (qs.getD i (0, .top)).1 ∧ RepC al St w (qs.getD i (0, .top)).2 (ps.getD i (0, undef)).2) → fillC place l qs = some l' → ∃ cs', Instr.fill place cs ps = some cs' ∧ RepL al St w l' cs'
  | [], [], l, cs, l', h, _, _, hf => by
    simp only [fillC, Option.some.injEq] at hf
    subst hf
    exact ⟨cs, rfl, h⟩
  | [], _ :: _, _, _, _, _, hl, _, _ => by simp at hl
  | _ :: _, [], _, _, _, _, hl, _, _ => by simp at hl
  | (i, v) :: ps, (j, c) :: qs, l, cs, l', h, hl, hv, hf => by
    obtain ⟨h1, h2⟩ := hv 0 (by simp)
    simp at h1 h2
    subst h1
    rw [fillC] at hf
    split at hf
    · rename_i off size ls hp hc
      split at hf
      · cases hf
      · rename_i hcond
        simp at hcond
        have hr := cells_rep h2 hc
        obtain ⟨cs', h3, h4⟩ := fill_rep (place := place) ps qs (setAt l off ls) (v.cells.zipIdx.foldl (fun cs (c, j) => cs.setIfInBounds (off + j) c) cs) l' (by
          have := repL_setAt (al := al) (St := St) (w := w) v.cells.toList ls l cs off 0 h (by simpa using hr.1) (fun i hi => by
            have := hr.2 i hi
            simpa [List.getD] using this)
          rw [Nat.add_zero] at this
          rw [← Array.foldl_toList, Array.toList_zipIdx]
          exact this) (by simpa using hl) (fun i hi => by
            have := hv (i + 1) (by simp; omega)
            simpa using this) hf
        refine ⟨cs', ?_, h4⟩
        rw [Instr.fill]
        simp only [hp]
        rw [if_neg (by simp [hr.1, h.1]; omega)]
        exact h3
    · cases hf

/-- a struct's fields: where each begins, how many cells it has -/
def plOf (P : Program) (t : TypeId) : Option (List (Nat × Nat)) := match P.underlying t with
  | some (.struct fs) => fs.toList.mapM fun f => (P.info? f.type).map fun i => (f.offset, i.size)
  | _ => none
theorem run_places : ∀ (fs : List Field) (pl : List (Nat × Nat)) (W : World), (fs.mapM fun f => (P.info? f.type).map fun i => (f.offset, i.size)) = some pl → (fs.mapM fun f => do pure (f.offset, ← sizeOf f.type) : Sem (List (Nat × Nat))).run P W = .ok pl W
  | [], pl, W, h => by simp at h; subst h; rfl
  | f :: fs, pl, W, h => by
    simp only [List.mapM_cons, Option.bind_eq_bind, Option.bind_eq_some_iff] at h
    obtain ⟨a, ha, pl', h2, h3⟩ := h
    obtain ⟨info, hi, rfl⟩ := Option.map_eq_some_iff.1 ha
    have ih := run_places fs pl' W h2
    simp at h3
    subst h3
    simp [List.mapM_cons, sizeOf, typeInfo, hi] at ih ⊢
    rw [ih]
    rfl

theorem rd_build {z : Value} {pl : List (Nat × Nat)} {parts : Array (Nat × Operand)} {l : List CV} {n : Nat} (ho : o.op = .build t parts) (hz : (P.info? t).map (·.zero) = some (some z)) (hp : plOf P t = some pl)
    (hf : fillC (pl[·]?) (z.cells.toList.map .c) (parts.toList.map fun p => (p.1, s.eval p.2)) = some l) (hn : l.length = n) : ARd P G o s (.agg n (fl l)) := fun St a w h => by
  obtain ⟨info, hi, hz⟩ := Option.map_eq_some_iff.1 hz
  unfold plOf at hp
  split at hp
  · rename_i fs hu
    obtain ⟨cs', h1, h2⟩ := fill_rep (al := G.al) (St := St) (w := w) (parts.toList.map fun p => (p.1, a.eval p.2)) _ (z.cells.toList.map .c) z.cells l ⟨by simp, fun i hi => by
        have hi : i < z.cells.size := by simpa using hi
        rw [fl_get]; simp [List.getD, hi]; rfl⟩ (by simp) (fun i hi => by
        have hi : i < parts.size := by simpa using hi
        simp [List.getD, hi]
        exact h.eval _) hf
    refine ⟨.agg cs', fun W _ => ?_, cs', rfl, by rw [h2.1, hn], fun i hi => h2.2 i (by omega)⟩
    simp only [execOp, ho]
    refine vOk ?_
    have hr := run_places (P := P) fs.toList pl W hp
    have e : (fs.mapM fun f => do pure (f.offset, ← sizeOf f.type) : Sem (Array (Nat × Nat))).run P W = .ok pl.toArray W := by
      rw [Array.mapM_eq_mapM_toList]
      simp only [Sem.run_map, hr, Result.andThen_ok]
    simp only [Instr.build, zeroValue, typeInfo, Sem.run_bind, run_program, Result.andThen_ok, hi, Sem.run_pure, hz, underlying, hu, e]
    have h1' : Instr.fill (fun x => pl.toArray[x]?) z.cells (parts.map fun p => (p.1, a.eval p.2)).toList = some cs' := by simpa using h1
    simp only [h1', Sem.run_pure]
  · cases hp

theorem ex_buildSlice {e : TypeId} {z : Value} {len m : Nat} {parts : Array (Nat × Operand)} {l : List CV} {n : Nat} (ho : o.op = .buildSlice t len parts) (h1 : P.underlying t = some (.slice e)) (h5 : (P.info? e).map (·.size) = some m) (hz : (P.info? e).map (·.zero) = some (some z))
    (hm : Nat.ble (len * m) 16777216 = true) (hlen : Nat.ble len 16777216 = true) (hf : fillC (fun i => some (i * m, m)) ((List.range (len * m)).map fun i => .c (z.cells[i % z.cells.size]!)) (parts.toList.map fun p => (p.1, s.eval p.2)) = some l) (hn : l.length = n) (hle : n = len * m) (hd : dstOk G o = true)
    (hK : ∀ g, K (s.with o.dst (.os s.H.length g 0 len m) (s.H ++ [(g, .blk n (fl l))]))) : AEx P G o s K :=
  AEx.new hd (fun g => .os s.H.length g 0 len m) (fun St a w hr => by
    obtain ⟨info, hi, h6⟩ := Option.map_eq_some_iff.1 h5
    obtain ⟨info', hi', hz⟩ := Option.map_eq_some_iff.1 hz
    obtain rfl := Option.some.inj (hi.symm.trans hi')
    have hm' : len * m ≤ 16777216 := Nat.le_of_ble_eq_true hm
    let zs : Array Value := if len * m = 0 then #[] else z.cells
    obtain ⟨cs', h2, h3⟩ := fill_rep (al := G.al) (St := St) (w := w) (parts.toList.map fun p => (p.1, a.eval p.2)) _ _ ((Array.range (len * m)).map (z.cells[· % z.cells.size]!)) l ⟨by simp, fun i hi => by
        have hi : i < len * m := by simpa using hi
        rw [fl_get]; simp [List.getD, hi]; rfl⟩ (by simp) (fun i hi => by
        have hi : i < parts.size := by simpa using hi
        simp [List.getD, hi]
        exact hr.eval _) hf
    refine ⟨w.alloc (.cells cs' e), w.heap.size, cs', e, .slice (some ⟨w.heap.size, 0, none⟩) len len, ?_, below_alloc w _, Nat.le_refl _, heap_alloc_new w _, by rw [h3.1]; omega, fun j hj => ?_, len, rfl, Nat.le_refl _, ?_, cs', e, (0, 0), heap_alloc_new w _, ?_⟩
    · simp only [execOp, ho]
      refine vOk ?_
      have e0 : (Array.range (len * m)).map (zs[· % zs.size]!) = (Array.range (len * m)).map (z.cells[· % z.cells.size]!) := by
        by_cases h0 : len * m = 0
        · simp [h0]
        · simp only [zs, h0, if_false]
      have h2' : Instr.fill (fun i => some (i * m, m)) ((Array.range (len * m)).map (zs[· % zs.size]!)) (parts.map fun p => (p.1, a.eval p.2)).toList = some cs' := by rw [e0]; simpa using h2
      simp only [Instr.buildSlice, underlying, Sem.run_bind, run_program, Result.andThen_ok, h1, Sem.run_pure, sizeOf, typeInfo, hi, h6]
      rw [if_neg (show ¬ len * m > 2 ^ 24 by omega)]
      by_cases h0 : len * m = 0
      · simp only [h0, if_true, Sem.run_pure, Result.andThen_ok] at h2' ⊢
        simp only [zs, h0, if_true] at h2'
        simp only [Sem.run_bind, Sem.run_pure, Result.andThen_ok, h2', newRow, run_newObj, World.alloc_eq]
      · simp only [if_neg h0, Sem.run_bind, zeroValue, typeInfo, run_program, Result.andThen_ok, hi, hz, Sem.run_pure]
        simp only [zs, if_neg h0] at h2'
        simp only [h2', Sem.run_bind, newRow, run_newObj, Sem.run_pure, Result.andThen_ok, World.alloc_eq]
    · exact RepC.evo (Evo.of_below (below_alloc w _) hr.s3) (fun _ h => h) _ _ (h3.2 j (by omega))
    · have := Nat.le_of_ble_eq_true hlen; omega
    · rw [h3.1]; omega) hK
end
end Am
end Go.Proofs.YtoliiompofonlaaDoor
