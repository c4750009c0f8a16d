
/- The abstract walk, first part: what slots and own blocks hold in plain words; what stays in worlds to come; the rules of code. -/
import Derived.Test.YtoliiompofonlaaDoorReg5
namespace Go.Proofs.YtoliiompofonlaaDoor
set_option linter.unusedVariables false
open Go.RowKit
namespace Am

/-- a predicate that stays while the blocks of St stay -/
structure SV where
  p : (Nat → Prop) → World → Value → Prop
  st : ∀ {St St' : Nat → Prop} {w w' : World} {v : Value}, (∀ b, St b → St' b) → (∀ b cur t z, St b → w.heap[b]? = some (.cells cur t z) → w'.heap[b]? = some (.cells cur t z)) → p St w v → p St' w' v
  one : ∀ {St : Nat → Prop} {w : World} {v : Value}, p St w v → v.cells = #[v] ∧ v.oneCell' = true

/-- what a slot or a cell holds -/
inductive CV where
  | top
  | c (v : Value)
  | err (k : Nat)
  | agg (n : Nat) (f : Nat → CV)
  | tup (n : Nat) (f : Nat → CV)
  | rs (k n : Nat) (f : Nat → Nat → CV)
  | rp (n : Nat) (f : Nat → CV)
  | os (i : Nat) (g : Option Nat) (off n k : Nat)
  | op (i : Nat) (g : Option Nat) (off : Nat)
  | fn (g : FuncId) (n : Nat) (f : Nat → CV)
  | pv (p : SV)

def RepC (al : List Addr) (St : Nat → Prop) (w : World) : CV → Value → Prop
  | .top, _ => True
  | .c v, x => x = v
  | .err k, x => x = ev al k
  | .agg n f, x => ∃ cs : Array Value, x = .agg cs ∧ cs.size = n ∧ ∀ i, i < n → RepC al St w (f i) (cs.getD i undef)
  | .tup n f, x => ∃ cs : Array Value, x = .tuple cs ∧ cs.size = n ∧ ∀ i, i < n → RepC al St w (f i) (cs.getD i undef)
  | .rs k n f, x => ∃ ao cap, x = .slice ao n cap ∧ n ≤ cap ∧ cap ≤ 9223372036854775807 ∧ (ao = none → cap = 0) ∧ ∀ a, ao = some a → 0 < n →
      a.spot = none ∧ St a.block ∧ ∀ i j, i < n → j < k → ∃ v, w.cell? ⟨a.block, a.off + (i * k + j), none⟩ = some v ∧ RepC al St w (f i j) v
  | .rp n f, x => ∃ b o, x = .pointer (some ⟨b, o, none⟩) ∧ St b ∧ ∀ j, j < n → ∃ v, w.cell? ⟨b, o + j, none⟩ = some v ∧ RepC al St w (f j) v
  | .os _ none _ n _, x => n = 0 ∧ x = .slice none 0 0
  | .os _ (some g) off n k, x => ∃ cap, x = .slice (some ⟨g, off, none⟩) n cap ∧ n ≤ cap ∧ cap ≤ 9223372036854775807 ∧ ∃ cur t z, w.heap[g]? = some (.cells cur t z) ∧ off + cap * k ≤ cur.size
  | .op _ g off, x => ∃ b, g = some b ∧ x = .pointer (some ⟨b, off, none⟩)
  | .fn g n f, x => ∃ cs : Array Value, x = .func (.func g) #[] cs ∧ cs.size = n ∧ ∀ i, i < n → RepC al St w (f i) (cs.getD i undef)
  | .pv p, x => p.p St w x

/-- from w to w' the rows of St have stayed, and no row has changed its length -/
structure Evo (St : Nat → Prop) (w w' : World) : Prop where
  st : ∀ b cur t z, St b → w.heap[b]? = some (.cells cur t z) → w'.heap[b]? = some (.cells cur t z)
  sh : ∀ (b : Nat) cur t z, w.heap[b]? = some (.cells cur t z) → ∃ cur' z', w'.heap[b]? = some (.cells cur' t z') ∧ cur'.size = cur.size

theorem Evo.of_below {St : Nat → Prop} {w w' : World} (h : Below w.heap.size w w') (hs : ∀ b, St b → b < w.heap.size) : Evo St w w' where
  st := fun b cur t z hb hc => (h.block b (hs b hb)).trans hc
  sh := fun b cur t z hb => ⟨cur, z, (h.block b (Array.getElem?_eq_some_iff.1 hb).1).trans hb, rfl⟩

theorem cell_of_block {w w' : World} {b : Nat} (h : w'.heap[b]? = w.heap[b]?) (o : Nat) : w'.cell? ⟨b, o, none⟩ = w.cell? ⟨b, o, none⟩ := World.cell?_of_block (w := w) (a := ⟨b, o, none⟩) h

theorem cell_keep {w w' : World} {b o : Nat} {v : Value} (h : ∀ cur t z, w.heap[b]? = some (.cells cur t z) → w'.heap[b]? = some (.cells cur t z)) (hv : w.cell? ⟨b, o, none⟩ = some v) : w'.cell? ⟨b, o, none⟩ = some v := by
  unfold World.cell? at hv ⊢
  split at hv
  · rename_i cur t z hc
    rw [h _ _ _ hc]
    exact hv
  · cases hv

theorem RepC.evo {al : List Addr} {St St' : Nat → Prop} {w w' : World} (he : Evo St w w') (hs : ∀ b, St b → St' b) : ∀ (c : CV) (v : Value), RepC al St w c v → RepC al St' w' c v
  | .top, _, _ => trivial
  | .c _, _, h => h
  | .err _, _, h => h
  | .agg n f, _, ⟨cs, h1, h2, h3⟩ => ⟨cs, h1, h2, fun i hi => RepC.evo he hs (f i) _ (h3 i hi)⟩
  | .tup n f, _, ⟨cs, h1, h2, h3⟩ => ⟨cs, h1, h2, fun i hi => RepC.evo he hs (f i) _ (h3 i hi)⟩
  | .rs k n f, _, ⟨ao, cap, h1, h2, h3, h4, h5⟩ => ⟨ao, cap, h1, h2, h3, h4, fun a ha hn => by
      obtain ⟨h6, h7, h8⟩ := h5 a ha hn
      refine ⟨h6, hs _ h7, fun i j hi hj => ?_⟩
      obtain ⟨v, hv, hr⟩ := h8 i j hi hj
      exact ⟨v, cell_keep (fun cur t z hc => he.st _ cur t z h7 hc) hv, RepC.evo he hs (f i j) v hr⟩⟩
  | .rp n f, _, ⟨b, o, h1, h2, h3⟩ => ⟨b, o, h1, hs _ h2, fun j hj => by
      obtain ⟨v, hv, hr⟩ := h3 j hj
      exact ⟨v, cell_keep (fun cur t z hc => he.st _ cur t z h2 hc) hv, RepC.evo he hs (f j) v hr⟩⟩
  | .os _ none _ _ _, _, h => h
  | .os _ (some g) off n k, _, ⟨cap, h1, h2, h3, cur, t, z, h4, h5⟩ => by
      obtain ⟨cur', z', h6, h7⟩ := he.sh g cur t z h4
      exact ⟨cap, h1, h2, h3, cur', t, z', h6, by omega⟩
  | .op _ _ _, _, h => h
  | .fn g n f, _, ⟨cs, h1, h2, h3⟩ => ⟨cs, h1, h2, fun i hi => RepC.evo he hs (f i) _ (h3 i hi)⟩
  | .pv p, _, h => p.st hs he.st h

/-- a thing with a footprint -/
structure OP where
  p : List Addr → (Nat → Prop) → World → Nat → (Nat → Prop) → Prop
  st : ∀ {al : List Addr} {St St' : Nat → Prop} {w w' : World} {g : Nat} {F : Nat → Prop}, Evo St w w' → (∀ b, St b → St' b) → (∀ b, F b → w'.heap[b]? = w.heap[b]?) → p al St w g F → p al St' w' g F

/-- what a block of the call's own holds: gone; cells that may be written; cells that are not written any more; a thing -/
inductive Res where
  | dead
  | blk (n : Nat) (f : Nat → CV)
  | frz (n : Nat) (f : Nat → CV)
  | obj (p : OP)

def Res.rep (al : List Addr) (St : Nat → Prop) (w : World) (F : Nat → Prop) : Option Nat → Res → Prop
  | _, .dead => ∀ b, ¬ F b
  | none, .blk n _ => n = 0 ∧ ∀ b, ¬ F b
  | some g, .blk n f => (∀ b, F b ↔ b = g) ∧ ∃ cur t, w.heap[g]? = some (.cells cur t (0, 0)) ∧ n ≤ cur.size ∧ ∀ i, i < n → RepC al St w (f i) (cur.getD i undef)
  | none, .frz n _ => n = 0 ∧ ∀ b, ¬ F b
  | some g, .frz n f => (∀ b, ¬ F b) ∧ St g ∧ ∃ cur t z, w.heap[g]? = some (.cells cur t z) ∧ n ≤ cur.size ∧ ∀ i, i < n → RepC al St w (f i) (cur.getD i undef)
  | none, .obj _ => ∀ b, ¬ F b
  | some g, .obj p => p.p al St w g F

theorem Res.rep_evo {al : List Addr} {St St' : Nat → Prop} {w w' : World} (he : Evo St w w') (hs : ∀ b, St b → St' b) {F : Nat → Prop} (hF : ∀ b, F b → w'.heap[b]? = w.heap[b]?) : ∀ {g : Option Nat} {r : Res}, r.rep al St w F g → r.rep al St' w' F g
  | none, .dead, h => h
  | some _, .dead, h => h
  | none, .blk _ _, h => h
  | some g, .blk n f, ⟨h0, cur, t, h1, h2, h4⟩ => ⟨h0, cur, t, (hF g ((h0 g).2 rfl)).trans h1, h2, fun i hi => RepC.evo he hs _ _ (h4 i hi)⟩
  | none, .frz _ _, h => h
  | some g, .frz n f, ⟨h0, hg, cur, t, z, h1, h2, h4⟩ => ⟨h0, hs _ hg, cur, t, z, he.st g cur t z hg h1, h2, fun i hi => RepC.evo he hs _ _ (h4 i hi)⟩
  | none, .obj _, h => h
  | some _, .obj p, h => p.st he hs hF h

structure AS where
  env : List (Nat × CV)
  b : Nat → CV
  H : List (Option Nat × Res)

def look : List (Nat × CV) → (Nat → CV) → Nat → CV
  | [], b, d => b d
  | (e, v) :: r, b, d => match Nat.beq e d with | true => v | false => look r b d

theorem beq_cases (e d : Nat) : (Nat.beq e d = true ∧ e = d) ∨ (Nat.beq e d = false ∧ e ≠ d) := by
  by_cases h : e = d
  · exact .inl ⟨by subst h; exact Nat.beq_refl e, h⟩
  · exact .inr ⟨by cases hb : Nat.beq e d with | true => exact absurd (Nat.eq_of_beq_eq_true hb) h | false => rfl, h⟩

theorem look_same (r : List (Nat × CV)) (b : Nat → CV) (d : Nat) (v : CV) : look ((d, v) :: r) b d = v := by
  rcases beq_cases d d with ⟨h, _⟩ | ⟨_, h⟩
  · simp [look, h]
  · exact absurd rfl h
theorem look_other (r : List (Nat × CV)) (b : Nat → CV) {e d : Nat} (v : CV) (hn : e ≠ d) : look ((e, v) :: r) b d = look r b d := by
  rcases beq_cases e d with ⟨_, h⟩ | ⟨h, _⟩
  · exact absurd h hn
  · simp [look, h]

def AS.eval (s : AS) : Operand → CV
  | .tmp t => look s.env s.b t
  | .const v => .c v
  | .global g => .c (.pointer (some ⟨g, 0, none⟩))
  | .func f => .c (.func (.func f) #[] #[])

def AS.put (s : AS) (dst : Option Tmp) (v : CV) : AS := match dst with | some d => ⟨(d, v) :: s.env, s.b, s.H⟩ | none => s

/-- where a call stands: its errors' addresses, its first world, the blocks that it may write, those that stay, how many slots it has; the round that it is in, whether it may call yield -/
structure Gh where
  gs : List Nat
  al : List Addr
  w0 : World
  F0 : Nat → Prop
  St0 : Nat → Prop
  N : Nat
  rd : Option Nat
  yl : Bool

structure Under (F0 : Nat → Prop) (w0 w : World) : Prop where
  os : w.os = w0.os
  tape : w.tape = w0.tape
  output : w.output = w0.output
  size : w0.heap.size ≤ w.heap.size
  block : ∀ k, k < w0.heap.size → ¬ F0 k → w.heap[k]? = w0.heap[k]?
  sh : ∀ (b : Nat) cur t z, w0.heap[b]? = some (.cells cur t z) → ∃ cur' z', w.heap[b]? = some (.cells cur' t z') ∧ cur'.size = cur.size

theorem Under.refl (F0 : Nat → Prop) (w : World) : Under F0 w w := ⟨rfl, rfl, rfl, Nat.le_refl _, fun _ _ _ => rfl, fun _ cur _ z h => ⟨cur, z, h, rfl⟩⟩
theorem Under.then {F0 : Nat → Prop} {a b c : World} (h : Under F0 a b) (k : Below b.heap.size b c) : Under F0 a c :=
  ⟨k.os.trans h.os, k.tape.trans h.tape, k.output.trans h.output, Nat.le_trans h.size k.size, fun i hi hn => (k.block i (Nat.lt_of_lt_of_le hi h.size)).trans (h.block i hi hn), fun i cur t z hb => by
    obtain ⟨cur', z', h1, h2⟩ := h.sh i cur t z hb
    exact ⟨cur', z', (k.block i (Array.getElem?_eq_some_iff.1 h1).1).trans h1, h2⟩⟩
theorem Under.below {w w' : World} (h : Under (fun _ => False) w w') : Below w.heap.size w w' := ⟨h.os, h.tape, h.output, h.size, fun k hk => h.block k hk (fun h => h)⟩

structure HFoot (al : List Addr) (St : Nat → Prop) (w : World) (base : Nat) (F0 : Nat → Prop) (H : List (Option Nat × Res)) (fp : Nat → Nat → Prop) : Prop where
  rep : ∀ (i : Nat) (g : Option Nat) (r : Res), H[i]? = some (g, r) → r.rep al St w (fp i) g
  dis : ∀ i j b, fp i b → fp j b → i = j
  own : ∀ i b, fp i b → b < w.heap.size ∧ ¬ St b ∧ (base ≤ b ∨ F0 b)
  out : ∀ i, H.length ≤ i → ∀ b, ¬ fp i b
def HRel (al : List Addr) (St : Nat → Prop) (w : World) (base : Nat) (F0 : Nat → Prop) (H : List (Option Nat × Res)) : Prop := ∃ fp, HFoot al St w base F0 H fp

/-- the mark of a range over a function, among a frame's deferred calls -/
def markD (D : Nat) : Deferred := { target := .collected D, args := #[] }
/-- what a frame defers: the marks of its ranges over functions, whose blocks stay -/
def DefOk (G : Gh) (St : Nat → Prop) (w : World) (ds : List Deferred) : Prop := ∃ Ds : List Nat, ds = Ds.map markD ∧ Ds.Nodup ∧ ∀ D ∈ Ds, (St D ∧ w.heap[D]? = some (.deferred (some []))) ∧ G.w0.heap.size ≤ D ∧ D ∉ lst G.gs ∧ ∀ a ∈ G.al, a.block ≠ D
theorem DefOk.none (G : Gh) (St : Nat → Prop) (w : World) : DefOk G St w [] := ⟨[], rfl, List.nodup_nil, fun _ h => by cases h⟩
theorem DefOk.keep {G : Gh} {St St' : Nat → Prop} {w w' : World} {ds : List Deferred} (h : DefOk G St w ds) (hs : ∀ b, St b → St' b) (hw : ∀ b, St b → w'.heap[b]? = w.heap[b]?) : DefOk G St' w' ds := by
  obtain ⟨Ds, h1, h2, h3⟩ := h
  exact ⟨Ds, h1, h2, fun D hD => ⟨⟨hs D (h3 D hD).1.1, (hw D (h3 D hD).1.1).trans (h3 D hD).1.2⟩, (h3 D hD).2⟩⟩
theorem DefOk.grow {G : Gh} {St St' : Nat → Prop} {w : World} {ds : List Deferred} (h : DefOk G St w ds) (hs : ∀ b, St b → St' b) : DefOk G St' w ds := h.keep hs fun _ _ => rfl
structure RelSt (G : Gh) (St : Nat → Prop) (s : AS) (a : Act) (w : World) : Prop where
  df : DefOk G St w a.defers
  sz : a.tmps.size = G.N
  env : ∀ d, RepC G.al St w (look s.env s.b d) (a.tmps.getD d undef)
  un : Under G.F0 G.w0 w
  s1 : ∀ b, G.St0 b → St b
  s2 : ∀ b, St b → G.St0 b ∨ G.w0.heap.size ≤ b ∨ G.F0 b
  s3 : ∀ b, St b → b < w.heap.size
  hp : HRel G.al St w G.w0.heap.size G.F0 s.H
  sn : SentL w G.gs G.al
  sg : (∀ g ∈ lst G.gs, St g) ∧ ∀ a ∈ G.al, St a.block
def Rel (G : Gh) (s : AS) (a : Act) (w : World) : Prop := ∃ St, RelSt G St s a w

theorem RelSt.eval {G : Gh} {St : Nat → Prop} {s : AS} {a : Act} {w : World} (h : RelSt G St s a w) : ∀ x : Operand, RepC G.al St w (s.eval x) (a.eval x)
  | .tmp t => h.env t
  | .const _ => rfl
  | .global _ => rfl
  | .func _ => rfl

theorem RelSt.put {G : Gh} {St : Nat → Prop} {s : AS} {a : Act} {w : World} (h : RelSt G St s a w) {dst : Option Tmp} {v : CV} {x : Value} (hd : ∀ d, dst = some d → d < G.N) (hv : RepC G.al St w v x) :
    RelSt G St (s.put dst v) (a.put dst x) w := by
  cases dst with
  | none => exact h
  | some d =>
    have hlt := hd d rfl
    refine ⟨h.df, by simp [Act.put, h.sz], fun e => ?_, h.un, h.s1, h.s2, h.s3, h.hp, h.sn, h.sg⟩
    by_cases hde : d = e
    · subst hde
      show RepC _ _ _ (look ((d, v) :: s.env) s.b d) _
      rw [look_same]
      simpa [Act.put, h.sz, hlt] using hv
    · show RepC _ _ _ (look ((d, v) :: s.env) s.b e) _
      rw [look_other _ _ _ hde]
      have := h.env e
      simpa [Act.put, Array.getElem?_setIfInBounds_ne hde] using this

theorem SentL.keep {w w' : World} {gs : List Nat} {al : List Addr} (h : SentL w gs al) (h1 : ∀ g ∈ lst gs, w'.heap[g]? = w.heap[g]?) (h2 : ∀ a ∈ al, w'.heap[a.block]? = w.heap[a.block]?) : SentL w' gs al :=
  ⟨h.len, h.nd, fun i g hi hl => (cell_of_block (h1 g hl) 0).trans (h.var i g hi hl), fun x hx => by
    obtain ⟨c, t, hc⟩ := h.row x hx
    exact ⟨c, t, (h2 x hx).trans hc⟩, fun h3 h4 => tabs_keep (h.tab h3 h4) (fun o => cell_of_block (h1 _ h3) o) (fun o => cell_of_block (h1 _ h4) o), fun g hg => by
      have h3 := h.lt g hg
      have h4 := h1 g hg
      rw [Array.getElem?_eq_getElem h3] at h4
      exact (Array.getElem?_eq_some_iff.1 h4).1⟩

/-- a step that turns nothing of what there was -/
theorem RelSt.ext {G : Gh} {St : Nat → Prop} {s : AS} {a : Act} {w w' : World} (h : RelSt G St s a w) (hb : Below w.heap.size w w') : RelSt G St s a w' := by
  have he : Evo St w w' := Evo.of_below hb h.s3
  refine ⟨h.df.keep (fun _ h => h) (fun b hb' => hb.block b (h.s3 b hb')), h.sz, fun d => RepC.evo he (fun _ x => x) _ _ (h.env d), h.un.then hb, h.s1, h.s2, fun b hs => Nat.lt_of_lt_of_le (h.s3 b hs) hb.size, ?_, ?_, h.sg⟩
  · obtain ⟨fp, hp⟩ := h.hp
    exact ⟨fp, fun i g r hi => Res.rep_evo he (fun _ x => x) (fun b hF => hb.block b (hp.own i b hF).1) (hp.rep i g r hi), hp.dis, fun i b hF => ⟨Nat.lt_of_lt_of_le (hp.own i b hF).1 hb.size, (hp.own i b hF).2⟩, hp.out⟩
  · exact SentL.keep h.sn (fun g hg => hb.block g (h.s3 _ (h.sg.1 g hg))) (fun x hx => hb.block _ (h.s3 _ (h.sg.2 x hx)))
/-- a mark is taken at the function's end -/
theorem RelSt.take {G : Gh} {St : Nat → Prop} {s : AS} {tmps : Array Value} {D : Nat} {Ds : List Nat} {w : World} (h : RelSt G St s { tmps := tmps, defers := markD D :: Ds.map markD } w) :
    w.heap[D]? = some (.deferred (some [])) ∧ RelSt G St s { tmps := tmps, defers := Ds.map markD } (w.putObj D (.deferred none)) := by
  obtain ⟨Ds', h1, h2, h3⟩ := h.df
  have h1 : (D :: Ds).map markD = Ds'.map markD := h1
  have inj : ∀ (l m : List Nat), l.map markD = m.map markD → l = m := fun l => by
    induction l with
    | nil => intro m hm; cases m with | nil => rfl | cons => simp at hm
    | cons x l ih =>
      intro m hm
      cases m with
      | nil => simp at hm
      | cons y m =>
        simp only [List.map_cons, List.cons.injEq] at hm
        have e : x = y := by
          have := congrArg Deferred.target hm.1
          simp only [markD, Target.collected.injEq] at this
          exact this
        rw [e, ih m hm.2]
  have e := inj _ _ h1
  subst e
  obtain ⟨⟨hS, hD⟩, hb, hg, ha⟩ := h3 D (List.mem_cons_self ..)
  have hold : ∀ b, b ≠ D → (w.putObj D (.deferred none)).heap[b]? = w.heap[b]? := fun b hb => World.putObj_heap_other hb
  have hrow : ∀ (b : Nat) cur t z, w.heap[b]? = some (.cells cur t z) → b ≠ D := fun b cur t z hc e => by rw [e, hD] at hc; cases hc
  have he : Evo St w (w.putObj D (.deferred none)) := ⟨fun b cur t z _ hc => (hold b (hrow b cur t z hc)).trans hc, fun b cur t z hc => ⟨cur, z, (hold b (hrow b cur t z hc)).trans hc, rfl⟩⟩
  refine ⟨hD, ⟨Ds, rfl, (List.nodup_cons.1 h2).2, fun E hE => ?_⟩, h.sz, fun d => RepC.evo he (fun _ x => x) _ _ (h.env d), ⟨h.un.os, h.un.tape, h.un.output, by simp [h.un.size], fun k hk hF => (hold k (by omega)).trans (h.un.block k hk hF), fun b cur t z hc => ?_⟩, h.s1, h.s2, fun b hb => by simpa using h.s3 b hb, ?_, ?_, h.sg⟩
  · obtain ⟨⟨k1, k2⟩, k3⟩ := h3 E (List.mem_cons_of_mem _ hE)
    exact ⟨⟨k1, (hold E (fun e => (List.nodup_cons.1 h2).1 (e ▸ hE))).trans k2⟩, k3⟩
  · obtain ⟨cur', z', k1, k2⟩ := h.un.sh b cur t z hc
    exact ⟨cur', z', (hold b (hrow b _ _ _ k1)).trans k1, k2⟩
  · obtain ⟨fp, hp⟩ := h.hp
    have hne : ∀ i b, fp i b → b ≠ D := fun i b hF e => (hp.own i b hF).2.1 (e ▸ hS)
    exact ⟨fp, fun i g r hi => Res.rep_evo he (fun _ x => x) (fun b hF => hold b (hne i b hF)) (hp.rep i g r hi), hp.dis, fun i b hF => by simpa using hp.own i b hF, hp.out⟩
  · exact SentL.keep h.sn (fun g hg' => hold g (fun e => hg (e ▸ hg'))) (fun x hx => hold _ (ha x hx))
theorem Rel.ext {G : Gh} {s : AS} {a : Act} {w w' : World} (h : Rel G s a w) (hb : Below w.heap.size w w') : Rel G s a w' := h.imp fun _ h => h.ext hb

/-! ### one holds less than another -/
def CEnt (x y : CV) : Prop := ∀ al St w v, RepC al St w x v → RepC al St w y v
theorem CEnt.refl (x : CV) : CEnt x x := fun _ _ _ _ h => h
theorem CEnt.top (x : CV) : CEnt x .top := fun _ _ _ _ _ => trivial
theorem CEnt.of_eq {x y : CV} (h : x = y) : CEnt x y := h ▸ CEnt.refl x
theorem CEnt.trans {x y z : CV} (h : CEnt x y) (k : CEnt y z) : CEnt x z := fun al St w v hr => k al St w v (h al St w v hr)
theorem CEnt.nil : CEnt (.c .nilIface) (.err 0) := fun _ _ _ _ h => h
theorem CEnt.nilS (k : Nat) (f : Nat → Nat → CV) : CEnt (.c (.slice none 0 0)) (.rs k 0 f) := fun _ _ _ _ h => ⟨none, 0, h, Nat.le_refl _, by decide, fun _ => rfl, fun _ ha => by cases ha⟩
theorem CEnt.rs {k n m : Nat} {f g : Nat → Nat → CV} (hn : n = m) (h : ∀ i j, i < n → j < k → CEnt (f i j) (g i j)) : CEnt (.rs k n f) (.rs k m g) := by
  subst hn
  rintro al St w v ⟨ao, cap, h1, h2, h3, h4, h5⟩
  refine ⟨ao, cap, h1, h2, h3, h4, fun a ha hn => ?_⟩
  obtain ⟨h6, h7, h8⟩ := h5 a ha hn
  refine ⟨h6, h7, fun i j hi hj => ?_⟩
  obtain ⟨v, hv, hr⟩ := h8 i j hi hj
  exact ⟨v, hv, h i j hi hj _ _ _ _ hr⟩
theorem CEnt.agg {n m : Nat} {f g : Nat → CV} (hn : n = m) (h : ∀ i, i < n → CEnt (f i) (g i)) : CEnt (.agg n f) (.agg m g) := by
  subst hn
  rintro al St w v ⟨cs, h1, h2, h3⟩
  exact ⟨cs, h1, h2, fun i hi => h i hi _ _ _ _ (h3 i hi)⟩
theorem CEnt.tup {n m : Nat} {f g : Nat → CV} (hn : n = m) (h : ∀ i, i < n → CEnt (f i) (g i)) : CEnt (.tup n f) (.tup m g) := by
  subst hn
  rintro al St w v ⟨cs, h1, h2, h3⟩
  exact ⟨cs, h1, h2, fun i hi => h i hi _ _ _ _ (h3 i hi)⟩

/-- cells in a row: f i for each of a list -/
def fl (l : List CV) (i : Nat) : CV := match l, i with | [], _ => .top | x :: _, 0 => x | _ :: r, i + 1 => fl r i

inductive EntL : List CV → List CV → Prop where
  | nil : EntL [] []
  | cons {x y : CV} {l m : List CV} (h : CEnt x y) (t : EntL l m) : EntL (x :: l) (y :: m)

/-- each slot that is named behind holds what it is said to hold -/
inductive EntE (env : List (Nat × CV)) (b : Nat → CV) : List (Nat × CV) → Prop where
  | nil : EntE env b []
  | cons {d : Nat} {v : CV} {r : List (Nat × CV)} (h : CEnt (look env b d) v) (t : EntE env b r) : EntE env b ((d, v) :: r)

theorem EntE.look {env : List (Nat × CV)} {b b' : Nat → CV} {env' : List (Nat × CV)} (h : EntE env b env') (hb : ∀ d, (∀ v, (d, v) ∉ env') → CEnt (look env b d) (b' d)) : ∀ d, CEnt (look env b d) (look env' b' d) := by
  have key : ∀ l, EntE env b l → ∀ d, (∃ v, (d, v) ∈ l) → CEnt (Am.look env b d) (Am.look l b' d) := by
    intro l hl
    induction hl with
    | nil => intro d ⟨v, hv⟩; cases hv
    | @cons e v r h1 _ ih =>
      intro d ⟨u, hu⟩
      by_cases hed : e = d
      · subst hed; rw [look_same]; exact h1
      · rw [look_other _ _ _ hed]
        refine ih d ⟨u, ?_⟩
        rcases List.mem_cons.1 hu with h2 | h2
        · cases h2; exact absurd rfl hed
        · exact h2
  have key2 : ∀ l : List (Nat × CV), ∀ d, (∀ v, (d, v) ∉ l) → Am.look l b' d = b' d := by
    intro l
    induction l with
    | nil => intro d _; rfl
    | cons x r ih =>
      intro d hd
      obtain ⟨e, v⟩ := x
      have hed : e ≠ d := fun h => hd v (by rw [h]; exact List.mem_cons_self ..)
      rw [look_other _ _ _ hed]
      exact ih d fun u hu => hd u (List.mem_cons_of_mem _ hu)
  intro d
  by_cases hd : ∃ v, (d, v) ∈ env'
  · exact key env' h d hd
  · have hd' : ∀ v, (d, v) ∉ env' := fun v hv => hd ⟨v, hv⟩
    rw [key2 env' d hd']
    exact hb d hd'

theorem RelSt.ent {G : Gh} {St : Nat → Prop} {env env' : List (Nat × CV)} {b b' : Nat → CV} {H : List (Option Nat × Res)} {a : Act} {w : World} (h : RelSt G St ⟨env, b, H⟩ a w) (he : ∀ d, CEnt (look env b d) (look env' b' d)) : RelSt G St ⟨env', b', H⟩ a w :=
  ⟨h.df, h.sz, fun d => he d _ _ _ _ (h.env d), h.un, h.s1, h.s2, h.s3, h.hp, h.sn, h.sg⟩

/-- blocks are dropped, or named in another order -/
def pickL (H : List (Option Nat × Res)) (l : List Nat) : List (Option Nat × Res) := l.map fun j => H.getD j (none, .dead)
theorem HRel.pick {al : List Addr} {St : Nat → Prop} {w : World} {base : Nat} {F0 : Nat → Prop} {H H' : List (Option Nat × Res)} (h : HRel al St w base F0 H) (l : List Nat) (hl : l.Nodup) (hH : pickL H l = H') : HRel al St w base F0 H' := by
  obtain ⟨fp, hp⟩ := h
  subst hH
  refine ⟨fun i b => ∃ j, l[i]? = some j ∧ fp j b, fun i g r hi => ?_, fun i j b ⟨p, hp1, hp2⟩ ⟨q, hq1, hq2⟩ => ?_, fun i b ⟨p, _, hp2⟩ => hp.own p b hp2, fun i hi b ⟨p, hp1, _⟩ => ?_⟩
  · simp only [pickL, List.getElem?_map, Option.map_eq_some_iff] at hi
    obtain ⟨j, hj, he⟩ := hi
    have e : (fun b => ∃ q, l[i]? = some q ∧ fp q b) = fp j := funext fun b => propext ⟨fun ⟨q, h1, h2⟩ => by rw [hj] at h1; cases h1; exact h2, fun h => ⟨j, hj, h⟩⟩
    show r.rep al St w (fun b => ∃ q, l[i]? = some q ∧ fp q b) g
    rw [e]
    by_cases hlt : j < H.length
    · refine hp.rep j g r ?_
      rw [List.getElem?_eq_getElem hlt, ← he]
      simp [hlt]
    · rw [List.getD_eq_getElem?_getD, List.getElem?_eq_none (by omega)] at he
      cases he
      exact fun b hb => hp.out j (by omega) b hb
  · have := hp.dis p q b hp2 hq2
    subst this
    have hi := (List.getElem?_eq_some_iff.1 hp1).1
    exact (List.getElem?_inj hi hl).1 (hp1.trans hq1.symm)
  · simp only [pickL, List.length_map] at hi
    rw [List.getElem?_eq_none hi] at hp1
    cases hp1
/-- blocks whose content is said in other words -/
inductive HEnt : List (Option Nat × Res) → List (Option Nat × Res) → Prop where
  | nil : HEnt [] []
  | same {x : Option Nat × Res} {l m : List (Option Nat × Res)} (t : HEnt l m) : HEnt (x :: l) (x :: m)
  | blk {g : Option Nat} {n N : Nat} {f F : Nat → CV} {l m : List (Option Nat × Res)} (hn : n = N) (hF : ∀ j, j < N → CEnt (f j) (F j)) (t : HEnt l m) : HEnt ((g, .blk n f) :: l) ((g, .blk N F) :: m)
  | dead {g : Option Nat} {r : Res} {l m : List (Option Nat × Res)} (hr : ∀ al St w F, Res.rep al St w F g r → ∀ b, ¬ F b) (t : HEnt l m) : HEnt ((g, r) :: l) ((g, .dead) :: m)
theorem HEnt.refl : ∀ l : List (Option Nat × Res), HEnt l l
  | [] => .nil
  | _ :: r => .same (HEnt.refl r)
theorem HEnt.at {l m : List (Option Nat × Res)} (h : HEnt l m) : l.length = m.length ∧ ∀ (i : Nat) (g : Option Nat) (r' : Res), m[i]? = some (g, r') → ∃ r, l[i]? = some (g, r) ∧ ∀ al St w F, Res.rep al St w F g r → Res.rep al St w F g r' := by
  induction h with
  | nil => exact ⟨rfl, fun i g r h => by simp at h⟩
  | same _ ih =>
    refine ⟨by simp [ih.1], fun i g r h => ?_⟩
    match i, h with
    | 0, h => exact ⟨r, h, fun _ _ _ _ h => h⟩
    | i + 1, h => exact ih.2 i g r h
  | @blk g0 n N f F l m hn hF _ ih =>
    subst hn
    refine ⟨by simp [ih.1], fun i g r h => ?_⟩
    match i, h with
    | 0, h =>
      simp at h
      obtain ⟨rfl, rfl⟩ := h
      refine ⟨.blk n f, rfl, fun al St w F1 h => ?_⟩
      cases g0 with
      | none => exact h
      | some g =>
        obtain ⟨h1, cur, t, h2, h3, h4⟩ := h
        exact ⟨h1, cur, t, h2, h3, fun j hj => hF j hj _ _ _ _ (h4 j hj)⟩
    | i + 1, h => exact ih.2 i g r h
  | @dead g0 r0 l m hr _ ih =>
    refine ⟨by simp [ih.1], fun i g r h => ?_⟩
    match i, h with
    | 0, h =>
      simp at h
      obtain ⟨rfl, rfl⟩ := h
      refine ⟨r0, rfl, fun al St w F1 h => ?_⟩
      have := hr al St w F1 h
      cases g0 <;> exact this
    | i + 1, h => exact ih.2 i g r h
theorem HRel.hent {al : List Addr} {St : Nat → Prop} {w : World} {base : Nat} {F0 : Nat → Prop} {H H' : List (Option Nat × Res)} (h : HRel al St w base F0 H) (he : HEnt H H') : HRel al St w base F0 H' := by
  obtain ⟨fp, hp⟩ := h
  obtain ⟨h1, h2⟩ := he.at
  exact ⟨fp, fun i g r hi => by
    obtain ⟨r0, h3, h4⟩ := h2 i g r hi
    exact h4 _ _ _ _ (hp.rep i g r0 h3), hp.dis, hp.own, fun i hi => hp.out i (by omega)⟩
theorem HRel.none (al : List Addr) (St : Nat → Prop) (w : World) (base : Nat) (F0 : Nat → Prop) : HRel al St w base F0 [] :=
  ⟨fun _ _ => False, fun i g r hi => by simp at hi, fun _ _ _ h => h.elim, fun _ _ h => h.elim, fun _ _ _ h => h⟩
end Am
end Go.Proofs.YtoliiompofonlaaDoor
