
/- The abstract walk: ranges over functions: a loop's record, a round, a call of yield, the statement. -/
import Derived.Test.YtoliiompofonlaaDoorAmF
namespace Go.Proofs.YtoliiompofonlaaDoor
set_option linter.unusedVariables false
open Go.RowKit
namespace Am
/-- a loop's record -/
def recOP (r : Loop) : OP where
  p al St w g F := (∀ b, F b ↔ b = g) ∧ w.heap[g]? = some (.loop r)
  st := fun he hs hF ⟨h1, h2⟩ => ⟨h1, (hF _ ((h1 _).2 rfl)).trans h2⟩
/-- what a loop's rounds begin with: how many slots, what they hold, yield's parameters, the code -/
structure RdC where
  N : Nat
  env : List (Nat × CV)
  b : Nat → CV
  ps : Array Tmp
  assign : Code
  body : Code
def mkRec (fn : FuncId) (tmps : Array Value) (L : RdC) (D : Nat) (sp : LoopState × Option Code) : Loop := { state := sp.1, pending := sp.2, fn, tmps, params := L.ps, assign := L.assign, body := L.body, defers := D }
/-- a loop between two rounds (or behind its last): the caller's blocks, and the record -/
def rndOP {π : Type} (L : RdC) (sp : π → LoopState × Option Code) (HB : π → List (Option Nat × Res)) (φ : π → Prop) : OP where
  p al St w g F := ∃ (x : π) (fn : FuncId) (tmps : Array Value) (D : Nat), φ x ∧ tmps.size = L.N ∧ (∀ d, RepC al St w (look L.env L.b d) (tmps.getD d undef)) ∧ ∃ fp, Foot al St w F (HB x ++ [(some g, .obj (recOP (mkRec fn tmps L D (sp x))))]) fp
  st := fun he hs hF ⟨x, fn, tmps, D, h1, h2, h3, fp, h⟩ => ⟨x, fn, tmps, D, h1, h2, fun d => RepC.evo he hs _ _ (h3 d), fp, fun i g r hi => Res.rep_evo he hs (fun b hb => hF b ((h.all b).2 ⟨i, hb⟩)) (h.rep i g r hi), h.dis, h.out, h.all⟩

/-- a call of the yield of loop l -/
def ACY (gs : List Nat) (P : Program) (l : Nat) (H : List (Option Nat × Res)) (args : List CV) (Q : CV → List (Option Nat × Res) → Prop) : Prop :=
  ∀ al w St F0 (vals : Array Value), Entry gs al St F0 H w → vals.size = args.length → (∀ i, RepC al St w (fl args i) (vals.getD i undef)) →
    YieldAt (frd none) 0 P l vals w fun e w' => ∃ v r H' St', e = .returned v ∧ Q r H' ∧ RepC al St' w' r v ∧ Under F0 w w' ∧ (∀ b, St b → St' b) ∧ (∀ b, St' b → St b ∨ w.heap.size ≤ b ∨ F0 b) ∧ (∀ b, St' b → b < w'.heap.size) ∧ HRel al St' w' w.heap.size F0 H'
/-- yield goes on with J', or stops with Jx -/
def YQ (l : Nat) (J' Jx : OP) : CV → List (Option Nat × Res) → Prop := fun r H' => (r = .c (.bool true) ∧ H' = [(some l, .obj J')]) ∨ (r = .c (.bool false) ∧ H' = [(some l, .obj Jx)])

section
variable {P : Program} {G : Gh} {ops : Array Oper} {o : Oper} {s : AS} {K : AS → Prop} {env : List (Nat × CV)} {b0 : Nat → CV} {H : List (Option Nat × Res)} {R : Exit → AS → Prop}

/-- an operation that is carried out in the fence -/
def AMdI (P : Program) (G : Gh) (o : Oper) (s : AS) (K : AS → Prop) : Prop := ∀ a w, Rel G s a w → ∀ Q, o.wpIn (frd G.rd) 0 P a w (fun a' w' => ∃ s', K s' ∧ Rel G s' a' w') Q
theorem seq_mdI {r : List Oper} (hw : Wanted G ops o s true) (hy : G.yl = true) (h : AMdI P G o s (fun s' => ASeq P G ops r s' K)) : ASeq P G ops (o :: r) s K := fun a w hr Q hQ => by
  unfold wpSeq
  obtain ⟨St, hs⟩ := id hr
  rw [if_pos (hw St a w hs)]
  exact .inr ⟨hy, Oper.wpIn_mono (fun a' w' ⟨s', h1, h2⟩ => h1 a' w' h2 Q hQ) (h a w hr Q)⟩

theorem exec_yield {v : Operand} {l : Nat} {xs : Array Operand} {ats : Array TypeId} (ho : o.op = .call ⟨.value v, xs, ats⟩) (a : Act) (hv : a.eval v = .func (.yield l) #[] #[]) {w : World} {x : Next} (h : (Instr.yield l (xs.map a.eval)).run P w = .ok x w) :
    (execOp a.eval o).run P w = .ok x w := by
  simp [execOp, ho, resolve, hv, Deferred.ofValue, invoke, h]

/-- a call of yield: the block i is handed over, and one comes back in its place -/
theorem m_callY {v : Operand} {l : Nat} {xs : Array Operand} {ats : Array TypeId} {args : List CV} {Q : CV → List (Option Nat × Res) → Prop} {i d : Nat} {x0 : Option Nat × Res} (ho : o.op = .call ⟨.value v, xs, ats⟩) (hv : (⟨env, b0, H⟩ : AS).eval v = .c (.func (.yield l) #[] #[])) (hi : H[i]? = some x0) (hA : ACY G.gs P l [x0] args Q) (he : SEL G ⟨env, b0, H⟩ xs.toList args) (hd : o.dst = some d) (hN : Nat.blt d G.N = true)
    (hK : ∀ r H', Q r H' → ∃ x r', H' = [x] ∧ CEnt r r' ∧ K ⟨(d, r') :: env, b0, H.set i x⟩) : AMdI P G o ⟨env, b0, H⟩ K := fun a w ⟨St, hr⟩ Q' => by
  obtain ⟨h1, h2⟩ := args_se he hr
  obtain ⟨fp, hp⟩ := hr.hp
  have hlt : i < H.length := (List.getElem?_eq_some_iff.1 hi).1
  obtain ⟨g0, r0⟩ := x0
  have hent : Entry G.gs G.al St (fp i) [(g0, r0)] w := by
    refine ⟨hr.s3, hr.sn, hr.sg, ⟨fun j b => j = 0 ∧ fp i b, fun j g r hj => ?_, fun j l b hj hl => by omega, fun j b hj => ⟨(hp.own i b hj.2).1, (hp.own i b hj.2).2.1, .inr hj.2⟩, fun j hj b hb => by simp at hj; omega⟩, fun b hb => (hp.own i b hb).2.1⟩
    match j, hj with
    | 0, hj =>
      simp at hj
      obtain ⟨rfl, rfl⟩ := hj
      have e : (fun b => (0 : Nat) = 0 ∧ fp i b) = fp i := funext fun b => by simp
      show r0.rep G.al St w (fun b => (0 : Nat) = 0 ∧ fp i b) g0
      rw [e]
      exact hp.rep i g0 r0 hi
    | j + 1, hj => simp at hj
  obtain ⟨fn, tmps, assign, body, hy, hR⟩ := hA G.al w St _ _ hent h1 h2
  refine ⟨fun f _ => trivial, ?_⟩
  rw [Oper.semAt_eq _ _ _ (by rw [ho]; intro c e; cases e), exec_yield ho a (evC hr hv) hy]
  refine ⟨fun e => (by cases e), ?_⟩
  refine RoundIn.mono (F := frd none) (n := 0) hR ?_
  rintro e w' ⟨v, r, H', St', rfl, hq, hv, hu, h3, h4, h5, h6⟩
  obtain ⟨x, r', rfl, hce, hk⟩ := hK r H' hq
  refine ⟨_, hk, St', ?_⟩
  have h7 := (hr.afterH hp hlt hu h3 h4 h5 h6).put (dst := o.dst) (v := r') (x := v) (by intro d' hd'; rw [hd] at hd'; cases hd'; exact Nat.le_of_ble_eq_true hN) (hce _ _ _ _ hv)
  rw [hd] at h7 ⊢
  exact h7

/-! ### a round -/
def penv : List Tmp → List CV → List (Nat × CV) → List (Nat × CV)
  | p :: ps, c :: cs, env => penv ps cs ((p, c) :: env)
  | _, _, env => env
theorem penv_rep {al : List Addr} {St : Nat → Prop} {w : World} {b : Nat → CV} {N : Nat} : ∀ (ps : List Tmp) (cs : List CV) (vs : List Value) (env : List (Nat × CV)) (tmps : Array Value), tmps.size = N → (∀ d, RepC al St w (look env b d) (tmps.getD d undef)) → ps.length = cs.length → vs.length = cs.length → (∀ p ∈ ps, p < N) → (∀ i, i < cs.length → RepC al St w (fl cs i) (vs.getD i undef)) →
    ((ps.zip vs).foldl (fun t (p, v) => t.setIfInBounds p v) tmps).size = N ∧ ∀ d, RepC al St w (look (penv ps cs env) b d) (((ps.zip vs).foldl (fun t (p, v) => t.setIfInBounds p v) tmps).getD d undef)
  | [], cs, vs, env, tmps, h1, h2, _, _, _, _ => ⟨by simpa using h1, by simpa [penv] using h2⟩
  | p :: ps, [], vs, env, tmps, _, _, h3, _, _, _ => by simp at h3
  | p :: ps, c :: cs, [], env, tmps, _, _, _, h4, _, _ => by simp at h4
  | p :: ps, c :: cs, v :: vs, env, tmps, h1, h2, h3, h4, h5, h6 => by
    simp only [List.zip_cons_cons, List.foldl_cons, penv]
    refine penv_rep ps cs vs _ _ (by simpa using h1) (fun d => ?_) (by simpa using h3) (by simpa using h4) (fun q hq => h5 q (List.mem_cons_of_mem _ hq)) (fun i hi => ?_)
    · by_cases hpd : p = d
      · subst hpd
        rw [look_same]
        have h0 := h6 0 (by simp)
        have hlt : p < tmps.size := by rw [h1]; exact h5 p (List.mem_cons_self ..)
        simpa [hlt, fl] using h0
      · rw [look_other _ _ _ hpd]
        have := h2 d
        simpa [Array.getElem?_setIfInBounds_ne hpd] using this
    · have := h6 (i + 1) (by simp; omega)
      simpa [fl] using this

theorem set_last {α : Type} (l : List α) (x y : α) : (l ++ [x]).set l.length y = l ++ [y] := by
  rw [List.set_append_right _ _ (Nat.le_refl _)]; simp
theorem get_last {α : Type} (l : List α) (x : α) : (l ++ [x])[l.length]? = some x := by simp

/-- the blocks and the record, as one -/
theorem HRel.packR {al : List Addr} {St : Nat → Prop} {w : World} {base : Nat} {F0 : Nat → Prop} {π : Type} {L : RdC} {sp : π → LoopState × Option Code} {HB : π → List (Option Nat × Res)} {φ : π → Prop} {l : Nat} {x : π} {fn : FuncId} {tmps : Array Value} {D : Nat} (hx : φ x) (hs : tmps.size = L.N) (he : ∀ d, RepC al St w (look L.env L.b d) (tmps.getD d undef))
    (h : HRel al St w base F0 (HB x ++ [(some l, .obj (recOP (mkRec fn tmps L D (sp x))))])) : HRel al St w base F0 [(some l, .obj (rndOP L sp HB φ))] := by
  obtain ⟨fp, hp⟩ := h
  refine ⟨fun j b => j = 0 ∧ ∃ i, fp i b, fun j g r hj => ?_, fun i j b hi hj => by omega, fun i b hi => ?_, fun i hi b hb => by simp at hi; omega⟩
  · match j, hj with
    | 0, hj =>
      simp at hj
      obtain ⟨rfl, rfl⟩ := hj
      exact ⟨x, fn, tmps, D, hx, hs, he, fp, fun i g r hi => hp.rep i g r hi, hp.dis, hp.out, fun b => by simp⟩
    | j + 1, hj => simp at hj
  · obtain ⟨_, k, hk⟩ := hi
    exact hp.own k b hk

/-- how a round's body may be left: off its end; by ret, by an exit -/
def roundR {π q : Type} (l : Nat) (R1 : OP) (HB : π → List (Option Nat × Res)) (φ' : π → Prop) (HX : q → List (Option Nat × Res)) (χ : Code → q → Prop) : Exit → AS → Prop
  | .normal, s => ∃ x, φ' x ∧ (HB x).length + 1 ≤ s.H.length ∧ HEnt (s.H.take ((HB x).length + 1)) (HB x ++ [(some l, .obj R1)])
  | .ret, s => ∃ x, χ .ret x ∧ (HX x).length + 1 ≤ s.H.length ∧ HEnt (s.H.take ((HX x).length + 1)) (HX x ++ [(some l, .obj R1)])
  | .exit id, s => ∃ x, χ (.exit id) x ∧ (HX x).length + 1 ≤ s.H.length ∧ HEnt (s.H.take ((HX x).length + 1)) (HX x ++ [(some l, .obj R1)])
  | _, _ => False
/-- the assignment to the loop's left sides, then the body -/
def assignR (P : Program) (G : Gh) (body : Code) (B : List (Option Nat × Res)) (l : Nat) (R0 R1 : OP) (RE : Exit → AS → Prop) : Exit → AS → Prop
  | .normal, s => ∃ env b, s = ⟨env, b, B ++ [(some l, .obj R0)]⟩ ∧ ACode P G body ⟨env, b, B ++ [(some l, .obj R1)]⟩ RE
  | _, _ => False

theorem RelSt.take_h {St : Nat → Prop} {a : Act} {w : World} {B : List (Option Nat × Res)} (h : RelSt G St s a w) (hl : B.length ≤ s.H.length) (he : HEnt (s.H.take B.length) B) : RelSt G St ⟨s.env, s.b, B⟩ a w := by
  have h1 := h.hp.pick (List.range B.length) (range_nodup _) (pickL_range _ _ hl)
  exact ⟨h.df, h.sz, h.env, h.un, h.s1, h.s2, h.s3, h1.hent he, h.sn, h.sg⟩

/-- the record turns -/
theorem RelSt.turnRec {St : Nat → Prop} {a : Act} {w : World} {B : List (Option Nat × Res)} {l : Nat} {r r' : Loop} (h : RelSt G St ⟨env, b0, B ++ [(some l, .obj (recOP r))]⟩ a w) :
    w.heap[l]? = some (.loop r) ∧ RelSt G St ⟨env, b0, B ++ [(some l, .obj (recOP r'))]⟩ a (w.putObj l (.loop r')) := by
  obtain ⟨fp, hp⟩ := id h.hp
  obtain ⟨hF, hg⟩ := hp.rep B.length (some l) _ (get_last _ _)
  have hlt : l < w.heap.size := (Array.getElem?_eq_some_iff.1 hg).1
  refine ⟨hg, ?_⟩
  have := h.turnObj (i := B.length) (g := l) (p := recOP r) (p' := recOP r') (w' := w.putObj l (.loop r')) (get_last _ _) (fun F h => h.1) (fun cur t z he => by rw [hg] at he; cases he) rfl rfl rfl (by simp) (fun b hb => World.putObj_heap_other hb) ⟨fun b => Iff.rfl, World.putObj_heap_same hlt⟩
  rw [set_last] at this
  exact this

theorem round_post {π : Type} {gs : List Nat} {al : List Addr} {l : Nat} {w W : World} {F0 St0 St : Nat → Prop} {N : Nat} {L : RdC} {sp : π → LoopState × Option Code} {HB : π → List (Option Nat × Res)} {φ : π → Prop} {env0 : List (Nat × CV)} {b : Nat → CV} {x : π} {a : Act} {fn : FuncId} {tmps : Array Value} {D : Nat} {jump : Option Code} {Q : CV → List (Option Nat × Res) → Prop}
    (hent : ∀ b, F0 b → ¬ St0 b) (h3 : ∀ b, St0 b → b < w.heap.size) (hx : φ x) (hs : tmps.size = L.N) (henv : ∀ d, RepC al St0 w (look L.env L.b d) (tmps.getD d undef))
    (hsp : sp x = (if jump.isNone then .ready else .done, jump))
    (hr : RelSt ⟨gs, al, w, F0, St0, N, some l, false⟩ St ⟨env0, b, HB x ++ [(some l, .obj (recOP { mkRec fn tmps L D (.ready, none) with state := .busy }))]⟩ a W) (hQ : Q (.c (.bool jump.isNone)) [(some l, .obj (rndOP L sp HB φ))]) :
    ∃ v w', (Instr.endRound l jump).run P W = .ok v w' ∧ ∃ v' r H' St', Ending.returned v = .returned v' ∧ Q r H' ∧ RepC al St' w' r v' ∧ Under F0 w w' ∧ (∀ b, St0 b → St' b) ∧ (∀ b, St' b → St0 b ∨ w.heap.size ≤ b ∨ F0 b) ∧ (∀ b, St' b → b < w'.heap.size) ∧ HRel al St' w' w.heap.size F0 H' := by
  obtain ⟨hg, hr2⟩ := hr.turnRec (r' := mkRec fn tmps L D (sp x))
  refine ⟨_, _, run_endRound jump hg, .bool jump.isNone, _, _, St, rfl, hQ, rfl, ?_⟩
  have e : ({ { mkRec fn tmps L D (.ready, none) with state := LoopState.busy } with state := if jump.isNone then LoopState.ready else LoopState.done, pending := jump } : Loop) = mkRec fn tmps L D (sp x) := by rw [hsp]; rfl
  rw [e]
  have hev : Evo St0 w (W.putObj l (.loop (mkRec fn tmps L D (sp x)))) := ⟨fun b cur t z hb hc => (hr2.un.block b (h3 b hb) (fun hf => hent b hf hb)).trans hc, hr2.un.sh⟩
  exact ⟨hr2.un, hr2.s1, hr2.s2, hr2.s3, HRel.packR hx hs (fun d => RepC.evo hev hr2.s1 _ _ (henv d)) hr2.hp⟩

/-- yield's contract, by a walk through the round -/
theorem acy_round {gs : List Nat} {π q : Type} {l : Nat} {L : RdC} {HB : π → List (Option Nat × Res)} {φ φ' : π → Prop} {HX : q → List (Option Nat × Res)} {χ : Code → q → Prop} {args : List CV} (hn : L.ps.toList.length = args.length) (hps : ∀ p ∈ L.ps.toList, p < L.N)
    (hb : ∀ (al : List Addr) (w0 : World) (F0 St0 : Nat → Prop) (R0 R1 : OP) (x : π), φ x → ACode P ⟨gs, al, w0, F0, St0, L.N, some l, false⟩ L.assign ⟨penv L.ps.toList args L.env, L.b, HB x ++ [(some l, .obj R0)]⟩ (assignR P ⟨gs, al, w0, F0, St0, L.N, some l, false⟩ L.body (HB x) l R0 R1 (roundR l R1 HB φ' HX χ))) :
    ACY gs P l [(some l, .obj (rndOP L (fun _ => (.ready, none)) HB φ))] args (YQ l (rndOP L (fun _ => (.ready, none)) HB φ') (rndOP L (fun x : Code × q => (.done, some x.1)) (fun x => HX x.2) (fun x => χ x.1 x.2))) := by
  intro al w St F0 vals he hvs hv
  obtain ⟨fp, hp⟩ := he.hp
  obtain ⟨x, fn, tmps, D, hx, hsz, henv, fq, hf⟩ := hp.rep 0 (some l) _ rfl
  obtain ⟨hFl, hg⟩ := hf.rep (HB x).length (some l) _ (get_last _ _)
  have hlen : L.ps.size = args.length := by simpa using hn
  have hy := run_yield (P := P) (args := vals) hg (by rw [hvs]; exact hlen.symm)
  refine ⟨_, _, _, _, hy, roundIn_of_wpIn trivial ?_⟩
  have hpe := penv_rep (al := al) (St := St) (w := w) (b := L.b) (N := L.N) L.ps.toList args vals.toList L.env tmps hsz henv hn (by simpa using hvs) hps (fun i hi => by
    have := hv i
    simpa using this)
  have hfold : (L.ps.toList.zip vals.toList).foldl (fun t (p, v) => t.setIfInBounds p v) tmps = ((mkRec fn tmps L D (.ready, none)).params.zip vals).foldl (fun tmps (t, a) => tmps.setIfInBounds t a) (mkRec fn tmps L D (.ready, none)).tmps := by
    rw [← Array.foldl_toList, Array.toList_zip]
    rfl
  rw [hfold] at hpe
  have hrel : RelSt ⟨gs, al, w, F0, St, L.N, some l, false⟩ St ⟨penv L.ps.toList args L.env, L.b, HB x ++ [(some l, .obj (recOP (mkRec fn tmps L D (.ready, none))))]⟩ { tmps := ((mkRec fn tmps L D (.ready, none)).params.zip vals).foldl (fun tmps (t, a) => tmps.setIfInBounds t a) (mkRec fn tmps L D (.ready, none)).tmps, defers := [] } w :=
    ⟨DefOk.none _ _ _, hpe.1, hpe.2, Under.refl _ _, fun _ h => h, fun _ h => .inl h, he.s3, ⟨fq, fun i g r hi => hf.rep i g r hi, hf.dis, fun i b hi => hp.own 0 b ((hf.all b).2 ⟨i, hi⟩), hf.out⟩, he.sn, he.sg⟩
  refine (hb al w F0 St (recOP (mkRec fn tmps L D (.ready, none))) (recOP { mkRec fn tmps L D (.ready, none) with state := .busy }) x hx) _ _ ⟨St, hrel⟩ _ ?_
  intro e s1 a1 w1 h1 h2
  cases e with
  | normal =>
    obtain ⟨env1, b1, rfl, hbody⟩ := h1
    obtain ⟨St1, hr1⟩ := h2
    obtain ⟨hg1, hr2⟩ := hr1.turnRec (r' := { mkRec fn tmps L D (.ready, none) with state := .busy })
    refine ⟨_, run_beginRound hg1 rfl, hbody a1 _ ⟨St1, hr2⟩ _ ?_⟩
    intro e s2 a2 w2 h3 ⟨St2, hr3⟩
    cases e with
    | normal =>
      obtain ⟨x', hx', hl', hh'⟩ := h3
      have hr4 := hr3.take_h (B := HB x' ++ [(some l, .obj (recOP { mkRec fn tmps L D (.ready, none) with state := .busy }))]) (by simpa using hl') (by simpa using hh')
      exact round_post (jump := none) he.f0 he.s3 hx' hsz henv rfl hr4 (.inl ⟨rfl, rfl⟩)
    | ret =>
      obtain ⟨x', hx', hl', hh'⟩ := h3
      have hr4 := hr3.take_h (B := HX x' ++ [(some l, .obj (recOP { mkRec fn tmps L D (.ready, none) with state := .busy }))]) (by simpa using hl') (by simpa using hh')
      exact round_post (x := (Code.ret, x')) (HB := fun x : Code × q => HX x.2) (φ := fun x => χ x.1 x.2) (sp := fun x : Code × q => (.done, some x.1)) (jump := some .ret) he.f0 he.s3 hx' hsz henv rfl hr4 (.inr ⟨rfl, rfl⟩)
    | exit id =>
      obtain ⟨x', hx', hl', hh'⟩ := h3
      have hr4 := hr3.take_h (B := HX x' ++ [(some l, .obj (recOP { mkRec fn tmps L D (.ready, none) with state := .busy }))]) (by simpa using hl') (by simpa using hh')
      exact round_post (x := (Code.exit id, x')) (HB := fun x : Code × q => HX x.2) (φ := fun x => χ x.1 x.2) (sp := fun x : Code × q => (.done, some x.1)) (jump := some (.exit id)) he.f0 he.s3 hx' hsz henv rfl hr4 (.inr ⟨rfl, rfl⟩)
    | _ => exact h3.elim
  | _ => exact h1.elim
end
end Am
end Go.Proofs.YtoliiompofonlaaDoor
