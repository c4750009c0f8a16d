
/- The abstract walk, ninth part: a block handed over to a call and back; nil that grows; lists of numbers; from contracts to laws. -/
import Derived.Test.YtoliiompofonlaaDoorAm8
import Derived.Laws.StructEq
namespace Go.Proofs.YtoliiompofonlaaDoor
set_option linter.unusedVariables false
open Go.RowKit
namespace Am
section
variable {P : Program} {G : Gh} {ops : Array Oper} {o : Oper} {s : AS} {K : AS → Prop} {t u : TypeId} {p q : Operand} {k : IntKind}
variable {env : List (Nat × CV)} {b0 : Nat → CV} {H : List (Option Nat × Res)}

/-! ### a block that is handed over -/
theorem RelSt.afterH {St St' : Nat → Prop} {a : Act} {w w' : World} (h : RelSt G St s a w) {fp : Nat → Nat → Prop} (hp : HFoot G.al St w G.w0.heap.size G.F0 s.H fp) {i : Nat} (hi : i < s.H.length) {x : Option Nat × Res} (hu : Under (fp i) w w') (h1 : ∀ b, St b → St' b) (h2 : ∀ b, St' b → St b ∨ w.heap.size ≤ b ∨ fp i b) (h3 : ∀ b, St' b → b < w'.heap.size) (hp' : HRel G.al St' w' w.heap.size (fp i) [x]) :
    RelSt G St' ⟨s.env, s.b, s.H.set i x⟩ a w' := by
  have hst : ∀ b, St b → w'.heap[b]? = w.heap[b]? := fun b hb => hu.block b (h.s3 b hb) fun hf => (hp.own i b hf).2.1 hb
  have he : Evo St w w' := ⟨fun b cur t z hb hc => (hst b hb).trans hc, hu.sh⟩
  obtain ⟨fp', hp'⟩ := hp'
  refine ⟨h.df.keep h1 hst, h.sz, fun d => RepC.evo he h1 _ _ (h.env d), ⟨hu.os.trans h.un.os, hu.tape.trans h.un.tape, hu.output.trans h.un.output, Nat.le_trans h.un.size hu.size, fun k hk hF => ?_, fun b cur ty z hb => ?_⟩, fun b hs => h1 b (h.s1 b hs), fun b hs => ?_, h3, ?_, ?_, fun g hg => h1 g (h.sg.1 g hg), fun y hy => h1 _ (h.sg.2 y hy)⟩
  · refine (hu.block k (Nat.lt_of_lt_of_le hk h.un.size) fun hf => ?_).trans (h.un.block k hk hF)
    rcases (hp.own i k hf).2.2 with h4 | h4
    · omega
    · exact hF h4
  · obtain ⟨cur', z', h4, h5⟩ := h.un.sh b cur ty z hb
    obtain ⟨cur2, z2, h6, h7⟩ := hu.sh b cur' ty z' h4
    exact ⟨cur2, z2, h6, h7.trans h5⟩
  · rcases h2 b hs with hs | hs | hs
    · exact h.s2 b hs
    · exact .inr (.inl (Nat.le_trans h.un.size hs))
    · exact .inr (hp.own i b hs).2.2
  · have old : ∀ j b, j ≠ i → fp j b → w'.heap[b]? = w.heap[b]? := fun j b hj hb => hu.block b (hp.own j b hb).1 fun hf => hj (hp.dis j i b hb hf)
    refine ⟨fun j b => if j = i then fp' 0 b else fp j b, fun j q r hj => ?_, fun j l b hj hl => ?_, fun j b hj => ?_, fun j hj b hb => ?_⟩
    · by_cases e : j = i
      · subst e
        simp [hi] at hj
        have e2 : (fun b => if j = j then fp' 0 b else fp j b) = fp' 0 := funext fun b => by simp
        show r.rep G.al St' w' (fun b => if j = j then fp' 0 b else fp j b) q
        rw [e2]
        exact hp'.rep 0 q r (by simp [hj])
      · rw [List.getElem?_set_ne (Ne.symm e)] at hj
        have e2 : (fun b => if j = i then fp' 0 b else fp j b) = fp j := funext fun b => by simp [e]
        show r.rep G.al St' w' (fun b => if j = i then fp' 0 b else fp j b) q
        rw [e2]
        exact Res.rep_evo he h1 (fun b hF => old j b e hF) (hp.rep j q r hj)
    · have apart : ∀ l b, l ≠ i → fp l b → fp' 0 b → False := fun l b hl h4 h5 => by
        rcases (hp'.own 0 b h5).2.2 with h6 | h6
        · have := (hp.own l b h4).1; omega
        · exact hl (hp.dis l i b h4 h6)
      by_cases e1 : j = i <;> by_cases e2 : l = i
      · omega
      · simp only [e1, e2, if_true, if_false] at hj hl; exact (apart l b e2 hl hj).elim
      · simp only [e1, e2, if_true, if_false] at hj hl; exact (apart j b e1 hj hl).elim
      · simp only [e1, e2, if_false] at hj hl; exact hp.dis j l b hj hl
    · by_cases e : j = i
      · simp only [e, if_true] at hj
        obtain ⟨h4, h5, h6⟩ := hp'.own 0 b hj
        refine ⟨h4, h5, ?_⟩
        rcases h6 with h6 | h6
        · exact .inl (Nat.le_trans h.un.size h6)
        · exact (hp.own i b h6).2.2
      · simp only [e, if_false] at hj
        obtain ⟨h4, h5, h6⟩ := hp.own j b hj
        refine ⟨Nat.lt_of_lt_of_le h4 hu.size, fun hs => ?_, h6⟩
        rcases h2 b hs with hs | hs | hs
        · exact h5 hs
        · omega
        · exact e (hp.dis j i b hj hs)
    · have hj' : s.H.length ≤ j := by simpa using hj
      have e : j ≠ i := by omega
      simp only [e, if_false] at hb
      exact hp.out j hj' b hb
  · exact SentL.keep h.sn (fun q hq => hst q (h.sg.1 q hq)) (fun y hy => hst _ (h.sg.2 y hy))

/-- a call that is handed the block i, and hands one back in its place -/
theorem m_callH {f : FuncId} {xs : Array Operand} {ats : Array TypeId} {args : List CV} {Q : CV → List (Option Nat × Res) → Prop} {i d : Nat} {x0 : Option Nat × Res} (ho : o.op = .call ⟨.value (.func f), xs, ats⟩) (hc : calleeB P f = true) (hi : H[i]? = some x0) (hA : AC G.gs P f [x0] args Q) (he : SEL G ⟨env, b0, H⟩ xs.toList args) (hd : o.dst = some d) (hN : Nat.blt d G.N = true)
    (hK : ∀ r H', Q r H' → ∃ x r', H' = [x] ∧ CEnt r r' ∧ K ⟨(d, r') :: env, b0, H.set i x⟩) : AMd P G o ⟨env, b0, H⟩ K := fun St a w hr Q' => by
  unfold Oper.wp
  rw [exec_call ho hc]
  obtain ⟨h1, h2⟩ := args_se he hr
  obtain ⟨fp, hp⟩ := hr.hp
  have hlt : i < H.length := (List.getElem?_eq_some_iff.1 hi).1
  obtain ⟨g0, r0⟩ := x0
  have hent : Entry G.gs G.al St (fp i) [(g0, r0)] w := by
    refine ⟨hr.s3, hr.sn, hr.sg, ⟨fun j b => j = 0 ∧ fp i b, fun j g r hj => ?_, fun j l b hj hl => by omega, fun j b hj => ⟨(hp.own i b hj.2).1, (hp.own i b hj.2).2.1, .inr hj.2⟩, fun j hj b hb => by simp at hj; omega⟩, fun b hb => (hp.own i b hb).2.1⟩
    match j, hj with
    | 0, hj =>
      simp at hj
      obtain ⟨rfl, rfl⟩ := hj
      have e : (fun b => (0 : Nat) = 0 ∧ fp i b) = fp i := funext fun b => by simp
      show r0.rep G.al St w (fun b => (0 : Nat) = 0 ∧ fp i b) g0
      rw [e]
      exact hp.rep i g0 r0 hi
    | j + 1, hj => simp at hj
  refine (hA G.al w St _ _ hent h1 h2).mono ?_
  rintro e w' ⟨v, r, H', St', rfl, hq, hv, hu, h3, h4, h5, h6⟩
  obtain ⟨x, r', rfl, hce, hk⟩ := hK r H' hq
  refine ⟨fun b hb => hu.block b (hr.s3 b hb) fun hf => (hp.own i b hf).2.1 hb, St', h3, _, hk, ?_⟩
  have h7 := (hr.afterH hp hlt hu h3 h4 h5 h6).put (dst := o.dst) (v := r') (x := v) (by intro d' hd'; rw [hd] at hd'; cases hd'; exact Nat.le_of_ble_eq_true hN) (hce _ _ _ _ hv)
  rw [hd] at h7 ⊢
  exact h7
/-- such a call whose result goes nowhere -/
theorem m_callH0 {f : FuncId} {xs : Array Operand} {ats : Array TypeId} {args : List CV} {Q : CV → List (Option Nat × Res) → Prop} {i : Nat} {x0 : Option Nat × Res} (ho : o.op = .call ⟨.value (.func f), xs, ats⟩) (hc : calleeB P f = true) (hi : H[i]? = some x0) (hA : AC G.gs P f [x0] args Q) (he : SEL G ⟨env, b0, H⟩ xs.toList args) (hd : o.dst = none)
    (hK : ∀ r H', Q r H' → ∃ x, H' = [x] ∧ K ⟨env, b0, H.set i x⟩) : AMd P G o ⟨env, b0, H⟩ K := fun St a w hr Q' => by
  unfold Oper.wp
  rw [exec_call ho hc]
  obtain ⟨h1, h2⟩ := args_se he hr
  obtain ⟨fp, hp⟩ := hr.hp
  have hlt : i < H.length := (List.getElem?_eq_some_iff.1 hi).1
  obtain ⟨g0, r0⟩ := x0
  have hent : Entry G.gs G.al St (fp i) [(g0, r0)] w := by
    refine ⟨hr.s3, hr.sn, hr.sg, ⟨fun j b => j = 0 ∧ fp i b, fun j g r hj => ?_, fun j l b hj hl => by omega, fun j b hj => ⟨(hp.own i b hj.2).1, (hp.own i b hj.2).2.1, .inr hj.2⟩, fun j hj b hb => by simp at hj; omega⟩, fun b hb => (hp.own i b hb).2.1⟩
    match j, hj with
    | 0, hj =>
      simp at hj
      obtain ⟨rfl, rfl⟩ := hj
      have e : (fun b => (0 : Nat) = 0 ∧ fp i b) = fp i := funext fun b => by simp
      show r0.rep G.al St w (fun b => (0 : Nat) = 0 ∧ fp i b) g0
      rw [e]
      exact hp.rep i g0 r0 hi
    | j + 1, hj => simp at hj
  refine (hA G.al w St _ _ hent h1 h2).mono ?_
  rintro e w' ⟨v, r, H', St', rfl, hq, hv, hu, h3, h4, h5, h6⟩
  obtain ⟨x, rfl, hk⟩ := hK r H' hq
  refine ⟨fun b hb => hu.block b (hr.s3 b hb) fun hf => (hp.own i b hf).2.1 hb, St', h3, _, hk, ?_⟩
  have h7 := hr.afterH hp hlt hu h3 h4 h5 h6
  rw [hd]
  exact h7

theorem CEnt.osI {i j : Nat} {g : Option Nat} {off n m k : Nat} (h : n = m) : CEnt (.os i g off n k) (.os j g off m k) := by
  subst h
  cases g <;> exact fun _ _ _ _ h => h
theorem CEnt.opI {i j off : Nat} {g : Option Nat} : CEnt (.op i g off) (.op j g off) := fun _ _ _ _ h => h
/-- a call that hands on a slice of its own -/
def OwnQ (n k N : Nat) (F : Nat → CV) : CV → List (Option Nat × Res) → Prop := fun r H' => ∃ g, r = .os 0 g 0 n k ∧ H' = [(g, .blk N F)]
theorem m_callO {f : FuncId} {xs : Array Operand} {ats : Array TypeId} {args : List CV} {n m N : Nat} {F : Nat → CV} {i d : Nat} {x0 : Option Nat × Res} (ho : o.op = .call ⟨.value (.func f), xs, ats⟩) (hc : calleeB P f = true) (hi : H[i]? = some x0) (hA : AC G.gs P f [x0] args (OwnQ n m N F)) (he : SEL G ⟨env, b0, H⟩ xs.toList args) (hd : o.dst = some d) (hN : Nat.blt d G.N = true)
    (hK : ∀ g, K ⟨(d, .os i g 0 n m) :: env, b0, H.set i (g, .blk N F)⟩) : AMd P G o ⟨env, b0, H⟩ K :=
  m_callH ho hc hi hA he hd hN fun r H' ⟨g, h1, h2⟩ => ⟨_, _, h2, by rw [h1]; exact CEnt.osI (j := i) rfl, hK g⟩
theorem ent_head {d : Nat} {v v' : CV} (h : CEnt v v') : EntS G ⟨(d, v) :: env, b0, H⟩ ⟨(d, v') :: env, b0, H⟩ := fun St a w hr => by
  refine ⟨St, fun _ h => h, hr.df, hr.sz, fun e => ?_, hr.un, hr.s1, hr.s2, hr.s3, hr.hp, hr.sn, hr.sg⟩
  have := hr.env e
  by_cases hde : d = e
  · subst hde
    rw [look_same] at this ⊢
    exact h _ _ _ _ this
  · rw [look_other _ _ _ hde] at this ⊢; exact this
theorem AEx.ent {K' : AS → Prop} (h : AEx P G o s K') (hK : ∀ s', K' s' → ∃ s'', EntS G s' s'' ∧ K s'') : AEx P G o s K := fun St a w hr Q => Oper.wp_mono (fun a' w' ⟨hb, St', hs, s', h1, h2⟩ => by
  obtain ⟨s'', h3, h4⟩ := hK s' h1
  obtain ⟨S2, h5, h6⟩ := h3 St' a' w' h2
  exact ⟨hb, S2, fun b hb => h5 b (hs b hb), s'', h4, h6⟩) (h St a w hr Q)
theorem e_callO {f : FuncId} {xs : Array Operand} {ats : Array TypeId} {args : List CV} {n m N : Nat} {F : Nat → CV} {d : Nat} (ho : o.op = .call ⟨.value (.func f), xs, ats⟩) (hc : calleeB P f = true) (hA : AC G.gs P f [] args (OwnQ n m N F)) (he : SEL G ⟨env, b0, H⟩ xs.toList args) (hd : o.dst = some d) (hN : Nat.blt d G.N = true)
    (hK : ∀ g, K ⟨(d, .os H.length g 0 n m) :: env, b0, H ++ [(g, .blk N F)]⟩) : AEx P G o ⟨env, b0, H⟩ K :=
  AEx.ent (K' := fun s' => ∃ g, s' = ⟨(d, .os 0 g 0 n m) :: env, b0, H ++ [(g, .blk N F)]⟩) (e_callS ho hc hA he hd hN fun r H' ⟨g, h1, h2⟩ => ⟨g, by rw [h1, h2]⟩) fun s' ⟨g, hs⟩ => ⟨_, by rw [hs]; exact ent_head (CEnt.osI (j := H.length) rfl), hK g⟩
theorem end_O {fn : Func} {e : Exit} {n m k N M : Nat} {g : Option Nat} {F F' : Nat → CV} (i : Nat) (he : e = .ret ∨ e = .normal) (hres : ARes P G fn s (.os i g 0 n k)) (hH : s.H[i]? = some (g, .blk N F)) (hn : n = m) (hN : M ≤ N) (hg : g = none → M = N) (hF : ∀ j, j < M → CEnt (F j) (F' j)) : bodyR P G fn (OwnQ m k M F') e s := by
  have h : ∃ r H', ARes P G fn s r ∧ OwnQ m k M F' r H' ∧ ∀ St a w, RelSt G St s a w → HRel G.al St w G.w0.heap.size G.F0 H' := by
    refine ⟨.os 0 g 0 m k, [(g, .blk M F')], hres.ent (CEnt.osI hn), ⟨g, rfl, rfl⟩, fun St a w hr => ?_⟩
    obtain ⟨fp, hp⟩ := hr.hp
    have hr0 := hp.rep i g _ hH
    refine ⟨fun j b => j = 0 ∧ fp i b, fun j q r hj => ?_, fun j l b hj hl => by omega, fun j b hj => hp.own i b hj.2, fun j hj b hb => by simp at hj; omega⟩
    match j, hj with
    | 0, hj =>
      simp at hj
      obtain ⟨rfl, rfl⟩ := hj
      have e : (fun b => (0 : Nat) = 0 ∧ fp i b) = fp i := funext fun b => by simp
      show Res.rep G.al St w (fun b => (0 : Nat) = 0 ∧ fp i b) g (.blk M F')
      rw [e]
      cases g with
      | none => exact ⟨by rw [hg rfl]; exact hr0.1, hr0.2⟩
      | some g =>
        obtain ⟨h1, cur, ty, h2, h3, h4⟩ := hr0
        exact ⟨h1, cur, ty, h2, by omega, fun l hl => hF l hl _ _ _ _ (h4 l (by omega))⟩
    | j + 1, hj => simp at hj
  rcases he with rfl | rfl <;> exact h

/-! ### nil that grows -/
theorem own_nil (d k : Nat) (f : Nat → CV) (hl : look s.env s.b d = .c (.slice none 0 0)) : EntS G s ⟨(d, .os s.H.length none 0 0 k) :: s.env, s.b, s.H ++ [(none, .blk 0 f)]⟩ := fun St a w hr => by
  refine ⟨St, fun _ h => h, hr.df, hr.sz, fun e => ?_, hr.un, hr.s1, hr.s2, hr.s3, ?_, hr.sn, hr.sg⟩
  · by_cases hde : d = e
    · subst hde
      rw [look_same]
      have := hr.env d
      rw [hl] at this
      exact ⟨rfl, this⟩
    · rw [look_other _ _ _ hde]; exact hr.env e
  · obtain ⟨fp, hp⟩ := hr.hp
    refine ⟨fp, fun j g r hj => ?_, hp.dis, hp.own, fun j hj => hp.out j (by simp at hj; omega)⟩
    rcases Nat.lt_or_ge j s.H.length with h1 | h1
    · rw [List.getElem?_append_left h1] at hj; exact hp.rep j g r hj
    · rw [List.getElem?_append_right h1] at hj
      have h2 := (List.getElem?_eq_some_iff.1 hj).1
      simp at h2
      have h3 : j = s.H.length := by omega
      subst h3
      simp at hj
      obtain ⟨rfl, rfl⟩ := hj
      exact ⟨rfl, fun b hb => hp.out _ (Nat.le_refl _) b hb⟩
/-- the same of an argument that is nil in the text -/
theorem se_nilO {x : Operand} {i k off : Nat} (hx : s.eval x = .c (.slice none 0 0)) : SE G s x (.os i none off 0 k) := fun St a w hr => ⟨rfl, evC hr hx⟩
theorem ent_none (f : Nat → CV) : EntS G s ⟨s.env, s.b, s.H ++ [(none, .blk 0 f)]⟩ := fun St a w hr => by
  refine ⟨St, fun _ h => h, hr.df, hr.sz, hr.env, hr.un, hr.s1, hr.s2, hr.s3, ?_, hr.sn, hr.sg⟩
  obtain ⟨fp, hp⟩ := hr.hp
  refine ⟨fp, fun j g r hj => ?_, hp.dis, hp.own, fun j hj => hp.out j (by simp at hj; omega)⟩
  rcases Nat.lt_or_ge j s.H.length with h1 | h1
  · rw [List.getElem?_append_left h1] at hj; exact hp.rep j g r hj
  · rw [List.getElem?_append_right h1] at hj
    have h2 := (List.getElem?_eq_some_iff.1 hj).1
    simp at h2
    have h3 : j = s.H.length := by omega
    subst h3
    simp at hj
    obtain ⟨rfl, rfl⟩ := hj
    exact ⟨rfl, fun b hb => hp.out _ (Nat.le_refl _) b hb⟩
/-- a block's content in other words -/
theorem blk_ent (i : Nat) {g : Option Nat} {n m : Nat} {f F : Nat → CV} (hH : s.H[i]? = some (g, .blk n f)) (hn : m ≤ n) (hg : g = none → m = n) (hF : ∀ j, j < m → CEnt (f j) (F j)) : EntS G s ⟨s.env, s.b, s.H.set i (g, .blk m F)⟩ := fun St a w hr => by
  refine ⟨St, fun _ h => h, hr.df, hr.sz, hr.env, hr.un, hr.s1, hr.s2, hr.s3, ?_, hr.sn, hr.sg⟩
  obtain ⟨fp, hp⟩ := hr.hp
  have hlt : i < s.H.length := (List.getElem?_eq_some_iff.1 hH).1
  refine ⟨fp, fun j q r hj => ?_, hp.dis, hp.own, fun j hj => hp.out j (by simpa using hj)⟩
  by_cases e : j = i
  · subst e
    simp [hlt] at hj
    obtain ⟨rfl, rfl⟩ := hj
    have := hp.rep j g _ hH
    cases g with
    | none => exact ⟨by rw [hg rfl]; exact this.1, this.2⟩
    | some g =>
      obtain ⟨h1, cur, ty, h2, h3, h4⟩ := this
      exact ⟨h1, cur, ty, h2, by omega, fun l hl => hF l hl _ _ _ _ (h4 l (by omega))⟩
  · rw [List.getElem?_set_ne (Ne.symm e)] at hj
    exact hp.rep j q r hj

/-! ### structs field by field, lists of numbers -/
theorem CEnt.agg2 {f g : Nat → CV} (h0 : CEnt (f 0) (g 0)) (h1 : CEnt (f 1) (g 1)) : CEnt (.agg 2 f) (.agg 2 g) := CEnt.agg rfl fun i hi => match i, hi with | 0, _ => h0 | 1, _ => h1
theorem CEnt.agg3 {f g : Nat → CV} (h0 : CEnt (f 0) (g 0)) (h1 : CEnt (f 1) (g 1)) (h2 : CEnt (f 2) (g 2)) : CEnt (.agg 3 f) (.agg 3 g) := CEnt.agg rfl fun i hi => match i, hi with | 0, _ => h0 | 1, _ => h1 | 2, _ => h2
theorem CEnt.agg4 {f g : Nat → CV} (h0 : CEnt (f 0) (g 0)) (h1 : CEnt (f 1) (g 1)) (h2 : CEnt (f 2) (g 2)) (h3 : CEnt (f 3) (g 3)) : CEnt (.agg 4 f) (.agg 4 g) := CEnt.agg rfl fun i hi => match i, hi with | 0, _ => h0 | 1, _ => h1 | 2, _ => h2 | 3, _ => h3
theorem CEnt.agg5 {f g : Nat → CV} (h0 : CEnt (f 0) (g 0)) (h1 : CEnt (f 1) (g 1)) (h2 : CEnt (f 2) (g 2)) (h3 : CEnt (f 3) (g 3)) (h4 : CEnt (f 4) (g 4)) : CEnt (.agg 5 f) (.agg 5 g) := CEnt.agg rfl fun i hi => match i, hi with | 0, _ => h0 | 1, _ => h1 | 2, _ => h2 | 3, _ => h3 | 4, _ => h4
theorem CEnt.agg6 {f g : Nat → CV} (h0 : CEnt (f 0) (g 0)) (h1 : CEnt (f 1) (g 1)) (h2 : CEnt (f 2) (g 2)) (h3 : CEnt (f 3) (g 3)) (h4 : CEnt (f 4) (g 4)) (h5 : CEnt (f 5) (g 5)) : CEnt (.agg 6 f) (.agg 6 g) := CEnt.agg rfl fun i hi => match i, hi with | 0, _ => h0 | 1, _ => h1 | 2, _ => h2 | 3, _ => h3 | 4, _ => h4 | 5, _ => h5
def inF (l : List Int) (i : Nat) : CV := .c (.int .i64 (l.getD i 0))
/-- a slice that reads as the numbers l -/
def isC (l : List Int) : CV := .rs 1 l.length fun i _ => inF l i
theorem fl_ints (L : List Int) (j : Nat) (hj : j < L.length) : CEnt (fl (L.map fun z => .c (.int .i64 z)) j) (inF L j) := CEnt.of_eq (by
  rw [fl_get]
  simp [List.getD, hj, inF])
theorem fl_bytes (L : List UInt8) (j : Nat) (hj : j < L.length) : CEnt (fl (L.map fun z => .c (.int .u8 (z.toNat : Nat))) j) (byF L j) := CEnt.of_eq (by
  rw [fl_get]
  simp [List.getD, hj, byF])
theorem se_frzI {x : Operand} {i off n N : Nat} {g : Option Nat} {F : Nat → CV} (l : List Int) (hx : s.eval x = .os i g off n 1) (hH : s.H[i]? = some (g, .frz N F)) (hn : n = l.length) (hN : off + n ≤ N) (hf : ∀ a, a < n → CEnt (F (off + a)) (inF l a)) : SE G s x (isC l) := by
  subst hn
  refine se_frz hx hH (by omega) _ fun a b ha hb => ?_
  rw [show off + (a * 1 + b) = off + a by omega]
  exact hf a ha

/-! ### structs that are compared -/
inductive EqF (P : Program) (f g : Nat → CV) : List Field → Prop → Prop where
  | nil : EqF P f g [] True
  | int {fd : Field} {fs : List Field} {k k' : IntKind} {a b : Int} {p : Prop} (h : P.underlying fd.type = some (.int k')) (hn : fd.name ≠ "_") (hf : f fd.offset = .c (.int k a)) (hg : g fd.offset = .c (.int k b)) (t : EqF P f g fs p) : EqF P f g (fd :: fs) (a = b ∧ p)
  | bool {fd : Field} {fs : List Field} {a b : Bool} {p : Prop} (h : P.underlying fd.type = some .bool) (hn : fd.name ≠ "_") (hf : f fd.offset = .c (.bool a)) (hg : g fd.offset = .c (.bool b)) (t : EqF P f g fs p) : EqF P f g (fd :: fs) (a = b ∧ p)
  | str {fd : Field} {fs : List Field} {a b : ByteArray} {p : Prop} (h : P.underlying fd.type = some .string) (hn : fd.name ≠ "_") (hf : f fd.offset = .c (.string a)) (hg : g fd.offset = .c (.string b)) (t : EqF P f g fs p) : EqF P f g (fd :: fs) (a = b ∧ p)
theorem run_part {d : TypeDesc} {t : TypeId} (h : P.underlying t = some d) (ha : aggB P t = false) {cs : Array Value} {i : Nat} {v : Value} (hv : cs[i]? = some v) (W : World) : (part t cs i).run P W = .ok v W := by
  simp [part, run_isAgg h, ha, hv]
theorem run_eqFields {f g : Nat → CV} {fs : List Field} {p : Prop} (h : EqF P f g fs p) {al : List Addr} {St : Nat → Prop} {w : World} {xs ys : Array Value} {n : Nat} (hx : xs.size = n) (hy : ys.size = n) (hf : ∀ i, i < n → RepC al St w (f i) (xs.getD i undef)) (hg : ∀ i, i < n → RepC al St w (g i) (ys.getD i undef))
    (hoff : (fs.all fun fd => Nat.blt fd.offset n) = true) (d : Nat) (W : World) : ∃ r : Bool, (Op.eqFields (d + 1) xs ys fs).run P W = .ok r W ∧ (r = true ↔ p) := by
  have get : ∀ (c : Array Value) (q : Nat → CV) (i : Nat) (v : Value), c.size = n → i < n → (∀ i, i < n → RepC al St w (q i) (c.getD i undef)) → q i = .c v → c[i]? = some v := fun c q i v hc hi hq he => by
    have := hq i hi
    rw [he] at this
    have : c.getD i undef = v := this
    rw [← this]
    have : i < c.size := by omega
    simp [this]
  induction h with
  | nil => exact ⟨true, by simp [Op.eqFields], by simp⟩
  | @int fd fs k k' a b p h hn h1 h2 _ ih =>
    simp only [List.all_cons, Bool.and_eq_true] at hoff
    obtain ⟨r, hr, hp⟩ := ih hoff.2
    have hlt : fd.offset < n := Nat.le_of_ble_eq_true hoff.1
    have ha : aggB P fd.type = false := by unfold aggB; rw [h]
    have e1 := run_part h ha (get xs f _ _ hx hlt hf h1) W
    have e2 := run_part h ha (get ys g _ _ hy hlt hg h2) W
    simp only [Op.eqFields, ne_eq, hn, not_false_eq_true, if_true, Sem.run_bind, e1, e2, Result.andThen_ok, run_equalIn_int W d fd.type k k' a b h, Sem.run_ite]
    by_cases hab : a = b
    · subst hab; exact ⟨r, by simp [hr], by simp [hp]⟩
    · exact ⟨false, by simp [hab], by simp [hab]⟩
  | @bool fd fs a b p h hn h1 h2 _ ih =>
    simp only [List.all_cons, Bool.and_eq_true] at hoff
    obtain ⟨r, hr, hp⟩ := ih hoff.2
    have hlt : fd.offset < n := Nat.le_of_ble_eq_true hoff.1
    have ha : aggB P fd.type = false := by unfold aggB; rw [h]
    have e1 := run_part h ha (get xs f _ _ hx hlt hf h1) W
    have e2 := run_part h ha (get ys g _ _ hy hlt hg h2) W
    simp only [Op.eqFields, ne_eq, hn, not_false_eq_true, if_true, Sem.run_bind, e1, e2, Result.andThen_ok, run_equalIn_bool' W d fd.type a b h, Sem.run_ite]
    by_cases hab : a = b
    · subst hab; exact ⟨r, by simp [hr], by simp [hp]⟩
    · exact ⟨false, by simp [hab], by simp [hab]⟩
  | @str fd fs a b p h hn h1 h2 _ ih =>
    simp only [List.all_cons, Bool.and_eq_true] at hoff
    obtain ⟨r, hr, hp⟩ := ih hoff.2
    have hlt : fd.offset < n := Nat.le_of_ble_eq_true hoff.1
    have ha : aggB P fd.type = false := by unfold aggB; rw [h]
    have e1 := run_part h ha (get xs f _ _ hx hlt hf h1) W
    have e2 := run_part h ha (get ys g _ _ hy hlt hg h2) W
    simp only [Op.eqFields, ne_eq, hn, not_false_eq_true, if_true, Sem.run_bind, e1, e2, Result.andThen_ok, run_equalIn_string W d fd.type a b h, Sem.run_ite]
    by_cases hab : a = b
    · subst hab; exact ⟨r, by simp [hr], by simp [hp]⟩
    · exact ⟨false, by simp [hab, toList_inj], by simp [hab]⟩
theorem rd_eqAgg {n : Nat} {f g : Nat → CV} {fs : Array Field} {p : Prop} [Decidable p] {t u : TypeId} {x y : Operand} (ho : o.op = .binOp .eql t x y u) (hx : s.eval x = .agg n f) (hy : s.eval y = .agg n g) (hS : P.underlying t = some (.struct fs)) (hp : P.stoodInHeld t = false) (hG : P.eqGuardType P.depth t = false) (hE : EqF P f g fs.toList p) (hoff : (fs.toList.all fun fd => Nat.blt fd.offset n) = true) : ARd P G o s (.c (.bool (decide p))) := fun St a w h => by
  obtain ⟨xs, ex, hx1, hx2⟩ := evR h hx
  obtain ⟨ys, ey, hy1, hy2⟩ := evR h hy
  have hfs : P.fieldsOf t = fs := by simp [Program.fieldsOf, hS]
  refine ⟨.bool (decide p), fun W _ => ?_, rfl⟩
  obtain ⟨r, hr, hiff⟩ := run_eqFields hE hx1 hy1 hx2 hy2 hoff 9998 W
  simp only [execOp, ho, ex, ey]
  refine vOk ?_
  simp only [Sem.run_bind, run_eqGuard_agg _ _ _ _ _ _ _ hG, Result.andThen_ok, run_eql_struct]
  rw [show (10000 : Nat) = 9999 + 1 from rfl, run_equalIn_agg W 9999 t xs ys (by rw [hfs]; exact hS) hp, hfs, hr]
  have : r = decide p := by rw [Bool.eq_iff_iff, hiff]; simp
  simp [this]
theorem rd_neAgg {n : Nat} {f g : Nat → CV} {fs : Array Field} {p : Prop} [Decidable p] {t u : TypeId} {x y : Operand} (ho : o.op = .binOp .neq t x y u) (hx : s.eval x = .agg n f) (hy : s.eval y = .agg n g) (hS : P.underlying t = some (.struct fs)) (hp : P.stoodInHeld t = false) (hG : P.eqGuardType P.depth t = false) (hE : EqF P f g fs.toList p) (hoff : (fs.toList.all fun fd => Nat.blt fd.offset n) = true) : ARd P G o s (.c (.bool (decide (¬ p)))) := fun St a w h => by
  obtain ⟨xs, ex, hx1, hx2⟩ := evR h hx
  obtain ⟨ys, ey, hy1, hy2⟩ := evR h hy
  have hfs : P.fieldsOf t = fs := by simp [Program.fieldsOf, hS]
  refine ⟨.bool (decide (¬ p)), fun W _ => ?_, rfl⟩
  obtain ⟨r, hr, hiff⟩ := run_eqFields hE hx1 hy1 hx2 hy2 hoff 9998 W
  simp only [execOp, ho, ex, ey]
  refine vOk ?_
  simp only [Sem.run_bind, run_eqGuard_agg _ _ _ _ _ _ _ hG, Result.andThen_ok, run_neq_struct]
  rw [show (10000 : Nat) = 9999 + 1 from rfl, run_equalIn_agg W 9999 t xs ys (by rw [hfs]; exact hS) hp, hfs, hr]
  have : r = decide p := by rw [Bool.eq_iff_iff, hiff]; simp
  simp [this]

theorem HEnt.frzDead {g : Option Nat} {n : Nat} {f : Nat → CV} {l m : List (Option Nat × Res)} (t : HEnt l m) : HEnt ((g, .frz n f) :: l) ((g, .dead) :: m) :=
  .dead (fun al St w F h => by
    cases g with
    | none => exact h.2
    | some g => exact h.1) t
theorem fl_at {cs : List CV} {j : Nat} (hj : j < cs.length) : fl cs j = cs[j] := by rw [fl_get]; simp [List.getD, hj]
theorem entl_at {cs ds : List CV} (h : EntL cs ds) : cs.length = ds.length ∧ ∀ j, CEnt (fl cs j) (fl ds j) := by
  induction h with
  | nil => exact ⟨rfl, fun _ => CEnt.refl _⟩
  | cons h _ ih => exact ⟨by simp [ih.1], fun j => match j with | 0 => h | j + 1 => ih.2 j⟩
theorem hh_bytes {cs : List CV} {l2 : List UInt8} (h : EntL cs (l2.map fun c => .c (.int .u8 (c.toNat : Nat)))) : ∀ j, j < l2.length → CEnt (fl cs (0 + j)) (byF l2 j) := fun j hj => by
  rw [Nat.zero_add]
  exact ((entl_at h).2 j).trans (fl_bytes l2 j hj)
theorem leaf_fl {cs : List CV} {m : Nat} (h : cs.all leafC = true) (hm : m * 1 = cs.length) : ∀ j, j < m * 1 → leafC (fl cs (0 + j)) = true := fun j hj => by
  rw [Nat.zero_add, fl_at (by omega)]
  exact List.all_eq_true.1 h _ (List.getElem_mem ..)

/-! ### from a contract to a law -/
theorem ac_calls {gs : List Nat} {al : List Addr} {f : FuncId} {args : List CV} {m : CV} {w : World} {vals : Array Value} (hA : ACp gs P f args m) (hS : SentL w gs al) (hs : vals.size = args.length) (hv : ∀ i, RepC al (fun b => b < w.heap.size) w (fl args i) (vals.getD i undef)) :
    Calls P f vals w fun e w' => ∃ v St', e = .returned v ∧ RepC al St' w' m v ∧ Below w.heap.size w w' := by
  have hg : ∀ g ∈ lst gs, g < w.heap.size := hS.lt
  have ha : ∀ a ∈ al, a.block < w.heap.size := fun a ha => by
    obtain ⟨c, t, hc⟩ := hS.row a ha
    exact (Array.getElem?_eq_some_iff.1 hc).1
  refine (hA al w (fun b => b < w.heap.size) (fun _ => False) vals ⟨fun _ h => h, hS, ⟨hg, ha⟩, ⟨fun _ _ => False, fun i g r hi => by simp at hi, fun _ _ _ h => h.elim, fun _ _ h => h.elim, fun _ _ _ h => h⟩, fun _ h => h.elim⟩ hs hv).mono ?_
  rintro e w' ⟨v, r, H', St', he, ⟨rfl, rfl⟩, hr, hu, _⟩
  exact ⟨v, St', he, hr, hu.below⟩
/-- a law holds -/
theorem law_calls {gs : List Nat} {al : List Addr} {f : FuncId} {args : List CV} {w : World} {vals : Array Value} (hA : ACp gs P f args (.c (.bool true))) (hS : SentL w gs al) (hs : vals.size = args.length) (hv : ∀ i, RepC al (fun b => b < w.heap.size) w (fl args i) (vals.getD i undef)) :
    Calls P f vals w fun e w' => e = .returned (.bool true) ∧ Below w.heap.size w w' :=
  (ac_calls hA hS hs hv).mono fun e w' ⟨v, St', he, hr, hb⟩ => ⟨by rw [he]; exact congrArg _ hr, hb⟩
theorem bs_rep {al : List Addr} {w : World} {v : Value} {l : List UInt8} (h : Bs w v l) : RepC al (fun b => b < w.heap.size) w (bsC l) v := by
  obtain ⟨ao, cap, h1, h2, h3, h4, h5⟩ := h
  refine ⟨ao, cap, h1, h2, h3, h4, fun a ha hn => ?_⟩
  obtain ⟨h6, h7⟩ := h5 a ha
  refine ⟨h6 hn, World.block_lt_of_cell? w ⟨a.block, a.off + 0, none⟩ (h7 0 hn), fun i j hi hj => ⟨_, ?_, rfl⟩⟩
  rw [show i * 1 + j = i by omega]
  exact h7 i hi

/-! ### old contracts -/
/-- a contract of the elder kind whose result holds no memory -/
theorem ac_old {gs : List Nat} {f : FuncId} {args : List CV} {r : Value} (h : ∀ (al : List Addr) (w : World) (St : Nat → Prop) (vals : Array Value), SentL w gs al → vals.size = args.length → (∀ i, RepC al St w (fl args i) (vals.getD i undef)) → Calls P f vals w fun e w' => e = .returned r ∧ Below w.heap.size w w') : ACp gs P f args (.c r) :=
  fun al w St F0 vals he hs hv => (h al w St vals he.sn hs hv).mono fun e w' ⟨h1, h2⟩ => by
    refine ⟨r, .c r, [], St, h1, ⟨rfl, rfl⟩, rfl, ⟨h2.os, h2.tape, h2.output, h2.size, fun k hk _ => h2.block k hk, fun b cur t z hb => ⟨cur, z, (h2.block b (Array.getElem?_eq_some_iff.1 hb).1).trans hb, rfl⟩⟩, fun _ h => h, fun _ h => .inl h, fun b hb => Nat.lt_of_lt_of_le (he.s3 b hb) h2.size, HRel.none _ _ _ _ _⟩
theorem vals1 {vals : Array Value} (h : vals.size = 1) : vals = #[vals.getD 0 undef] := by
  apply Array.ext
  · simp [h]
  · intro i h1 h2
    have : i = 0 := by omega
    subst this
    simp [h]
theorem vals2 {vals : Array Value} (h : vals.size = 2) : vals = #[vals.getD 0 undef, vals.getD 1 undef] := by
  apply Array.ext
  · simp [h]
  · intro i h1 h2
    have : i = 0 ∨ i = 1 := by omega
    rcases this with e | e <;> subst e <;> simp [h]
/-- an element of one cell of a slice (an array) of its own that begins where its block begins -/
theorem rd_iaddrO1 {e : TypeId} {j n i : Nat} {g : Option Nat} {z : Int} {t : TypeId} {x y : Operand} {k : IntKind} (ho : o.op = .indexAddr t x y) (hx : s.eval x = .os j g 0 n 1) (hy : s.eval y = .c (.int k z)) (h1 : P.underlying t = some (.slice e))
    (h5 : (P.info? e).map (·.size) = some 1) (hz : z = (i : Int)) (hi : i < n) : ARd P G o s (.op j g i) := by
  have := rd_iaddrO (G := G) ho hx hy h1 h5 hz hi
  rwa [Nat.zero_add, Nat.mul_one] at this
theorem rd_iaddrA1 {e : TypeId} {j n i : Nat} {g : Option Nat} {z : Int} {t : TypeId} {x y : Operand} {k : IntKind} (ho : o.op = .indexAddr t x y) (hx : s.eval x = .op j g 0) (hy : s.eval y = .c (.int k z)) (h1 : P.underlying t = some (.array n e))
    (h5 : (P.info? e).map (·.size) = some 1) (hz : z = (i : Int)) (hi : i < n) : ARd P G o s (.op j g i) := by
  have := rd_iaddrA (G := G) ho hx hy h1 h5 hz hi
  rwa [Nat.zero_add, Nat.mul_one] at this
/-! ### the arguments of a law -/
theorem rep_nil {al : List Addr} {St : Nat → Prop} {w : World} : ∀ i, RepC al St w (fl [] i) ((List.toArray ([] : List Value)).getD i undef) := fun _ => trivial
theorem rep_cons {al : List Addr} {St : Nat → Prop} {w : World} {c : CV} {cs : List CV} {v : Value} {vs : List Value} (h : RepC al St w c v) (t : ∀ i, RepC al St w (fl cs i) ((List.toArray vs).getD i undef)) : ∀ i, RepC al St w (fl (c :: cs) i) ((List.toArray (v :: vs)).getD i undef)
  | 0 => h
  | i + 1 => by
    have := t i
    simpa [fl, Array.getD_eq_getD_getElem?] using this
/-- a slice of bytes of its own, written no more -/
theorem thawB (d : Nat) {i n N : Nat} {g : Option Nat} {F : Nat → CV} (l : List UInt8) (hl : look s.env s.b d = .os i g 0 n 1) (hH : s.H[i]? = some (g, .frz N F)) (hn : n = l.length) (hF : (N, F) = (l.length, byF l)) :
    EntS G s ⟨(d, bsC l) :: s.env, s.b, s.H⟩ := by
  cases hF
  subst hn
  exact thaw d (fun a _ => byF l a) hl hH (by omega) (fun a b ha hb => CEnt.of_eq (by rw [show 0 + (a * 1 + b) = a by omega]))
/-! ### append to lists of any kind -/
/-- C l: the cells of the list l, k for each of its things -/
def RowC {α : Type} (k : Nat) (C : List α → Nat → CV) : Prop := ∀ l l2 j, j < (l.length + l2.length) * k → (if j < l.length * k then C l j else C l2 (j - l.length * k)) = C (l ++ l2) j
theorem rowC_by : RowC 1 byF := fun l l2 j hj => by
  simp only [byF, List.getD_eq_getElem?_getD]
  split
  · rw [List.getElem?_append_left (by omega)]
  · rw [List.getElem?_append_right (by omega), Nat.mul_one]
theorem rowC_in : RowC 1 inF := fun l l2 j hj => by
  simp only [inF, List.getD_eq_getElem?_getD]
  split
  · rw [List.getElem?_append_left (by omega)]
  · rw [List.getElem?_append_right (by omega), Nat.mul_one]
theorem rowC_row {α : Type} (k : Nat) (e : α → Nat → CV) (d : α) : RowC k (rowF k e d) := fun l l2 j hj => by
  rcases Nat.eq_zero_or_pos k with h0 | h0
  · subst h0; simp at hj
  split
  · rename_i h1
    have h2 : j / k < l.length := Nat.div_lt_of_lt_mul (by rw [Nat.mul_comm]; exact h1)
    simp only [rowF, List.getD_eq_getElem?_getD, List.getElem?_append_left h2]
  · rename_i h1
    rw [Nat.add_mul] at hj
    obtain ⟨q, rfl⟩ : ∃ q, j = l.length * k + q := ⟨j - l.length * k, by omega⟩
    rw [Nat.add_sub_cancel_left]
    unfold rowF
    rw [Nat.mul_comm l.length k, Nat.mul_add_div h0, Nat.mul_add_mod, List.getD_eq_getElem?_getD, List.getD_eq_getElem?_getD, List.getElem?_append_right (Nat.le_add_right _ _), Nat.add_sub_cancel_left]
theorem m_appendC {α : Type} {C : List α → Nat → CV} {k : Nat} (hC : RowC k C) {e : TypeId} {z : Value} {i n N N' by_ d : Nat} {t u : TypeId} {p q : Operand} {env : List (Nat × CV)} {b0 : Nat → CV} {H : List (Option Nat × Res)} {K : AS → Prop} {g : Option Nat} {f h : Nat → CV} {l l2 : List α} {m : Nat} (ho : o.op = .call ⟨.builtin .append, #[p, q], #[t, u]⟩) (hx : (⟨env, b0, H⟩ : AS).eval p = .os i g 0 n k) (hn : n = l.length) (hH : H[i]? = some (g, .blk N f)) (hN : l.length * k ≤ N) (hf : ∀ j, j < l.length * k → CEnt (f j) (C l j))
    (hsrc : ASrc P G ⟨env, b0, H⟩ q k m h) (hm : m = l2.length) (hh : ∀ j, j < l2.length * k → CEnt (h j) (C l2 j)) (h1 : P.underlying t = some (.slice e)) (hu : notInt P u = true) (h5 : (P.info? e).map (·.size) = some k) (hz : (P.info? e).map (·.zero) = some (some z)) (hby : (P.info? e).map (·.bytes) = some by_) (hzk : z.cells.size = k)
    (h63 : l.length + l2.length ≤ 9223372036854775807) (h48 : (l.length + l2.length) * by_ ≤ 140737488355328) (hleaf : ∀ j, j < m * k → leafC (h j) = true) (hd : o.dst = some d) (hdN : Nat.blt d G.N = true) (hN' : (l ++ l2).length * k = N')
    (hK : ∀ g', K ⟨(d, .os i g' 0 (l ++ l2).length k) :: env, b0, H.set i (g', .blk N' (C (l ++ l2)))⟩) : AMd P G o ⟨env, b0, H⟩ K := by
  subst hm hn
  refine m_append ho hx hH hN hsrc h1 hu h5 hz hby h63 h48 hzk (C (l ++ l2)) (fun j hj => ?_) hleaf hd hdN List.length_append.symm (by rw [← List.length_append]; exact hN') hK
  rw [← hC l l2 j hj]
  unfold appF
  split
  · rename_i h; exact hf j h
  · rename_i h
    refine hh _ ?_
    rw [Nat.add_mul] at hj
    omega
theorem hh_ints {cs : List CV} {l2 : List Int} (h : EntL cs (l2.map fun c => .c (.int .i64 c))) : ∀ j, j < l2.length * 1 → CEnt (fl cs (0 + j)) (inF l2 j) := fun j hj => by
  rw [Nat.zero_add]
  exact ((entl_at h).2 j).trans (fl_ints l2 j (by omega))
theorem leaf_flk {cs : List CV} {m k : Nat} (h : cs.all leafC = true) (hm : m * k = cs.length) : ∀ j, j < m * k → leafC (fl cs (0 + j)) = true := fun j hj => by
  rw [Nat.zero_add, fl_at (by omega)]
  exact List.all_eq_true.1 h _ (List.getElem_mem ..)
end
end Am
end Go.Proofs.YtoliiompofonlaaDoor
