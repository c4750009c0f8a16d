
/- The abstract walk, sixth part: stores, append, slices of slices, lengths, texts and bytes. -/
import Derived.Test.YtoliiompofonlaaDoorAm5
namespace Go.Proofs.YtoliiompofonlaaDoor
set_option linter.unusedVariables false
open Go.RowKit
namespace Am
section
variable {P : Program} {G : Gh} {ops : Array Oper} {o : Oper} {s : AS} {K : AS → Prop} {t u : TypeId} {x y : Operand} {k : IntKind}

def leafC : CV → Bool
  | .c v => v.oneCell'
  | .err _ | .rs _ _ _ | .rp _ _ | .os _ _ _ _ _ | .op _ _ _ | .fn _ _ _ | .pv _ => true
  | _ => false
theorem leaf_one {al : List Addr} {St : Nat → Prop} {w : World} : ∀ {c : CV} {v : Value}, leafC c = true → RepC al St w c v → v.oneCell' = true
  | .c u, v, hl, h => by
    have h : v = u := h
    rw [h]; exact hl
  | .err n, v, _, h => by
    have h : v = ev al n := h
    rw [h]; unfold ev; split <;> rfl
  | .rs _ _ _, v, _, ⟨_, _, h, _⟩ => by rw [h]; rfl
  | .rp _ _, v, _, ⟨_, _, h, _⟩ => by rw [h]; rfl
  | .os _ none _ _ _, v, _, h => by rw [h.2]; rfl
  | .os _ (some _) _ _ _, v, _, ⟨_, h, _⟩ => by rw [h]; rfl
  | .op _ _ _, v, _, ⟨_, _, h⟩ => by rw [h]; rfl
  | .fn _ _ _, v, _, ⟨_, h, _⟩ => by rw [h]; rfl
  | .pv p, v, _, h => (p.one h).2

/-- a row of its own is written -/
theorem RelSt.write {St : Nat → Prop} {a : Act} {w : World} (h : RelSt G St s a w) {i g n n' : Nat} {f f' : Nat → CV} (hH : s.H[i]? = some (some g, .blk n f)) {cur cs : Array Value} {ty : TypeId} (hc : w.heap[g]? = some (.cells cur ty (0, 0))) (hs : cs.size = cur.size)
    (hn : n' ≤ cs.size) (hf : ∀ j, j < n' → RepC G.al St w (f' j) (cs.getD j undef)) : RelSt G St ⟨s.env, s.b, s.H.set i (some g, .blk n' f')⟩ a (w.setRow g cs) := by
  obtain ⟨fp, hp⟩ := h.hp
  have hlt : i < s.H.length := (List.getElem?_eq_some_iff.1 hH).1
  have hrep := hp.rep i (some g) _ hH
  have hg : fp i g := (hrep.1 g).2 rfl
  obtain ⟨hg1, hg2, hg3⟩ := hp.own i g hg
  have hnew := setRow_heap w g cur cs ty (0, 0) hc
  have hold : ∀ b, b ≠ g → (w.setRow g cs).heap[b]? = w.heap[b]? := fun b hb => setRow_other w g b cs hb
  have hsz : (w.setRow g cs).heap.size = w.heap.size := by simp [World.setRow]
  have he : Evo St w (w.setRow g cs) := ⟨fun b cu ct cz hb hcu => (hold b (fun e => hg2 (e ▸ hb))).trans hcu, fun b cu t z hb => by
    by_cases e : b = g
    · subst e
      rw [hc] at hb
      cases hb
      exact ⟨cs, (0, 0), hnew, hs⟩
    · exact ⟨cu, z, (hold b e).trans hb, rfl⟩⟩
  refine ⟨h.df.keep (fun _ h => h) (fun b hb => hold b (fun e => hg2 (e ▸ hb))), h.sz, fun d => RepC.evo he (fun _ x => x) _ _ (h.env d), ⟨h.un.os, h.un.tape, h.un.output, by rw [hsz]; exact h.un.size, fun k hk hF => ?_, fun b cu t z hb => ?_⟩, h.s1, h.s2, fun b hb => by rw [hsz]; exact h.s3 b hb, ?_, ?_, h.sg⟩
  · refine (hold k (fun e => ?_)).trans (h.un.block k hk hF)
    subst e
    rcases hg3 with h1 | h1
    · omega
    · exact hF h1
  · obtain ⟨cur', z', h1, h2⟩ := h.un.sh b cu t z hb
    obtain ⟨cur2, z2, h3, h4⟩ := he.sh b cur' t z' h1
    exact ⟨cur2, z2, h3, h4.trans h2⟩
  · refine ⟨fp, fun j q r hj => ?_, hp.dis, fun j b hb => by rw [hsz]; exact hp.own j b hb, fun j hj => hp.out j (by simpa using hj)⟩
    by_cases e : j = i
    · subst e
      simp [hlt] at hj
      obtain ⟨rfl, rfl⟩ := hj
      exact ⟨hrep.1, cs, ty, hnew, hn, fun m hm => RepC.evo he (fun _ x => x) _ _ (hf m hm)⟩
    · rw [List.getElem?_set_ne (Ne.symm e)] at hj
      exact Res.rep_evo he (fun _ x => x) (fun b hF => hold b (fun e2 => e (hp.dis j i b hF (e2 ▸ hg)))) (hp.rep j q r hj)
  · exact SentL.keep h.sn (fun q hq => hold q (fun e => hg2 (e ▸ h.sg.1 q hq))) (fun q hq => hold _ (fun e => hg2 (e ▸ h.sg.2 q hq)))

/-- the last block takes the place of the i-th, which is gone -/
theorem RelSt.move {St : Nat → Prop} {a : Act} {w : World} {env : List (Nat × CV)} {b0 : Nat → CV} {H : List (Option Nat × Res)} {x : Option Nat × Res} (h : RelSt G St ⟨env, b0, H ++ [x]⟩ a w) {i : Nat} (hi : i < H.length) : RelSt G St ⟨env, b0, H.set i x⟩ a w := by
  refine ⟨h.df, h.sz, h.env, h.un, h.s1, h.s2, h.s3, ?_, h.sn, h.sg⟩
  obtain ⟨fp, hp⟩ := h.hp
  refine ⟨fun j b => j < H.length ∧ if j = i then fp H.length b else fp j b, fun j q r' hj => ?_, fun j l b h1 h2 => ?_, fun j b h1 => ?_, fun j hj b h1 => ?_⟩
  · have hj1 : j < H.length := by
      have := (List.getElem?_eq_some_iff.1 hj).1
      simpa using this
    by_cases e : j = i
    · subst e
      simp [hi] at hj
      have e2 : (fun b => j < H.length ∧ if j = j then fp H.length b else fp j b) = fp H.length := funext fun b => by simp [hi]
      show r'.rep G.al St w (fun b => j < H.length ∧ if j = j then fp H.length b else fp j b) q
      rw [e2]
      exact hp.rep H.length q r' (by simp [hj])
    · rw [List.getElem?_set_ne (Ne.symm e)] at hj
      have e3 : (fun b => j < H.length ∧ if j = i then fp H.length b else fp j b) = fp j := funext fun b => by simp [e, hj1]
      show r'.rep G.al St w (fun b => j < H.length ∧ if j = i then fp H.length b else fp j b) q
      rw [e3]
      exact hp.rep j q r' (by rw [List.getElem?_append_left hj1]; exact hj)
  · obtain ⟨a1, a2⟩ := h1
    obtain ⟨b1, b2⟩ := h2
    by_cases e1 : j = i <;> by_cases e2 : l = i
    · omega
    · simp only [e1, e2, if_true, if_false] at a2 b2
      have := hp.dis _ _ b a2 b2
      omega
    · simp only [e1, e2, if_true, if_false] at a2 b2
      have := hp.dis _ _ b a2 b2
      omega
    · simp only [e1, e2, if_false] at a2 b2
      exact hp.dis j l b a2 b2
  · by_cases e : j = i
    · simp only [e, if_true] at h1; exact hp.own _ b h1.2
    · simp only [e, if_false] at h1; exact hp.own j b h1.2
  · have : H.length ≤ j := by simpa using hj
    omega
theorem RelSt.kill {St : Nat → Prop} {a : Act} {w : World} {env : List (Nat × CV)} {b0 : Nat → CV} {H : List (Option Nat × Res)} (h : RelSt G St ⟨env, b0, H⟩ a w) (i : Nat) (g' : Option Nat) : RelSt G St ⟨env, b0, H.set i (g', .dead)⟩ a w := by
  refine ⟨h.df, h.sz, h.env, h.un, h.s1, h.s2, h.s3, ?_, h.sn, h.sg⟩
  obtain ⟨fp, hp⟩ := h.hp
  refine ⟨fun j b => j ≠ i ∧ fp j b, fun j q r' hj => ?_, fun j l b h1 h2 => hp.dis j l b h1.2 h2.2, fun j b h1 => hp.own j b h1.2, fun j hj b h1 => hp.out j (by simpa using hj) b h1.2⟩
  by_cases e2 : j = i
  · subst e2
    have hj1 := (List.getElem?_eq_some_iff.1 hj).1
    simp at hj1
    simp [hj1] at hj
    obtain ⟨rfl, rfl⟩ := hj
    have hd : ∀ F : Nat → Prop, (∀ b, ¬ F b) → Res.rep G.al St w F g' .dead := fun F hF => by cases g' <;> exact hF
    exact hd _ fun b hb => hb.1 rfl
  · rw [List.getElem?_set_ne (Ne.symm e2)] at hj
    have e3 : (fun b => j ≠ i ∧ fp j b) = fp j := funext fun b => by simp [e2]
    show r'.rep G.al St w (fun b => j ≠ i ∧ fp j b) q
    rw [e3]
    exact hp.rep j q r' hj

/-! ### stores -/
def updF (f : Nat → CV) (off : Nat) : List CV → Nat → CV
  | [] => f
  | x :: r => updF (fun j => match Nat.beq j off with | true => x | false => f j) (off + 1) r
theorem updF_get : ∀ (l : List CV) (f : Nat → CV) (off j : Nat), updF f off l j = if off ≤ j ∧ j < off + l.length then fl l (j - off) else f j
  | [], f, off, j => by rw [updF, if_neg (by simp)]
  | x :: r, f, off, j => by
    rw [updF, updF_get r _ (off + 1) j]
    by_cases h1 : off + 1 ≤ j ∧ j < off + 1 + r.length
    · rw [if_pos h1, if_pos (by simp; omega)]
      obtain ⟨m, hm⟩ : ∃ m, j - off = m + 1 := ⟨j - off - 1, by omega⟩
      rw [hm, show j - (off + 1) = m by omega, fl]
    · rw [if_neg h1]
      rcases beq_cases j off with ⟨hb, he⟩ | ⟨hb, he⟩
      · subst he
        simp only [hb]
        rw [if_pos (by simp), Nat.sub_self, fl]
      · simp only [hb]
        rw [if_neg (by simp; omega)]

theorem row_at (cur : Array Value) (vs : List Value) (off : Nat) (h : off + vs.length ≤ cur.size) (j : Nat) : ((cur.toList.take off ++ vs ++ cur.toList.drop (off + vs.length)).toArray).getD j undef = if off ≤ j ∧ j < off + vs.length then vs.getD (j - off) undef else cur.getD j undef := by
  simp only [Array.getD_eq_getD_getElem?, List.getElem?_toArray, List.getD_eq_getElem?_getD]
  have hm : min off cur.size = off := by omega
  congr 1
  by_cases h1 : j < off
  · rw [if_neg (by omega), List.getElem?_append_left (by simp; omega), List.getElem?_append_left (by simp; omega), List.getElem?_take, if_pos h1, Array.getElem?_toList]
  · by_cases h2 : j < off + vs.length
    · rw [if_pos (by omega), List.getElem?_append_left (by simp; omega), List.getElem?_append_right (by simp; omega)]
      congr 1
      simp [hm]
    · have h9 : (cur.toList.take off ++ vs).length = off + vs.length := by simp [hm]
      rw [if_neg (by omega), List.getElem?_append_right (by omega), List.getElem?_drop, Array.getElem?_toList, h9, show off + vs.length + (j - (off + vs.length)) = j by omega]

theorem storeAll {al : List Addr} {St : Nat → Prop} {w : World} {l : List CV} {cs : Array Value} (h : RepL al St w l cs) (hl : l.all leafC = true) : ∀ v ∈ cs.toList, v.oneCell' = true := by
  intro v hv
  obtain ⟨i, hi, e⟩ := List.mem_iff_getElem.1 hv
  have hi' : i < l.length := by rw [← h.1]; simpa using hi
  have h2 := h.2 i hi'
  have hi2 : i < cs.size := by simpa using hi
  have e2 : cs.getD i undef = v := by simp [hi2]; simpa using e
  rw [e2] at h2
  refine leaf_one (c := fl l i) ?_ h2
  rw [fl_get]
  have := List.all_eq_true.1 hl (l.getD i .top) (by simp [List.getD, hi'])
  exact this

theorem md_store {i off n m : Nat} {g : Option Nat} {f : Nat → CV} {c : CV} {l : List CV} (ho : o.op = .store t x y) (hx : s.eval x = .op i g off) (hH : s.H[i]? = some (g, .blk n f)) (hy : s.eval y = c) (hl : cellsC c = some l) (h5 : (P.info? t).map (·.size) = some m) (hm : l.length = m) (hleaf : l.all leafC = true) (hn : off + m ≤ n)
    (F : Nat → CV) (hF : ∀ j, j < n → CEnt (updF f off l j) (F j)) (hd : dstOk G o = true) (hK : K (s.with o.dst (.c undef) (s.H.set i (g, .blk n F)))) : AMd P G o s K := fun St a w hr Q => by
  obtain ⟨info, hi, h6⟩ := Option.map_eq_some_iff.1 h5
  obtain ⟨b, rfl, e⟩ := evR hr hx
  have hc := cells_rep (evR hr hy) hl
  obtain ⟨fp, hp⟩ := hr.hp
  obtain ⟨h00, cur, ty, hh, hle, hcell⟩ := hp.rep i (some b) _ hH
  have hst := run_storeCells_at P b off ty (a.eval y).cells.toList 0 cur w hh (by simp [hc.1]; omega) (storeAll hc hleaf)
  simp only [Nat.add_zero] at hst
  have hrun : (execOp a.eval o).run P w = .ok .skip (w.setRow b (cur.toList.take off ++ (a.eval y).cells.toList ++ cur.toList.drop (off + (a.eval y).cells.toList.length)).toArray) := by
    simp only [execOp, ho, e]
    simp [Instr.storeAt, Instr.sureAddr, storeVar, sizeOf, typeInfo, hi, h6, hc.1, hm]
    rw [show (a.eval y).cells.toList.length = m by simp [hc.1, hm]] at hst
    simp [hst]
  unfold Oper.wp
  rw [hrun]
  have hlen : (a.eval y).cells.toList.length = m := by simp [hc.1, hm]
  refine ⟨fun q hq => setRow_other w b q _ (fun e => (hp.own i b ((h00 b).2 rfl)).2.1 (e ▸ hq)), St, fun _ h => h, _, hK, ?_⟩
  have hw := hr.write hH hh (cs := (cur.toList.take off ++ (a.eval y).cells.toList ++ cur.toList.drop (off + (a.eval y).cells.toList.length)).toArray) (by simp [hc.1]; omega) (n' := n) (f' := F) (by simp [hc.1]; omega) (fun j hj => by
    refine hF j hj _ _ _ _ ?_
    rw [updF_get, row_at cur _ off (by rw [hlen]; omega), hlen, hm]
    by_cases h1 : off ≤ j ∧ j < off + m
    · rw [if_pos h1, if_pos h1]
      have := hc.2 (j - off) (by omega)
      simpa [List.getD] using this
    · rw [if_neg h1, if_neg h1]
      exact hcell j hj)
  have := hw.put (dst := o.dst) (v := .c undef) (x := undef) (dst_of hd) rfl
  cases ho : o.dst with
  | none => rw [ho] at this; exact this
  | some d => rw [ho] at this; exact this

/-! ### append -/
def SrcAt (P : Program) (al : List Addr) (St : Nat → Prop) (w : World) (xv : Value) (k m : Nat) (f : Nat → CV) : Prop :=
  ∃ cs : List Value, cs.length = m * k ∧ (∀ j, j < m * k → RepC al St w (f j) (cs.getD j undef)) ∧ ∀ W, W.heap = w.heap → (Builtin.lenOf xv).run P W = .ok m W ∧ (Builtin.firstCells k m xv).run P W = .ok cs.toArray W
def ASrc (P : Program) (G : Gh) (s : AS) (y : Operand) (k m : Nat) (f : Nat → CV) : Prop := ∀ St a w, RelSt G St s a w → SrcAt P G.al St w (a.eval y) k m f

theorem cell_heap {w W : World} (h : W.heap = w.heap) (p : Addr) : W.cell? p = w.cell? p := by simp [World.cell?, h]
theorem src_cells {al : List Addr} {St : Nat → Prop} {w : World} {k m cap : Nat} {f : Nat → CV} {b q : Nat} {g : Nat → Value} (h : ∀ j, j < m * k → w.cell? ⟨b, q + j, none⟩ = some (g j) ∧ RepC al St w (f j) (g j)) : SrcAt P al St w (.slice (some ⟨b, q, none⟩) m cap) k m f := by
  refine ⟨(List.range (m * k)).map g, by simp, fun j hj => by simp [List.getD, hj]; exact (h j hj).2, fun W hW => ⟨rfl, ?_⟩⟩
  have := run_loadCells (P := P) (w := W) ⟨b, q, none⟩ (m * k) g (fun j hj => by rw [addr_add, cell_heap hW]; exact (h j hj).1)
  simpa [Builtin.firstCells] using this
theorem src_none {al : List Addr} {St : Nat → Prop} {w : World} {k cap : Nat} {f : Nat → CV} : SrcAt P al St w (.slice none 0 cap) k 0 f :=
  ⟨[], by simp, fun j hj => by simp at hj, fun W _ => ⟨rfl, by simp [Builtin.firstCells]⟩⟩
theorem src_rs {k m : Nat} {f : Nat → Nat → CV} (hy : s.eval y = .rs k m f) : ASrc P G s y k m fun j => f (j / k) (j % k) := fun St a w h => by
  obtain ⟨ao, cap, e, h1, h2, h3, h4⟩ := evR h hy
  rw [e]
  cases ao with
  | none =>
    have := h3 rfl
    have hm : m = 0 := by omega
    subst hm
    exact src_none
  | some ad =>
    by_cases h0 : m * k = 0
    · refine ⟨[], by simp [h0], fun j hj => by omega, fun W _ => ⟨rfl, ?_⟩⟩
      have := run_loadCells (P := P) (w := W) ad 0 (fun _ => undef) (fun j hj => by omega)
      simp [Builtin.firstCells, h0] at this ⊢
      exact this
    · have hk : 0 < k := Nat.pos_of_ne_zero fun e => h0 (by rw [e, Nat.mul_zero])
      have hm : 0 < m := Nat.pos_of_ne_zero fun e => h0 (by rw [e, Nat.zero_mul])
      obtain ⟨b, q, sp⟩ := ad
      obtain ⟨h5, h6, h7⟩ := h4 _ rfl hm
      simp only at h5
      subst h5
      obtain ⟨g, hg⟩ := choose_cells (n := m * k) (p := fun j v => w.cell? ⟨b, q + j, none⟩ = some v ∧ RepC G.al St w (f (j / k) (j % k)) v) (fun j hj => by
        obtain ⟨v, hv, hr⟩ := h7 (j / k) (j % k) (Nat.div_lt_of_lt_mul (by rw [Nat.mul_comm]; exact hj)) (Nat.mod_lt _ hk)
        refine ⟨v, ?_, hr⟩
        have h9 := Nat.div_add_mod j k
        rw [Nat.mul_comm] at h9
        have e2 : q + j = q + (j / k * k + j % k) := by omega
        rw [e2]
        exact hv)
      exact src_cells hg
theorem src_os {i off k m N : Nat} {g : Option Nat} {F : Nat → CV} (hy : s.eval y = .os i g off m k) (hH : Holds s i g N F) (hN : off + m * k ≤ N) : ASrc P G s y k m fun j => F (off + j) := fun St a w h => by
  have he := evR h hy
  cases g with
  | none =>
    obtain ⟨h1, h2⟩ := he
    subst h1
    rw [h2]
    exact src_none
  | some b =>
    obtain ⟨cap, e, _⟩ := he
    rw [e]
    obtain ⟨hg, cur, ty, z, hh, hle, hc⟩ := holdCells h hH
    refine src_cells (g := fun j => cur.getD (off + j) undef) fun j hj => ⟨?_, hc _ (by omega)⟩
    have hlt : off + j < cur.size := by omega
    rw [cell_of_row w b _ cur ty z hh]; simp [hlt]
theorem src_str {l : ByteArray} (hy : s.eval y = .c (.string l)) : ASrc P G s y 1 l.size (byF l.data.toList) := fun St a w h => by
  rw [evC h hy]
  refine ⟨l.data.toList.map fun b => .int .u8 (b.toNat : Nat), by simp, fun j hj => ?_, fun W _ => ⟨rfl, ?_⟩⟩
  · have hj : j < l.data.size := by simpa using hj
    have e : l.data[j]? = some l.data[j] := Array.getElem?_eq_getElem hj
    simp [List.getD, e, byF]
    rfl
  · simp [Builtin.firstCells]
    apply Array.ext'
    simp
theorem src_nil {k : Nat} {f : Nat → CV} (hy : s.eval y = .c (.slice none 0 0)) : ASrc P G s y k 0 f := fun St a w h => by
  rw [evC h hy]
  exact src_none

def notInt (P : Program) (u : TypeId) : Bool := match P.underlying u with | some (.int _) => false | some _ => true | none => false
theorem run_app_room {e ty : TypeId} {info : TypeInfo} {size n m cap : Nat} {base : Option Addr} {xv : Value} {news : List Value} {w : World} (h1 : P.underlying t = some (.slice e)) (hu : notInt P u = true) (hi : P.info? e = some info) (hs : info.size = size)
    (hl : (Builtin.lenOf xv).run P w = .ok m w) (hn : (Builtin.firstCells size m xv).run P w = .ok news.toArray w) (hroom : n + m ≤ cap) {w' : World} (hst : ∀ ad, base = some ad → (storeCells (ad.add (n * size)) news).run P w = .ok () w') (h0 : base = none → w' = w) :
    (Builtin.append_ #[t, u] ty #[.slice base n cap, xv]).run P w = .ok (.slice base (n + m) cap) w' := by
  cases hu' : P.underlying u with
  | none => simp [notInt, hu'] at hu
  | some d =>
    cases base with
    | none =>
      rw [h0 rfl]
      cases d <;> first | (simp [notInt, hu'] at hu; done) | skip
      all_goals simp only [Builtin.append_, List.getElem?_toArray, List.getElem?_cons_zero, List.getElem?_cons_succ, underlying, Sem.run_bind, run_program, Result.andThen_ok, h1, hu', Sem.run_pure, sizeOf, typeInfo, hi, hs, Bool.false_eq_true, if_false, hl, if_pos hroom, Bool.not_false, if_true, hn]
    | some ad =>
      have hst := hst ad rfl
      cases d <;> first | (simp [notInt, hu'] at hu; done) | skip
      all_goals simp only [Builtin.append_, List.getElem?_toArray, List.getElem?_cons_zero, List.getElem?_cons_succ, underlying, Sem.run_bind, run_program, Result.andThen_ok, h1, hu', Sem.run_pure, sizeOf, typeInfo, hi, hs, Bool.false_eq_true, if_false, hl, if_pos hroom, Bool.not_false, if_true, hn, hst]

theorem run_app_grow {e ty : TypeId} {info : TypeInfo} {z : Value} {size n m cap : Nat} {base : Option Addr} {xv : Value} {olds news : List Value} {w : World} (h1 : P.underlying t = some (.slice e)) (hu : notInt P u = true) (hi : P.info? e = some info) (hs : info.size = size) (hz : info.zero = some z)
    (hl : ∀ W, W.heap = w.heap → (Builtin.lenOf xv).run P W = .ok m W) (ho : ∀ W, W.heap = w.heap → (Builtin.firstCells size n (.slice base n cap)).run P W = .ok olds.toArray W) (hn : ∀ W, W.heap = w.heap → (Builtin.firstCells size m xv).run P W = .ok news.toArray W) (hroom : cap < n + m)
    (h63 : n + m ≤ 9223372036854775807) (h48 : (n + m) * info.bytes ≤ 140737488355328) :
    (Builtin.append_ #[t, u] ty #[.slice base n cap, xv]).run P w = .ok (.slice (some ⟨w.heap.size, 0, none⟩) (n + m) (grownCap w (n + m) cap e)) (w.drew.alloc (.cells (olds.toArray ++ news.toArray ++ Builtin.zeroCells z.cells (grownCap w (n + m) cap e - (n + m))) e)) := by
  have hnot : ¬ (n + m ≤ cap) := by omega
  have hfit := growslice_fits hroom h48
  have h63' : ¬ (9223372036854775807 < ((n : Int) + (m : Int))) := by omega
  have h48' : ¬ (281474976710656 < Builtin.nextslicecap (n + m) cap * info.bytes) := by omega
  have hl0 := hl w rfl
  have ho1 := ho w.drew rfl
  have hn1 := hn w.drew rfl
  cases hu' : P.underlying u with
  | none => simp [notInt, hu'] at hu
  | some d =>
    have h64 : ¬ (((n + m : Nat) : Int) > IntKind.i64.max ∧ (false = true ∨ info.bytes = 0)) := by simp [IntKind.max, IntKind.bits, IntKind.signed]; omega
    have h49 : ¬ (Builtin.nextslicecap (n + m) cap * info.bytes > 2 ^ 48) := by omega
    have hch : (choose (.appendCap (n + m) cap e)).run P w = .ok (grownCap w (n + m) cap e) w.drew := by simp [Question.forced, grownCap]
    cases d <;> first | (simp [notInt, hu'] at hu; done) | skip
    all_goals simp only [Builtin.append_, List.getElem?_toArray, List.getElem?_cons_zero, List.getElem?_cons_succ, underlying, Sem.run_bind, run_program, Result.andThen_ok, h1, hu', Sem.run_pure, sizeOf, typeInfo, hi, hs, Bool.false_eq_true, if_false, hl0, if_neg hnot, hz, zeroValue, if_neg h49, Bool.not_false, if_true, hch, run_askRoom, ho1, hn1, newRow, run_newObj, World.alloc_eq]
    all_goals (try (rw [if_neg (by simp [IntKind.max, IntKind.bits, IntKind.signed]; omega)]))
    all_goals (try simp only [Builtin.append_, List.getElem?_toArray, List.getElem?_cons_zero, List.getElem?_cons_succ, underlying, Sem.run_bind, run_program, Result.andThen_ok, h1, hu', Sem.run_pure, sizeOf, typeInfo, hi, hs, Bool.false_eq_true, if_false, hl0, if_neg hnot, hz, zeroValue, if_neg h49, Bool.not_false, if_true, hch, run_askRoom, ho1, hn1, newRow, run_newObj, World.alloc_eq, World.size_drew])

theorem row_app (olds news : List Value) (rest : Array Value) (j : Nat) (h : j < olds.length + news.length) : (olds.toArray ++ news.toArray ++ rest).getD j undef = if j < olds.length then olds.getD j undef else news.getD (j - olds.length) undef := by
  simp only [Array.getD_eq_getD_getElem?, List.getD_eq_getElem?_getD]
  rw [Array.getElem?_append_left (by simp; omega)]
  split
  · rename_i h1
    rw [Array.getElem?_append_left (by simpa using h1)]
    simp
  · rename_i h1
    rw [Array.getElem?_append_right (by simp; omega)]
    simp

def appF (n : Nat) (f h : Nat → CV) (j : Nat) : CV := if j < n then f j else h (j - n)

theorem below_drewAlloc (w : World) (x : Obj) : Below w.heap.size w (w.drew.alloc x) := below_then (below_drew1 w) (below_alloc w.drew x)

theorem exec_append {xs : Array Operand} {ats : Array TypeId} (ho : o.op = .call ⟨.builtin .append, xs, ats⟩) {a : Act} {v : Value} {w w' : World} (h : (Builtin.append_ ats o.type (xs.map a.eval)).run P w = .ok v w') : (execOp a.eval o).run P w = .ok (.value v) w' := by
  simp [execOp, ho, resolve, invoke, builtin, h]

set_option maxHeartbeats 1000000 in
/-- append to a slice of its own, which begins where its block begins (or is nil) -/
theorem md_append {e : TypeId} {z : Value} {i n m k N by_ : Nat} {g : Option Nat} {f h : Nat → CV} (ho : o.op = .call ⟨.builtin .append, #[x, y], #[t, u]⟩) (hx : s.eval x = .os i g 0 n k) (hH : s.H[i]? = some (g, .blk N f)) (hN : n * k ≤ N)
    (hsrc : ASrc P G s y k m h) (h1 : P.underlying t = some (.slice e)) (hu : notInt P u = true) (h5 : (P.info? e).map (·.size) = some k) (hz : (P.info? e).map (·.zero) = some (some z)) (hby : (P.info? e).map (·.bytes) = some by_)
    (h63 : n + m ≤ 9223372036854775807) (h48 : (n + m) * by_ ≤ 140737488355328) (hzk : z.cells.size = k)
    (F : Nat → CV) (hF : ∀ j, j < (n + m) * k → CEnt (appF (n * k) f h j) (F j)) (hleaf : ∀ j, j < m * k → leafC (h j) = true) (hd : dstOk G o = true)
    (hK : ∀ g', K (s.with o.dst (.os i g' 0 (n + m) k) (s.H.set i (g', .blk ((n + m) * k) F)))) : AMd P G o s K := fun St a w hr Q => by
  obtain ⟨info, hi, hs⟩ := Option.map_eq_some_iff.1 h5
  obtain ⟨info', hi', hz⟩ := Option.map_eq_some_iff.1 hz
  obtain rfl := Option.some.inj (hi.symm.trans hi')
  obtain ⟨info', hi', hby⟩ := Option.map_eq_some_iff.1 hby
  obtain rfl := Option.some.inj (hi.symm.trans hi')
  obtain ⟨news, hnl, hnr, hrun⟩ := hsrc St a w hr
  have he := evR hr hx
  have hlen : (n + m) * k = n * k + m * k := Nat.add_mul ..
  -- the value's parts
  obtain ⟨base, cap, ev, hle, hcap, hbase⟩ : ∃ base cap, a.eval x = .slice base n cap ∧ n ≤ cap ∧ cap ≤ 9223372036854775807 ∧ ((g = none ∧ base = none ∧ cap = 0 ∧ n = 0) ∨ ∃ b, g = some b ∧ base = some ⟨b, 0, none⟩ ∧ ∃ cur t z, w.heap[b]? = some (.cells cur t z) ∧ 0 + cap * k ≤ cur.size) := by
    cases g with
    | none => obtain ⟨h1, h2⟩ := he; exact ⟨none, 0, by rw [h2, h1], by omega, by omega, .inl ⟨rfl, rfl, rfl, h1⟩⟩
    | some b => obtain ⟨cap, h1, h2, h3, h4⟩ := he; exact ⟨_, cap, h1, h2, h3, .inr ⟨b, rfl, rfl, h4⟩⟩
  have hargs : (#[x, y] : Array Operand).map a.eval = #[a.eval x, a.eval y] := by simp
  have put : ∀ {w' : World} {v : Value} {c : CV} {H : List (Option Nat × Res)}, RelSt G St ⟨s.env, s.b, H⟩ a w' → RepC G.al St w' c v → RelSt G St (s.with o.dst c H) (a.put o.dst v) w' := fun {w' v c H} h1 h2 => by
    have := h1.put (dst := o.dst) (dst_of hd) h2
    cases ho : o.dst with
    | none => rw [ho] at this; exact this
    | some d => rw [ho] at this; exact this
  by_cases hroom : n + m ≤ cap
  · -- in place
    rcases hbase with ⟨hg, hb, hc0, hn0⟩ | ⟨b, hg, hb, cu, tt, zz, hcu, hfit⟩
    · subst hg hb
      have hm0 : m = 0 := by omega
      subst hm0
      have hrun' := run_app_room (t := t) (u := u) (ty := o.type) h1 hu hi hs (hrun w rfl).1 (hrun w rfl).2 hroom (base := none) (w' := w) (fun _ h => by simp at h) (fun _ => rfl)
      unfold Oper.wp
      rw [exec_append ho (by rw [hargs, ev]; exact hrun')]
      refine ⟨KeepS.refl _ _, St, fun _ h => h, _, hK none, ?_⟩
      have hlt := (List.getElem?_eq_some_iff.1 hH).1
      have hmv : RelSt G St ⟨s.env, s.b, s.H.set i (none, .blk ((n + 0) * k) F)⟩ a w := by
        refine ⟨hr.df, hr.sz, hr.env, hr.un, hr.s1, hr.s2, hr.s3, ?_, hr.sn, hr.sg⟩
        obtain ⟨fp, hp⟩ := hr.hp
        refine ⟨fp, fun j q r hj => ?_, hp.dis, hp.own, fun j hj => hp.out j (by simpa using hj)⟩
        by_cases hj2 : j = i
        · subst hj2
          simp [hlt] at hj
          obtain ⟨rfl, rfl⟩ := hj
          exact ⟨by simp [hn0], (hp.rep j none _ hH).2⟩
        · rw [List.getElem?_set_ne (Ne.symm hj2)] at hj
          exact hp.rep j q r hj
      exact put hmv ⟨by omega, by rw [hn0, hc0]⟩
    · subst hg hb
      obtain ⟨fp, hp⟩ := hr.hp
      obtain ⟨hb0, cur, ty, hh, hle2, hcell⟩ := hp.rep i (some b) _ hH
      have hq := Option.some.inj (hcu.symm.trans hh)
      injection hq with e1 e2 e3
      have hfit : 0 + cap * k ≤ cur.size := e1 ▸ hfit
      have hfit2 : n * k + news.length ≤ cur.size := by
        rw [hnl, ← hlen]
        exact Nat.le_trans (Nat.mul_le_mul_right _ hroom) (by omega)
      have hone : ∀ v ∈ news, v.oneCell' = true := fun v hv => by
        obtain ⟨j, hj, e⟩ := List.mem_iff_getElem.1 hv
        have h2 := hnr j (by omega)
        rw [show news.getD j undef = v by simp [List.getD, hj, e]] at h2
        exact leaf_one (hleaf j (by omega)) h2
      have hst := run_storeCells_at P b (n * k) ty news 0 cur w hh (by simpa using hfit2) hone
      simp only [Nat.add_zero] at hst
      have hrun' := run_app_room (t := t) (u := u) (ty := o.type) h1 hu hi hs (hrun w rfl).1 (hrun w rfl).2 hroom (base := some ⟨b, 0, none⟩) (w' := w.setRow b (cur.toList.take (n * k) ++ news ++ cur.toList.drop (n * k + news.length)).toArray) (fun ad h => by
        have h := Option.some.inj h
        subst h
        rw [addr_add, Nat.zero_add]
        exact hst) (fun h => by simp at h)
      unfold Oper.wp
      rw [exec_append ho (by rw [hargs, ev]; exact hrun')]
      refine ⟨fun q hq => setRow_other w b q _ (fun e => (hp.own i b ((hb0 b).2 rfl)).2.1 (e ▸ hq)), St, fun _ h => h, _, hK (some b), ?_⟩
      have hw := hr.write hH hh (cs := (cur.toList.take (n * k) ++ news ++ cur.toList.drop (n * k + news.length)).toArray) (by simp; omega) (n' := (n + m) * k) (f' := F) (by simp; omega) (fun j hj => by
        refine hF j hj _ _ _ _ ?_
        rw [row_at cur news (n * k) hfit2]
        unfold appF
        by_cases h3 : j < n * k
        · rw [if_pos h3, if_neg (by omega)]; exact hcell j (by omega)
        · rw [if_neg h3, if_pos (by omega)]; exact hnr _ (by omega))
      refine put hw ⟨cap, rfl, hroom, hcap, ?_⟩
      exact ⟨_, _, _, setRow_heap w b cur _ _ _ hh, by simp; omega⟩
  · -- a new row
    have hroom : cap < n + m := by omega
    obtain ⟨olds, hol, hor, horun⟩ : SrcAt P G.al St w (.slice base n cap) k n f := by
      rcases hbase with ⟨hg, hb, hc0, hn0⟩ | ⟨b, hg, hb, _⟩
      · subst hb hn0 hc0; exact src_none
      · subst hg hb
        obtain ⟨_, cur, tt, zz, hh, hle, hc⟩ := blkCells hr hH
        refine src_cells (g := fun j => cur.getD j undef) fun j hj => ⟨?_, hc j (by omega)⟩
        have hlt : j < cur.size := by omega
        rw [Nat.zero_add, cell_of_row w b j cur tt zz hh]; simp [hlt]
    have hrun' := run_app_grow (t := t) (u := u) (ty := o.type) h1 hu hi hs hz (fun W hW => (hrun W hW).1) (fun W hW => (horun W hW).2) (fun W hW => (hrun W hW).2) hroom h63 (by rw [hby]; exact h48)
    unfold Oper.wp
    rw [exec_append ho (by rw [hargs, ev]; exact hrun')]
    refine ⟨keep_of_below hr (below_drewAlloc w _), St, fun _ h => h, _, hK (some w.heap.size), ?_⟩
    have hgc : n + m ≤ grownCap w (n + m) cap e ∧ grownCap w (n + m) cap e ≤ 9223372036854775807 := by
      have hlt := Nat.mod_lt (w.tape w.drawn (.appendCap (n + m) cap e)) (show 0 < 2 ^ 63 - (n + m) by omega)
      simp only [grownCap, Question.cut]
      omega
    have hcell0 : (w.drew.alloc (.cells (olds.toArray ++ news.toArray ++ Builtin.zeroCells z.cells (grownCap w (n + m) cap e - (n + m))) e)).heap[w.heap.size]? = some (.cells (olds.toArray ++ news.toArray ++ Builtin.zeroCells z.cells (grownCap w (n + m) cap e - (n + m))) e (0, 0)) := heap_alloc_new w.drew _
    have hsize : (olds.toArray ++ news.toArray ++ Builtin.zeroCells z.cells (grownCap w (n + m) cap e - (n + m))).size = grownCap w (n + m) cap e * k := by
      simp [Builtin.zeroCells, hol, hnl, hzk]
      rw [← Nat.add_mul, ← Nat.add_mul]
      congr 1
      omega
    have hEvo : Evo St w (w.drew.alloc (.cells (olds.toArray ++ news.toArray ++ Builtin.zeroCells z.cells (grownCap w (n + m) cap e - (n + m))) e)) := Evo.of_below (below_drewAlloc w _) hr.s3
    have hfr := hr.fresh (below_drewAlloc w _) (Nat.le_refl _) hcell0 (n := (n + m) * k) (f := F) (by rw [hsize]; exact Nat.mul_le_mul_right _ hgc.1) (fun j hj => by
      refine hF j hj _ _ _ _ (RepC.evo hEvo (fun _ x => x) _ _ ?_)
      unfold appF
      rw [row_app olds news _ j (by omega), hol]
      by_cases h3 : j < n * k
      · rw [if_pos h3, if_pos h3]; exact hor j h3
      · rw [if_neg h3, if_neg h3]; exact hnr (j - n * k) (by omega))
    have hkl := hfr.move ((List.getElem?_eq_some_iff.1 hH).1)
    refine put hkl ⟨_, rfl, hgc.1, hgc.2, _, _, _, hcell0, ?_⟩
    rw [hsize]
    omega
end
end Am
end Go.Proofs.YtoliiompofonlaaDoor
