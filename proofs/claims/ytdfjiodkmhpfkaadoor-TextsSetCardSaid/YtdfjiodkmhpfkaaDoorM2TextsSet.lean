/- What the law leans on, part 2: Am6, Am7, Am8, Am9, Ty, AmA, AmB, AmC, AmD, AmE, AmF, AmG -/
import Derived.Test.YtdfjiodkmhpfkaaDoorM1TextsSet
import Derived.Laws.StructEq
import Derived.Laws.RangeString

/- The abstract walk, sixth part: stores, append, slices of slices, lengths, texts and bytes. -/
namespace Go.Proofs.YtdfjiodkmhpfkaaDoor
set_option linter.unusedVariables false
open Go.RowKit
namespace Am
section
variable {P : Program} {G : Gh} {ops : Array Oper} {o : Oper} {s : AS} {K : AS → Prop} {t u : TypeId} {x y : Operand} {k : IntKind}

def leafC : CV → Bool
  | .c v => v.oneCell'
  | .err _ | .rs _ _ _ | .rp _ _ | .os _ _ _ _ _ | .op _ _ _ | .fn _ _ _ | .pv _ => true
  | _ => false
theorem leaf_one {al : List Addr} {St : Nat → Prop} {w : World} : ∀ {c : CV} {v : Value}, leafC c = true → RepC al St w c v → v.oneCell' = true
  | .c u, v, hl, h => by
    have h : v = u := h
    rw [h]; exact hl
  | .err n, v, _, h => by
    have h : v = ev al n := h
    rw [h]; unfold ev; split <;> rfl
  | .rs _ _ _, v, _, ⟨_, _, h, _⟩ => by rw [h]; rfl
  | .rp _ _, v, _, ⟨_, _, h, _⟩ => by rw [h]; rfl
  | .os _ none _ _ _, v, _, h => by rw [h.2]; rfl
  | .os _ (some _) _ _ _, v, _, ⟨_, h, _⟩ => by rw [h]; rfl
  | .op _ _ _, v, _, ⟨_, _, h⟩ => by rw [h]; rfl
  | .fn _ _ _, v, _, ⟨_, h, _⟩ => by rw [h]; rfl
  | .pv p, v, _, h => (p.one h).2

/-- a row of its own is written -/
theorem RelSt.write {St : Nat → Prop} {a : Act} {w : World} (h : RelSt G St s a w) {i g n n' : Nat} {f f' : Nat → CV} (hH : s.H[i]? = some (some g, .blk n f)) {cur cs : Array Value} {ty : TypeId} (hc : w.heap[g]? = some (.cells cur ty (0, 0))) (hs : cs.size = cur.size)
    (hn : n' ≤ cs.size) (hf : ∀ j, j < n' → RepC G.al St w (f' j) (cs.getD j undef)) : RelSt G St ⟨s.env, s.b, s.H.set i (some g, .blk n' f')⟩ a (w.setRow g cs) := by
  obtain ⟨fp, hp⟩ := h.hp
  have hlt : i < s.H.length := (List.getElem?_eq_some_iff.1 hH).1
  have hrep := hp.rep i (some g) _ hH
  have hg : fp i g := (hrep.1 g).2 rfl
  obtain ⟨hg1, hg2, hg3⟩ := hp.own i g hg
  have hnew := setRow_heap w g cur cs ty (0, 0) hc
  have hold : ∀ b, b ≠ g → (w.setRow g cs).heap[b]? = w.heap[b]? := fun b hb => setRow_other w g b cs hb
  have hsz : (w.setRow g cs).heap.size = w.heap.size := by simp [World.setRow]
  have he : Evo St w (w.setRow g cs) := ⟨fun b cu ct cz hb hcu => (hold b (fun e => hg2 (e ▸ hb))).trans hcu, fun b cu t z hb => by
    by_cases e : b = g
    · subst e
      rw [hc] at hb
      cases hb
      exact ⟨cs, (0, 0), hnew, hs⟩
    · exact ⟨cu, z, (hold b e).trans hb, rfl⟩⟩
  refine ⟨h.df.keep (fun _ h => h) (fun b hb => hold b (fun e => hg2 (e ▸ hb))), h.sz, fun d => RepC.evo he (fun _ x => x) _ _ (h.env d), ⟨h.un.os, h.un.tape, h.un.output, by rw [hsz]; exact h.un.size, fun k hk hF => ?_, fun b cu t z hb => ?_⟩, h.s1, h.s2, fun b hb => by rw [hsz]; exact h.s3 b hb, ?_, ?_, h.sg⟩
  · refine (hold k (fun e => ?_)).trans (h.un.block k hk hF)
    subst e
    rcases hg3 with h1 | h1
    · omega
    · exact hF h1
  · obtain ⟨cur', z', h1, h2⟩ := h.un.sh b cu t z hb
    obtain ⟨cur2, z2, h3, h4⟩ := he.sh b cur' t z' h1
    exact ⟨cur2, z2, h3, h4.trans h2⟩
  · refine ⟨fp, fun j q r hj => ?_, hp.dis, fun j b hb => by rw [hsz]; exact hp.own j b hb, fun j hj => hp.out j (by simpa using hj)⟩
    by_cases e : j = i
    · subst e
      simp [hlt] at hj
      obtain ⟨rfl, rfl⟩ := hj
      exact ⟨hrep.1, cs, ty, hnew, hn, fun m hm => RepC.evo he (fun _ x => x) _ _ (hf m hm)⟩
    · rw [List.getElem?_set_ne (Ne.symm e)] at hj
      exact Res.rep_evo he (fun _ x => x) (fun b hF => hold b (fun e2 => e (hp.dis j i b hF (e2 ▸ hg)))) (hp.rep j q r hj)
  · exact SentL.keep h.sn (fun q hq => hold q (fun e => hg2 (e ▸ h.sg.1 q hq))) (fun q hq => hold _ (fun e => hg2 (e ▸ h.sg.2 q hq)))

/-- the last block takes the place of the i-th, which is gone -/
theorem RelSt.move {St : Nat → Prop} {a : Act} {w : World} {env : List (Nat × CV)} {b0 : Nat → CV} {H : List (Option Nat × Res)} {x : Option Nat × Res} (h : RelSt G St ⟨env, b0, H ++ [x]⟩ a w) {i : Nat} (hi : i < H.length) : RelSt G St ⟨env, b0, H.set i x⟩ a w := by
  refine ⟨h.df, h.sz, h.env, h.un, h.s1, h.s2, h.s3, ?_, h.sn, h.sg⟩
  obtain ⟨fp, hp⟩ := h.hp
  refine ⟨fun j b => j < H.length ∧ if j = i then fp H.length b else fp j b, fun j q r' hj => ?_, fun j l b h1 h2 => ?_, fun j b h1 => ?_, fun j hj b h1 => ?_⟩
  · have hj1 : j < H.length := by
      have := (List.getElem?_eq_some_iff.1 hj).1
      simpa using this
    by_cases e : j = i
    · subst e
      simp [hi] at hj
      have e2 : (fun b => j < H.length ∧ if j = j then fp H.length b else fp j b) = fp H.length := funext fun b => by simp [hi]
      show r'.rep G.al St w (fun b => j < H.length ∧ if j = j then fp H.length b else fp j b) q
      rw [e2]
      exact hp.rep H.length q r' (by simp [hj])
    · rw [List.getElem?_set_ne (Ne.symm e)] at hj
      have e3 : (fun b => j < H.length ∧ if j = i then fp H.length b else fp j b) = fp j := funext fun b => by simp [e, hj1]
      show r'.rep G.al St w (fun b => j < H.length ∧ if j = i then fp H.length b else fp j b) q
      rw [e3]
      exact hp.rep j q r' (by rw [List.getElem?_append_left hj1]; exact hj)
  · obtain ⟨a1, a2⟩ := h1
    obtain ⟨b1, b2⟩ := h2
    by_cases e1 : j = i <;> by_cases e2 : l = i
    · omega
    · simp only [e1, e2, if_true, if_false] at a2 b2
      have := hp.dis _ _ b a2 b2
      omega
    · simp only [e1, e2, if_true, if_false] at a2 b2
      have := hp.dis _ _ b a2 b2
      omega
    · simp only [e1, e2, if_false] at a2 b2
      exact hp.dis j l b a2 b2
  · by_cases e : j = i
    · simp only [e, if_true] at h1; exact hp.own _ b h1.2
    · simp only [e, if_false] at h1; exact hp.own j b h1.2
  · have : H.length ≤ j := by simpa using hj
    omega
theorem RelSt.kill {St : Nat → Prop} {a : Act} {w : World} {env : List (Nat × CV)} {b0 : Nat → CV} {H : List (Option Nat × Res)} (h : RelSt G St ⟨env, b0, H⟩ a w) (i : Nat) (g' : Option Nat) : RelSt G St ⟨env, b0, H.set i (g', .dead)⟩ a w := by
  refine ⟨h.df, h.sz, h.env, h.un, h.s1, h.s2, h.s3, ?_, h.sn, h.sg⟩
  obtain ⟨fp, hp⟩ := h.hp
  refine ⟨fun j b => j ≠ i ∧ fp j b, fun j q r' hj => ?_, fun j l b h1 h2 => hp.dis j l b h1.2 h2.2, fun j b h1 => hp.own j b h1.2, fun j hj b h1 => hp.out j (by simpa using hj) b h1.2⟩
  by_cases e2 : j = i
  · subst e2
    have hj1 := (List.getElem?_eq_some_iff.1 hj).1
    simp at hj1
    simp [hj1] at hj
    obtain ⟨rfl, rfl⟩ := hj
    have hd : ∀ F : Nat → Prop, (∀ b, ¬ F b) → Res.rep G.al St w F g' .dead := fun F hF => by cases g' <;> exact hF
    exact hd _ fun b hb => hb.1 rfl
  · rw [List.getElem?_set_ne (Ne.symm e2)] at hj
    have e3 : (fun b => j ≠ i ∧ fp j b) = fp j := funext fun b => by simp [e2]
    show r'.rep G.al St w (fun b => j ≠ i ∧ fp j b) q
    rw [e3]
    exact hp.rep j q r' hj

/-! ### stores -/
def updF (f : Nat → CV) (off : Nat) : List CV → Nat → CV
  | [] => f
  | x :: r => updF (fun j => match Nat.beq j off with | true => x | false => f j) (off + 1) r
theorem updF_get : ∀ (l : List CV) (f : Nat → CV) (off j : Nat), updF f off l j = if off ≤ j ∧ j < off + l.length then fl l (j - off) else f j
  | [], f, off, j => by rw [updF, if_neg (by simp)]
  | x :: r, f, off, j => by
    rw [updF, updF_get r _ (off + 1) j]
    by_cases h1 : off + 1 ≤ j ∧ j < off + 1 + r.length
    · rw [if_pos h1, if_pos (by simp; omega)]
      obtain ⟨m, hm⟩ : ∃ m, j - off = m + 1 := ⟨j - off - 1, by omega⟩
      rw [hm, show j - (off + 1) = m by omega, fl]
    · rw [if_neg h1]
      rcases beq_cases j off with ⟨hb, he⟩ | ⟨hb, he⟩
      · subst he
        simp only [hb]
        rw [if_pos (by simp), Nat.sub_self, fl]
      · simp only [hb]
        rw [if_neg (by simp; omega)]

theorem row_at (cur : Array Value) (vs : List Value) (off : Nat) (h : off + vs.length ≤ cur.size) (j : Nat) : ((cur.toList.take off ++ vs ++ cur.toList.drop (off + vs.length)).toArray).getD j undef = if off ≤ j ∧ j < off + vs.length then vs.getD (j - off) undef else cur.getD j undef := by
  simp only [Array.getD_eq_getD_getElem?, List.getElem?_toArray, List.getD_eq_getElem?_getD]
  have hm : min off cur.size = off := by omega
  congr 1
  by_cases h1 : j < off
  · rw [if_neg (by omega), List.getElem?_append_left (by simp; omega), List.getElem?_append_left (by simp; omega), List.getElem?_take, if_pos h1, Array.getElem?_toList]
  · by_cases h2 : j < off + vs.length
    · rw [if_pos (by omega), List.getElem?_append_left (by simp; omega), List.getElem?_append_right (by simp; omega)]
      congr 1
      simp [hm]
    · have h9 : (cur.toList.take off ++ vs).length = off + vs.length := by simp [hm]
      rw [if_neg (by omega), List.getElem?_append_right (by omega), List.getElem?_drop, Array.getElem?_toList, h9, show off + vs.length + (j - (off + vs.length)) = j by omega]

theorem storeAll {al : List Addr} {St : Nat → Prop} {w : World} {l : List CV} {cs : Array Value} (h : RepL al St w l cs) (hl : l.all leafC = true) : ∀ v ∈ cs.toList, v.oneCell' = true := by
  intro v hv
  obtain ⟨i, hi, e⟩ := List.mem_iff_getElem.1 hv
  have hi' : i < l.length := by rw [← h.1]; simpa using hi
  have h2 := h.2 i hi'
  have hi2 : i < cs.size := by simpa using hi
  have e2 : cs.getD i undef = v := by simp [hi2]; simpa using e
  rw [e2] at h2
  refine leaf_one (c := fl l i) ?_ h2
  rw [fl_get]
  have := List.all_eq_true.1 hl (l.getD i .top) (by simp [List.getD, hi'])
  exact this

theorem md_store {i off n m : Nat} {g : Option Nat} {f : Nat → CV} {c : CV} {l : List CV} (ho : o.op = .store t x y) (hx : s.eval x = .op i g off) (hH : s.H[i]? = some (g, .blk n f)) (hy : s.eval y = c) (hl : cellsC c = some l) (h5 : (P.info? t).map (·.size) = some m) (hm : l.length = m) (hleaf : l.all leafC = true) (hn : off + m ≤ n)
    (F : Nat → CV) (hF : ∀ j, j < n → CEnt (updF f off l j) (F j)) (hd : dstOk G o = true) (hK : K (s.with o.dst (.c undef) (s.H.set i (g, .blk n F)))) : AMd P G o s K := fun St a w hr Q => by
  obtain ⟨info, hi, h6⟩ := Option.map_eq_some_iff.1 h5
  obtain ⟨b, rfl, e⟩ := evR hr hx
  have hc := cells_rep (evR hr hy) hl
  obtain ⟨fp, hp⟩ := hr.hp
  obtain ⟨h00, cur, ty, hh, hle, hcell⟩ := hp.rep i (some b) _ hH
  have hst := run_storeCells_at P b off ty (a.eval y).cells.toList 0 cur w hh (by simp [hc.1]; omega) (storeAll hc hleaf)
  simp only [Nat.add_zero] at hst
  have hrun : (execOp a.eval o).run P w = .ok .skip (w.setRow b (cur.toList.take off ++ (a.eval y).cells.toList ++ cur.toList.drop (off + (a.eval y).cells.toList.length)).toArray) := by
    simp only [execOp, ho, e]
    simp [Instr.storeAt, Instr.sureAddr, storeVar, sizeOf, typeInfo, hi, h6, hc.1, hm]
    rw [show (a.eval y).cells.toList.length = m by simp [hc.1, hm]] at hst
    simp [hst]
  unfold Oper.wp
  rw [hrun]
  have hlen : (a.eval y).cells.toList.length = m := by simp [hc.1, hm]
  refine ⟨fun q hq => setRow_other w b q _ (fun e => (hp.own i b ((h00 b).2 rfl)).2.1 (e ▸ hq)), St, fun _ h => h, _, hK, ?_⟩
  have hw := hr.write hH hh (cs := (cur.toList.take off ++ (a.eval y).cells.toList ++ cur.toList.drop (off + (a.eval y).cells.toList.length)).toArray) (by simp [hc.1]; omega) (n' := n) (f' := F) (by simp [hc.1]; omega) (fun j hj => by
    refine hF j hj _ _ _ _ ?_
    rw [updF_get, row_at cur _ off (by rw [hlen]; omega), hlen, hm]
    by_cases h1 : off ≤ j ∧ j < off + m
    · rw [if_pos h1, if_pos h1]
      have := hc.2 (j - off) (by omega)
      simpa [List.getD] using this
    · rw [if_neg h1, if_neg h1]
      exact hcell j hj)
  have := hw.put (dst := o.dst) (v := .c undef) (x := undef) (dst_of hd) rfl
  cases ho : o.dst with
  | none => rw [ho] at this; exact this
  | some d => rw [ho] at this; exact this

/-! ### append -/
def SrcAt (P : Program) (al : List Addr) (St : Nat → Prop) (w : World) (xv : Value) (k m : Nat) (f : Nat → CV) : Prop :=
  ∃ cs : List Value, cs.length = m * k ∧ (∀ j, j < m * k → RepC al St w (f j) (cs.getD j undef)) ∧ ∀ W, W.heap = w.heap → (Builtin.lenOf xv).run P W = .ok m W ∧ (Builtin.firstCells k m xv).run P W = .ok cs.toArray W
def ASrc (P : Program) (G : Gh) (s : AS) (y : Operand) (k m : Nat) (f : Nat → CV) : Prop := ∀ St a w, RelSt G St s a w → SrcAt P G.al St w (a.eval y) k m f

theorem cell_heap {w W : World} (h : W.heap = w.heap) (p : Addr) : W.cell? p = w.cell? p := by simp [World.cell?, h]
theorem src_cells {al : List Addr} {St : Nat → Prop} {w : World} {k m cap : Nat} {f : Nat → CV} {b q : Nat} {g : Nat → Value} (h : ∀ j, j < m * k → w.cell? ⟨b, q + j, none⟩ = some (g j) ∧ RepC al St w (f j) (g j)) : SrcAt P al St w (.slice (some ⟨b, q, none⟩) m cap) k m f := by
  refine ⟨(List.range (m * k)).map g, by simp, fun j hj => by simp [List.getD, hj]; exact (h j hj).2, fun W hW => ⟨rfl, ?_⟩⟩
  have := run_loadCells (P := P) (w := W) ⟨b, q, none⟩ (m * k) g (fun j hj => by rw [addr_add, cell_heap hW]; exact (h j hj).1)
  simpa [Builtin.firstCells] using this
theorem src_none {al : List Addr} {St : Nat → Prop} {w : World} {k cap : Nat} {f : Nat → CV} : SrcAt P al St w (.slice none 0 cap) k 0 f :=
  ⟨[], by simp, fun j hj => by simp at hj, fun W _ => ⟨rfl, by simp [Builtin.firstCells]⟩⟩
theorem src_rs {k m : Nat} {f : Nat → Nat → CV} (hy : s.eval y = .rs k m f) : ASrc P G s y k m fun j => f (j / k) (j % k) := fun St a w h => by
  obtain ⟨ao, cap, e, h1, h2, h3, h4⟩ := evR h hy
  rw [e]
  cases ao with
  | none =>
    have := h3 rfl
    have hm : m = 0 := by omega
    subst hm
    exact src_none
  | some ad =>
    by_cases h0 : m * k = 0
    · refine ⟨[], by simp [h0], fun j hj => by omega, fun W _ => ⟨rfl, ?_⟩⟩
      have := run_loadCells (P := P) (w := W) ad 0 (fun _ => undef) (fun j hj => by omega)
      simp [Builtin.firstCells, h0] at this ⊢
      exact this
    · have hk : 0 < k := Nat.pos_of_ne_zero fun e => h0 (by rw [e, Nat.mul_zero])
      have hm : 0 < m := Nat.pos_of_ne_zero fun e => h0 (by rw [e, Nat.zero_mul])
      obtain ⟨b, q, sp⟩ := ad
      obtain ⟨h5, h6, h7⟩ := h4 _ rfl hm
      simp only at h5
      subst h5
      obtain ⟨g, hg⟩ := choose_cells (n := m * k) (p := fun j v => w.cell? ⟨b, q + j, none⟩ = some v ∧ RepC G.al St w (f (j / k) (j % k)) v) (fun j hj => by
        obtain ⟨v, hv, hr⟩ := h7 (j / k) (j % k) (Nat.div_lt_of_lt_mul (by rw [Nat.mul_comm]; exact hj)) (Nat.mod_lt _ hk)
        refine ⟨v, ?_, hr⟩
        have h9 := Nat.div_add_mod j k
        rw [Nat.mul_comm] at h9
        have e2 : q + j = q + (j / k * k + j % k) := by omega
        rw [e2]
        exact hv)
      exact src_cells hg
theorem src_os {i off k m N : Nat} {g : Option Nat} {F : Nat → CV} (hy : s.eval y = .os i g off m k) (hH : Holds s i g N F) (hN : off + m * k ≤ N) : ASrc P G s y k m fun j => F (off + j) := fun St a w h => by
  have he := evR h hy
  cases g with
  | none =>
    obtain ⟨h1, h2⟩ := he
    subst h1
    rw [h2]
    exact src_none
  | some b =>
    obtain ⟨cap, e, _⟩ := he
    rw [e]
    obtain ⟨hg, cur, ty, z, hh, hle, hc⟩ := holdCells h hH
    refine src_cells (g := fun j => cur.getD (off + j) undef) fun j hj => ⟨?_, hc _ (by omega)⟩
    have hlt : off + j < cur.size := by omega
    rw [cell_of_row w b _ cur ty z hh]; simp [hlt]
theorem src_str {l : ByteArray} (hy : s.eval y = .c (.string l)) : ASrc P G s y 1 l.size (byF l.data.toList) := fun St a w h => by
  rw [evC h hy]
  refine ⟨l.data.toList.map fun b => .int .u8 (b.toNat : Nat), by simp, fun j hj => ?_, fun W _ => ⟨rfl, ?_⟩⟩
  · have hj : j < l.data.size := by simpa using hj
    have e : l.data[j]? = some l.data[j] := Array.getElem?_eq_getElem hj
    simp [List.getD, e, byF]
    rfl
  · simp [Builtin.firstCells]
    apply Array.ext'
    simp
theorem src_nil {k : Nat} {f : Nat → CV} (hy : s.eval y = .c (.slice none 0 0)) : ASrc P G s y k 0 f := fun St a w h => by
  rw [evC h hy]
  exact src_none

def notInt (P : Program) (u : TypeId) : Bool := match P.underlying u with | some (.int _) => false | some _ => true | none => false
theorem run_app_room {e ty : TypeId} {info : TypeInfo} {size n m cap : Nat} {base : Option Addr} {xv : Value} {news : List Value} {w : World} (h1 : P.underlying t = some (.slice e)) (hu : notInt P u = true) (hi : P.info? e = some info) (hs : info.size = size)
    (hl : (Builtin.lenOf xv).run P w = .ok m w) (hn : (Builtin.firstCells size m xv).run P w = .ok news.toArray w) (hroom : n + m ≤ cap) {w' : World} (hst : ∀ ad, base = some ad → (storeCells (ad.add (n * size)) news).run P w = .ok () w') (h0 : base = none → w' = w) :
    (Builtin.append_ #[t, u] ty #[.slice base n cap, xv]).run P w = .ok (.slice base (n + m) cap) w' := by
  cases hu' : P.underlying u with
  | none => simp [notInt, hu'] at hu
  | some d =>
    cases base with
    | none =>
      rw [h0 rfl]
      cases d <;> first | (simp [notInt, hu'] at hu; done) | skip
      all_goals simp only [Builtin.append_, List.getElem?_toArray, List.getElem?_cons_zero, List.getElem?_cons_succ, underlying, Sem.run_bind, run_program, Result.andThen_ok, h1, hu', Sem.run_pure, sizeOf, typeInfo, hi, hs, Bool.false_eq_true, if_false, hl, if_pos hroom, Bool.not_false, if_true, hn]
    | some ad =>
      have hst := hst ad rfl
      cases d <;> first | (simp [notInt, hu'] at hu; done) | skip
      all_goals simp only [Builtin.append_, List.getElem?_toArray, List.getElem?_cons_zero, List.getElem?_cons_succ, underlying, Sem.run_bind, run_program, Result.andThen_ok, h1, hu', Sem.run_pure, sizeOf, typeInfo, hi, hs, Bool.false_eq_true, if_false, hl, if_pos hroom, Bool.not_false, if_true, hn, hst]

theorem run_app_grow {e ty : TypeId} {info : TypeInfo} {z : Value} {size n m cap : Nat} {base : Option Addr} {xv : Value} {olds news : List Value} {w : World} (h1 : P.underlying t = some (.slice e)) (hu : notInt P u = true) (hi : P.info? e = some info) (hs : info.size = size) (hz : info.zero = some z)
    (hl : ∀ W, W.heap = w.heap → (Builtin.lenOf xv).run P W = .ok m W) (ho : ∀ W, W.heap = w.heap → (Builtin.firstCells size n (.slice base n cap)).run P W = .ok olds.toArray W) (hn : ∀ W, W.heap = w.heap → (Builtin.firstCells size m xv).run P W = .ok news.toArray W) (hroom : cap < n + m)
    (h63 : n + m ≤ 9223372036854775807) (h48 : (n + m) * info.bytes ≤ 140737488355328) :
    (Builtin.append_ #[t, u] ty #[.slice base n cap, xv]).run P w = .ok (.slice (some ⟨w.heap.size, 0, none⟩) (n + m) (grownCap w (n + m) cap e)) (w.drew.alloc (.cells (olds.toArray ++ news.toArray ++ Builtin.zeroCells z.cells (grownCap w (n + m) cap e - (n + m))) e)) := by
  have hnot : ¬ (n + m ≤ cap) := by omega
  have hfit := growslice_fits hroom h48
  have h63' : ¬ (9223372036854775807 < ((n : Int) + (m : Int))) := by omega
  have h48' : ¬ (281474976710656 < Builtin.nextslicecap (n + m) cap * info.bytes) := by omega
  have hl0 := hl w rfl
  have ho1 := ho w.drew rfl
  have hn1 := hn w.drew rfl
  cases hu' : P.underlying u with
  | none => simp [notInt, hu'] at hu
  | some d =>
    have h64 : ¬ (((n + m : Nat) : Int) > IntKind.i64.max ∧ (false = true ∨ info.bytes = 0)) := by simp [IntKind.max, IntKind.bits, IntKind.signed]; omega
    have h49 : ¬ (Builtin.nextslicecap (n + m) cap * info.bytes > 2 ^ 48) := by omega
    have hch : (choose (.appendCap (n + m) cap e)).run P w = .ok (grownCap w (n + m) cap e) w.drew := by simp [Question.forced, grownCap]
    cases d <;> first | (simp [notInt, hu'] at hu; done) | skip
    all_goals simp only [Builtin.append_, List.getElem?_toArray, List.getElem?_cons_zero, List.getElem?_cons_succ, underlying, Sem.run_bind, run_program, Result.andThen_ok, h1, hu', Sem.run_pure, sizeOf, typeInfo, hi, hs, Bool.false_eq_true, if_false, hl0, if_neg hnot, hz, zeroValue, if_neg h49, Bool.not_false, if_true, hch, run_askRoom, ho1, hn1, newRow, run_newObj, World.alloc_eq]
    all_goals (try (rw [if_neg (by simp [IntKind.max, IntKind.bits, IntKind.signed]; omega)]))
    all_goals (try simp only [Builtin.append_, List.getElem?_toArray, List.getElem?_cons_zero, List.getElem?_cons_succ, underlying, Sem.run_bind, run_program, Result.andThen_ok, h1, hu', Sem.run_pure, sizeOf, typeInfo, hi, hs, Bool.false_eq_true, if_false, hl0, if_neg hnot, hz, zeroValue, if_neg h49, Bool.not_false, if_true, hch, run_askRoom, ho1, hn1, newRow, run_newObj, World.alloc_eq, World.size_drew])

theorem row_app (olds news : List Value) (rest : Array Value) (j : Nat) (h : j < olds.length + news.length) : (olds.toArray ++ news.toArray ++ rest).getD j undef = if j < olds.length then olds.getD j undef else news.getD (j - olds.length) undef := by
  simp only [Array.getD_eq_getD_getElem?, List.getD_eq_getElem?_getD]
  rw [Array.getElem?_append_left (by simp; omega)]
  split
  · rename_i h1
    rw [Array.getElem?_append_left (by simpa using h1)]
    simp
  · rename_i h1
    rw [Array.getElem?_append_right (by simp; omega)]
    simp

def appF (n : Nat) (f h : Nat → CV) (j : Nat) : CV := if j < n then f j else h (j - n)

theorem below_drewAlloc (w : World) (x : Obj) : Below w.heap.size w (w.drew.alloc x) := below_then (below_drew1 w) (below_alloc w.drew x)

theorem exec_append {xs : Array Operand} {ats : Array TypeId} (ho : o.op = .call ⟨.builtin .append, xs, ats⟩) {a : Act} {v : Value} {w w' : World} (h : (Builtin.append_ ats o.type (xs.map a.eval)).run P w = .ok v w') : (execOp a.eval o).run P w = .ok (.value v) w' := by
  simp [execOp, ho, resolve, invoke, builtin, h]

set_option maxHeartbeats 1000000 in
/-- append to a slice of its own, which begins where its block begins (or is nil) -/
theorem md_append {e : TypeId} {z : Value} {i n m k N by_ : Nat} {g : Option Nat} {f h : Nat → CV} (ho : o.op = .call ⟨.builtin .append, #[x, y], #[t, u]⟩) (hx : s.eval x = .os i g 0 n k) (hH : s.H[i]? = some (g, .blk N f)) (hN : n * k ≤ N)
    (hsrc : ASrc P G s y k m h) (h1 : P.underlying t = some (.slice e)) (hu : notInt P u = true) (h5 : (P.info? e).map (·.size) = some k) (hz : (P.info? e).map (·.zero) = some (some z)) (hby : (P.info? e).map (·.bytes) = some by_)
    (h63 : n + m ≤ 9223372036854775807) (h48 : (n + m) * by_ ≤ 140737488355328) (hzk : z.cells.size = k)
    (F : Nat → CV) (hF : ∀ j, j < (n + m) * k → CEnt (appF (n * k) f h j) (F j)) (hleaf : ∀ j, j < m * k → leafC (h j) = true) (hd : dstOk G o = true)
    (hK : ∀ g', K (s.with o.dst (.os i g' 0 (n + m) k) (s.H.set i (g', .blk ((n + m) * k) F)))) : AMd P G o s K := fun St a w hr Q => by
  obtain ⟨info, hi, hs⟩ := Option.map_eq_some_iff.1 h5
  obtain ⟨info', hi', hz⟩ := Option.map_eq_some_iff.1 hz
  obtain rfl := Option.some.inj (hi.symm.trans hi')
  obtain ⟨info', hi', hby⟩ := Option.map_eq_some_iff.1 hby
  obtain rfl := Option.some.inj (hi.symm.trans hi')
  obtain ⟨news, hnl, hnr, hrun⟩ := hsrc St a w hr
  have he := evR hr hx
  have hlen : (n + m) * k = n * k + m * k := Nat.add_mul ..
  -- the value's parts
  obtain ⟨base, cap, ev, hle, hcap, hbase⟩ : ∃ base cap, a.eval x = .slice base n cap ∧ n ≤ cap ∧ cap ≤ 9223372036854775807 ∧ ((g = none ∧ base = none ∧ cap = 0 ∧ n = 0) ∨ ∃ b, g = some b ∧ base = some ⟨b, 0, none⟩ ∧ ∃ cur t z, w.heap[b]? = some (.cells cur t z) ∧ 0 + cap * k ≤ cur.size) := by
    cases g with
    | none => obtain ⟨h1, h2⟩ := he; exact ⟨none, 0, by rw [h2, h1], by omega, by omega, .inl ⟨rfl, rfl, rfl, h1⟩⟩
    | some b => obtain ⟨cap, h1, h2, h3, h4⟩ := he; exact ⟨_, cap, h1, h2, h3, .inr ⟨b, rfl, rfl, h4⟩⟩
  have hargs : (#[x, y] : Array Operand).map a.eval = #[a.eval x, a.eval y] := by simp
  have put : ∀ {w' : World} {v : Value} {c : CV} {H : List (Option Nat × Res)}, RelSt G St ⟨s.env, s.b, H⟩ a w' → RepC G.al St w' c v → RelSt G St (s.with o.dst c H) (a.put o.dst v) w' := fun {w' v c H} h1 h2 => by
    have := h1.put (dst := o.dst) (dst_of hd) h2
    cases ho : o.dst with
    | none => rw [ho] at this; exact this
    | some d => rw [ho] at this; exact this
  by_cases hroom : n + m ≤ cap
  · -- in place
    rcases hbase with ⟨hg, hb, hc0, hn0⟩ | ⟨b, hg, hb, cu, tt, zz, hcu, hfit⟩
    · subst hg hb
      have hm0 : m = 0 := by omega
      subst hm0
      have hrun' := run_app_room (t := t) (u := u) (ty := o.type) h1 hu hi hs (hrun w rfl).1 (hrun w rfl).2 hroom (base := none) (w' := w) (fun _ h => by simp at h) (fun _ => rfl)
      unfold Oper.wp
      rw [exec_append ho (by rw [hargs, ev]; exact hrun')]
      refine ⟨KeepS.refl _ _, St, fun _ h => h, _, hK none, ?_⟩
      have hlt := (List.getElem?_eq_some_iff.1 hH).1
      have hmv : RelSt G St ⟨s.env, s.b, s.H.set i (none, .blk ((n + 0) * k) F)⟩ a w := by
        refine ⟨hr.df, hr.sz, hr.env, hr.un, hr.s1, hr.s2, hr.s3, ?_, hr.sn, hr.sg⟩
        obtain ⟨fp, hp⟩ := hr.hp
        refine ⟨fp, fun j q r hj => ?_, hp.dis, hp.own, fun j hj => hp.out j (by simpa using hj)⟩
        by_cases hj2 : j = i
        · subst hj2
          simp [hlt] at hj
          obtain ⟨rfl, rfl⟩ := hj
          exact ⟨by simp [hn0], (hp.rep j none _ hH).2⟩
        · rw [List.getElem?_set_ne (Ne.symm hj2)] at hj
          exact hp.rep j q r hj
      exact put hmv ⟨by omega, by rw [hn0, hc0]⟩
    · subst hg hb
      obtain ⟨fp, hp⟩ := hr.hp
      obtain ⟨hb0, cur, ty, hh, hle2, hcell⟩ := hp.rep i (some b) _ hH
      have hq := Option.some.inj (hcu.symm.trans hh)
      injection hq with e1 e2 e3
      have hfit : 0 + cap * k ≤ cur.size := e1 ▸ hfit
      have hfit2 : n * k + news.length ≤ cur.size := by
        rw [hnl, ← hlen]
        exact Nat.le_trans (Nat.mul_le_mul_right _ hroom) (by omega)
      have hone : ∀ v ∈ news, v.oneCell' = true := fun v hv => by
        obtain ⟨j, hj, e⟩ := List.mem_iff_getElem.1 hv
        have h2 := hnr j (by omega)
        rw [show news.getD j undef = v by simp [List.getD, hj, e]] at h2
        exact leaf_one (hleaf j (by omega)) h2
      have hst := run_storeCells_at P b (n * k) ty news 0 cur w hh (by simpa using hfit2) hone
      simp only [Nat.add_zero] at hst
      have hrun' := run_app_room (t := t) (u := u) (ty := o.type) h1 hu hi hs (hrun w rfl).1 (hrun w rfl).2 hroom (base := some ⟨b, 0, none⟩) (w' := w.setRow b (cur.toList.take (n * k) ++ news ++ cur.toList.drop (n * k + news.length)).toArray) (fun ad h => by
        have h := Option.some.inj h
        subst h
        rw [addr_add, Nat.zero_add]
        exact hst) (fun h => by simp at h)
      unfold Oper.wp
      rw [exec_append ho (by rw [hargs, ev]; exact hrun')]
      refine ⟨fun q hq => setRow_other w b q _ (fun e => (hp.own i b ((hb0 b).2 rfl)).2.1 (e ▸ hq)), St, fun _ h => h, _, hK (some b), ?_⟩
      have hw := hr.write hH hh (cs := (cur.toList.take (n * k) ++ news ++ cur.toList.drop (n * k + news.length)).toArray) (by simp; omega) (n' := (n + m) * k) (f' := F) (by simp; omega) (fun j hj => by
        refine hF j hj _ _ _ _ ?_
        rw [row_at cur news (n * k) hfit2]
        unfold appF
        by_cases h3 : j < n * k
        · rw [if_pos h3, if_neg (by omega)]; exact hcell j (by omega)
        · rw [if_neg h3, if_pos (by omega)]; exact hnr _ (by omega))
      refine put hw ⟨cap, rfl, hroom, hcap, ?_⟩
      exact ⟨_, _, _, setRow_heap w b cur _ _ _ hh, by simp; omega⟩
  · -- a new row
    have hroom : cap < n + m := by omega
    obtain ⟨olds, hol, hor, horun⟩ : SrcAt P G.al St w (.slice base n cap) k n f := by
      rcases hbase with ⟨hg, hb, hc0, hn0⟩ | ⟨b, hg, hb, _⟩
      · subst hb hn0 hc0; exact src_none
      · subst hg hb
        obtain ⟨_, cur, tt, zz, hh, hle, hc⟩ := blkCells hr hH
        refine src_cells (g := fun j => cur.getD j undef) fun j hj => ⟨?_, hc j (by omega)⟩
        have hlt : j < cur.size := by omega
        rw [Nat.zero_add, cell_of_row w b j cur tt zz hh]; simp [hlt]
    have hrun' := run_app_grow (t := t) (u := u) (ty := o.type) h1 hu hi hs hz (fun W hW => (hrun W hW).1) (fun W hW => (horun W hW).2) (fun W hW => (hrun W hW).2) hroom h63 (by rw [hby]; exact h48)
    unfold Oper.wp
    rw [exec_append ho (by rw [hargs, ev]; exact hrun')]
    refine ⟨keep_of_below hr (below_drewAlloc w _), St, fun _ h => h, _, hK (some w.heap.size), ?_⟩
    have hgc : n + m ≤ grownCap w (n + m) cap e ∧ grownCap w (n + m) cap e ≤ 9223372036854775807 := by
      have hlt := Nat.mod_lt (w.tape w.drawn (.appendCap (n + m) cap e)) (show 0 < 2 ^ 63 - (n + m) by omega)
      simp only [grownCap, Question.cut]
      omega
    have hcell0 : (w.drew.alloc (.cells (olds.toArray ++ news.toArray ++ Builtin.zeroCells z.cells (grownCap w (n + m) cap e - (n + m))) e)).heap[w.heap.size]? = some (.cells (olds.toArray ++ news.toArray ++ Builtin.zeroCells z.cells (grownCap w (n + m) cap e - (n + m))) e (0, 0)) := heap_alloc_new w.drew _
    have hsize : (olds.toArray ++ news.toArray ++ Builtin.zeroCells z.cells (grownCap w (n + m) cap e - (n + m))).size = grownCap w (n + m) cap e * k := by
      simp [Builtin.zeroCells, hol, hnl, hzk]
      rw [← Nat.add_mul, ← Nat.add_mul]
      congr 1
      omega
    have hEvo : Evo St w (w.drew.alloc (.cells (olds.toArray ++ news.toArray ++ Builtin.zeroCells z.cells (grownCap w (n + m) cap e - (n + m))) e)) := Evo.of_below (below_drewAlloc w _) hr.s3
    have hfr := hr.fresh (below_drewAlloc w _) (Nat.le_refl _) hcell0 (n := (n + m) * k) (f := F) (by rw [hsize]; exact Nat.mul_le_mul_right _ hgc.1) (fun j hj => by
      refine hF j hj _ _ _ _ (RepC.evo hEvo (fun _ x => x) _ _ ?_)
      unfold appF
      rw [row_app olds news _ j (by omega), hol]
      by_cases h3 : j < n * k
      · rw [if_pos h3, if_pos h3]; exact hor j h3
      · rw [if_neg h3, if_neg h3]; exact hnr (j - n * k) (by omega))
    have hkl := hfr.move ((List.getElem?_eq_some_iff.1 hH).1)
    refine put hkl ⟨_, rfl, hgc.1, hgc.2, _, _, _, hcell0, ?_⟩
    rw [hsize]
    omega
end
end Am
end Go.Proofs.YtdfjiodkmhpfkaaDoor

/- The abstract walk, seventh part: slices of slices and texts, lengths, function values, texts and bytes, make, more lemmas on what entails what. -/
namespace Go.Proofs.YtdfjiodkmhpfkaaDoor
set_option linter.unusedVariables false
open Go.RowKit
namespace Am
section
variable {P : Program} {G : Gh} {ops : Array Oper} {o : Oper} {s : AS} {K : AS → Prop} {t u : TypeId} {x y : Operand} {k : IntKind}

/-! ### lengths -/
theorem exec_len {ats : Array TypeId} (ho : o.op = .call ⟨.builtin .len, #[x], ats⟩) {a : Act} {v : Value} {w : World} (h : (Builtin.len_ ats o.type #[a.eval x]).run P w = .ok v w) : (execOp a.eval o).run P w = .ok (.value v) w := by
  simp [execOp, ho, resolve, invoke, builtin, h]
theorem rd_lenR {e : TypeId} {m n : Nat} {f : Nat → Nat → CV} (ho : o.op = .call ⟨.builtin .len, #[x], #[t]⟩) (hx : s.eval x = .rs m n f) (h1 : P.underlying t = some (.slice e)) : ARd P G o s (.c (.int .i64 (n : Nat))) := fun St a w h => by
  obtain ⟨ao, cap, e0, _⟩ := evR h hx
  exact ⟨_, fun W _ => exec_len ho (v := .int .i64 (n : Nat)) (by rw [e0]; simp [Builtin.len_, underlying, h1, goInt]), rfl⟩
theorem rd_lenO {e : TypeId} {i off m n : Nat} {g : Option Nat} (ho : o.op = .call ⟨.builtin .len, #[x], #[t]⟩) (hx : s.eval x = .os i g off n m) (h1 : P.underlying t = some (.slice e)) : ARd P G o s (.c (.int .i64 (n : Nat))) := fun St a w h => by
  obtain ⟨ao, cap, e0⟩ : ∃ ao cap, a.eval x = .slice ao n cap := by
    have he := evR h hx
    cases g with
    | none => exact ⟨none, 0, by rw [he.2, he.1]⟩
    | some b => obtain ⟨cap, e0, _⟩ := he; exact ⟨_, cap, e0⟩
  exact ⟨_, fun W _ => exec_len ho (v := .int .i64 (n : Nat)) (by rw [e0]; simp [Builtin.len_, underlying, h1, goInt]), rfl⟩
theorem rd_lenS {l : ByteArray} (ho : o.op = .call ⟨.builtin .len, #[x], #[t]⟩) (hx : s.eval x = .c (.string l)) (h1 : P.underlying t = some .string) : ARd P G o s (.c (.int .i64 (l.size : Nat))) := fun St a w h =>
  ⟨_, fun W _ => exec_len ho (v := .int .i64 (l.size : Nat)) (by rw [evC h hx]; simp [Builtin.len_, underlying, h1, goInt]), rfl⟩
theorem rd_lenN {e : TypeId} (ho : o.op = .call ⟨.builtin .len, #[x], #[t]⟩) (hx : s.eval x = .c (.slice none 0 0)) (h1 : P.underlying t = some (.slice e)) : ARd P G o s (.c (.int .i64 0)) := fun St a w h =>
  ⟨_, fun W _ => exec_len ho (v := .int .i64 0) (by rw [evC h hx]; simp [Builtin.len_, underlying, h1, goInt]), rfl⟩

theorem rd_max2 {p q : Int} {ats : Array TypeId} (ho : o.op = .call ⟨.builtin .max, #[x, y], ats⟩) (hx : s.eval x = .c (.int k p)) (hy : s.eval y = .c (.int k q)) : ARd P G o s (.c (.int k (max p q))) := fun St a w h =>
  ⟨_, fun W _ => by
    have e : max p q = if q > p then q else p := by split <;> omega
    simp [execOp, ho, resolve, invoke, builtin, evC h hx, evC h hy, Builtin.max_, Builtin.max2]
    rw [e], rfl⟩
theorem rd_min2 {p q : Int} {ats : Array TypeId} (ho : o.op = .call ⟨.builtin .min, #[x, y], ats⟩) (hx : s.eval x = .c (.int k p)) (hy : s.eval y = .c (.int k q)) : ARd P G o s (.c (.int k (min p q))) := fun St a w h =>
  ⟨_, fun W _ => by
    have e : min p q = if q < p then q else p := by split <;> omega
    simp [execOp, ho, resolve, invoke, builtin, evC h hx, evC h hy, Builtin.min_, Builtin.min2]
    rw [e], rfl⟩

/-! ### slices of slices and texts -/
/-- the bound of a slice expression: none, or a number -/
def Bd (s : AS) (d : Nat) : Option Operand → Nat → Prop
  | none, n => n = d
  | some x, n => ∃ (k : IntKind) (z : Int), s.eval x = .c (.int k z) ∧ z = (n : Int)
theorem bd_none (s : AS) (d : Nat) : Bd s d none d := rfl
theorem bd_some {d n : Nat} {z : Int} (hx : s.eval x = .c (.int k z)) (hz : z = (n : Int)) : Bd s d (some x) n := ⟨k, z, hx, hz⟩

theorem run_bounds {St : Nat → Prop} {a : Act} {w : World} (h : RelSt G St s a w) {lo hi : Option Operand} {l u n cap : Nat} (h1 : Bd s 0 lo l) (h2 : Bd s n hi u) (hlu : l ≤ u) (hu : u ≤ n) (hn : n ≤ cap) (is : Bool) (W : World) :
    (Instr.sliceBounds is n cap (lo.map a.eval) (hi.map a.eval) none).run P W = .ok (l, u, cap) W := by
  have hb : ∀ (x : Operand) (k : IntKind) (z : Int) (m y : Nat) (code : BoundsCode), s.eval x = .c (.int k z) → z = (m : Int) → m ≤ y → (Instr.sliceBound (a.eval x) y code).run P W = .ok m W := fun x k z m y code hx hz hm => by
    rw [evC h hx, hz]
    simp [Instr.sliceBound, asIntOf, hm]
  cases lo with
  | none =>
    have h1 : l = 0 := h1
    subst h1
    cases hi with
    | none => have h2 : u = n := h2; subst h2; simp [Instr.sliceBounds]
    | some y => obtain ⟨k, z, hy, hz⟩ := h2; simp [Instr.sliceBounds, hb y k z u cap _ hy hz (by omega)]
  | some x =>
    obtain ⟨k1, z1, hx, hz1⟩ := h1
    cases hi with
    | none => have h2 : u = n := h2; subst h2; simp [Instr.sliceBounds, hb x k1 z1 l u _ hx hz1 hlu]
    | some y => obtain ⟨k, z, hy, hz⟩ := h2; simp [Instr.sliceBounds, hb y k z u cap _ hy hz (by omega), hb x k1 z1 l u _ hx hz1 hlu]

theorem exec_slice {lo hi : Option Operand} (ho : o.op = .slice t x lo hi none) {a : Act} {v : Value} {w : World} (h : (Instr.sliceAt t (a.eval x) (lo.map a.eval) (hi.map a.eval) none).run P w = .ok v w) : (execOp a.eval o).run P w = .ok (.value v) w := by
  simp only [execOp, ho]
  exact vOk h

theorem rd_sliceR {e : TypeId} {m n l v : Nat} {f : Nat → Nat → CV} {lo hi : Option Operand} (ho : o.op = .slice t x lo hi none) (hx : s.eval x = .rs m n f) (h1 : P.underlying t = some (.slice e)) (h5 : (P.info? e).map (·.size) = some m)
    (hl : Bd s 0 lo l) (hu : Bd s n hi v) (hlv : l ≤ v) (hvn : v ≤ n) : ARd P G o s (.rs m (v - l) fun i j => f (l + i) j) := fun St a w h => by
  obtain ⟨info, hi', hs⟩ := Option.map_eq_some_iff.1 h5
  obtain ⟨ao, cap, e0, h2, h3, h4, h6⟩ := evR h hx
  refine ⟨.slice (if cap = l then ao else ao.map (·.add (l * m))) (v - l) (cap - l), fun W _ => exec_slice ho ?_, _, _, rfl, by omega, by omega, fun hn => ?_, fun ad had hn => ?_⟩
  · rw [e0]
    simp [Instr.sliceAt, Instr.slice, underlying, h1, run_bounds h hl hu hlv hvn h2, sizeOf, typeInfo, hi', hs]
  · split at hn
    · have := h4 hn; omega
    · have : ao = none := by simpa using hn
      have := h4 this; omega
  · have hne : ¬ cap = l := by omega
    rw [if_neg hne] at had
    obtain ⟨ad0, rfl, rfl⟩ := Option.map_eq_some_iff.1 had
    obtain ⟨h7, h8, h9⟩ := h6 ad0 rfl (by omega)
    obtain ⟨b, q, sp⟩ := ad0
    simp only at h7 h8 h9
    subst h7
    rw [addr_add]
    refine ⟨rfl, h8, fun i j hi2 hj => ?_⟩
    obtain ⟨vv, hv, hr⟩ := h9 (l + i) j (by omega) hj
    refine ⟨vv, ?_, hr⟩
    rw [← hv, Nat.add_mul]
    congr 2
    simp only
    omega
/-- a slice of a slice of its own: the whole of it from its beginning -/
theorem rd_sliceO {e : TypeId} {i off m n l v : Nat} {g : Option Nat} {lo hi : Option Operand} (ho : o.op = .slice t x lo hi none) (hx : s.eval x = .os i g off n m) (h1 : P.underlying t = some (.slice e)) (h5 : (P.info? e).map (·.size) = some m)
    (hl : Bd s 0 lo l) (hu : Bd s n hi v) (hlv : l ≤ v) (hvn : v ≤ n) (hln : l = 0 ∨ l < n) : ARd P G o s (.os i g (off + l * m) (v - l) m) := fun St a w h => by
  obtain ⟨info, hi', hs⟩ := Option.map_eq_some_iff.1 h5
  have he := evR h hx
  cases g with
  | none =>
    obtain ⟨h2, h3⟩ := he
    subst h2
    have hl0 : l = 0 := by omega
    have hv0 : v = 0 := by omega
    subst hl0 hv0
    refine ⟨.slice none 0 0, fun W _ => exec_slice ho ?_, rfl, rfl⟩
    rw [h3]
    simp [Instr.sliceAt, Instr.slice, underlying, h1, run_bounds h hl hu hlv hvn (Nat.le_refl _), sizeOf, typeInfo, hi', hs]
  | some b =>
    obtain ⟨cap, e0, h2, h3, cur, ty, z, h4, h6⟩ := he
    refine ⟨.slice (some ⟨b, off + l * m, none⟩) (v - l) (cap - l), fun W _ => exec_slice ho ?_, cap - l, rfl, by omega, by omega, cur, ty, z, h4, ?_⟩
    · rw [e0]
      have e1 : (if cap = l then some (⟨b, off, none⟩ : Addr) else some (Addr.add ⟨b, off, none⟩ (l * m))) = some ⟨b, off + l * m, none⟩ := by
        split
        · have : l = 0 := by omega
          subst this
          simp
        · rw [addr_add]
      simp [Instr.sliceAt, Instr.slice, underlying, h1, run_bounds h hl hu hlv hvn h2, sizeOf, typeInfo, hi', hs]
      exact e1
    · have : l * m + (cap - l) * m = cap * m := by rw [← Nat.add_mul]; congr 1; omega
      omega
/-- a slice of an array of its own -/
theorem rd_sliceA {e : TypeId} {i off m n l v : Nat} {g : Option Nat} {lo hi : Option Operand} {N : Nat} {f : Nat → CV} (ho : o.op = .slice t x lo hi none) (hx : s.eval x = .op i g off) (hH : Holds s i g N f) (hN : off + n * m ≤ N) (h1 : P.underlying t = some (.array n e)) (h5 : (P.info? e).map (·.size) = some m)
    (hl : Bd s 0 lo l) (hu : Bd s n hi v) (hlv : l ≤ v) (hvn : v ≤ n) (hln : l < n) (hb : Nat.ble n 9223372036854775807 = true) : ARd P G o s (.os i g (off + l * m) (v - l) m) := fun St a w h => by
  obtain ⟨info, hi', hs⟩ := Option.map_eq_some_iff.1 h5
  obtain ⟨b, rfl, e0⟩ := evR h hx
  have hb := Nat.le_of_ble_eq_true hb
  obtain ⟨_, cur, ty, z, hh, hle, _⟩ := holdCells h hH
  refine ⟨.slice (some ⟨b, off + l * m, none⟩) (v - l) (n - l), fun W _ => exec_slice ho ?_, n - l, rfl, by omega, by omega, cur, ty, z, hh, ?_⟩
  · rw [e0]
    simp [Instr.sliceAt, underlying, h1, Instr.sureAddr, run_bounds h hl hu hlv hvn (Nat.le_refl _), sizeOf, typeInfo, hi', hs, addr_add, show ¬ n = l by omega]
  · have : l * m + (n - l) * m = n * m := by rw [← Nat.add_mul]; congr 1; omega
    omega
theorem rd_sliceS {b : ByteArray} {l v : Nat} {lo hi : Option Operand} (ho : o.op = .slice t x lo hi none) (hx : s.eval x = .c (.string b)) (h1 : P.underlying t = some .string)
    (hl : Bd s 0 lo l) (hu : Bd s b.size hi v) (hlv : l ≤ v) (hvn : v ≤ b.size) : ARd P G o s (.c (.string (b.extract l v))) := fun St a w h =>
  ⟨_, fun W _ => exec_slice ho (by rw [evC h hx]; simp [Instr.sliceAt, Instr.slice, underlying, h1, run_bounds h hl hu hlv hvn (Nat.le_refl _)]), rfl⟩

/-- bytes: a piece of a list -/
theorem bs_piece (l : List UInt8) (p q : Nat) (hpq : p ≤ q) (hq : q ≤ l.length) : CEnt (.rs 1 (q - p) fun i _ => byF l (p + i)) (bsC ((l.take q).drop p)) := by
  refine CEnt.rs (by simp; omega) fun i j hi hj => CEnt.of_eq ?_
  simp [byF, List.getD, List.getElem?_take, show p + i < q by omega]
theorem bs_from (l : List UInt8) (p : Nat) (hp : p ≤ l.length) : CEnt (.rs 1 (l.length - p) fun i _ => byF l (p + i)) (bsC (l.drop p)) := by
  refine CEnt.rs (by simp) fun i j hi hj => CEnt.of_eq ?_
  simp [byF, List.getD]
theorem bs_to (l : List UInt8) (q : Nat) (hq : q ≤ l.length) : CEnt (.rs 1 (q - 0) fun i _ => byF l (0 + i)) (bsC (l.take q)) := by
  have := bs_piece l 0 q (by omega) hq
  simpa using this

/-! ### function values, interfaces -/
theorem rd_makeFunc {g : FuncId} {cs : Array Operand} {n : Nat} (ho : o.op = .makeFunc (.func g) #[] cs) (hn : cs.size = n) : ARd P G o s (.fn g n (fl (cs.toList.map s.eval))) := fun St a w h =>
  ⟨.func (.func g) #[] (cs.map a.eval), fun W _ => by simp only [execOp, ho]; exact vOk (by simp [Instr.makeFunc]), _, rfl, by simp [hn], fun i hi => by
    rw [fl_get]
    simp [List.getD, show i < cs.size by omega]
    exact h.eval _⟩
theorem rd_makeIface {d : TypeDesc} {v : Value} (ho : o.op = .makeInterface t x) (hx : s.eval x = .c v) (h1 : P.underlying t = some d) (h2 : ∀ ms, d ≠ .interface ms) : ARd P G o s (.c (.iface t v)) := fun St a w h =>
  ⟨_, fun W _ => by
    simp only [execOp, ho, evC h hx]
    refine vOk ?_
    cases d <;> first | (simp [Instr.makeInterface, underlying, h1]; done) | exact absurd rfl (h2 _), rfl⟩

/-! ### texts to bytes -/
theorem RelSt.freshRS {St : Nat → Prop} {a : Act} {w w' : World} (h : RelSt G St s a w) (hb : Below w.heap.size w w') {g : Nat} (hg : w.heap.size ≤ g) (hlt : g < w'.heap.size) : RelSt G (fun b => St b ∨ b = g) s a w' := by
  have h1 := h.ext hb
  have he : Evo St w' w' := ⟨fun _ _ _ _ _ h => h, fun b cur t z h => ⟨cur, z, h, rfl⟩⟩
  have hs : ∀ b, St b → St b ∨ b = g := fun _ h => .inl h
  obtain ⟨fp0, hp0⟩ := h.hp
  refine ⟨h1.df.grow hs, h1.sz, fun d => RepC.evo he hs _ _ (h1.env d), h1.un, fun b hb => .inl (h1.s1 b hb), fun b hb => ?_, fun b hb => ?_, ?_, h1.sn, fun g hg => .inl (h1.sg.1 g hg), fun x hx => .inl (h1.sg.2 x hx)⟩
  · rcases hb with hb | rfl
    · exact h1.s2 b hb
    · exact .inr (.inl (Nat.le_trans h.un.size hg))
  · rcases hb with hb | rfl
    · exact h1.s3 b hb
    · exact hlt
  · have he2 := Evo.of_below hb h.s3
    refine ⟨fp0, fun i q r hi => Res.rep_evo he2 hs (fun b hF => hb.block b (hp0.own i b hF).1) (hp0.rep i q r hi), hp0.dis, fun i b hF => ?_, hp0.out⟩
    obtain ⟨h2, h3, h4⟩ := hp0.own i b hF
    exact ⟨Nat.lt_of_lt_of_le h2 hb.size, fun h => h.elim h3 (fun e => by omega), h4⟩

theorem ex_convSB {e : TypeId} {l : ByteArray} (ho : o.op = .convert t u x) (hx : s.eval x = .c (.string l)) (h1 : P.underlying t = some .string) (h2 : P.underlying u = some (.slice e)) (h3 : P.underlying e = some (.int .u8)) (hl : l.size ≤ 9223372036854775807) (hd : dstOk G o = true)
    (hK : K (s.with o.dst (bsC l.data.toList) s.H)) : AEx P G o s K := fun St a w hr Q => by
  have hlen : l.data.size = l.size := rfl
  let cap := grownCap w l.size 0 e
  have hgc : l.size ≤ cap ∧ cap ≤ 9223372036854775807 := by
    have hlt := Nat.mod_lt (w.tape w.drawn (.appendCap l.size 0 e)) (show 0 < 2 ^ 63 - l.size by omega)
    simp only [cap, grownCap, Question.cut]
    omega
  let cs : Array Value := (l.data.map fun b => .int .u8 (b.toNat : Nat)) ++ Array.replicate (cap - l.size) (.int .u8 0)
  have hcs : cs.size = cap := by simp [cs, hlen]; omega
  let w1 := w.drew.alloc (.cells cs e)
  have hw1 : w1.heap[w.heap.size]? = some (.cells cs e (0, 0)) := heap_alloc_new w.drew _
  let w2 := w1.freeze { block := w.heap.size, off := cs.size } 1
  have hb1 : Below w.heap.size w w1 := below_drewAlloc w _
  have hw2 : w2.heap[w.heap.size]? = some (.cells cs e (cs.size, cs.size + 1)) := by
    simp only [w2, World.freeze]
    rw [if_neg (by decide)]
    simp only [Array.getElem?_modify, hw1, if_true, Option.map_some]
    simp
  have hb2 : Below w.heap.size w w2 := by
    refine ⟨?_, ?_, ?_, ?_, fun k hk => ?_⟩
    · simp only [w2, World.freeze]; rw [if_neg (by decide)]; exact hb1.os
    · simp only [w2, World.freeze]; rw [if_neg (by decide)]; exact hb1.tape
    · simp only [w2, World.freeze]; rw [if_neg (by decide)]; exact hb1.output
    · simp only [w2, World.freeze]; rw [if_neg (by decide)]; simp; exact hb1.size
    · simp only [w2, World.freeze]
      rw [if_neg (by decide)]
      simp only [Array.getElem?_modify]
      rw [if_neg (by omega)]
      exact hb1.block k hk
  have hrun : (execOp a.eval o).run P w = .ok (.value (.slice (some ⟨w.heap.size, 0, none⟩) l.size cap)) w2 := by
    simp only [execOp, ho, evC hr hx]
    refine vOk ?_
    have hch : (choose (.appendCap l.size 0 e)).run P w = .ok cap w.drew := by simp [Question.forced, grownCap, cap]
    have hsh : w1.shape? w.heap.size = some (e, cs.size) := by simp [World.shape?, hw1]
    simp only [convert, underlying, Sem.run_bind, run_program, Result.andThen_ok, h1, h2, h3, Sem.run_pure, Conv.stringToBytes, hch, newRow, run_newObj, World.size_drew, World.alloc_eq]
    simp only [markStringish, Sem.run_bind, run_shape]
    show ((Result.ok (w1.shape? w.heap.size) w1).andThen _).andThen _ = _
    rw [hsh]
    rfl
  unfold Oper.wp
  rw [hrun]
  refine ⟨hb2, fun b => St b ∨ b = w.heap.size, fun _ h => .inl h, _, hK, ?_⟩
  have h4 := (hr.freshRS hb2 (Nat.le_refl _) (Array.getElem?_eq_some_iff.1 hw2).1).put (dst := o.dst) (v := bsC l.data.toList) (x := .slice (some ⟨w.heap.size, 0, none⟩) l.size cap) (dst_of hd) ⟨_, cap, by simp; rfl, by simp [hlen]; exact hgc.1, hgc.2, (fun h => by cases h), fun ad had _ => by
    have := Option.some.inj had
    subst this
    refine ⟨rfl, .inr rfl, fun i j hi hj => ?_⟩
    have hi : i < l.data.size := by simpa using hi
    refine ⟨.int .u8 (l.data[i].toNat : Nat), ?_, ?_⟩
    · show w2.cell? ⟨w.heap.size, 0 + (i * 1 + j), none⟩ = _
      rw [cell_of_row w2 w.heap.size _ cs e _ hw2, show 0 + (i * 1 + j) = i by omega]
      have e9 : l.data[i]? = some l.data[i] := Array.getElem?_eq_getElem hi
      have hi2 : i < l.size := hi
      simp [cs, Array.getElem?_append, hi2, e9]
    · have e9 : l.data[i]? = some l.data[i] := Array.getElem?_eq_getElem hi
      simp [byF, List.getD, e9]
      rfl⟩
  cases ho : o.dst with
  | none => rw [ho] at h4; exact h4
  | some d => rw [ho] at h4; exact h4
end
end Am
end Go.Proofs.YtdfjiodkmhpfkaaDoor

/- The abstract walk, eighth part: what the printed scripts call by name. -/
namespace Go.Proofs.YtdfjiodkmhpfkaaDoor
set_option linter.unusedVariables false
open Go.RowKit
namespace Am
section
variable {P : Program} {G : Gh} {ops : Array Oper} {o : Oper} {s : AS} {r : List Oper} {K : AS → Prop} {R : Exit → AS → Prop} {Y : AS → Prop} {x y : Code}

/-! ### the ways out of code -/
theorem then_norm (h : Y s) : thenR Y R .normal s := h
theorem then_exit {i : Nat} (h : R (.exit i) s) : thenR Y R (.exit i) s := h
theorem then_ret (h : R .ret s) : thenR Y R .ret s := h
theorem block_norm {i : Nat} (h : R .normal s) : blockR i R .normal s := h
theorem block_exit {i j : Nat} (he : Nat.beq j i = true) (h : R .normal s) : blockR i R (.exit j) s := by
  show match Nat.beq j i with | true => R .normal s | false => R (.exit j) s
  rw [he]; exact h
theorem block_exit2 {i j : Nat} (he : Nat.beq j i = false) (h : R (.exit j) s) : blockR i R (.exit j) s := by
  show match Nat.beq j i with | true => R .normal s | false => R (.exit j) s
  rw [he]; exact h
theorem block_ret {i : Nat} (h : R .ret s) : blockR i R .ret s := h

theorem code_condD {d : Operand} {p : Prop} [Decidable p] (hl : s.eval d = .c (.bool (decide p))) (ht : p → ACode P G x s R) (hf : ¬ p → ACode P G y s R) : ACode P G (.cond d x y) s R :=
  code_cond hl (fun h => ht (of_decide_eq_true h)) (fun h => hf (of_decide_eq_false h))
theorem code_condT {d : Operand} (hl : s.eval d = .c (.bool true)) (ht : ACode P G x s R) : ACode P G (.cond d x y) s R := code_cond hl (fun _ => ht) (fun h => by cases h)
theorem code_condF {d : Operand} (hl : s.eval d = .c (.bool false)) (hf : ACode P G y s R) : ACode P G (.cond d x y) s R := code_cond hl (fun h => by cases h) (fun _ => hf)

/-! ### the steps, with the state written out -/
variable {env : List (Nat × CV)} {b0 : Nat → CV} {H : List (Option Nat × Res)}
theorem q_rd {d : Nat} {v : CV} (hw : Wanted G ops o ⟨env, b0, H⟩ true) (hd : o.dst = some d) (hN : Nat.blt d G.N = true) (h : ARd P G o ⟨env, b0, H⟩ v) (hk : ASeq P G ops r ⟨(d, v) :: env, b0, H⟩ K) : ASeq P G ops (o :: r) ⟨env, b0, H⟩ K :=
  seq_rd hw (by simp only [dstOk, hd]; exact hN) h (by simp only [AS.put, hd]; exact hk)
theorem q_rdO {d : Nat} {v : CV} (hw : Wanted G ops o ⟨env, b0, H⟩ true) (hd : o.dst = some d) (hN : Nat.blt d G.N = true) (h : ARdO P G o ⟨env, b0, H⟩ v) (hk : ASeq P G ops r ⟨(d, v) :: env, b0, H⟩ K) : ASeq P G ops (o :: r) ⟨env, b0, H⟩ K :=
  seq_rdO hw (by simp only [dstOk, hd]; exact hN) h (by simp only [AS.put, hd]; exact hk)
theorem q_skip {d : Nat} (hw : Wanted G ops o ⟨env, b0, H⟩ false) (hd : o.dst = some d) (hN : Nat.blt d G.N = true) (hk : ASeq P G ops r ⟨(d, .c undef) :: env, b0, H⟩ K) : ASeq P G ops (o :: r) ⟨env, b0, H⟩ K :=
  seq_skip hw (by simp only [dstOk, hd]; exact hN) (by simp only [AS.put, hd]; exact hk)
theorem q_skip0 (hw : Wanted G ops o ⟨env, b0, H⟩ false) (hd : o.dst = none) (hk : ASeq P G ops r ⟨env, b0, H⟩ K) : ASeq P G ops (o :: r) ⟨env, b0, H⟩ K :=
  seq_skip hw (by simp only [dstOk, hd]) (by simp only [AS.put, hd]; exact hk)
theorem y_rd {d : Nat} {v : CV} {tr : OrdO} (hw : Wanted G ops o ⟨env, b0, H⟩ true) (hd : o.dst = some d) (hN : Nat.blt d G.N = true) (h : ARd P G o ⟨env, b0, H⟩ v) (hk : AX P G ops tr ⟨(d, v) :: env, b0, H⟩ K) : AX P G ops (.rd o tr) ⟨env, b0, H⟩ K :=
  x_rd hw (by simp only [dstOk, hd]; exact hN) h (by simp only [AS.put, hd]; exact hk)
theorem y_rdO {d : Nat} {v : CV} {tr : OrdO} (hw : Wanted G ops o ⟨env, b0, H⟩ true) (hd : o.dst = some d) (hN : Nat.blt d G.N = true) (h : ARdO P G o ⟨env, b0, H⟩ v) (hk : AX P G ops tr ⟨(d, v) :: env, b0, H⟩ K) : AX P G ops (.rd o tr) ⟨env, b0, H⟩ K :=
  x_rdO hw (by simp only [dstOk, hd]; exact hN) h (by simp only [AS.put, hd]; exact hk)
theorem zz_rd {d : Nat} {v : CV} {tr : OrdO} (hw : Wanted G ops o ⟨env, b0, H⟩ true) (hd : o.dst = some d) (hN : Nat.blt d G.N = true) (h : ARd P G o ⟨env, b0, H⟩ v) (hk : AZ P G ops tr ⟨(d, v) :: env, b0, H⟩ K) : AZ P G ops (.rd o tr) ⟨env, b0, H⟩ K :=
  z_rd hw (by simp only [dstOk, hd]; exact hN) h (by simp only [AS.put, hd]; exact hk)
theorem zz_one1 {d : Nat} {v : CV} {tr : OrdO} (hw : Wanted G ops o ⟨env, b0, H⟩ true) (hd : o.dst = some d) (hN : Nat.blt d G.N = true) (h : ARd P G o ⟨env, b0, H⟩ v) (hk : AZ P G ops tr ⟨(d, v) :: env, b0, H⟩ K) : AZ P G ops (.one o tr) ⟨env, b0, H⟩ K :=
  z_one1 hw (by simp only [dstOk, hd]; exact hN) h (by simp only [AS.put, hd]; exact hk)
theorem zz_one1O {d : Nat} {v : CV} {tr : OrdO} (hw : Wanted G ops o ⟨env, b0, H⟩ true) (hd : o.dst = some d) (hN : Nat.blt d G.N = true) (h : ARdO P G o ⟨env, b0, H⟩ v) (hk : AZ P G ops tr ⟨(d, v) :: env, b0, H⟩ K) : AZ P G ops (.one o tr) ⟨env, b0, H⟩ K :=
  z_one1O hw (by simp only [dstOk, hd]; exact hN) h (by simp only [AS.put, hd]; exact hk)
theorem zz_rdO {d : Nat} {v : CV} {tr : OrdO} (hw : Wanted G ops o ⟨env, b0, H⟩ true) (hd : o.dst = some d) (hN : Nat.blt d G.N = true) (hb : ownB ops o = true) (h : ARdO P G o ⟨env, b0, H⟩ v) (hk : AZ P G ops tr ⟨(d, v) :: env, b0, H⟩ K) : AZ P G ops (.rd o tr) ⟨env, b0, H⟩ K :=
  z_rdO hw (by simp only [dstOk, hd]; exact hN) hb h (by simp only [AS.put, hd]; exact hk)
theorem zz_noone {d : Nat} {tr : OrdO} (hw : Wanted G ops o ⟨env, b0, H⟩ false) (hd : o.dst = some d) (hN : Nat.blt d G.N = true) (hk : AZ P G ops tr ⟨(d, .c undef) :: env, b0, H⟩ K) : AZ P G ops (.one o tr) ⟨env, b0, H⟩ K :=
  z_noone hw (by simp only [dstOk, hd]; exact hN) (by simp only [AS.put, hd]; exact hk)
theorem zz_skip {d : Nat} {tr : OrdO} (hw : Wanted G ops o ⟨env, b0, H⟩ false) (hd : o.dst = some d) (hN : Nat.blt d G.N = true) (hk : AZ P G ops tr ⟨(d, .c undef) :: env, b0, H⟩ K) : AZ P G ops (.rd o tr) ⟨env, b0, H⟩ K :=
  z_skip hw (by simp only [dstOk, hd]; exact hN) (by simp only [AS.put, hd]; exact hk)
theorem y_skip {d : Nat} {tr : OrdO} (hw : Wanted G ops o ⟨env, b0, H⟩ false) (hd : o.dst = some d) (hN : Nat.blt d G.N = true) (hk : AX P G ops tr ⟨(d, .c undef) :: env, b0, H⟩ K) : AX P G ops (.rd o tr) ⟨env, b0, H⟩ K :=
  x_skip hw (by simp only [dstOk, hd]; exact hN) (by simp only [AS.put, hd]; exact hk)
theorem y_noone {d : Nat} {tr : OrdO} (hw : Wanted G ops o ⟨env, b0, H⟩ false) (hd : o.dst = some d) (hN : Nat.blt d G.N = true) (hk : AX P G ops tr ⟨(d, .c undef) :: env, b0, H⟩ K) : AX P G ops (.one o tr) ⟨env, b0, H⟩ K :=
  x_noone hw (by simp only [dstOk, hd]; exact hN) (by simp only [AS.put, hd]; exact hk)

/-! ### guards -/
theorem wanted_undef {j d : Nat} {b : Bool} (h : o.guard = some (j, b)) (hd : (ops[j]?).bind (·.dst) = some d) (hN : Nat.blt d G.N = true) (hl : look s.env s.b d = .c undef) : Wanted G ops o s false := fun St a w hr => by
  have hlt : d < a.tmps.size := by rw [hr.sz]; exact Nat.le_of_ble_eq_true hN
  have he := hr.env d
  rw [hl] at he
  have he : a.tmps.getD d undef = undef := he
  have hg : a.tmps[d]? = some undef := by
    rw [Array.getElem?_eq_getElem hlt]
    congr 1
    simpa [hlt] using he
  simp only [Region.wanted, h, yielded, hd, Option.bind_some, hg]
  cases b <;> rfl
theorem put_lit {d : Nat} {t : Bool} (hN : Nat.blt d G.N = true) (hl : look s.env s.b d = .c (.bool t)) {b : Bool} (e : t = b) : EntS G s ⟨(d, .c (.bool b)) :: s.env, s.b, s.H⟩ :=
  EntS.put hN fun St a w hr => by
    have := hr.env d
    rw [hl, e] at this
    exact this
theorem code_condS {d : Nat} {t : Bool} (hN : Nat.blt d G.N = true) (hl : look s.env s.b d = .c (.bool t)) (ht : t = true → ACode P G x ⟨(d, .c (.bool true)) :: s.env, s.b, s.H⟩ R) (hf : t = false → ACode P G y ⟨(d, .c (.bool false)) :: s.env, s.b, s.H⟩ R) : ACode P G (.cond (.tmp d) x y) s R :=
  code_cond (t := t) hl (fun e => code_ent (put_lit hN hl e) (ht e)) (fun e => code_ent (put_lit hN hl e) (hf e))
theorem code_condSD {d : Nat} {p : Prop} [Decidable p] (hN : Nat.blt d G.N = true) (hl : look s.env s.b d = .c (.bool (decide p))) (ht : p → ACode P G x ⟨(d, .c (.bool true)) :: s.env, s.b, s.H⟩ R) (hf : ¬ p → ACode P G y ⟨(d, .c (.bool false)) :: s.env, s.b, s.H⟩ R) : ACode P G (.cond (.tmp d) x y) s R :=
  code_condS hN hl (fun h => ht (of_decide_eq_true h)) (fun h => hf (of_decide_eq_false h))
theorem seq_split {d : Nat} {t : Bool} (hN : Nat.blt d G.N = true) (hl : look s.env s.b d = .c (.bool t)) (ht : t = true → ASeq P G ops r ⟨(d, .c (.bool true)) :: s.env, s.b, s.H⟩ K) (hf : t = false → ASeq P G ops r ⟨(d, .c (.bool false)) :: s.env, s.b, s.H⟩ K) : ASeq P G ops r s K := by
  cases e : t with
  | true => exact seq_ent (put_lit hN hl e) (ht e)
  | false => exact seq_ent (put_lit hN hl e) (hf e)
theorem seq_splitD {d : Nat} {p : Prop} [Decidable p] (hN : Nat.blt d G.N = true) (hl : look s.env s.b d = .c (.bool (decide p))) (ht : p → ASeq P G ops r ⟨(d, .c (.bool true)) :: s.env, s.b, s.H⟩ K) (hf : ¬ p → ASeq P G ops r ⟨(d, .c (.bool false)) :: s.env, s.b, s.H⟩ K) : ASeq P G ops r s K :=
  seq_split hN hl (fun h => ht (of_decide_eq_true h)) (fun h => hf (of_decide_eq_false h))
theorem z_split {d : Nat} {t : Bool} {tr : OrdO} (hN : Nat.blt d G.N = true) (hl : look s.env s.b d = .c (.bool t)) (ht : t = true → AZ P G ops tr ⟨(d, .c (.bool true)) :: s.env, s.b, s.H⟩ K) (hf : t = false → AZ P G ops tr ⟨(d, .c (.bool false)) :: s.env, s.b, s.H⟩ K) : AZ P G ops tr s K := by
  cases e : t with
  | true => exact z_ent (put_lit hN hl e) (ht e)
  | false => exact z_ent (put_lit hN hl e) (hf e)
theorem z_splitD {d : Nat} {p : Prop} [Decidable p] {tr : OrdO} (hN : Nat.blt d G.N = true) (hl : look s.env s.b d = .c (.bool (decide p))) (ht : p → AZ P G ops tr ⟨(d, .c (.bool true)) :: s.env, s.b, s.H⟩ K) (hf : ¬ p → AZ P G ops tr ⟨(d, .c (.bool false)) :: s.env, s.b, s.H⟩ K) : AZ P G ops tr s K :=
  z_split hN hl (fun h => ht (of_decide_eq_true h)) (fun h => hf (of_decide_eq_false h))
theorem x_split {d : Nat} {t : Bool} {tr : OrdO} (hN : Nat.blt d G.N = true) (hl : look s.env s.b d = .c (.bool t)) (ht : t = true → AX P G ops tr ⟨(d, .c (.bool true)) :: s.env, s.b, s.H⟩ K) (hf : t = false → AX P G ops tr ⟨(d, .c (.bool false)) :: s.env, s.b, s.H⟩ K) : AX P G ops tr s K := by
  cases e : t with
  | true => exact x_ent (put_lit hN hl e) (ht e)
  | false => exact x_ent (put_lit hN hl e) (hf e)
theorem x_splitD {d : Nat} {p : Prop} [Decidable p] {tr : OrdO} (hN : Nat.blt d G.N = true) (hl : look s.env s.b d = .c (.bool (decide p))) (ht : p → AX P G ops tr ⟨(d, .c (.bool true)) :: s.env, s.b, s.H⟩ K) (hf : ¬ p → AX P G ops tr ⟨(d, .c (.bool false)) :: s.env, s.b, s.H⟩ K) : AX P G ops tr s K :=
  x_split hN hl (fun h => ht (of_decide_eq_true h)) (fun h => hf (of_decide_eq_false h))

/-- an operation that only reads, where it stands among those that make memory -/
theorem x_one1O {t : OrdO} {v : CV} (hw : Wanted G ops o s true) (hd : dstOk G o = true) (h : ARdO P G o s v) (hk : AX P G ops t (s.put o.dst v) K) : AX P G ops (.one o t) s K :=
  x_one hw fun St a w hr Q => by
    obtain ⟨x, hx, hv⟩ := h St a w hr
    unfold Oper.wp
    rw [hx w (Below.refl _ _)]
    exact ⟨Below.refl _ _, St, fun _ h => h, _, hk, hr.put (dst_of hd) hv⟩

theorem y_one1O {d : Nat} {t : OrdO} {v : CV} (hw : Wanted G ops o ⟨env, b0, H⟩ true) (hd : o.dst = some d) (hN : Nat.blt d G.N = true) (h : ARdO P G o ⟨env, b0, H⟩ v) (hk : AX P G ops t ⟨(d, v) :: env, b0, H⟩ K) : AX P G ops (.one o t) ⟨env, b0, H⟩ K :=
  x_one1O hw (by simp only [dstOk, hd]; exact hN) h (by simp only [AS.put, hd]; exact hk)

theorem y_one1 {d : Nat} {t : OrdO} {v : CV} (hw : Wanted G ops o ⟨env, b0, H⟩ true) (hd : o.dst = some d) (hN : Nat.blt d G.N = true) (h : ARd P G o ⟨env, b0, H⟩ v) (hk : AX P G ops t ⟨(d, v) :: env, b0, H⟩ K) : AX P G ops (.one o t) ⟨env, b0, H⟩ K := y_one1O hw hd hN h.own hk

/-! ### numbers -/
def InR : IntKind → Int → Prop
  | .i64, z => -9223372036854775808 ≤ z ∧ z ≤ 9223372036854775807
  | .u64, z => 0 ≤ z ∧ z ≤ 18446744073709551615
  | .i32, z => -2147483648 ≤ z ∧ z ≤ 2147483647
  | .u32, z => 0 ≤ z ∧ z ≤ 4294967295
  | .i16, z => -32768 ≤ z ∧ z ≤ 32767
  | .u16, z => 0 ≤ z ∧ z ≤ 65535
  | .i8, z => -128 ≤ z ∧ z ≤ 127
  | .u8, z => 0 ≤ z ∧ z ≤ 255
theorem wrap_id {k : IntKind} {z : Int} (h : InR k z) : k.wrap z = z := by
  cases k <;> simp only [InR] at h <;> simp [IntKind.wrap, IntKind.bits, IntKind.signed] <;> omega
theorem natI {z : Int} (h : 0 ≤ z) : z = (z.toNat : Int) := by omega

/-! ### what entails what -/
theorem CEnt.int {k : IntKind} {a b : Int} (h : a = b) : CEnt (.c (.int k a)) (.c (.int k b)) := h ▸ CEnt.refl _
theorem CEnt.bool {a b : Bool} (h : a = b) : CEnt (.c (.bool a)) (.c (.bool b)) := h ▸ CEnt.refl _
theorem CEnt.str {a b : ByteArray} (h : a = b) : CEnt (.c (.string a)) (.c (.string b)) := h ▸ CEnt.refl _
theorem CEnt.err {a b : Nat} (h : a = b) : CEnt (.err a) (.err b) := h ▸ CEnt.refl _
theorem CEnt.bs {a b : List UInt8} (h : a = b) : CEnt (bsC a) (bsC b) := h ▸ CEnt.refl _
theorem CEnt.nilB : CEnt (.c (.slice none 0 0)) (bsC []) := CEnt.nilS _ _
theorem CEnt.tup2 {a b c d : CV} (h1 : CEnt a c) (h2 : CEnt b d) : CEnt (.tup 2 (fl [a, b])) (.tup 2 (fl [c, d])) :=
  CEnt.tup rfl fun i hi => match i, hi with | 0, _ => h1 | 1, _ => h2
theorem CEnt.tup3 {a b c d e f : CV} (h1 : CEnt a d) (h2 : CEnt b e) (h3 : CEnt c f) : CEnt (.tup 3 (fl [a, b, c])) (.tup 3 (fl [d, e, f])) :=
  CEnt.tup rfl fun i hi => match i, hi with | 0, _ => h1 | 1, _ => h2 | 2, _ => h3
theorem CEnt.tup4 {a b c d a' b' c' d' : CV} (h1 : CEnt a a') (h2 : CEnt b b') (h3 : CEnt c c') (h4 : CEnt d d') : CEnt (.tup 4 (fl [a, b, c, d])) (.tup 4 (fl [a', b', c', d'])) :=
  CEnt.tup rfl fun i hi => match i, hi with | 0, _ => h1 | 1, _ => h2 | 2, _ => h3 | 3, _ => h4
/-- structs, field by field -/
theorem CEnt.aggL {n m : Nat} {f g : Nat → CV} {l k : List CV} (hn : n = m) (hl : Nat.ble n l.length = true) (hf : ∀ i, i < n → f i = fl l i) (hg : ∀ i, i < n → g i = fl k i) (h : EntL l k) : CEnt (.agg n f) (.agg m g) :=
  CEnt.agg hn fun i hi => by rw [hf i hi, hg i hi]; exact entL_get h i

/-! ### arguments -/
def SE (G : Gh) (s : AS) (x : Operand) (c : CV) : Prop := ∀ St a w, RelSt G St s a w → RepC G.al St w c (a.eval x)
theorem se {x : Operand} {c0 c : CV} (hx : s.eval x = c0) (h : CEnt c0 c) : SE G s x c := fun St a w hr => h _ _ _ _ (evR hr hx)
theorem se_refl (x : Operand) : SE G s x (s.eval x) := fun St a w hr => hr.eval x
theorem se_frz {x : Operand} {i off n m N : Nat} {g : Option Nat} {F : Nat → CV} (hx : s.eval x = .os i g off n m) (hH : s.H[i]? = some (g, .frz N F)) (hN : off + n * m ≤ N) (f : Nat → Nat → CV) (hf : ∀ a b, a < n → b < m → CEnt (F (off + (a * m + b))) (f a b)) : SE G s x (.rs m n f) := fun St a w hr => by
  have he := evR hr hx
  cases g with
  | none =>
    obtain ⟨h1, h2⟩ := he
    subst h1
    exact ⟨none, 0, h2, Nat.le_refl _, by decide, fun _ => rfl, fun _ h => by cases h⟩
  | some g =>
    obtain ⟨cap, h1, h2, h3, _⟩ := he
    obtain ⟨fp, hp⟩ := hr.hp
    obtain ⟨_, hg, cur, t, z, hh, hle, hc⟩ := hp.rep i (some g) _ hH
    refine ⟨_, cap, h1, h2, h3, (fun h => by cases h), fun ad ha _ => ?_⟩
    cases ha
    refine ⟨rfl, hg, fun p q hp' hq => ?_⟩
    have hb : p * m + q < n * m := by
      have : p * m + m ≤ n * m := by rw [← Nat.succ_mul]; exact Nat.mul_le_mul_right _ hp'
      omega
    have hlt : off + (p * m + q) < cur.size := by omega
    refine ⟨cur.getD (off + (p * m + q)) undef, ?_, hf p q hp' hq _ _ _ _ (hc _ (by omega))⟩
    show w.cell? ⟨g, off + (p * m + q), none⟩ = _
    rw [cell_of_row w g _ cur t z hh]; simp [hlt]
theorem se_frzB {x : Operand} {i off n N : Nat} {g : Option Nat} {F : Nat → CV} (l : List UInt8) (hx : s.eval x = .os i g off n 1) (hH : s.H[i]? = some (g, .frz N F)) (hn : n = l.length) (hN : off + n ≤ N) (hf : ∀ a, a < n → CEnt (F (off + a)) (byF l a)) : SE G s x (bsC l) := by
  subst hn
  refine se_frz hx hH (by omega) _ fun a b ha hb => ?_
  rw [show off + (a * 1 + b) = off + a by omega]
  exact hf a ha
theorem se_frzP {x : Operand} {i off m N : Nat} {g : Option Nat} {F : Nat → CV} (hx : s.eval x = .op i g off) (hH : s.H[i]? = some (g, .frz N F)) (hN : off + m ≤ N) (f : Nat → CV) (hf : ∀ j, j < m → CEnt (F (off + j)) (f j)) : SE G s x (.rp m f) := fun St a w hr => by
  obtain ⟨b, rfl, he⟩ := evR hr hx
  obtain ⟨fp, hp⟩ := hr.hp
  obtain ⟨_, hg, cur, t, z, hh, hle, hc⟩ := hp.rep i (some b) _ hH
  refine ⟨b, off, he, hg, fun j hj => ?_⟩
  have hlt : off + j < cur.size := by omega
  refine ⟨cur.getD (off + j) undef, ?_, hf j hj _ _ _ _ (hc _ (by omega))⟩
  rw [cell_of_row w b _ cur t z hh]; simp [hlt]

inductive SEL (G : Gh) (s : AS) : List Operand → List CV → Prop where
  | nil : SEL G s [] []
  | cons {x : Operand} {c : CV} {l : List Operand} {m : List CV} (h : SE G s x c) (t : SEL G s l m) : SEL G s (x :: l) (c :: m)
theorem sel_len {l : List Operand} {m : List CV} (h : SEL G s l m) : l.length = m.length := by
  induction h with
  | nil => rfl
  | cons _ _ ih => simp [ih]
theorem sel_get {l : List Operand} {m : List CV} (h : SEL G s l m) {St : Nat → Prop} {a : Act} {w : World} (hr : RelSt G St s a w) : ∀ i (hi : i < l.length), RepC G.al St w (fl m i) (a.eval l[i]) := by
  induction h with
  | nil => intro i hi; simp at hi
  | cons h1 _ ih =>
    intro i hi
    cases i with
    | zero => exact h1 St a w hr
    | succ i => exact ih i (by simpa using hi)

/-- the contract of a call whose result is known -/
def ACp (gs : List Nat) (P : Program) (f : FuncId) (args : List CV) (m : CV) : Prop := AC gs P f [] args fun r H => r = m ∧ H = []

theorem args_se {xs : Array Operand} {args : List CV} (he : SEL G s xs.toList args) {St : Nat → Prop} {a : Act} {w : World} (h : RelSt G St s a w) : (xs.map a.eval).size = args.length ∧ ∀ i, RepC G.al St w (fl args i) ((xs.map a.eval).getD i undef) := by
  have hl := sel_len he
  simp at hl
  refine ⟨by simp [hl], fun i => ?_⟩
  by_cases hi : i < xs.size
  · have := sel_get he h i (by simpa using hi)
    simpa [hi] using this
  · rw [fl_none args i (by omega)]
    trivial
/-- a call by its contract -/
theorem ex_callS {f : FuncId} {xs : Array Operand} {ats : Array TypeId} {args : List CV} {Q : CV → List (Option Nat × Res) → Prop} (ho : o.op = .call ⟨.value (.func f), xs, ats⟩) (hc : calleeB P f = true) (hA : AC G.gs P f [] args Q) (he : SEL G s xs.toList args) (hd : dstOk G o = true)
    (hK : ∀ r H', Q r H' → K (s.with o.dst r (s.H ++ H'))) : AEx P G o s K := fun St a w hr Q' => by
  unfold Oper.wp
  rw [exec_call ho hc]
  obtain ⟨h1, h2⟩ := args_se he hr
  refine (hA G.al w St _ _ (entry0 hr) h1 h2).mono ?_
  rintro e w' ⟨v, r, H', St', rfl, hq, hv, hu, h3, h4, h5, h6⟩
  refine ⟨hu.below, St', h3, _, hK r H' hq, ?_⟩
  have := (hr.after hu h3 h4 h5 h6).put (dst := o.dst) (dst_of hd) hv
  cases ho : o.dst with
  | none => rw [ho] at this; exact this
  | some d => rw [ho] at this; exact this
theorem ex_callP {f : FuncId} {xs : Array Operand} {ats : Array TypeId} {args : List CV} {m : CV} (ho : o.op = .call ⟨.value (.func f), xs, ats⟩) (hc : calleeB P f = true) (hA : ACp G.gs P f args m) (he : SEL G s xs.toList args) (hd : dstOk G o = true)
    (hK : K (s.with o.dst m (s.H ++ []))) : AEx P G o s K := ex_callS ho hc hA he hd (by rintro _ _ ⟨rfl, rfl⟩; exact hK)

/-! ### results -/
def ARV (P : Program) (G : Gh) (s : AS) (rv : ResultVar) (c : CV) : Prop := ∀ St a w, RelSt G St s a w → ∃ v, (match rv with | .tmp t => pure (a.tmps.getD t undef) | .cell d t => do loadVar t (← asAddr (a.tmps.getD d undef)) : Sem Value).run P w = .ok v w ∧ RepC G.al St w c v
theorem arv_tmp {t : Nat} {c : CV} (h : look s.env s.b t = c) : ARV P G s (.tmp t) c := fun St a w hr => ⟨_, rfl, h ▸ hr.env t⟩
theorem arv_cell {d : Nat} {t : TypeId} {i off n : Nat} {g : Option Nat} {f : Nat → CV} {c : CV} {ds : TypeDesc} (h : look s.env s.b d = .op i g off) (hH : Holds s i g n f) (h1 : P.underlying t = some ds) (ha : aggB P t = false) (hn : off < n) (hc : f off = c) : ARV P G s (.cell d t) c := fun St a w hr => by
  have he := hr.env d
  rw [h] at he
  obtain ⟨b, rfl, he⟩ := he
  obtain ⟨hg, cur, ty, z, hh, hle, hcell⟩ := holdCells hr hH
  have hlt : off < cur.size := by omega
  have hcc : w.cell? ⟨b, off, none⟩ = some (cur.getD off undef) := by
    rw [cell_of_row w b off cur ty z hh]; simp [hlt]
  refine ⟨_, ?_, hc ▸ hcell off hn⟩
  simp only [he, asAddr, Sem.run_bind, Sem.run_pure, Result.andThen_ok]
  exact run_loadVar1 h1 ha hcc
theorem arv_cellA {d : Nat} {t : TypeId} {i off n m : Nat} {g : Option Nat} {f : Nat → CV} {ds : TypeDesc} (h : look s.env s.b d = .op i g off) (hH : Holds s i g n f) (h1 : P.underlying t = some ds) (ha : aggB P t = true) (h5 : (P.info? t).map (·.size) = some m) (hn : off + m ≤ n) : ARV P G s (.cell d t) (.agg m fun j => f (off + j)) := fun St a w hr => by
  obtain ⟨info, h5i, h6⟩ := Option.map_eq_some_iff.1 h5
  have he := hr.env d
  rw [h] at he
  obtain ⟨b, rfl, he⟩ := he
  obtain ⟨hg, cur, ty, z, hh, hle, hcell⟩ := holdCells hr hH
  subst h6
  have hrun := run_loadVarA h1 ha h5i (w := w) (b := b) (q := off) (g := fun j => cur.getD (off + j) undef) (fun j hj => by
    have hlt : off + j < cur.size := by omega
    rw [cell_of_row w b (off + j) cur ty z hh]; simp [hlt])
  refine ⟨.agg ((List.range info.size).map fun j => cur.getD (off + j) undef).toArray, ?_, _, rfl, by simp, fun j hj => ?_⟩
  · simp only [he, asAddr, Sem.run_bind, Sem.run_pure, Result.andThen_ok]
    exact hrun
  · have := hcell (off + j) (by omega)
    simp [hj] at this ⊢
    exact this
theorem run_mapM1 {α β : Type} (f : α → Sem β) {a1 : α} {b1 : β} {w : World} (h1 : (f a1).run P w = .ok b1 w) : ((#[a1] : Array α).mapM f).run P w = .ok #[b1] w := by
  simp [h1]
theorem run_mapM2 {α β : Type} (f : α → Sem β) {a1 a2 : α} {b1 b2 : β} {w : World} (h1 : (f a1).run P w = .ok b1 w) (h2 : (f a2).run P w = .ok b2 w) : ((#[a1, a2] : Array α).mapM f).run P w = .ok #[b1, b2] w := by
  simp [h1, h2]
theorem run_mapM3 {α β : Type} (f : α → Sem β) {a1 a2 a3 : α} {b1 b2 b3 : β} {w : World} (h1 : (f a1).run P w = .ok b1 w) (h2 : (f a2).run P w = .ok b2 w) (h3 : (f a3).run P w = .ok b3 w) : ((#[a1, a2, a3] : Array α).mapM f).run P w = .ok #[b1, b2, b3] w := by
  simp [h1, h2, h3]
theorem run_mapM4 {α β : Type} (f : α → Sem β) {a1 a2 a3 a4 : α} {b1 b2 b3 b4 : β} {w : World} (h1 : (f a1).run P w = .ok b1 w) (h2 : (f a2).run P w = .ok b2 w) (h3 : (f a3).run P w = .ok b3 w) (h4 : (f a4).run P w = .ok b4 w) : ((#[a1, a2, a3, a4] : Array α).mapM f).run P w = .ok #[b1, b2, b3, b4] w := by
  simp [h1, h2, h3, h4]
theorem run_res {fn : Func} {tmps : Array Value} {vs : Array Value} {w : World} (h : (fn.results.mapM fun | .tmp t => pure (tmps.getD t undef) | .cell a t => do loadVar t (← asAddr (tmps.getD a undef)) : Sem (Array Value)).run P w = .ok vs w) : (results fn tmps).run P w = .ok (if h : vs.size = 1 then vs[0] else .tuple vs) w := by
  unfold results
  rw [Sem.run_bind]
  have h' := h
  refine (congrArg (fun r => Result.andThen r _) h').trans ?_
  rfl
theorem res_1 {fn : Func} {r1 : ResultVar} {v : CV} (h : fn.results = #[r1]) (h1 : ARV P G s r1 v) : ARes P G fn s v := fun St a w hr => by
  obtain ⟨x1, e1, q1⟩ := h1 St a w hr
  exact ⟨x1, run_res (vs := #[x1]) (by rw [h]; exact run_mapM1 _ e1), q1⟩
theorem res_2 {fn : Func} {r1 r2 : ResultVar} {v1 v2 : CV} (h : fn.results = #[r1, r2]) (h1 : ARV P G s r1 v1) (h2 : ARV P G s r2 v2) : ARes P G fn s (.tup 2 (fl [v1, v2])) := fun St a w hr => by
  obtain ⟨x1, e1, q1⟩ := h1 St a w hr
  obtain ⟨x2, e2, q2⟩ := h2 St a w hr
  exact ⟨.tuple #[x1, x2], run_res (vs := #[x1, x2]) (by rw [h]; exact run_mapM2 _ e1 e2), _, rfl, rfl, fun i hi => match i, hi with | 0, _ => q1 | 1, _ => q2⟩
theorem res_3 {fn : Func} {r1 r2 r3 : ResultVar} {v1 v2 v3 : CV} (h : fn.results = #[r1, r2, r3]) (h1 : ARV P G s r1 v1) (h2 : ARV P G s r2 v2) (h3 : ARV P G s r3 v3) : ARes P G fn s (.tup 3 (fl [v1, v2, v3])) := fun St a w hr => by
  obtain ⟨x1, e1, q1⟩ := h1 St a w hr
  obtain ⟨x2, e2, q2⟩ := h2 St a w hr
  obtain ⟨x3, e3, q3⟩ := h3 St a w hr
  exact ⟨.tuple #[x1, x2, x3], run_res (vs := #[x1, x2, x3]) (by rw [h]; exact run_mapM3 _ e1 e2 e3), _, rfl, rfl, fun i hi => match i, hi with | 0, _ => q1 | 1, _ => q2 | 2, _ => q3⟩
theorem res_4 {fn : Func} {r1 r2 r3 r4 : ResultVar} {v1 v2 v3 v4 : CV} (h : fn.results = #[r1, r2, r3, r4]) (h1 : ARV P G s r1 v1) (h2 : ARV P G s r2 v2) (h3 : ARV P G s r3 v3) (h4 : ARV P G s r4 v4) : ARes P G fn s (.tup 4 (fl [v1, v2, v3, v4])) := fun St a w hr => by
  obtain ⟨x1, e1, q1⟩ := h1 St a w hr
  obtain ⟨x2, e2, q2⟩ := h2 St a w hr
  obtain ⟨x3, e3, q3⟩ := h3 St a w hr
  obtain ⟨x4, e4, q4⟩ := h4 St a w hr
  exact ⟨.tuple #[x1, x2, x3, x4], run_res (vs := #[x1, x2, x3, x4]) (by rw [h]; exact run_mapM4 _ e1 e2 e3 e4), _, rfl, rfl, fun i hi => match i, hi with | 0, _ => q1 | 1, _ => q2 | 2, _ => q3 | 3, _ => q4⟩
theorem res_0 {fn : Func} (h : fn.results = #[]) : ARes P G fn s (.c (.tuple #[])) := fun St a w hr => ⟨.tuple #[], by simp [results, h], rfl⟩

/-- the end of a walk whose result is known -/
theorem end_val {fn : Func} {e : Exit} {v m : CV} (he : e = .ret ∨ e = .normal) (hres : ARes P G fn s v) (hv : CEnt v m) : bodyR P G fn (fun r H => r = m ∧ H = []) e s := end_pure he m (hres.ent hv) ⟨rfl, rfl⟩
/-- the end of a walk whose result is one of some -/
theorem end_any {fn : Func} {e : Exit} {v m : CV} {Q : CV → List (Option Nat × Res) → Prop} (he : e = .ret ∨ e = .normal) (hres : ARes P G fn s v) (hv : CEnt v m) (hq : Q m []) : bodyR P G fn Q e s := end_pure he m (hres.ent hv) hq

/-! ### more operations that read -/
theorem rd_notD {t : TypeId} {x : Operand} {p : Prop} [Decidable p] (ho : o.op = .unOp .not t x) (hx : s.eval x = .c (.bool (decide p))) : ARd P G o s (.c (.bool (decide (¬ p)))) := (rd_not ho hx).bool (by simp)
variable {t u : TypeId} {p q : Operand} {k : IntKind}
theorem rd_convSS {l : ByteArray} (ho : o.op = .convert t u p) (hx : s.eval p = .c (.string l)) (h1 : P.underlying t = some .string) (h2 : P.underlying u = some .string) : ARd P G o s (.c (.string l)) := fun _ _ _ h =>
  ⟨_, fun W _ => by simp only [execOp, ho, evC h hx]; exact vOk (v := .string l) (by simp [convert, underlying, h1, h2]), rfl⟩
theorem rd_convBN {e : TypeId} (ho : o.op = .convert t u p) (hx : s.eval p = .c (.slice none 0 0)) (h1 : P.underlying t = some (.slice e)) (h2 : P.underlying e = some (.int .u8)) (h3 : P.underlying u = some .string) : ARd P G o s (.c (.string ⟨#[]⟩)) := fun St a w h => by
  refine ⟨_, fun W _ => ?_, rfl⟩
  simp only [execOp, ho, evC h hx]
  exact vOk (run_string_bs (Bs.nil W) _ _ _ h1 h2 h3)
theorem bs_of_os {St : Nat → Prop} {a : Act} {w : World} (h : RelSt G St s a w) {x : Operand} {i off n N : Nat} {g : Option Nat} {F : Nat → CV} {l : List UInt8} (hx : s.eval x = .os i g off n 1) (hH : Holds s i g N F) (hn : n = l.length) (hN : off + n ≤ N) (hf : ∀ a, a < n → CEnt (F (off + a)) (byF l a)) : Bs w (a.eval x) l := by
  subst hn
  have he := evR h hx
  cases g with
  | none =>
    obtain ⟨h1, h2⟩ := he
    rw [h2, List.eq_nil_of_length_eq_zero h1]
    exact Bs.nil w
  | some g =>
    obtain ⟨cap, h1, h2, h3, _⟩ := he
    rw [h1]
    obtain ⟨hg, cur, ty, z, hh, hle, hcell⟩ := holdCells h hH
    refine Bs.of_cells h2 h3 fun j hj => ?_
    have hlt : off + j < cur.size := by omega
    rw [cell_of_row w g _ cur ty z hh]
    have := hf j hj _ _ _ _ (hcell (off + j) (by omega))
    have e : cur.getD (off + j) undef = .int .u8 ((l.getD j 0).toNat : Nat) := this
    rw [← e]
    simp [hlt]
theorem rd_convBO {e : TypeId} {i off n N : Nat} {g : Option Nat} {F : Nat → CV} (l : List UInt8) (ho : o.op = .convert t u p) (hx : s.eval p = .os i g off n 1) (hH : Holds s i g N F) (hn : n = l.length) (hN : off + n ≤ N) (hf : ∀ a, a < n → CEnt (F (off + a)) (byF l a))
    (h1 : P.underlying t = some (.slice e)) (h2 : P.underlying e = some (.int .u8)) (h3 : P.underlying u = some .string) : ARdO P G o s (.c (.string ⟨l.toArray⟩)) := fun St a w h => by
  refine ⟨_, fun W hW => ?_, rfl⟩
  have hb := (bs_of_os h hx hH hn hN hf).below hW
  obtain ⟨ao, cap, e0, _⟩ := id hb
  simp only [execOp, ho, e0]
  rw [e0] at hb
  exact vOk (run_string_bs hb _ _ _ h1 h2 h3)

theorem rd_sliceB {e : TypeId} {a b : Operand} {z1 z2 : Int} {k1 k2 : IntKind} {l v : Nat} {bl : List UInt8} (ho : o.op = .slice t p (some a) (some b) none) (hx : s.eval p = bsC bl) (h1 : P.underlying t = some (.slice e)) (h5 : (P.info? e).map (·.size) = some 1)
    (ha : s.eval a = .c (.int k1 z1)) (hz1 : z1 = (l : Int)) (hb : s.eval b = .c (.int k2 z2)) (hz2 : z2 = (v : Int)) (hlv : l ≤ v) (hvn : v ≤ bl.length) : ARd P G o s (bsC ((bl.take v).drop l)) :=
  (rd_sliceR ho hx h1 h5 (bd_some ha hz1) (bd_some hb hz2) hlv hvn).ent (bs_piece bl l v hlv hvn)
theorem rd_sliceB_from {e : TypeId} {a : Operand} {z1 : Int} {k1 : IntKind} {l : Nat} {bl : List UInt8} (ho : o.op = .slice t p (some a) none none) (hx : s.eval p = bsC bl) (h1 : P.underlying t = some (.slice e)) (h5 : (P.info? e).map (·.size) = some 1)
    (ha : s.eval a = .c (.int k1 z1)) (hz1 : z1 = (l : Int)) (hlv : l ≤ bl.length) : ARd P G o s (bsC (bl.drop l)) :=
  (rd_sliceR ho hx h1 h5 (bd_some ha hz1) (bd_none _ _) hlv (Nat.le_refl _)).ent (bs_from bl l hlv)
theorem rd_sliceB_to {e : TypeId} {b : Operand} {z2 : Int} {k2 : IntKind} {v : Nat} {bl : List UInt8} (ho : o.op = .slice t p none (some b) none) (hx : s.eval p = bsC bl) (h1 : P.underlying t = some (.slice e)) (h5 : (P.info? e).map (·.size) = some 1)
    (hb : s.eval b = .c (.int k2 z2)) (hz2 : z2 = (v : Int)) (hvn : v ≤ bl.length) : ARd P G o s (bsC (bl.take v)) :=
  (rd_sliceR ho hx h1 h5 (bd_none _ _) (bd_some hb hz2) (Nat.zero_le _) hvn).ent (bs_to bl v hvn)

/-- nil against nil -/
theorem rd_eqE0 (ho : o.op = .binOp .eql 27 p (.const .nilIface) u) (hx : s.eval p = .c .nilIface) : ARd Tryd.prog G o s (.c (.bool (decide ((0 : Nat) = 0)))) := fun St a w h => by
  have hs : a.eval p = ev G.al 0 := (evC h hx).trans (ev_zero _).symm
  refine ⟨.bool (decide ((0 : Nat) = 0)), fun W _ => ?_, rfl⟩
  simp only [execOp, ho, hs]
  refine vOk ?_
  show (do eqGuard .eql _ _ _ (ev G.al 0) .nilIface; binOp .eql _ (ev G.al 0) .nilIface : Sem Value).run _ W = _
  rw [eqGuard_ev_nil]
  exact run_eql_ev_nil G.al 0 W
theorem rd_neE0 (ho : o.op = .binOp .neq 27 p (.const .nilIface) u) (hx : s.eval p = .c .nilIface) : ARd Tryd.prog G o s (.c (.bool (decide ((0 : Nat) ≠ 0)))) := fun St a w h => by
  have hs : a.eval p = ev G.al 0 := (evC h hx).trans (ev_zero _).symm
  refine ⟨.bool (decide ((0 : Nat) ≠ 0)), fun W _ => ?_, rfl⟩
  simp only [execOp, ho, hs]
  refine vOk ?_
  show (do eqGuard .neq _ _ _ (ev G.al 0) .nilIface; binOp .neq _ (ev G.al 0) .nilIface : Sem Value).run _ W = _
  rw [eqGuard_ev_nil]
  have := run_neq_ev_nil G.al 0 W
  rw [← decide_not] at this
  exact this
/-- a pointer against nil -/
theorem eqG_ptr (op : BinOp) (t : TypeId) (x y : Operand) (a b : Option Addr) (W : World) : (eqGuard op t x y (.pointer a) (.pointer b)).run P W = .ok () W := by
  unfold eqGuard
  split <;> simp
theorem run_ptr_nil {e : TypeId} (ht : P.underlying t = some (.pointer e)) (a : Addr) (W : World) : (Op.equal t (.pointer (some a)) (.pointer none)).run P W = .ok false W := by
  show (Op.equalIn 10000 t (.pointer (some a)) (.pointer none)).run P W = _
  rw [show (10000 : Nat) = 9999 + 1 from rfl, Op.equalIn]
  simp only [underlying, Sem.run_bind, run_program, Result.andThen_ok, ht, Sem.run_pure]
theorem rd_eqP {e : TypeId} {i off : Nat} {g : Option Nat} (ho : o.op = .binOp .eql t p q u) (hx : s.eval p = .op i g off) (hy : s.eval q = .c (.pointer none)) (ht : P.underlying t = some (.pointer e)) : ARd P G o s (.c (.bool false)) := fun St a w h => by
  obtain ⟨b, rfl, e0⟩ := evR h hx
  refine ⟨_, fun W _ => ?_, rfl⟩
  simp only [execOp, ho, e0, evC h hy]
  refine vOk ?_
  simp [eqG_ptr, binOp, run_ptr_nil ht]
theorem rd_neP {e : TypeId} {i off : Nat} {g : Option Nat} (ho : o.op = .binOp .neq t p q u) (hx : s.eval p = .op i g off) (hy : s.eval q = .c (.pointer none)) (ht : P.underlying t = some (.pointer e)) : ARd P G o s (.c (.bool true)) := fun St a w h => by
  obtain ⟨b, rfl, e0⟩ := evR h hx
  refine ⟨_, fun W _ => ?_, rfl⟩
  simp only [execOp, ho, e0, evC h hy]
  refine vOk ?_
  simp [eqG_ptr, binOp, run_ptr_nil ht]
theorem rd_eqPR {e : TypeId} {n : Nat} {f : Nat → CV} (ho : o.op = .binOp .eql t p q u) (hx : s.eval p = .rp n f) (hy : s.eval q = .c (.pointer none)) (ht : P.underlying t = some (.pointer e)) : ARd P G o s (.c (.bool false)) := fun St a w h => by
  obtain ⟨b, z, e0, _⟩ := evR h hx
  refine ⟨_, fun W _ => ?_, rfl⟩
  simp only [execOp, ho, e0, evC h hy]
  refine vOk ?_
  simp [eqG_ptr, binOp, run_ptr_nil ht]
theorem rd_nePR {e : TypeId} {n : Nat} {f : Nat → CV} (ho : o.op = .binOp .neq t p q u) (hx : s.eval p = .rp n f) (hy : s.eval q = .c (.pointer none)) (ht : P.underlying t = some (.pointer e)) : ARd P G o s (.c (.bool true)) := fun St a w h => by
  obtain ⟨b, z, e0, _⟩ := evR h hx
  refine ⟨_, fun W _ => ?_, rfl⟩
  simp only [execOp, ho, e0, evC h hy]
  refine vOk ?_
  simp [eqG_ptr, binOp, run_ptr_nil ht]

/-! ### rows of one kind -/
/-- cell j of a row of things: each has k cells -/
def rowF {α : Type} (k : Nat) (e : α → Nat → CV) (d : α) (l : List α) (j : Nat) : CV := e (l.getD (j / k) d) (j % k)
theorem rowF_at {α : Type} {k : Nat} {e : α → Nat → CV} {d : α} {l : List α} {i j : Nat} (hj : j < k) : rowF k e d l (i * k + j) = e (l.getD i d) j := by
  unfold rowF
  rw [Nat.mul_comm i k, Nat.mul_add_div (by omega), Nat.div_eq_of_lt hj, Nat.add_zero, Nat.mul_add_mod, Nat.mod_eq_of_lt hj]
theorem appF_row {α : Type} {k : Nat} {e : α → Nat → CV} {d : α} {l l2 : List α} {h : Nat → CV} (hh : ∀ j, j < l2.length * k → CEnt (h j) (rowF k e d l2 j)) : ∀ j, j < (l.length + l2.length) * k → CEnt (appF (l.length * k) (rowF k e d l) h j) (rowF k e d (l ++ l2) j) := fun j hj => by
  unfold appF
  rcases Nat.eq_zero_or_pos k with h0 | h0
  · subst h0; simp at hj
  by_cases h1 : j < l.length * k
  · rw [if_pos h1]
    refine CEnt.of_eq ?_
    have h2 : j / k < l.length := Nat.div_lt_of_lt_mul (by rw [Nat.mul_comm]; exact h1)
    simp only [rowF, List.getD_eq_getElem?_getD, List.getElem?_append_left h2]
  · rw [if_neg h1]
    rw [Nat.add_mul] at hj
    obtain ⟨q, rfl⟩ : ∃ q, j = l.length * k + q := ⟨j - l.length * k, by omega⟩
    rw [Nat.add_sub_cancel_left]
    refine CEnt.trans (hh q (by omega)) (CEnt.of_eq ?_)
    unfold rowF
    rw [Nat.mul_comm l.length k, Nat.mul_add_div h0, Nat.mul_add_mod, List.getD_eq_getElem?_getD, List.getD_eq_getElem?_getD, List.getElem?_append_right (Nat.le_add_right _ _), Nat.add_sub_cancel_left]
theorem byF_append {l l2 : List UInt8} {h : Nat → CV} (hh : ∀ j, j < l2.length → CEnt (h j) (byF l2 j)) : ∀ j, j < (l.length + l2.length) * 1 → CEnt (appF (l.length * 1) (byF l) h j) (byF (l ++ l2) j) := fun j hj => by
  unfold appF
  by_cases h1 : j < l.length * 1
  · rw [if_pos h1]
    refine CEnt.of_eq ?_
    simp only [byF, List.getD_eq_getElem?_getD, List.getElem?_append_left (show j < l.length by omega)]
  · rw [if_neg h1]
    refine CEnt.trans (hh _ (by omega)) (CEnt.of_eq ?_)
    simp only [byF, List.getD_eq_getElem?_getD, List.getElem?_append_right (show l.length ≤ j by omega), Nat.mul_one]

/-- append of bytes to bytes of its own -/
theorem md_appendB {e : TypeId} {z : Value} {i N : Nat} {g : Option Nat} {f h : Nat → CV} {l l2 : List UInt8} {m : Nat} (ho : o.op = .call ⟨.builtin .append, #[p, q], #[t, u]⟩) (hx : s.eval p = .os i g 0 l.length 1) (hH : s.H[i]? = some (g, .blk N f)) (hN : l.length ≤ N) (hf : ∀ j, j < l.length → CEnt (f j) (byF l j))
    (hsrc : ASrc P G s q 1 m h) (hm : m = l2.length) (hh : ∀ j, j < l2.length → CEnt (h j) (byF l2 j)) (h1 : P.underlying t = some (.slice e)) (hu : notInt P u = true) (h5 : (P.info? e).map (·.size) = some 1) (hz : (P.info? e).map (·.zero) = some (some z)) (hby : (P.info? e).map (·.bytes) = some 1) (hzk : z.cells.size = 1)
    (h63 : l.length + l2.length ≤ 140737488355328) (hleaf : ∀ j, j < m * 1 → leafC (h j) = true) (hd : dstOk G o = true)
    (hK : ∀ g', K (s.with o.dst (.os i g' 0 (l ++ l2).length 1) (s.H.set i (g', .blk (l ++ l2).length (byF (l ++ l2)))))) : AMd P G o s K := by
  subst hm
  refine md_append ho hx hH (by omega) hsrc h1 hu h5 hz hby (by omega) (by omega) hzk (byF (l ++ l2)) (fun j hj => ?_) hleaf hd (fun g' => ?_)
  · refine CEnt.trans ?_ (byF_append hh j hj)
    unfold appF
    split
    · exact hf j (by omega)
    · exact CEnt.refl _
  · have := hK g'
    rw [List.length_append] at this
    rw [Nat.mul_one]
    exact this

/-! ### operations that make or write memory, the state written out -/
variable {env : List (Nat × CV)} {b0 : Nat → CV} {H : List (Option Nat × Res)}
theorem with_some {d : Nat} {v : CV} {H' : List (Option Nat × Res)} (hd : o.dst = some d) : (⟨env, b0, H⟩ : AS).with o.dst v H' = ⟨(d, v) :: env, b0, H'⟩ := by simp only [AS.with, AS.put, hd]
theorem with_none {v : CV} {H' : List (Option Nat × Res)} (hd : o.dst = none) : (⟨env, b0, H⟩ : AS).with o.dst v H' = ⟨env, b0, H'⟩ := by simp only [AS.with, AS.put, hd]
theorem dst_s {d : Nat} (hd : o.dst = some d) (hN : Nat.blt d G.N = true) : dstOk G o = true := by simp only [dstOk, hd]; exact hN
theorem dst_n (hd : o.dst = none) : dstOk G o = true := by simp only [dstOk, hd]

theorem e_alloc {z : Value} {n d : Nat} (ho : o.op = .alloc t) (hz : (P.info? t).map (·.zero) = some (some z)) (hn : z.cells.size = n) (hd : o.dst = some d) (hN : Nat.blt d G.N = true)
    (hK : ∀ g, K ⟨(d, .op H.length g 0) :: env, b0, H ++ [(g, .blk n fun j => .c (z.cells.getD j undef))]⟩) : AEx P G o ⟨env, b0, H⟩ K :=
  ex_alloc ho hz hn (dst_s hd hN) fun g => by rw [with_some hd]; exact hK g
theorem e_box {n d : Nat} {c : CV} {l : List CV} (ho : o.op = .box t p) (hx : (⟨env, b0, H⟩ : AS).eval p = c) (hl : cellsC c = some l) (hn : l.length = n) (hd : o.dst = some d) (hN : Nat.blt d G.N = true)
    (hK : ∀ g, K ⟨(d, .op H.length g 0) :: env, b0, H ++ [(g, .blk n (fl l))]⟩) : AEx P G o ⟨env, b0, H⟩ K :=
  ex_box ho hx hl hn (dst_s hd hN) fun g => by rw [with_some hd]; exact hK g
theorem e_buildSlice {e : TypeId} {z : Value} {len m : Nat} {parts : Array (Nat × Operand)} {l : List CV} {n d : Nat} (ho : o.op = .buildSlice t len parts) (h1 : P.underlying t = some (.slice e)) (h5 : (P.info? e).map (·.size) = some m) (hz : (P.info? e).map (·.zero) = some (some z))
    (hm : Nat.ble (len * m) 16777216 = true) (hlen : Nat.ble len 16777216 = true) (hf : fillC (fun i => some (i * m, m)) ((List.range (len * m)).map fun i => .c (z.cells[i % z.cells.size]!)) (parts.toList.map fun p => (p.1, (⟨env, b0, H⟩ : AS).eval p.2)) = some l) (hn : l.length = n) (hle : n = len * m) (hd : o.dst = some d) (hN : Nat.blt d G.N = true)
    (hK : ∀ g, K ⟨(d, .os H.length g 0 len m) :: env, b0, H ++ [(g, .blk n (fl l))]⟩) : AEx P G o ⟨env, b0, H⟩ K :=
  ex_buildSlice ho h1 h5 hz hm hlen hf hn hle (dst_s hd hN) fun g => by rw [with_some hd]; exact hK g
theorem e_convSB {e : TypeId} {l : ByteArray} {d : Nat} (ho : o.op = .convert t u p) (hx : (⟨env, b0, H⟩ : AS).eval p = .c (.string l)) (h1 : P.underlying t = some .string) (h2 : P.underlying u = some (.slice e)) (h3 : P.underlying e = some (.int .u8)) (hl : l.size ≤ 9223372036854775807) (hd : o.dst = some d) (hN : Nat.blt d G.N = true)
    (hK : K ⟨(d, bsC l.data.toList) :: env, b0, H⟩) : AEx P G o ⟨env, b0, H⟩ K :=
  ex_convSB ho hx h1 h2 h3 hl (dst_s hd hN) (by rw [with_some hd]; exact hK)
theorem e_callP {f : FuncId} {xs : Array Operand} {ats : Array TypeId} {args : List CV} {m : CV} {d : Nat} (ho : o.op = .call ⟨.value (.func f), xs, ats⟩) (hc : calleeB P f = true) (hA : ACp G.gs P f args m) (he : SEL G ⟨env, b0, H⟩ xs.toList args) (hd : o.dst = some d) (hN : Nat.blt d G.N = true)
    (hK : K ⟨(d, m) :: env, b0, H⟩) : AEx P G o ⟨env, b0, H⟩ K := ex_callP ho hc hA he (dst_s hd hN) (by rw [with_some hd, List.append_nil]; exact hK)
theorem e_callP0 {f : FuncId} {xs : Array Operand} {ats : Array TypeId} {args : List CV} {m : CV} (ho : o.op = .call ⟨.value (.func f), xs, ats⟩) (hc : calleeB P f = true) (hA : ACp G.gs P f args m) (he : SEL G ⟨env, b0, H⟩ xs.toList args) (hd : o.dst = none)
    (hK : K ⟨env, b0, H⟩) : AEx P G o ⟨env, b0, H⟩ K := ex_callP ho hc hA he (dst_n hd) (by rw [with_none hd, List.append_nil]; exact hK)
theorem e_callS {f : FuncId} {xs : Array Operand} {ats : Array TypeId} {args : List CV} {Q : CV → List (Option Nat × Res) → Prop} {d : Nat} (ho : o.op = .call ⟨.value (.func f), xs, ats⟩) (hc : calleeB P f = true) (hA : AC G.gs P f [] args Q) (he : SEL G ⟨env, b0, H⟩ xs.toList args) (hd : o.dst = some d) (hN : Nat.blt d G.N = true)
    (hK : ∀ r H', Q r H' → K ⟨(d, r) :: env, b0, H ++ H'⟩) : AEx P G o ⟨env, b0, H⟩ K := ex_callS ho hc hA he (dst_s hd hN) (fun r H' hq => by rw [with_some hd]; exact hK r H' hq)
theorem e_callV {f : FuncId} {v : Operand} {n d : Nat} {fv : Nat → CV} {xs : Array Operand} {ats : Array TypeId} {args : List CV} {Q : CV → List (Option Nat × Res) → Prop} (ho : o.op = .call ⟨.value v, xs, ats⟩) (hv : (⟨env, b0, H⟩ : AS).eval v = .fn f n fv) (hc : calleeB P f = true) (hA : AC G.gs P f [] args Q) (he : EntL (xs.toList.map (⟨env, b0, H⟩ : AS).eval ++ (List.range n).map fv) args) (hd : o.dst = some d) (hN : Nat.blt d G.N = true)
    (hK : ∀ r H', Q r H' → K ⟨(d, r) :: env, b0, H ++ H'⟩) : AEx P G o ⟨env, b0, H⟩ K := ex_callv ho hv hc he hA (dst_s hd hN) (fun r H' hq => by rw [with_some hd]; exact hK r H' hq)
theorem m_store {i off n m : Nat} {g : Option Nat} {f : Nat → CV} {c : CV} {l : List CV} (ho : o.op = .store t p q) (hx : (⟨env, b0, H⟩ : AS).eval p = .op i g off) (hH : H[i]? = some (g, .blk n f)) (hy : (⟨env, b0, H⟩ : AS).eval q = c) (hl : cellsC c = some l) (h5 : (P.info? t).map (·.size) = some m) (hm : l.length = m) (hleaf : l.all leafC = true) (hn : off + m ≤ n)
    (F : Nat → CV) (hF : ∀ j, j < n → CEnt (updF f off l j) (F j)) (hd : o.dst = none) (hK : K ⟨env, b0, H.set i (g, .blk n F)⟩) : AMd P G o ⟨env, b0, H⟩ K :=
  md_store ho hx hH hy hl h5 hm hleaf hn F hF (dst_n hd) (by rw [with_none hd]; exact hK)
theorem m_append {e : TypeId} {z : Value} {i n m k N by_ n' N' d : Nat} {g : Option Nat} {f h : Nat → CV} (ho : o.op = .call ⟨.builtin .append, #[p, q], #[t, u]⟩) (hx : (⟨env, b0, H⟩ : AS).eval p = .os i g 0 n k) (hH : H[i]? = some (g, .blk N f)) (hN : n * k ≤ N)
    (hsrc : ASrc P G ⟨env, b0, H⟩ q k m h) (h1 : P.underlying t = some (.slice e)) (hu : notInt P u = true) (h5 : (P.info? e).map (·.size) = some k) (hz : (P.info? e).map (·.zero) = some (some z)) (hby : (P.info? e).map (·.bytes) = some by_)
    (h63 : n + m ≤ 9223372036854775807) (h48 : (n + m) * by_ ≤ 140737488355328) (hzk : z.cells.size = k)
    (F : Nat → CV) (hF : ∀ j, j < (n + m) * k → CEnt (appF (n * k) f h j) (F j)) (hleaf : ∀ j, j < m * k → leafC (h j) = true) (hd : o.dst = some d) (hdN : Nat.blt d G.N = true) (hn' : n + m = n') (hN' : (n + m) * k = N')
    (hK : ∀ g', K ⟨(d, .os i g' 0 n' k) :: env, b0, H.set i (g', .blk N' F)⟩) : AMd P G o ⟨env, b0, H⟩ K :=
  md_append ho hx hH hN hsrc h1 hu h5 hz hby h63 h48 hzk F hF hleaf (dst_s hd hdN) fun g' => by subst hn'; subst hN'; rw [with_some hd]; exact hK g'
theorem m_appendB {e : TypeId} {z : Value} {i N d : Nat} {g : Option Nat} {f h : Nat → CV} {l l2 : List UInt8} {m : Nat} (ho : o.op = .call ⟨.builtin .append, #[p, q], #[t, u]⟩) (hx : (⟨env, b0, H⟩ : AS).eval p = .os i g 0 l.length 1) (hH : H[i]? = some (g, .blk N f)) (hN : l.length ≤ N) (hf : ∀ j, j < l.length → CEnt (f j) (byF l j))
    (hsrc : ASrc P G ⟨env, b0, H⟩ q 1 m h) (hm : m = l2.length) (hh : ∀ j, j < l2.length → CEnt (h j) (byF l2 j)) (h1 : P.underlying t = some (.slice e)) (hu : notInt P u = true) (h5 : (P.info? e).map (·.size) = some 1) (hz : (P.info? e).map (·.zero) = some (some z)) (hby : (P.info? e).map (·.bytes) = some 1) (hzk : z.cells.size = 1)
    (h63 : l.length + l2.length ≤ 140737488355328) (hleaf : ∀ j, j < m * 1 → leafC (h j) = true) (hd : o.dst = some d) (hdN : Nat.blt d G.N = true)
    (hK : ∀ g', K ⟨(d, .os i g' 0 (l ++ l2).length 1) :: env, b0, H.set i (g', .blk (l ++ l2).length (byF (l ++ l2)))⟩) : AMd P G o ⟨env, b0, H⟩ K :=
  md_appendB ho hx hH hN hf hsrc hm hh h1 hu h5 hz hby hzk h63 hleaf (dst_s hd hdN) fun g' => by rw [with_some hd]; exact hK g'
theorem l_loop {c : Code} {α : Type} (D : List Nat) (M : α → List (Nat × CV)) (Hp : α → List (Option Nat × Res)) (φ : α → Prop) (μ : α → Nat) (p0 : α) (h0 : φ p0) (hM : ∀ p, ((M p).all fun x => D.any (Nat.beq x.1)) = true) (he : EntE env b0 (M p0)) (hH : HEnt H (Hp p0))
    (hr : ∀ p, φ p → ACode P G c ⟨M p, lay D env b0, Hp p⟩ (thenR (fun s' => ∃ p', φ p' ∧ μ p' < μ p ∧ BLe D (lay D env b0) s'.b ∧ (s'.env.all fun x => D.any (Nat.beq x.1)) = true ∧ EntE s'.env s'.b (M p') ∧ (Hp p').length ≤ s'.H.length ∧ HEnt (s'.H.take (Hp p').length) (Hp p')) R)) : ACode P G (.loop c) ⟨env, b0, H⟩ R :=
  code_loopD (s := ⟨env, b0, H⟩) D M Hp φ μ p0 h0 hM he hH hr
end
end Am
end Go.Proofs.YtdfjiodkmhpfkaaDoor

/- The abstract walk, ninth part: a block handed over to a call and back; nil that grows; lists of numbers; from contracts to laws. -/
namespace Go.Proofs.YtdfjiodkmhpfkaaDoor
set_option linter.unusedVariables false
open Go.RowKit
namespace Am
section
variable {P : Program} {G : Gh} {ops : Array Oper} {o : Oper} {s : AS} {K : AS → Prop} {t u : TypeId} {p q : Operand} {k : IntKind}
variable {env : List (Nat × CV)} {b0 : Nat → CV} {H : List (Option Nat × Res)}

/-! ### a block that is handed over -/
theorem RelSt.afterH {St St' : Nat → Prop} {a : Act} {w w' : World} (h : RelSt G St s a w) {fp : Nat → Nat → Prop} (hp : HFoot G.al St w G.w0.heap.size G.F0 s.H fp) {i : Nat} (hi : i < s.H.length) {x : Option Nat × Res} (hu : Under (fp i) w w') (h1 : ∀ b, St b → St' b) (h2 : ∀ b, St' b → St b ∨ w.heap.size ≤ b ∨ fp i b) (h3 : ∀ b, St' b → b < w'.heap.size) (hp' : HRel G.al St' w' w.heap.size (fp i) [x]) :
    RelSt G St' ⟨s.env, s.b, s.H.set i x⟩ a w' := by
  have hst : ∀ b, St b → w'.heap[b]? = w.heap[b]? := fun b hb => hu.block b (h.s3 b hb) fun hf => (hp.own i b hf).2.1 hb
  have he : Evo St w w' := ⟨fun b cur t z hb hc => (hst b hb).trans hc, hu.sh⟩
  obtain ⟨fp', hp'⟩ := hp'
  refine ⟨h.df.keep h1 hst, h.sz, fun d => RepC.evo he h1 _ _ (h.env d), ⟨hu.os.trans h.un.os, hu.tape.trans h.un.tape, hu.output.trans h.un.output, Nat.le_trans h.un.size hu.size, fun k hk hF => ?_, fun b cur ty z hb => ?_⟩, fun b hs => h1 b (h.s1 b hs), fun b hs => ?_, h3, ?_, ?_, fun g hg => h1 g (h.sg.1 g hg), fun y hy => h1 _ (h.sg.2 y hy)⟩
  · refine (hu.block k (Nat.lt_of_lt_of_le hk h.un.size) fun hf => ?_).trans (h.un.block k hk hF)
    rcases (hp.own i k hf).2.2 with h4 | h4
    · omega
    · exact hF h4
  · obtain ⟨cur', z', h4, h5⟩ := h.un.sh b cur ty z hb
    obtain ⟨cur2, z2, h6, h7⟩ := hu.sh b cur' ty z' h4
    exact ⟨cur2, z2, h6, h7.trans h5⟩
  · rcases h2 b hs with hs | hs | hs
    · exact h.s2 b hs
    · exact .inr (.inl (Nat.le_trans h.un.size hs))
    · exact .inr (hp.own i b hs).2.2
  · have old : ∀ j b, j ≠ i → fp j b → w'.heap[b]? = w.heap[b]? := fun j b hj hb => hu.block b (hp.own j b hb).1 fun hf => hj (hp.dis j i b hb hf)
    refine ⟨fun j b => if j = i then fp' 0 b else fp j b, fun j q r hj => ?_, fun j l b hj hl => ?_, fun j b hj => ?_, fun j hj b hb => ?_⟩
    · by_cases e : j = i
      · subst e
        simp [hi] at hj
        have e2 : (fun b => if j = j then fp' 0 b else fp j b) = fp' 0 := funext fun b => by simp
        show r.rep G.al St' w' (fun b => if j = j then fp' 0 b else fp j b) q
        rw [e2]
        exact hp'.rep 0 q r (by simp [hj])
      · rw [List.getElem?_set_ne (Ne.symm e)] at hj
        have e2 : (fun b => if j = i then fp' 0 b else fp j b) = fp j := funext fun b => by simp [e]
        show r.rep G.al St' w' (fun b => if j = i then fp' 0 b else fp j b) q
        rw [e2]
        exact Res.rep_evo he h1 (fun b hF => old j b e hF) (hp.rep j q r hj)
    · have apart : ∀ l b, l ≠ i → fp l b → fp' 0 b → False := fun l b hl h4 h5 => by
        rcases (hp'.own 0 b h5).2.2 with h6 | h6
        · have := (hp.own l b h4).1; omega
        · exact hl (hp.dis l i b h4 h6)
      by_cases e1 : j = i <;> by_cases e2 : l = i
      · omega
      · simp only [e1, e2, if_true, if_false] at hj hl; exact (apart l b e2 hl hj).elim
      · simp only [e1, e2, if_true, if_false] at hj hl; exact (apart j b e1 hj hl).elim
      · simp only [e1, e2, if_false] at hj hl; exact hp.dis j l b hj hl
    · by_cases e : j = i
      · simp only [e, if_true] at hj
        obtain ⟨h4, h5, h6⟩ := hp'.own 0 b hj
        refine ⟨h4, h5, ?_⟩
        rcases h6 with h6 | h6
        · exact .inl (Nat.le_trans h.un.size h6)
        · exact (hp.own i b h6).2.2
      · simp only [e, if_false] at hj
        obtain ⟨h4, h5, h6⟩ := hp.own j b hj
        refine ⟨Nat.lt_of_lt_of_le h4 hu.size, fun hs => ?_, h6⟩
        rcases h2 b hs with hs | hs | hs
        · exact h5 hs
        · omega
        · exact e (hp.dis j i b hj hs)
    · have hj' : s.H.length ≤ j := by simpa using hj
      have e : j ≠ i := by omega
      simp only [e, if_false] at hb
      exact hp.out j hj' b hb
  · exact SentL.keep h.sn (fun q hq => hst q (h.sg.1 q hq)) (fun y hy => hst _ (h.sg.2 y hy))

/-- a call that is handed the block i, and hands one back in its place -/
theorem m_callH {f : FuncId} {xs : Array Operand} {ats : Array TypeId} {args : List CV} {Q : CV → List (Option Nat × Res) → Prop} {i d : Nat} {x0 : Option Nat × Res} (ho : o.op = .call ⟨.value (.func f), xs, ats⟩) (hc : calleeB P f = true) (hi : H[i]? = some x0) (hA : AC G.gs P f [x0] args Q) (he : SEL G ⟨env, b0, H⟩ xs.toList args) (hd : o.dst = some d) (hN : Nat.blt d G.N = true)
    (hK : ∀ r H', Q r H' → ∃ x r', H' = [x] ∧ CEnt r r' ∧ K ⟨(d, r') :: env, b0, H.set i x⟩) : AMd P G o ⟨env, b0, H⟩ K := fun St a w hr Q' => by
  unfold Oper.wp
  rw [exec_call ho hc]
  obtain ⟨h1, h2⟩ := args_se he hr
  obtain ⟨fp, hp⟩ := hr.hp
  have hlt : i < H.length := (List.getElem?_eq_some_iff.1 hi).1
  obtain ⟨g0, r0⟩ := x0
  have hent : Entry G.gs G.al St (fp i) [(g0, r0)] w := by
    refine ⟨hr.s3, hr.sn, hr.sg, ⟨fun j b => j = 0 ∧ fp i b, fun j g r hj => ?_, fun j l b hj hl => by omega, fun j b hj => ⟨(hp.own i b hj.2).1, (hp.own i b hj.2).2.1, .inr hj.2⟩, fun j hj b hb => by simp at hj; omega⟩, fun b hb => (hp.own i b hb).2.1⟩
    match j, hj with
    | 0, hj =>
      simp at hj
      obtain ⟨rfl, rfl⟩ := hj
      have e : (fun b => (0 : Nat) = 0 ∧ fp i b) = fp i := funext fun b => by simp
      show r0.rep G.al St w (fun b => (0 : Nat) = 0 ∧ fp i b) g0
      rw [e]
      exact hp.rep i g0 r0 hi
    | j + 1, hj => simp at hj
  refine (hA G.al w St _ _ hent h1 h2).mono ?_
  rintro e w' ⟨v, r, H', St', rfl, hq, hv, hu, h3, h4, h5, h6⟩
  obtain ⟨x, r', rfl, hce, hk⟩ := hK r H' hq
  refine ⟨fun b hb => hu.block b (hr.s3 b hb) fun hf => (hp.own i b hf).2.1 hb, St', h3, _, hk, ?_⟩
  have h7 := (hr.afterH hp hlt hu h3 h4 h5 h6).put (dst := o.dst) (v := r') (x := v) (by intro d' hd'; rw [hd] at hd'; cases hd'; exact Nat.le_of_ble_eq_true hN) (hce _ _ _ _ hv)
  rw [hd] at h7 ⊢
  exact h7
/-- such a call whose result goes nowhere -/
theorem m_callH0 {f : FuncId} {xs : Array Operand} {ats : Array TypeId} {args : List CV} {Q : CV → List (Option Nat × Res) → Prop} {i : Nat} {x0 : Option Nat × Res} (ho : o.op = .call ⟨.value (.func f), xs, ats⟩) (hc : calleeB P f = true) (hi : H[i]? = some x0) (hA : AC G.gs P f [x0] args Q) (he : SEL G ⟨env, b0, H⟩ xs.toList args) (hd : o.dst = none)
    (hK : ∀ r H', Q r H' → ∃ x, H' = [x] ∧ K ⟨env, b0, H.set i x⟩) : AMd P G o ⟨env, b0, H⟩ K := fun St a w hr Q' => by
  unfold Oper.wp
  rw [exec_call ho hc]
  obtain ⟨h1, h2⟩ := args_se he hr
  obtain ⟨fp, hp⟩ := hr.hp
  have hlt : i < H.length := (List.getElem?_eq_some_iff.1 hi).1
  obtain ⟨g0, r0⟩ := x0
  have hent : Entry G.gs G.al St (fp i) [(g0, r0)] w := by
    refine ⟨hr.s3, hr.sn, hr.sg, ⟨fun j b => j = 0 ∧ fp i b, fun j g r hj => ?_, fun j l b hj hl => by omega, fun j b hj => ⟨(hp.own i b hj.2).1, (hp.own i b hj.2).2.1, .inr hj.2⟩, fun j hj b hb => by simp at hj; omega⟩, fun b hb => (hp.own i b hb).2.1⟩
    match j, hj with
    | 0, hj =>
      simp at hj
      obtain ⟨rfl, rfl⟩ := hj
      have e : (fun b => (0 : Nat) = 0 ∧ fp i b) = fp i := funext fun b => by simp
      show r0.rep G.al St w (fun b => (0 : Nat) = 0 ∧ fp i b) g0
      rw [e]
      exact hp.rep i g0 r0 hi
    | j + 1, hj => simp at hj
  refine (hA G.al w St _ _ hent h1 h2).mono ?_
  rintro e w' ⟨v, r, H', St', rfl, hq, hv, hu, h3, h4, h5, h6⟩
  obtain ⟨x, rfl, hk⟩ := hK r H' hq
  refine ⟨fun b hb => hu.block b (hr.s3 b hb) fun hf => (hp.own i b hf).2.1 hb, St', h3, _, hk, ?_⟩
  have h7 := hr.afterH hp hlt hu h3 h4 h5 h6
  rw [hd]
  exact h7

theorem CEnt.osI {i j : Nat} {g : Option Nat} {off n m k : Nat} (h : n = m) : CEnt (.os i g off n k) (.os j g off m k) := by
  subst h
  cases g <;> exact fun _ _ _ _ h => h
theorem CEnt.opI {i j off : Nat} {g : Option Nat} : CEnt (.op i g off) (.op j g off) := fun _ _ _ _ h => h
/-- a call that hands on a slice of its own -/
def OwnQ (n k N : Nat) (F : Nat → CV) : CV → List (Option Nat × Res) → Prop := fun r H' => ∃ g, r = .os 0 g 0 n k ∧ H' = [(g, .blk N F)]
theorem m_callO {f : FuncId} {xs : Array Operand} {ats : Array TypeId} {args : List CV} {n m N : Nat} {F : Nat → CV} {i d : Nat} {x0 : Option Nat × Res} (ho : o.op = .call ⟨.value (.func f), xs, ats⟩) (hc : calleeB P f = true) (hi : H[i]? = some x0) (hA : AC G.gs P f [x0] args (OwnQ n m N F)) (he : SEL G ⟨env, b0, H⟩ xs.toList args) (hd : o.dst = some d) (hN : Nat.blt d G.N = true)
    (hK : ∀ g, K ⟨(d, .os i g 0 n m) :: env, b0, H.set i (g, .blk N F)⟩) : AMd P G o ⟨env, b0, H⟩ K :=
  m_callH ho hc hi hA he hd hN fun r H' ⟨g, h1, h2⟩ => ⟨_, _, h2, by rw [h1]; exact CEnt.osI (j := i) rfl, hK g⟩
theorem ent_head {d : Nat} {v v' : CV} (h : CEnt v v') : EntS G ⟨(d, v) :: env, b0, H⟩ ⟨(d, v') :: env, b0, H⟩ := fun St a w hr => by
  refine ⟨St, fun _ h => h, hr.df, hr.sz, fun e => ?_, hr.un, hr.s1, hr.s2, hr.s3, hr.hp, hr.sn, hr.sg⟩
  have := hr.env e
  by_cases hde : d = e
  · subst hde
    rw [look_same] at this ⊢
    exact h _ _ _ _ this
  · rw [look_other _ _ _ hde] at this ⊢; exact this
theorem AEx.ent {K' : AS → Prop} (h : AEx P G o s K') (hK : ∀ s', K' s' → ∃ s'', EntS G s' s'' ∧ K s'') : AEx P G o s K := fun St a w hr Q => Oper.wp_mono (fun a' w' ⟨hb, St', hs, s', h1, h2⟩ => by
  obtain ⟨s'', h3, h4⟩ := hK s' h1
  obtain ⟨S2, h5, h6⟩ := h3 St' a' w' h2
  exact ⟨hb, S2, fun b hb => h5 b (hs b hb), s'', h4, h6⟩) (h St a w hr Q)
theorem e_callO {f : FuncId} {xs : Array Operand} {ats : Array TypeId} {args : List CV} {n m N : Nat} {F : Nat → CV} {d : Nat} (ho : o.op = .call ⟨.value (.func f), xs, ats⟩) (hc : calleeB P f = true) (hA : AC G.gs P f [] args (OwnQ n m N F)) (he : SEL G ⟨env, b0, H⟩ xs.toList args) (hd : o.dst = some d) (hN : Nat.blt d G.N = true)
    (hK : ∀ g, K ⟨(d, .os H.length g 0 n m) :: env, b0, H ++ [(g, .blk N F)]⟩) : AEx P G o ⟨env, b0, H⟩ K :=
  AEx.ent (K' := fun s' => ∃ g, s' = ⟨(d, .os 0 g 0 n m) :: env, b0, H ++ [(g, .blk N F)]⟩) (e_callS ho hc hA he hd hN fun r H' ⟨g, h1, h2⟩ => ⟨g, by rw [h1, h2]⟩) fun s' ⟨g, hs⟩ => ⟨_, by rw [hs]; exact ent_head (CEnt.osI (j := H.length) rfl), hK g⟩
theorem end_O {fn : Func} {e : Exit} {n m k N M : Nat} {g : Option Nat} {F F' : Nat → CV} (i : Nat) (he : e = .ret ∨ e = .normal) (hres : ARes P G fn s (.os i g 0 n k)) (hH : s.H[i]? = some (g, .blk N F)) (hn : n = m) (hN : M ≤ N) (hg : g = none → M = N) (hF : ∀ j, j < M → CEnt (F j) (F' j)) : bodyR P G fn (OwnQ m k M F') e s := by
  have h : ∃ r H', ARes P G fn s r ∧ OwnQ m k M F' r H' ∧ ∀ St a w, RelSt G St s a w → HRel G.al St w G.w0.heap.size G.F0 H' := by
    refine ⟨.os 0 g 0 m k, [(g, .blk M F')], hres.ent (CEnt.osI hn), ⟨g, rfl, rfl⟩, fun St a w hr => ?_⟩
    obtain ⟨fp, hp⟩ := hr.hp
    have hr0 := hp.rep i g _ hH
    refine ⟨fun j b => j = 0 ∧ fp i b, fun j q r hj => ?_, fun j l b hj hl => by omega, fun j b hj => hp.own i b hj.2, fun j hj b hb => by simp at hj; omega⟩
    match j, hj with
    | 0, hj =>
      simp at hj
      obtain ⟨rfl, rfl⟩ := hj
      have e : (fun b => (0 : Nat) = 0 ∧ fp i b) = fp i := funext fun b => by simp
      show Res.rep G.al St w (fun b => (0 : Nat) = 0 ∧ fp i b) g (.blk M F')
      rw [e]
      cases g with
      | none => exact ⟨by rw [hg rfl]; exact hr0.1, hr0.2⟩
      | some g =>
        obtain ⟨h1, cur, ty, h2, h3, h4⟩ := hr0
        exact ⟨h1, cur, ty, h2, by omega, fun l hl => hF l hl _ _ _ _ (h4 l (by omega))⟩
    | j + 1, hj => simp at hj
  rcases he with rfl | rfl <;> exact h

/-! ### nil that grows -/
theorem own_nil (d k : Nat) (f : Nat → CV) (hl : look s.env s.b d = .c (.slice none 0 0)) : EntS G s ⟨(d, .os s.H.length none 0 0 k) :: s.env, s.b, s.H ++ [(none, .blk 0 f)]⟩ := fun St a w hr => by
  refine ⟨St, fun _ h => h, hr.df, hr.sz, fun e => ?_, hr.un, hr.s1, hr.s2, hr.s3, ?_, hr.sn, hr.sg⟩
  · by_cases hde : d = e
    · subst hde
      rw [look_same]
      have := hr.env d
      rw [hl] at this
      exact ⟨rfl, this⟩
    · rw [look_other _ _ _ hde]; exact hr.env e
  · obtain ⟨fp, hp⟩ := hr.hp
    refine ⟨fp, fun j g r hj => ?_, hp.dis, hp.own, fun j hj => hp.out j (by simp at hj; omega)⟩
    rcases Nat.lt_or_ge j s.H.length with h1 | h1
    · rw [List.getElem?_append_left h1] at hj; exact hp.rep j g r hj
    · rw [List.getElem?_append_right h1] at hj
      have h2 := (List.getElem?_eq_some_iff.1 hj).1
      simp at h2
      have h3 : j = s.H.length := by omega
      subst h3
      simp at hj
      obtain ⟨rfl, rfl⟩ := hj
      exact ⟨rfl, fun b hb => hp.out _ (Nat.le_refl _) b hb⟩
/-- the same of an argument that is nil in the text -/
theorem se_nilO {x : Operand} {i k off : Nat} (hx : s.eval x = .c (.slice none 0 0)) : SE G s x (.os i none off 0 k) := fun St a w hr => ⟨rfl, evC hr hx⟩
theorem ent_none (f : Nat → CV) : EntS G s ⟨s.env, s.b, s.H ++ [(none, .blk 0 f)]⟩ := fun St a w hr => by
  refine ⟨St, fun _ h => h, hr.df, hr.sz, hr.env, hr.un, hr.s1, hr.s2, hr.s3, ?_, hr.sn, hr.sg⟩
  obtain ⟨fp, hp⟩ := hr.hp
  refine ⟨fp, fun j g r hj => ?_, hp.dis, hp.own, fun j hj => hp.out j (by simp at hj; omega)⟩
  rcases Nat.lt_or_ge j s.H.length with h1 | h1
  · rw [List.getElem?_append_left h1] at hj; exact hp.rep j g r hj
  · rw [List.getElem?_append_right h1] at hj
    have h2 := (List.getElem?_eq_some_iff.1 hj).1
    simp at h2
    have h3 : j = s.H.length := by omega
    subst h3
    simp at hj
    obtain ⟨rfl, rfl⟩ := hj
    exact ⟨rfl, fun b hb => hp.out _ (Nat.le_refl _) b hb⟩
/-- a block's content in other words -/
theorem blk_ent (i : Nat) {g : Option Nat} {n m : Nat} {f F : Nat → CV} (hH : s.H[i]? = some (g, .blk n f)) (hn : m ≤ n) (hg : g = none → m = n) (hF : ∀ j, j < m → CEnt (f j) (F j)) : EntS G s ⟨s.env, s.b, s.H.set i (g, .blk m F)⟩ := fun St a w hr => by
  refine ⟨St, fun _ h => h, hr.df, hr.sz, hr.env, hr.un, hr.s1, hr.s2, hr.s3, ?_, hr.sn, hr.sg⟩
  obtain ⟨fp, hp⟩ := hr.hp
  have hlt : i < s.H.length := (List.getElem?_eq_some_iff.1 hH).1
  refine ⟨fp, fun j q r hj => ?_, hp.dis, hp.own, fun j hj => hp.out j (by simpa using hj)⟩
  by_cases e : j = i
  · subst e
    simp [hlt] at hj
    obtain ⟨rfl, rfl⟩ := hj
    have := hp.rep j g _ hH
    cases g with
    | none => exact ⟨by rw [hg rfl]; exact this.1, this.2⟩
    | some g =>
      obtain ⟨h1, cur, ty, h2, h3, h4⟩ := this
      exact ⟨h1, cur, ty, h2, by omega, fun l hl => hF l hl _ _ _ _ (h4 l (by omega))⟩
  · rw [List.getElem?_set_ne (Ne.symm e)] at hj
    exact hp.rep j q r hj

/-! ### structs field by field, lists of numbers -/
theorem CEnt.agg2 {f g : Nat → CV} (h0 : CEnt (f 0) (g 0)) (h1 : CEnt (f 1) (g 1)) : CEnt (.agg 2 f) (.agg 2 g) := CEnt.agg rfl fun i hi => match i, hi with | 0, _ => h0 | 1, _ => h1
theorem CEnt.agg3 {f g : Nat → CV} (h0 : CEnt (f 0) (g 0)) (h1 : CEnt (f 1) (g 1)) (h2 : CEnt (f 2) (g 2)) : CEnt (.agg 3 f) (.agg 3 g) := CEnt.agg rfl fun i hi => match i, hi with | 0, _ => h0 | 1, _ => h1 | 2, _ => h2
theorem CEnt.agg4 {f g : Nat → CV} (h0 : CEnt (f 0) (g 0)) (h1 : CEnt (f 1) (g 1)) (h2 : CEnt (f 2) (g 2)) (h3 : CEnt (f 3) (g 3)) : CEnt (.agg 4 f) (.agg 4 g) := CEnt.agg rfl fun i hi => match i, hi with | 0, _ => h0 | 1, _ => h1 | 2, _ => h2 | 3, _ => h3
theorem CEnt.agg5 {f g : Nat → CV} (h0 : CEnt (f 0) (g 0)) (h1 : CEnt (f 1) (g 1)) (h2 : CEnt (f 2) (g 2)) (h3 : CEnt (f 3) (g 3)) (h4 : CEnt (f 4) (g 4)) : CEnt (.agg 5 f) (.agg 5 g) := CEnt.agg rfl fun i hi => match i, hi with | 0, _ => h0 | 1, _ => h1 | 2, _ => h2 | 3, _ => h3 | 4, _ => h4
theorem CEnt.agg6 {f g : Nat → CV} (h0 : CEnt (f 0) (g 0)) (h1 : CEnt (f 1) (g 1)) (h2 : CEnt (f 2) (g 2)) (h3 : CEnt (f 3) (g 3)) (h4 : CEnt (f 4) (g 4)) (h5 : CEnt (f 5) (g 5)) : CEnt (.agg 6 f) (.agg 6 g) := CEnt.agg rfl fun i hi => match i, hi with | 0, _ => h0 | 1, _ => h1 | 2, _ => h2 | 3, _ => h3 | 4, _ => h4 | 5, _ => h5
def inF (l : List Int) (i : Nat) : CV := .c (.int .i64 (l.getD i 0))
/-- a slice that reads as the numbers l -/
def isC (l : List Int) : CV := .rs 1 l.length fun i _ => inF l i
theorem fl_ints (L : List Int) (j : Nat) (hj : j < L.length) : CEnt (fl (L.map fun z => .c (.int .i64 z)) j) (inF L j) := CEnt.of_eq (by
  rw [fl_get]
  simp [List.getD, hj, inF])
theorem fl_bytes (L : List UInt8) (j : Nat) (hj : j < L.length) : CEnt (fl (L.map fun z => .c (.int .u8 (z.toNat : Nat))) j) (byF L j) := CEnt.of_eq (by
  rw [fl_get]
  simp [List.getD, hj, byF])
theorem se_frzI {x : Operand} {i off n N : Nat} {g : Option Nat} {F : Nat → CV} (l : List Int) (hx : s.eval x = .os i g off n 1) (hH : s.H[i]? = some (g, .frz N F)) (hn : n = l.length) (hN : off + n ≤ N) (hf : ∀ a, a < n → CEnt (F (off + a)) (inF l a)) : SE G s x (isC l) := by
  subst hn
  refine se_frz hx hH (by omega) _ fun a b ha hb => ?_
  rw [show off + (a * 1 + b) = off + a by omega]
  exact hf a ha

/-! ### structs that are compared -/
inductive EqF (P : Program) (f g : Nat → CV) : List Field → Prop → Prop where
  | nil : EqF P f g [] True
  | int {fd : Field} {fs : List Field} {k k' : IntKind} {a b : Int} {p : Prop} (h : P.underlying fd.type = some (.int k')) (hn : fd.name ≠ "_") (hf : f fd.offset = .c (.int k a)) (hg : g fd.offset = .c (.int k b)) (t : EqF P f g fs p) : EqF P f g (fd :: fs) (a = b ∧ p)
  | bool {fd : Field} {fs : List Field} {a b : Bool} {p : Prop} (h : P.underlying fd.type = some .bool) (hn : fd.name ≠ "_") (hf : f fd.offset = .c (.bool a)) (hg : g fd.offset = .c (.bool b)) (t : EqF P f g fs p) : EqF P f g (fd :: fs) (a = b ∧ p)
  | str {fd : Field} {fs : List Field} {a b : ByteArray} {p : Prop} (h : P.underlying fd.type = some .string) (hn : fd.name ≠ "_") (hf : f fd.offset = .c (.string a)) (hg : g fd.offset = .c (.string b)) (t : EqF P f g fs p) : EqF P f g (fd :: fs) (a = b ∧ p)
theorem run_part {d : TypeDesc} {t : TypeId} (h : P.underlying t = some d) (ha : aggB P t = false) {cs : Array Value} {i : Nat} {v : Value} (hv : cs[i]? = some v) (W : World) : (part t cs i).run P W = .ok v W := by
  simp [part, run_isAgg h, ha, hv]
theorem run_eqFields {f g : Nat → CV} {fs : List Field} {p : Prop} (h : EqF P f g fs p) {al : List Addr} {St : Nat → Prop} {w : World} {xs ys : Array Value} {n : Nat} (hx : xs.size = n) (hy : ys.size = n) (hf : ∀ i, i < n → RepC al St w (f i) (xs.getD i undef)) (hg : ∀ i, i < n → RepC al St w (g i) (ys.getD i undef))
    (hoff : (fs.all fun fd => Nat.blt fd.offset n) = true) (d : Nat) (W : World) : ∃ r : Bool, (Op.eqFields (d + 1) xs ys fs).run P W = .ok r W ∧ (r = true ↔ p) := by
  have get : ∀ (c : Array Value) (q : Nat → CV) (i : Nat) (v : Value), c.size = n → i < n → (∀ i, i < n → RepC al St w (q i) (c.getD i undef)) → q i = .c v → c[i]? = some v := fun c q i v hc hi hq he => by
    have := hq i hi
    rw [he] at this
    have : c.getD i undef = v := this
    rw [← this]
    have : i < c.size := by omega
    simp [this]
  induction h with
  | nil => exact ⟨true, by simp [Op.eqFields], by simp⟩
  | @int fd fs k k' a b p h hn h1 h2 _ ih =>
    simp only [List.all_cons, Bool.and_eq_true] at hoff
    obtain ⟨r, hr, hp⟩ := ih hoff.2
    have hlt : fd.offset < n := Nat.le_of_ble_eq_true hoff.1
    have ha : aggB P fd.type = false := by unfold aggB; rw [h]
    have e1 := run_part h ha (get xs f _ _ hx hlt hf h1) W
    have e2 := run_part h ha (get ys g _ _ hy hlt hg h2) W
    simp only [Op.eqFields, ne_eq, hn, not_false_eq_true, if_true, Sem.run_bind, e1, e2, Result.andThen_ok, run_equalIn_int W d fd.type k k' a b h, Sem.run_ite]
    by_cases hab : a = b
    · subst hab; exact ⟨r, by simp [hr], by simp [hp]⟩
    · exact ⟨false, by simp [hab], by simp [hab]⟩
  | @bool fd fs a b p h hn h1 h2 _ ih =>
    simp only [List.all_cons, Bool.and_eq_true] at hoff
    obtain ⟨r, hr, hp⟩ := ih hoff.2
    have hlt : fd.offset < n := Nat.le_of_ble_eq_true hoff.1
    have ha : aggB P fd.type = false := by unfold aggB; rw [h]
    have e1 := run_part h ha (get xs f _ _ hx hlt hf h1) W
    have e2 := run_part h ha (get ys g _ _ hy hlt hg h2) W
    simp only [Op.eqFields, ne_eq, hn, not_false_eq_true, if_true, Sem.run_bind, e1, e2, Result.andThen_ok, run_equalIn_bool' W d fd.type a b h, Sem.run_ite]
    by_cases hab : a = b
    · subst hab; exact ⟨r, by simp [hr], by simp [hp]⟩
    · exact ⟨false, by simp [hab], by simp [hab]⟩
  | @str fd fs a b p h hn h1 h2 _ ih =>
    simp only [List.all_cons, Bool.and_eq_true] at hoff
    obtain ⟨r, hr, hp⟩ := ih hoff.2
    have hlt : fd.offset < n := Nat.le_of_ble_eq_true hoff.1
    have ha : aggB P fd.type = false := by unfold aggB; rw [h]
    have e1 := run_part h ha (get xs f _ _ hx hlt hf h1) W
    have e2 := run_part h ha (get ys g _ _ hy hlt hg h2) W
    simp only [Op.eqFields, ne_eq, hn, not_false_eq_true, if_true, Sem.run_bind, e1, e2, Result.andThen_ok, run_equalIn_string W d fd.type a b h, Sem.run_ite]
    by_cases hab : a = b
    · subst hab; exact ⟨r, by simp [hr], by simp [hp]⟩
    · exact ⟨false, by simp [hab, toList_inj], by simp [hab]⟩
theorem rd_eqAgg {n : Nat} {f g : Nat → CV} {fs : Array Field} {p : Prop} [Decidable p] {t u : TypeId} {x y : Operand} (ho : o.op = .binOp .eql t x y u) (hx : s.eval x = .agg n f) (hy : s.eval y = .agg n g) (hS : P.underlying t = some (.struct fs)) (hp : P.stoodInHeld t = false) (hG : P.eqGuardType P.depth t = false) (hE : EqF P f g fs.toList p) (hoff : (fs.toList.all fun fd => Nat.blt fd.offset n) = true) : ARd P G o s (.c (.bool (decide p))) := fun St a w h => by
  obtain ⟨xs, ex, hx1, hx2⟩ := evR h hx
  obtain ⟨ys, ey, hy1, hy2⟩ := evR h hy
  have hfs : P.fieldsOf t = fs := by simp [Program.fieldsOf, hS]
  refine ⟨.bool (decide p), fun W _ => ?_, rfl⟩
  obtain ⟨r, hr, hiff⟩ := run_eqFields hE hx1 hy1 hx2 hy2 hoff 9998 W
  simp only [execOp, ho, ex, ey]
  refine vOk ?_
  simp only [Sem.run_bind, run_eqGuard_agg _ _ _ _ _ _ _ hG, Result.andThen_ok, run_eql_struct]
  rw [show (10000 : Nat) = 9999 + 1 from rfl, run_equalIn_agg W 9999 t xs ys (by rw [hfs]; exact hS) hp, hfs, hr]
  have : r = decide p := by rw [Bool.eq_iff_iff, hiff]; simp
  simp [this]
theorem rd_neAgg {n : Nat} {f g : Nat → CV} {fs : Array Field} {p : Prop} [Decidable p] {t u : TypeId} {x y : Operand} (ho : o.op = .binOp .neq t x y u) (hx : s.eval x = .agg n f) (hy : s.eval y = .agg n g) (hS : P.underlying t = some (.struct fs)) (hp : P.stoodInHeld t = false) (hG : P.eqGuardType P.depth t = false) (hE : EqF P f g fs.toList p) (hoff : (fs.toList.all fun fd => Nat.blt fd.offset n) = true) : ARd P G o s (.c (.bool (decide (¬ p)))) := fun St a w h => by
  obtain ⟨xs, ex, hx1, hx2⟩ := evR h hx
  obtain ⟨ys, ey, hy1, hy2⟩ := evR h hy
  have hfs : P.fieldsOf t = fs := by simp [Program.fieldsOf, hS]
  refine ⟨.bool (decide (¬ p)), fun W _ => ?_, rfl⟩
  obtain ⟨r, hr, hiff⟩ := run_eqFields hE hx1 hy1 hx2 hy2 hoff 9998 W
  simp only [execOp, ho, ex, ey]
  refine vOk ?_
  simp only [Sem.run_bind, run_eqGuard_agg _ _ _ _ _ _ _ hG, Result.andThen_ok, run_neq_struct]
  rw [show (10000 : Nat) = 9999 + 1 from rfl, run_equalIn_agg W 9999 t xs ys (by rw [hfs]; exact hS) hp, hfs, hr]
  have : r = decide p := by rw [Bool.eq_iff_iff, hiff]; simp
  simp [this]

theorem HEnt.frzDead {g : Option Nat} {n : Nat} {f : Nat → CV} {l m : List (Option Nat × Res)} (t : HEnt l m) : HEnt ((g, .frz n f) :: l) ((g, .dead) :: m) :=
  .dead (fun al St w F h => by
    cases g with
    | none => exact h.2
    | some g => exact h.1) t
theorem fl_at {cs : List CV} {j : Nat} (hj : j < cs.length) : fl cs j = cs[j] := by rw [fl_get]; simp [List.getD, hj]
theorem entl_at {cs ds : List CV} (h : EntL cs ds) : cs.length = ds.length ∧ ∀ j, CEnt (fl cs j) (fl ds j) := by
  induction h with
  | nil => exact ⟨rfl, fun _ => CEnt.refl _⟩
  | cons h _ ih => exact ⟨by simp [ih.1], fun j => match j with | 0 => h | j + 1 => ih.2 j⟩
theorem hh_bytes {cs : List CV} {l2 : List UInt8} (h : EntL cs (l2.map fun c => .c (.int .u8 (c.toNat : Nat)))) : ∀ j, j < l2.length → CEnt (fl cs (0 + j)) (byF l2 j) := fun j hj => by
  rw [Nat.zero_add]
  exact ((entl_at h).2 j).trans (fl_bytes l2 j hj)
theorem leaf_fl {cs : List CV} {m : Nat} (h : cs.all leafC = true) (hm : m * 1 = cs.length) : ∀ j, j < m * 1 → leafC (fl cs (0 + j)) = true := fun j hj => by
  rw [Nat.zero_add, fl_at (by omega)]
  exact List.all_eq_true.1 h _ (List.getElem_mem ..)

/-! ### from a contract to a law -/
theorem ac_calls {gs : List Nat} {al : List Addr} {f : FuncId} {args : List CV} {m : CV} {w : World} {vals : Array Value} (hA : ACp gs P f args m) (hS : SentL w gs al) (hs : vals.size = args.length) (hv : ∀ i, RepC al (fun b => b < w.heap.size) w (fl args i) (vals.getD i undef)) :
    Calls P f vals w fun e w' => ∃ v St', e = .returned v ∧ RepC al St' w' m v ∧ Below w.heap.size w w' := by
  have hg : ∀ g ∈ lst gs, g < w.heap.size := hS.lt
  have ha : ∀ a ∈ al, a.block < w.heap.size := fun a ha => by
    obtain ⟨c, t, hc⟩ := hS.row a ha
    exact (Array.getElem?_eq_some_iff.1 hc).1
  refine (hA al w (fun b => b < w.heap.size) (fun _ => False) vals ⟨fun _ h => h, hS, ⟨hg, ha⟩, ⟨fun _ _ => False, fun i g r hi => by simp at hi, fun _ _ _ h => h.elim, fun _ _ h => h.elim, fun _ _ _ h => h⟩, fun _ h => h.elim⟩ hs hv).mono ?_
  rintro e w' ⟨v, r, H', St', he, ⟨rfl, rfl⟩, hr, hu, _⟩
  exact ⟨v, St', he, hr, hu.below⟩
/-- a law holds -/
theorem law_calls {gs : List Nat} {al : List Addr} {f : FuncId} {args : List CV} {w : World} {vals : Array Value} (hA : ACp gs P f args (.c (.bool true))) (hS : SentL w gs al) (hs : vals.size = args.length) (hv : ∀ i, RepC al (fun b => b < w.heap.size) w (fl args i) (vals.getD i undef)) :
    Calls P f vals w fun e w' => e = .returned (.bool true) ∧ Below w.heap.size w w' :=
  (ac_calls hA hS hs hv).mono fun e w' ⟨v, St', he, hr, hb⟩ => ⟨by rw [he]; exact congrArg _ hr, hb⟩
theorem bs_rep {al : List Addr} {w : World} {v : Value} {l : List UInt8} (h : Bs w v l) : RepC al (fun b => b < w.heap.size) w (bsC l) v := by
  obtain ⟨ao, cap, h1, h2, h3, h4, h5⟩ := h
  refine ⟨ao, cap, h1, h2, h3, h4, fun a ha hn => ?_⟩
  obtain ⟨h6, h7⟩ := h5 a ha
  refine ⟨h6 hn, World.block_lt_of_cell? w ⟨a.block, a.off + 0, none⟩ (h7 0 hn), fun i j hi hj => ⟨_, ?_, rfl⟩⟩
  rw [show i * 1 + j = i by omega]
  exact h7 i hi

/-! ### old contracts -/
/-- a contract of the elder kind whose result holds no memory -/
theorem ac_old {gs : List Nat} {f : FuncId} {args : List CV} {r : Value} (h : ∀ (al : List Addr) (w : World) (St : Nat → Prop) (vals : Array Value), SentL w gs al → vals.size = args.length → (∀ i, RepC al St w (fl args i) (vals.getD i undef)) → Calls P f vals w fun e w' => e = .returned r ∧ Below w.heap.size w w') : ACp gs P f args (.c r) :=
  fun al w St F0 vals he hs hv => (h al w St vals he.sn hs hv).mono fun e w' ⟨h1, h2⟩ => by
    refine ⟨r, .c r, [], St, h1, ⟨rfl, rfl⟩, rfl, ⟨h2.os, h2.tape, h2.output, h2.size, fun k hk _ => h2.block k hk, fun b cur t z hb => ⟨cur, z, (h2.block b (Array.getElem?_eq_some_iff.1 hb).1).trans hb, rfl⟩⟩, fun _ h => h, fun _ h => .inl h, fun b hb => Nat.lt_of_lt_of_le (he.s3 b hb) h2.size, HRel.none _ _ _ _ _⟩
theorem vals1 {vals : Array Value} (h : vals.size = 1) : vals = #[vals.getD 0 undef] := by
  apply Array.ext
  · simp [h]
  · intro i h1 h2
    have : i = 0 := by omega
    subst this
    simp [h]
theorem vals2 {vals : Array Value} (h : vals.size = 2) : vals = #[vals.getD 0 undef, vals.getD 1 undef] := by
  apply Array.ext
  · simp [h]
  · intro i h1 h2
    have : i = 0 ∨ i = 1 := by omega
    rcases this with e | e <;> subst e <;> simp [h]
/-- an element of one cell of a slice (an array) of its own that begins where its block begins -/
theorem rd_iaddrO1 {e : TypeId} {j n i : Nat} {g : Option Nat} {z : Int} {t : TypeId} {x y : Operand} {k : IntKind} (ho : o.op = .indexAddr t x y) (hx : s.eval x = .os j g 0 n 1) (hy : s.eval y = .c (.int k z)) (h1 : P.underlying t = some (.slice e))
    (h5 : (P.info? e).map (·.size) = some 1) (hz : z = (i : Int)) (hi : i < n) : ARd P G o s (.op j g i) := by
  have := rd_iaddrO (G := G) ho hx hy h1 h5 hz hi
  rwa [Nat.zero_add, Nat.mul_one] at this
theorem rd_iaddrA1 {e : TypeId} {j n i : Nat} {g : Option Nat} {z : Int} {t : TypeId} {x y : Operand} {k : IntKind} (ho : o.op = .indexAddr t x y) (hx : s.eval x = .op j g 0) (hy : s.eval y = .c (.int k z)) (h1 : P.underlying t = some (.array n e))
    (h5 : (P.info? e).map (·.size) = some 1) (hz : z = (i : Int)) (hi : i < n) : ARd P G o s (.op j g i) := by
  have := rd_iaddrA (G := G) ho hx hy h1 h5 hz hi
  rwa [Nat.zero_add, Nat.mul_one] at this
/-! ### the arguments of a law -/
theorem rep_nil {al : List Addr} {St : Nat → Prop} {w : World} : ∀ i, RepC al St w (fl [] i) ((List.toArray ([] : List Value)).getD i undef) := fun _ => trivial
theorem rep_cons {al : List Addr} {St : Nat → Prop} {w : World} {c : CV} {cs : List CV} {v : Value} {vs : List Value} (h : RepC al St w c v) (t : ∀ i, RepC al St w (fl cs i) ((List.toArray vs).getD i undef)) : ∀ i, RepC al St w (fl (c :: cs) i) ((List.toArray (v :: vs)).getD i undef)
  | 0 => h
  | i + 1 => by
    have := t i
    simpa [fl, Array.getD_eq_getD_getElem?] using this
/-- a slice of bytes of its own, written no more -/
theorem thawB (d : Nat) {i n N : Nat} {g : Option Nat} {F : Nat → CV} (l : List UInt8) (hl : look s.env s.b d = .os i g 0 n 1) (hH : s.H[i]? = some (g, .frz N F)) (hn : n = l.length) (hF : (N, F) = (l.length, byF l)) :
    EntS G s ⟨(d, bsC l) :: s.env, s.b, s.H⟩ := by
  cases hF
  subst hn
  exact thaw d (fun a _ => byF l a) hl hH (by omega) (fun a b ha hb => CEnt.of_eq (by rw [show 0 + (a * 1 + b) = a by omega]))
/-! ### append to lists of any kind -/
/-- C l: the cells of the list l, k for each of its things -/
def RowC {α : Type} (k : Nat) (C : List α → Nat → CV) : Prop := ∀ l l2 j, j < (l.length + l2.length) * k → (if j < l.length * k then C l j else C l2 (j - l.length * k)) = C (l ++ l2) j
theorem rowC_by : RowC 1 byF := fun l l2 j hj => by
  simp only [byF, List.getD_eq_getElem?_getD]
  split
  · rw [List.getElem?_append_left (by omega)]
  · rw [List.getElem?_append_right (by omega), Nat.mul_one]
theorem rowC_in : RowC 1 inF := fun l l2 j hj => by
  simp only [inF, List.getD_eq_getElem?_getD]
  split
  · rw [List.getElem?_append_left (by omega)]
  · rw [List.getElem?_append_right (by omega), Nat.mul_one]
theorem rowC_row {α : Type} (k : Nat) (e : α → Nat → CV) (d : α) : RowC k (rowF k e d) := fun l l2 j hj => by
  rcases Nat.eq_zero_or_pos k with h0 | h0
  · subst h0; simp at hj
  split
  · rename_i h1
    have h2 : j / k < l.length := Nat.div_lt_of_lt_mul (by rw [Nat.mul_comm]; exact h1)
    simp only [rowF, List.getD_eq_getElem?_getD, List.getElem?_append_left h2]
  · rename_i h1
    rw [Nat.add_mul] at hj
    obtain ⟨q, rfl⟩ : ∃ q, j = l.length * k + q := ⟨j - l.length * k, by omega⟩
    rw [Nat.add_sub_cancel_left]
    unfold rowF
    rw [Nat.mul_comm l.length k, Nat.mul_add_div h0, Nat.mul_add_mod, List.getD_eq_getElem?_getD, List.getD_eq_getElem?_getD, List.getElem?_append_right (Nat.le_add_right _ _), Nat.add_sub_cancel_left]
theorem m_appendC {α : Type} {C : List α → Nat → CV} {k : Nat} (hC : RowC k C) {e : TypeId} {z : Value} {i n N N' by_ d : Nat} {t u : TypeId} {p q : Operand} {env : List (Nat × CV)} {b0 : Nat → CV} {H : List (Option Nat × Res)} {K : AS → Prop} {g : Option Nat} {f h : Nat → CV} {l l2 : List α} {m : Nat} (ho : o.op = .call ⟨.builtin .append, #[p, q], #[t, u]⟩) (hx : (⟨env, b0, H⟩ : AS).eval p = .os i g 0 n k) (hn : n = l.length) (hH : H[i]? = some (g, .blk N f)) (hN : l.length * k ≤ N) (hf : ∀ j, j < l.length * k → CEnt (f j) (C l j))
    (hsrc : ASrc P G ⟨env, b0, H⟩ q k m h) (hm : m = l2.length) (hh : ∀ j, j < l2.length * k → CEnt (h j) (C l2 j)) (h1 : P.underlying t = some (.slice e)) (hu : notInt P u = true) (h5 : (P.info? e).map (·.size) = some k) (hz : (P.info? e).map (·.zero) = some (some z)) (hby : (P.info? e).map (·.bytes) = some by_) (hzk : z.cells.size = k)
    (h63 : l.length + l2.length ≤ 9223372036854775807) (h48 : (l.length + l2.length) * by_ ≤ 140737488355328) (hleaf : ∀ j, j < m * k → leafC (h j) = true) (hd : o.dst = some d) (hdN : Nat.blt d G.N = true) (hN' : (l ++ l2).length * k = N')
    (hK : ∀ g', K ⟨(d, .os i g' 0 (l ++ l2).length k) :: env, b0, H.set i (g', .blk N' (C (l ++ l2)))⟩) : AMd P G o ⟨env, b0, H⟩ K := by
  subst hm hn
  refine m_append ho hx hH hN hsrc h1 hu h5 hz hby h63 h48 hzk (C (l ++ l2)) (fun j hj => ?_) hleaf hd hdN List.length_append.symm (by rw [← List.length_append]; exact hN') hK
  rw [← hC l l2 j hj]
  unfold appF
  split
  · rename_i h; exact hf j h
  · rename_i h
    refine hh _ ?_
    rw [Nat.add_mul] at hj
    omega
theorem hh_ints {cs : List CV} {l2 : List Int} (h : EntL cs (l2.map fun c => .c (.int .i64 c))) : ∀ j, j < l2.length * 1 → CEnt (fl cs (0 + j)) (inF l2 j) := fun j hj => by
  rw [Nat.zero_add]
  exact ((entl_at h).2 j).trans (fl_ints l2 j (by omega))
theorem leaf_flk {cs : List CV} {m k : Nat} (h : cs.all leafC = true) (hm : m * k = cs.length) : ∀ j, j < m * k → leafC (fl cs (0 + j)) = true := fun j hj => by
  rw [Nat.zero_add, fl_at (by omega)]
  exact List.all_eq_true.1 h _ (List.getElem_mem ..)
end
end Am
end Go.Proofs.YtdfjiodkmhpfkaaDoor

/- Facts on the types of this seat, by program. -/
namespace Go.Proofs.YtdfjiodkmhpfkaaDoor
namespace Am
set_option maxRecDepth 100000
theorem sz2 : (Tryd.prog.info? 2).map (·.size) = some 1 := by kernel_rfl
theorem by2 : (Tryd.prog.info? 2).map (·.bytes) = some 8 := by kernel_rfl
theorem ag2 : aggB Tryd.prog 2 = false := by kernel_rfl
theorem zr2 : (Tryd.prog.info? 2).map (·.zero) = some (some (.int .i64 0)) := by kernel_rfl
theorem sz3 : (Tryd.prog.info? 3).map (·.size) = some 1 := by kernel_rfl
theorem by3 : (Tryd.prog.info? 3).map (·.bytes) = some 8 := by kernel_rfl
theorem ag3 : aggB Tryd.prog 3 = false := by kernel_rfl
theorem zr3 : (Tryd.prog.info? 3).map (·.zero) = some (some (.int .i64 0)) := by kernel_rfl
theorem sz4 : (Tryd.prog.info? 4).map (·.size) = some 1 := by kernel_rfl
theorem by4 : (Tryd.prog.info? 4).map (·.bytes) = some 1 := by kernel_rfl
theorem ag4 : aggB Tryd.prog 4 = false := by kernel_rfl
theorem nu4 : notInt Tryd.prog 4 = true := by kernel_rfl
theorem zr4 : (Tryd.prog.info? 4).map (·.zero) = some (some (.bool false)) := by kernel_rfl
theorem sz5 : (Tryd.prog.info? 5).map (·.size) = some 1 := by kernel_rfl
theorem by5 : (Tryd.prog.info? 5).map (·.bytes) = some 1 := by kernel_rfl
theorem ag5 : aggB Tryd.prog 5 = false := by kernel_rfl
theorem zr5 : (Tryd.prog.info? 5).map (·.zero) = some (some (.int .u8 0)) := by kernel_rfl
theorem sz6 : (Tryd.prog.info? 6).map (·.size) = some 1 := by kernel_rfl
theorem by6 : (Tryd.prog.info? 6).map (·.bytes) = some 1 := by kernel_rfl
theorem ag6 : aggB Tryd.prog 6 = false := by kernel_rfl
theorem zr6 : (Tryd.prog.info? 6).map (·.zero) = some (some (.int .u8 0)) := by kernel_rfl
theorem sz7 : (Tryd.prog.info? 7).map (·.size) = some 4 := by kernel_rfl
theorem by7 : (Tryd.prog.info? 7).map (·.bytes) = some 24 := by kernel_rfl
theorem ag7 : aggB Tryd.prog 7 = true := by kernel_rfl
theorem nu7 : notInt Tryd.prog 7 = true := by kernel_rfl
theorem zr7 : (Tryd.prog.info? 7).map (·.zero) = some (some (.agg #[.int .i64 0, .int .i64 0, .bool false, .int .u8 0])) := by kernel_rfl
theorem pl7 : plOf Tryd.prog 7 = some [(0, 1), (1, 1), (2, 1), (3, 1)] := by kernel_rfl
theorem sz8 : (Tryd.prog.info? 8).map (·.size) = some 4 := by kernel_rfl
theorem by8 : (Tryd.prog.info? 8).map (·.bytes) = some 24 := by kernel_rfl
theorem ag8 : aggB Tryd.prog 8 = true := by kernel_rfl
theorem nu8 : notInt Tryd.prog 8 = true := by kernel_rfl
theorem zr8 : (Tryd.prog.info? 8).map (·.zero) = some (some (.agg #[.int .i64 0, .int .i64 0, .bool false, .int .u8 0])) := by kernel_rfl
theorem pl8 : plOf Tryd.prog 8 = some [(0, 1), (1, 1), (2, 1), (3, 1)] := by kernel_rfl
theorem sz9 : (Tryd.prog.info? 9).map (·.size) = some 1 := by kernel_rfl
theorem by9 : (Tryd.prog.info? 9).map (·.bytes) = some 16 := by kernel_rfl
theorem ag9 : aggB Tryd.prog 9 = false := by kernel_rfl
theorem nu9 : notInt Tryd.prog 9 = true := by kernel_rfl
theorem zr9 : (Tryd.prog.info? 9).map (·.zero) = some (some (.string ByteArray.empty)) := by kernel_rfl
theorem sz10 : (Tryd.prog.info? 10).map (·.size) = some 1 := by kernel_rfl
theorem by10 : (Tryd.prog.info? 10).map (·.bytes) = some 16 := by kernel_rfl
theorem ag10 : aggB Tryd.prog 10 = false := by kernel_rfl
theorem nu10 : notInt Tryd.prog 10 = true := by kernel_rfl
theorem zr10 : (Tryd.prog.info? 10).map (·.zero) = some (some (.string ByteArray.empty)) := by kernel_rfl
theorem sz11 : (Tryd.prog.info? 11).map (·.size) = some 1 := by kernel_rfl
theorem by11 : (Tryd.prog.info? 11).map (·.bytes) = some 16 := by kernel_rfl
theorem ag11 : aggB Tryd.prog 11 = false := by kernel_rfl
theorem nu11 : notInt Tryd.prog 11 = true := by kernel_rfl
theorem zr11 : (Tryd.prog.info? 11).map (·.zero) = some (some (.string ByteArray.empty)) := by kernel_rfl
theorem sz12 : (Tryd.prog.info? 12).map (·.size) = some 1 := by kernel_rfl
theorem by12 : (Tryd.prog.info? 12).map (·.bytes) = some 8 := by kernel_rfl
theorem ag12 : aggB Tryd.prog 12 = false := by kernel_rfl
theorem zr12 : (Tryd.prog.info? 12).map (·.zero) = some (some (.int .u64 0)) := by kernel_rfl
theorem sz13 : (Tryd.prog.info? 13).map (·.size) = some 2 := by kernel_rfl
theorem by13 : (Tryd.prog.info? 13).map (·.bytes) = some 24 := by kernel_rfl
theorem ag13 : aggB Tryd.prog 13 = true := by kernel_rfl
theorem nu13 : notInt Tryd.prog 13 = true := by kernel_rfl
theorem zr13 : (Tryd.prog.info? 13).map (·.zero) = some (some (.agg #[.string ByteArray.empty, .int .u64 0])) := by kernel_rfl
theorem pl13 : plOf Tryd.prog 13 = some [(0, 1), (1, 1)] := by kernel_rfl
theorem sz14 : (Tryd.prog.info? 14).map (·.size) = some 2 := by kernel_rfl
theorem by14 : (Tryd.prog.info? 14).map (·.bytes) = some 24 := by kernel_rfl
theorem ag14 : aggB Tryd.prog 14 = true := by kernel_rfl
theorem nu14 : notInt Tryd.prog 14 = true := by kernel_rfl
theorem zr14 : (Tryd.prog.info? 14).map (·.zero) = some (some (.agg #[.string ByteArray.empty, .int .u64 0])) := by kernel_rfl
theorem pl14 : plOf Tryd.prog 14 = some [(0, 1), (1, 1)] := by kernel_rfl
theorem sz15 : (Tryd.prog.info? 15).map (·.size) = some 1 := by kernel_rfl
theorem by15 : (Tryd.prog.info? 15).map (·.bytes) = some 8 := by kernel_rfl
theorem ag15 : aggB Tryd.prog 15 = false := by kernel_rfl
theorem nu15 : notInt Tryd.prog 15 = true := by kernel_rfl
theorem zr15 : (Tryd.prog.info? 15).map (·.zero) = some (some (.pointer none)) := by kernel_rfl
theorem sz16 : (Tryd.prog.info? 16).map (·.size) = some 1 := by kernel_rfl
theorem by16 : (Tryd.prog.info? 16).map (·.bytes) = some 8 := by kernel_rfl
theorem ag16 : aggB Tryd.prog 16 = false := by kernel_rfl
theorem nu16 : notInt Tryd.prog 16 = true := by kernel_rfl
theorem zr16 : (Tryd.prog.info? 16).map (·.zero) = some (some (.pointer none)) := by kernel_rfl
theorem sz17 : (Tryd.prog.info? 17).map (·.size) = some 1 := by kernel_rfl
theorem by17 : (Tryd.prog.info? 17).map (·.bytes) = some 8 := by kernel_rfl
theorem ag17 : aggB Tryd.prog 17 = false := by kernel_rfl
theorem nu17 : notInt Tryd.prog 17 = true := by kernel_rfl
theorem zr17 : (Tryd.prog.info? 17).map (·.zero) = some (some (.pointer none)) := by kernel_rfl
theorem sz18 : (Tryd.prog.info? 18).map (·.size) = some 1 := by kernel_rfl
theorem by18 : (Tryd.prog.info? 18).map (·.bytes) = some 8 := by kernel_rfl
theorem ag18 : aggB Tryd.prog 18 = true := by kernel_rfl
theorem nu18 : notInt Tryd.prog 18 = true := by kernel_rfl
theorem zr18 : (Tryd.prog.info? 18).map (·.zero) = some (some (.agg #[.pointer none])) := by kernel_rfl
theorem pl18 : plOf Tryd.prog 18 = some [(0, 1)] := by kernel_rfl
theorem sz19 : (Tryd.prog.info? 19).map (·.size) = some 1 := by kernel_rfl
theorem by19 : (Tryd.prog.info? 19).map (·.bytes) = some 8 := by kernel_rfl
theorem ag19 : aggB Tryd.prog 19 = true := by kernel_rfl
theorem nu19 : notInt Tryd.prog 19 = true := by kernel_rfl
theorem zr19 : (Tryd.prog.info? 19).map (·.zero) = some (some (.agg #[.pointer none])) := by kernel_rfl
theorem pl19 : plOf Tryd.prog 19 = some [(0, 1)] := by kernel_rfl
theorem sz20 : (Tryd.prog.info? 20).map (·.size) = some 1 := by kernel_rfl
theorem by20 : (Tryd.prog.info? 20).map (·.bytes) = some 16 := by kernel_rfl
theorem ag20 : aggB Tryd.prog 20 = false := by kernel_rfl
theorem nu20 : notInt Tryd.prog 20 = true := by kernel_rfl
theorem zr20 : (Tryd.prog.info? 20).map (·.zero) = some (some (.nilIface)) := by kernel_rfl
theorem sz21 : (Tryd.prog.info? 21).map (·.size) = some 1 := by kernel_rfl
theorem by21 : (Tryd.prog.info? 21).map (·.bytes) = some 4 := by kernel_rfl
theorem ag21 : aggB Tryd.prog 21 = false := by kernel_rfl
theorem zr21 : (Tryd.prog.info? 21).map (·.zero) = some (some (.int .i32 0)) := by kernel_rfl
theorem sz22 : (Tryd.prog.info? 22).map (·.size) = some 1 := by kernel_rfl
theorem by22 : (Tryd.prog.info? 22).map (·.bytes) = some 24 := by kernel_rfl
theorem ag22 : aggB Tryd.prog 22 = false := by kernel_rfl
theorem nu22 : notInt Tryd.prog 22 = true := by kernel_rfl
theorem zr22 : (Tryd.prog.info? 22).map (·.zero) = some (some (.slice none 0 0)) := by kernel_rfl
theorem sz25 : (Tryd.prog.info? 25).map (·.size) = some 1 := by kernel_rfl
theorem by25 : (Tryd.prog.info? 25).map (·.bytes) = some 8 := by kernel_rfl
theorem ag25 : aggB Tryd.prog 25 = false := by kernel_rfl
theorem nu25 : notInt Tryd.prog 25 = true := by kernel_rfl
theorem zr25 : (Tryd.prog.info? 25).map (·.zero) = some (some (.pointer none)) := by kernel_rfl
theorem sz26 : (Tryd.prog.info? 26).map (·.size) = some 1 := by kernel_rfl
theorem by26 : (Tryd.prog.info? 26).map (·.bytes) = some 16 := by kernel_rfl
theorem ag26 : aggB Tryd.prog 26 = false := by kernel_rfl
theorem nu26 : notInt Tryd.prog 26 = true := by kernel_rfl
theorem zr26 : (Tryd.prog.info? 26).map (·.zero) = some (some (.nilIface)) := by kernel_rfl
theorem sz27 : (Tryd.prog.info? 27).map (·.size) = some 1 := by kernel_rfl
theorem by27 : (Tryd.prog.info? 27).map (·.bytes) = some 16 := by kernel_rfl
theorem ag27 : aggB Tryd.prog 27 = false := by kernel_rfl
theorem nu27 : notInt Tryd.prog 27 = true := by kernel_rfl
theorem zr27 : (Tryd.prog.info? 27).map (·.zero) = some (some (.nilIface)) := by kernel_rfl
theorem sz31 : (Tryd.prog.info? 31).map (·.size) = some 1 := by kernel_rfl
theorem by31 : (Tryd.prog.info? 31).map (·.bytes) = some 8 := by kernel_rfl
theorem ag31 : aggB Tryd.prog 31 = false := by kernel_rfl
theorem nu31 : notInt Tryd.prog 31 = true := by kernel_rfl
theorem zr31 : (Tryd.prog.info? 31).map (·.zero) = some (some (.pointer none)) := by kernel_rfl
theorem sz32 : (Tryd.prog.info? 32).map (·.size) = some 1 := by kernel_rfl
theorem by32 : (Tryd.prog.info? 32).map (·.bytes) = some 24 := by kernel_rfl
theorem ag32 : aggB Tryd.prog 32 = false := by kernel_rfl
theorem nu32 : notInt Tryd.prog 32 = true := by kernel_rfl
theorem zr32 : (Tryd.prog.info? 32).map (·.zero) = some (some (.slice none 0 0)) := by kernel_rfl
theorem sz33 : (Tryd.prog.info? 33).map (·.size) = some 3 := by kernel_rfl
theorem by33 : (Tryd.prog.info? 33).map (·.bytes) = some 40 := by kernel_rfl
theorem ag33 : aggB Tryd.prog 33 = true := by kernel_rfl
theorem nu33 : notInt Tryd.prog 33 = true := by kernel_rfl
theorem zr33 : (Tryd.prog.info? 33).map (·.zero) = some (some (.agg #[.int .i64 0, .int .i64 0, .slice none 0 0])) := by kernel_rfl
theorem pl33 : plOf Tryd.prog 33 = some [(0, 1), (1, 1), (2, 1)] := by kernel_rfl
theorem sz34 : (Tryd.prog.info? 34).map (·.size) = some 3 := by kernel_rfl
theorem by34 : (Tryd.prog.info? 34).map (·.bytes) = some 40 := by kernel_rfl
theorem ag34 : aggB Tryd.prog 34 = true := by kernel_rfl
theorem nu34 : notInt Tryd.prog 34 = true := by kernel_rfl
theorem zr34 : (Tryd.prog.info? 34).map (·.zero) = some (some (.agg #[.int .i64 0, .int .i64 0, .slice none 0 0])) := by kernel_rfl
theorem pl34 : plOf Tryd.prog 34 = some [(0, 1), (1, 1), (2, 1)] := by kernel_rfl
theorem sz35 : (Tryd.prog.info? 35).map (·.size) = some 3 := by kernel_rfl
theorem by35 : (Tryd.prog.info? 35).map (·.bytes) = some 32 := by kernel_rfl
theorem ag35 : aggB Tryd.prog 35 = true := by kernel_rfl
theorem nu35 : notInt Tryd.prog 35 = true := by kernel_rfl
theorem zr35 : (Tryd.prog.info? 35).map (·.zero) = some (some (.agg #[.int .i64 0, .bool false, .string ByteArray.empty])) := by kernel_rfl
theorem pl35 : plOf Tryd.prog 35 = some [(0, 1), (1, 1), (2, 1)] := by kernel_rfl
theorem sz36 : (Tryd.prog.info? 36).map (·.size) = some 3 := by kernel_rfl
theorem by36 : (Tryd.prog.info? 36).map (·.bytes) = some 32 := by kernel_rfl
theorem ag36 : aggB Tryd.prog 36 = true := by kernel_rfl
theorem nu36 : notInt Tryd.prog 36 = true := by kernel_rfl
theorem zr36 : (Tryd.prog.info? 36).map (·.zero) = some (some (.agg #[.int .i64 0, .bool false, .string ByteArray.empty])) := by kernel_rfl
theorem pl36 : plOf Tryd.prog 36 = some [(0, 1), (1, 1), (2, 1)] := by kernel_rfl
theorem sz45 : (Tryd.prog.info? 45).map (·.size) = some 1 := by kernel_rfl
theorem by45 : (Tryd.prog.info? 45).map (·.bytes) = some 24 := by kernel_rfl
theorem ag45 : aggB Tryd.prog 45 = false := by kernel_rfl
theorem nu45 : notInt Tryd.prog 45 = true := by kernel_rfl
theorem zr45 : (Tryd.prog.info? 45).map (·.zero) = some (some (.slice none 0 0)) := by kernel_rfl
theorem sz46 : (Tryd.prog.info? 46).map (·.size) = some 1 := by kernel_rfl
theorem by46 : (Tryd.prog.info? 46).map (·.bytes) = some 24 := by kernel_rfl
theorem ag46 : aggB Tryd.prog 46 = false := by kernel_rfl
theorem nu46 : notInt Tryd.prog 46 = true := by kernel_rfl
theorem zr46 : (Tryd.prog.info? 46).map (·.zero) = some (some (.slice none 0 0)) := by kernel_rfl
theorem sz51 : (Tryd.prog.info? 51).map (·.size) = some 1 := by kernel_rfl
theorem by51 : (Tryd.prog.info? 51).map (·.bytes) = some 8 := by kernel_rfl
theorem ag51 : aggB Tryd.prog 51 = false := by kernel_rfl
theorem zr51 : (Tryd.prog.info? 51).map (·.zero) = some (some (.int .u64 0)) := by kernel_rfl
theorem sz64 : (Tryd.prog.info? 64).map (·.size) = some 1 := by kernel_rfl
theorem by64 : (Tryd.prog.info? 64).map (·.bytes) = some 8 := by kernel_rfl
theorem ag64 : aggB Tryd.prog 64 = false := by kernel_rfl
theorem zr64 : (Tryd.prog.info? 64).map (·.zero) = some (some (.int .u64 0)) := by kernel_rfl
theorem sz65 : (Tryd.prog.info? 65).map (·.size) = some 9 := by kernel_rfl
theorem by65 : (Tryd.prog.info? 65).map (·.bytes) = some 128 := by kernel_rfl
theorem ag65 : aggB Tryd.prog 65 = true := by kernel_rfl
theorem nu65 : notInt Tryd.prog 65 = true := by kernel_rfl
theorem zr65 : (Tryd.prog.info? 65).map (·.zero) = some (some (.agg #[.int .i64 0, .slice none 0 0, .int .i64 0, .string ByteArray.empty, .string ByteArray.empty, .slice none 0 0, .int .i64 0, .int .i64 0, .string ByteArray.empty])) := by kernel_rfl
theorem pl65 : plOf Tryd.prog 65 = some [(0, 1), (1, 1), (2, 1), (3, 1), (4, 1), (5, 1), (6, 1), (7, 1), (8, 1)] := by kernel_rfl
theorem sz66 : (Tryd.prog.info? 66).map (·.size) = some 9 := by kernel_rfl
theorem by66 : (Tryd.prog.info? 66).map (·.bytes) = some 128 := by kernel_rfl
theorem ag66 : aggB Tryd.prog 66 = true := by kernel_rfl
theorem nu66 : notInt Tryd.prog 66 = true := by kernel_rfl
theorem zr66 : (Tryd.prog.info? 66).map (·.zero) = some (some (.agg #[.int .i64 0, .slice none 0 0, .int .i64 0, .string ByteArray.empty, .string ByteArray.empty, .slice none 0 0, .int .i64 0, .int .i64 0, .string ByteArray.empty])) := by kernel_rfl
theorem pl66 : plOf Tryd.prog 66 = some [(0, 1), (1, 1), (2, 1), (3, 1), (4, 1), (5, 1), (6, 1), (7, 1), (8, 1)] := by kernel_rfl
theorem sz67 : (Tryd.prog.info? 67).map (·.size) = some 14 := by kernel_rfl
theorem by67 : (Tryd.prog.info? 67).map (·.bytes) = some 184 := by kernel_rfl
theorem ag67 : aggB Tryd.prog 67 = true := by kernel_rfl
theorem nu67 : notInt Tryd.prog 67 = true := by kernel_rfl
theorem zr67 : (Tryd.prog.info? 67).map (·.zero) = some (some (.agg #[.int .i64 0, .int .i64 0, .int .i64 0, .int .u64 0, .slice none 0 0, .int .i64 0, .slice none 0 0, .int .i64 0, .string ByteArray.empty, .string ByteArray.empty, .slice none 0 0, .int .i64 0, .int .i64 0, .string ByteArray.empty])) := by kernel_rfl
theorem pl67 : plOf Tryd.prog 67 = some [(0, 1), (1, 1), (2, 1), (3, 1), (4, 1), (5, 9)] := by kernel_rfl
theorem sz68 : (Tryd.prog.info? 68).map (·.size) = some 14 := by kernel_rfl
theorem by68 : (Tryd.prog.info? 68).map (·.bytes) = some 184 := by kernel_rfl
theorem ag68 : aggB Tryd.prog 68 = true := by kernel_rfl
theorem nu68 : notInt Tryd.prog 68 = true := by kernel_rfl
theorem zr68 : (Tryd.prog.info? 68).map (·.zero) = some (some (.agg #[.int .i64 0, .int .i64 0, .int .i64 0, .int .u64 0, .slice none 0 0, .int .i64 0, .slice none 0 0, .int .i64 0, .string ByteArray.empty, .string ByteArray.empty, .slice none 0 0, .int .i64 0, .int .i64 0, .string ByteArray.empty])) := by kernel_rfl
theorem pl68 : plOf Tryd.prog 68 = some [(0, 1), (1, 1), (2, 1), (3, 1), (4, 1), (5, 9)] := by kernel_rfl
theorem sz71 : (Tryd.prog.info? 71).map (·.size) = some 9 := by kernel_rfl
theorem by71 : (Tryd.prog.info? 71).map (·.bytes) = some 128 := by kernel_rfl
theorem ag71 : aggB Tryd.prog 71 = true := by kernel_rfl
theorem nu71 : notInt Tryd.prog 71 = true := by kernel_rfl
theorem zr71 : (Tryd.prog.info? 71).map (·.zero) = some (some (.agg #[.int .i64 0, .slice none 0 0, .int .i64 0, .string ByteArray.empty, .string ByteArray.empty, .slice none 0 0, .int .i64 0, .int .i64 0, .string ByteArray.empty])) := by kernel_rfl
theorem pl71 : plOf Tryd.prog 71 = some [(0, 1), (1, 1), (2, 1), (3, 1), (4, 1), (5, 1), (6, 1), (7, 1), (8, 1)] := by kernel_rfl
theorem sz72 : (Tryd.prog.info? 72).map (·.size) = some 14 := by kernel_rfl
theorem by72 : (Tryd.prog.info? 72).map (·.bytes) = some 184 := by kernel_rfl
theorem ag72 : aggB Tryd.prog 72 = true := by kernel_rfl
theorem nu72 : notInt Tryd.prog 72 = true := by kernel_rfl
theorem zr72 : (Tryd.prog.info? 72).map (·.zero) = some (some (.agg #[.int .i64 0, .int .i64 0, .int .i64 0, .int .u64 0, .slice none 0 0, .int .i64 0, .slice none 0 0, .int .i64 0, .string ByteArray.empty, .string ByteArray.empty, .slice none 0 0, .int .i64 0, .int .i64 0, .string ByteArray.empty])) := by kernel_rfl
theorem pl72 : plOf Tryd.prog 72 = some [(0, 1), (1, 1), (2, 1), (3, 1), (4, 1), (5, 9)] := by kernel_rfl
theorem sz73 : (Tryd.prog.info? 73).map (·.size) = some 14 := by kernel_rfl
theorem by73 : (Tryd.prog.info? 73).map (·.bytes) = some 184 := by kernel_rfl
theorem ag73 : aggB Tryd.prog 73 = true := by kernel_rfl
theorem nu73 : notInt Tryd.prog 73 = true := by kernel_rfl
theorem zr73 : (Tryd.prog.info? 73).map (·.zero) = some (some (.agg #[.int .i64 0, .int .i64 0, .int .i64 0, .int .u64 0, .slice none 0 0, .int .i64 0, .slice none 0 0, .int .i64 0, .string ByteArray.empty, .string ByteArray.empty, .slice none 0 0, .int .i64 0, .int .i64 0, .string ByteArray.empty])) := by kernel_rfl
theorem pl73 : plOf Tryd.prog 73 = some [(0, 1), (1, 1), (2, 1), (3, 1), (4, 1), (5, 9)] := by kernel_rfl
theorem sz83 : (Tryd.prog.info? 83).map (·.size) = some 1 := by kernel_rfl
theorem by83 : (Tryd.prog.info? 83).map (·.bytes) = some 8 := by kernel_rfl
theorem ag83 : aggB Tryd.prog 83 = false := by kernel_rfl
theorem nu83 : notInt Tryd.prog 83 = true := by kernel_rfl
theorem zr83 : (Tryd.prog.info? 83).map (·.zero) = some (some (.pointer none)) := by kernel_rfl
theorem sz88 : (Tryd.prog.info? 88).map (·.size) = some 1 := by kernel_rfl
theorem by88 : (Tryd.prog.info? 88).map (·.bytes) = some 8 := by kernel_rfl
theorem ag88 : aggB Tryd.prog 88 = false := by kernel_rfl
theorem nu88 : notInt Tryd.prog 88 = true := by kernel_rfl
theorem zr88 : (Tryd.prog.info? 88).map (·.zero) = some (some (.chan none)) := by kernel_rfl
theorem sz89 : (Tryd.prog.info? 89).map (·.size) = some 2 := by kernel_rfl
theorem by89 : (Tryd.prog.info? 89).map (·.bytes) = some 16 := by kernel_rfl
theorem ag89 : aggB Tryd.prog 89 = true := by kernel_rfl
theorem nu89 : notInt Tryd.prog 89 = true := by kernel_rfl
theorem zr89 : (Tryd.prog.info? 89).map (·.zero) = some (some (.agg #[.chan none, .int .i64 0])) := by kernel_rfl
theorem pl89 : plOf Tryd.prog 89 = some [(0, 1), (1, 1)] := by kernel_rfl
theorem sz90 : (Tryd.prog.info? 90).map (·.size) = some 2 := by kernel_rfl
theorem by90 : (Tryd.prog.info? 90).map (·.bytes) = some 16 := by kernel_rfl
theorem ag90 : aggB Tryd.prog 90 = true := by kernel_rfl
theorem nu90 : notInt Tryd.prog 90 = true := by kernel_rfl
theorem zr90 : (Tryd.prog.info? 90).map (·.zero) = some (some (.agg #[.chan none, .int .i64 0])) := by kernel_rfl
theorem pl90 : plOf Tryd.prog 90 = some [(0, 1), (1, 1)] := by kernel_rfl
theorem sz91 : (Tryd.prog.info? 91).map (·.size) = some 1 := by kernel_rfl
theorem by91 : (Tryd.prog.info? 91).map (·.bytes) = some 24 := by kernel_rfl
theorem ag91 : aggB Tryd.prog 91 = false := by kernel_rfl
theorem nu91 : notInt Tryd.prog 91 = true := by kernel_rfl
theorem zr91 : (Tryd.prog.info? 91).map (·.zero) = some (some (.slice none 0 0)) := by kernel_rfl
theorem sz94 : (Tryd.prog.info? 94).map (·.size) = some 1 := by kernel_rfl
theorem by94 : (Tryd.prog.info? 94).map (·.bytes) = some 24 := by kernel_rfl
theorem ag94 : aggB Tryd.prog 94 = false := by kernel_rfl
theorem nu94 : notInt Tryd.prog 94 = true := by kernel_rfl
theorem zr94 : (Tryd.prog.info? 94).map (·.zero) = some (some (.slice none 0 0)) := by kernel_rfl
theorem sz106 : (Tryd.prog.info? 106).map (·.size) = some 1 := by kernel_rfl
theorem by106 : (Tryd.prog.info? 106).map (·.bytes) = some 24 := by kernel_rfl
theorem ag106 : aggB Tryd.prog 106 = false := by kernel_rfl
theorem nu106 : notInt Tryd.prog 106 = true := by kernel_rfl
theorem zr106 : (Tryd.prog.info? 106).map (·.zero) = some (some (.slice none 0 0)) := by kernel_rfl
theorem sz109 : (Tryd.prog.info? 109).map (·.size) = some 3 := by kernel_rfl
theorem by109 : (Tryd.prog.info? 109).map (·.bytes) = some 40 := by kernel_rfl
theorem ag109 : aggB Tryd.prog 109 = true := by kernel_rfl
theorem nu109 : notInt Tryd.prog 109 = true := by kernel_rfl
theorem zr109 : (Tryd.prog.info? 109).map (·.zero) = some (some (.agg #[.string ByteArray.empty, .int .i64 0, .string ByteArray.empty])) := by kernel_rfl
theorem pl109 : plOf Tryd.prog 109 = some [(0, 1), (1, 1), (2, 1)] := by kernel_rfl
theorem sz110 : (Tryd.prog.info? 110).map (·.size) = some 3 := by kernel_rfl
theorem by110 : (Tryd.prog.info? 110).map (·.bytes) = some 40 := by kernel_rfl
theorem ag110 : aggB Tryd.prog 110 = true := by kernel_rfl
theorem nu110 : notInt Tryd.prog 110 = true := by kernel_rfl
theorem zr110 : (Tryd.prog.info? 110).map (·.zero) = some (some (.agg #[.string ByteArray.empty, .int .i64 0, .string ByteArray.empty])) := by kernel_rfl
theorem pl110 : plOf Tryd.prog 110 = some [(0, 1), (1, 1), (2, 1)] := by kernel_rfl
theorem sz113 : (Tryd.prog.info? 113).map (·.size) = some 1 := by kernel_rfl
theorem by113 : (Tryd.prog.info? 113).map (·.bytes) = some 8 := by kernel_rfl
theorem ag113 : aggB Tryd.prog 113 = false := by kernel_rfl
theorem nu113 : notInt Tryd.prog 113 = true := by kernel_rfl
theorem zr113 : (Tryd.prog.info? 113).map (·.zero) = some (some (.pointer none)) := by kernel_rfl
theorem sz122 : (Tryd.prog.info? 122).map (·.size) = some 1 := by kernel_rfl
theorem by122 : (Tryd.prog.info? 122).map (·.bytes) = some 8 := by kernel_rfl
theorem ag122 : aggB Tryd.prog 122 = false := by kernel_rfl
theorem nu122 : notInt Tryd.prog 122 = true := by kernel_rfl
theorem zr122 : (Tryd.prog.info? 122).map (·.zero) = some (some (.chan none)) := by kernel_rfl
theorem sz123 : (Tryd.prog.info? 123).map (·.size) = some 2 := by kernel_rfl
theorem by123 : (Tryd.prog.info? 123).map (·.bytes) = some 16 := by kernel_rfl
theorem ag123 : aggB Tryd.prog 123 = true := by kernel_rfl
theorem nu123 : notInt Tryd.prog 123 = true := by kernel_rfl
theorem zr123 : (Tryd.prog.info? 123).map (·.zero) = some (some (.agg #[.chan none, .int .i64 0])) := by kernel_rfl
theorem pl123 : plOf Tryd.prog 123 = some [(0, 1), (1, 1)] := by kernel_rfl
theorem sz124 : (Tryd.prog.info? 124).map (·.size) = some 2 := by kernel_rfl
theorem by124 : (Tryd.prog.info? 124).map (·.bytes) = some 16 := by kernel_rfl
theorem ag124 : aggB Tryd.prog 124 = true := by kernel_rfl
theorem nu124 : notInt Tryd.prog 124 = true := by kernel_rfl
theorem zr124 : (Tryd.prog.info? 124).map (·.zero) = some (some (.agg #[.chan none, .int .i64 0])) := by kernel_rfl
theorem pl124 : plOf Tryd.prog 124 = some [(0, 1), (1, 1)] := by kernel_rfl
theorem sz125 : (Tryd.prog.info? 125).map (·.size) = some 1 := by kernel_rfl
theorem by125 : (Tryd.prog.info? 125).map (·.bytes) = some 16 := by kernel_rfl
theorem ag125 : aggB Tryd.prog 125 = false := by kernel_rfl
theorem nu125 : notInt Tryd.prog 125 = true := by kernel_rfl
theorem zr125 : (Tryd.prog.info? 125).map (·.zero) = some (some (.nilIface)) := by kernel_rfl
theorem sz126 : (Tryd.prog.info? 126).map (·.size) = some 1 := by kernel_rfl
theorem by126 : (Tryd.prog.info? 126).map (·.bytes) = some 16 := by kernel_rfl
theorem ag126 : aggB Tryd.prog 126 = false := by kernel_rfl
theorem nu126 : notInt Tryd.prog 126 = true := by kernel_rfl
theorem zr126 : (Tryd.prog.info? 126).map (·.zero) = some (some (.nilIface)) := by kernel_rfl
theorem sz131 : (Tryd.prog.info? 131).map (·.size) = some 1 := by kernel_rfl
theorem by131 : (Tryd.prog.info? 131).map (·.bytes) = some 2 := by kernel_rfl
theorem ag131 : aggB Tryd.prog 131 = false := by kernel_rfl
theorem zr131 : (Tryd.prog.info? 131).map (·.zero) = some (some (.int .u16 0)) := by kernel_rfl
theorem sz138 : (Tryd.prog.info? 138).map (·.size) = some 1 := by kernel_rfl
theorem by138 : (Tryd.prog.info? 138).map (·.bytes) = some 8 := by kernel_rfl
theorem ag138 : aggB Tryd.prog 138 = false := by kernel_rfl
theorem nu138 : notInt Tryd.prog 138 = true := by kernel_rfl
theorem zr138 : (Tryd.prog.info? 138).map (·.zero) = some (some (.pointer none)) := by kernel_rfl
theorem sz140 : (Tryd.prog.info? 140).map (·.size) = some 1 := by kernel_rfl
theorem by140 : (Tryd.prog.info? 140).map (·.bytes) = some 8 := by kernel_rfl
theorem ag140 : aggB Tryd.prog 140 = false := by kernel_rfl
theorem nu140 : notInt Tryd.prog 140 = true := by kernel_rfl
theorem zr140 : (Tryd.prog.info? 140).map (·.zero) = some (some (.pointer none)) := by kernel_rfl
theorem sz142 : (Tryd.prog.info? 142).map (·.size) = some 1 := by kernel_rfl
theorem by142 : (Tryd.prog.info? 142).map (·.bytes) = some 8 := by kernel_rfl
theorem ag142 : aggB Tryd.prog 142 = false := by kernel_rfl
theorem nu142 : notInt Tryd.prog 142 = true := by kernel_rfl
theorem zr142 : (Tryd.prog.info? 142).map (·.zero) = some (some (.pointer none)) := by kernel_rfl
theorem sz144 : (Tryd.prog.info? 144).map (·.size) = some 1 := by kernel_rfl
theorem by144 : (Tryd.prog.info? 144).map (·.bytes) = some 8 := by kernel_rfl
theorem ag144 : aggB Tryd.prog 144 = false := by kernel_rfl
theorem nu144 : notInt Tryd.prog 144 = true := by kernel_rfl
theorem zr144 : (Tryd.prog.info? 144).map (·.zero) = some (some (.pointer none)) := by kernel_rfl
theorem sz145 : (Tryd.prog.info? 145).map (·.size) = some 2 := by kernel_rfl
theorem by145 : (Tryd.prog.info? 145).map (·.bytes) = some 32 := by kernel_rfl
theorem ag145 : aggB Tryd.prog 145 = true := by kernel_rfl
theorem nu145 : notInt Tryd.prog 145 = true := by kernel_rfl
theorem zr145 : (Tryd.prog.info? 145).map (·.zero) = some (some (.agg #[.pointer none, .slice none 0 0])) := by kernel_rfl
theorem pl145 : plOf Tryd.prog 145 = some [(0, 1), (1, 1)] := by kernel_rfl
theorem sz146 : (Tryd.prog.info? 146).map (·.size) = some 2 := by kernel_rfl
theorem by146 : (Tryd.prog.info? 146).map (·.bytes) = some 32 := by kernel_rfl
theorem ag146 : aggB Tryd.prog 146 = true := by kernel_rfl
theorem nu146 : notInt Tryd.prog 146 = true := by kernel_rfl
theorem zr146 : (Tryd.prog.info? 146).map (·.zero) = some (some (.agg #[.pointer none, .slice none 0 0])) := by kernel_rfl
theorem pl146 : plOf Tryd.prog 146 = some [(0, 1), (1, 1)] := by kernel_rfl
theorem sz151 : (Tryd.prog.info? 151).map (·.size) = some 1 := by kernel_rfl
theorem by151 : (Tryd.prog.info? 151).map (·.bytes) = some 8 := by kernel_rfl
theorem ag151 : aggB Tryd.prog 151 = true := by kernel_rfl
theorem nu151 : notInt Tryd.prog 151 = true := by kernel_rfl
theorem zr151 : (Tryd.prog.info? 151).map (·.zero) = some (some (.agg #[.pointer none])) := by kernel_rfl
theorem pl151 : plOf Tryd.prog 151 = some [(0, 1)] := by kernel_rfl
theorem sz152 : (Tryd.prog.info? 152).map (·.size) = some 1 := by kernel_rfl
theorem by152 : (Tryd.prog.info? 152).map (·.bytes) = some 8 := by kernel_rfl
theorem ag152 : aggB Tryd.prog 152 = true := by kernel_rfl
theorem nu152 : notInt Tryd.prog 152 = true := by kernel_rfl
theorem zr152 : (Tryd.prog.info? 152).map (·.zero) = some (some (.agg #[.pointer none])) := by kernel_rfl
theorem pl152 : plOf Tryd.prog 152 = some [(0, 1)] := by kernel_rfl
theorem sz153 : (Tryd.prog.info? 153).map (·.size) = some 1 := by kernel_rfl
theorem by153 : (Tryd.prog.info? 153).map (·.bytes) = some 8 := by kernel_rfl
theorem ag153 : aggB Tryd.prog 153 = false := by kernel_rfl
theorem nu153 : notInt Tryd.prog 153 = true := by kernel_rfl
theorem zr153 : (Tryd.prog.info? 153).map (·.zero) = some (some (.pointer none)) := by kernel_rfl
theorem sz154 : (Tryd.prog.info? 154).map (·.size) = some 1 := by kernel_rfl
theorem by154 : (Tryd.prog.info? 154).map (·.bytes) = some 16 := by kernel_rfl
theorem ag154 : aggB Tryd.prog 154 = false := by kernel_rfl
theorem nu154 : notInt Tryd.prog 154 = true := by kernel_rfl
theorem zr154 : (Tryd.prog.info? 154).map (·.zero) = some (some (.nilIface)) := by kernel_rfl
theorem sz157 : (Tryd.prog.info? 157).map (·.size) = some 1 := by kernel_rfl
theorem by157 : (Tryd.prog.info? 157).map (·.bytes) = some 16 := by kernel_rfl
theorem ag157 : aggB Tryd.prog 157 = false := by kernel_rfl
theorem nu157 : notInt Tryd.prog 157 = true := by kernel_rfl
theorem zr157 : (Tryd.prog.info? 157).map (·.zero) = some (some (.nilIface)) := by kernel_rfl
theorem sz159 : (Tryd.prog.info? 159).map (·.size) = some 1 := by kernel_rfl
theorem by159 : (Tryd.prog.info? 159).map (·.bytes) = some 16 := by kernel_rfl
theorem ag159 : aggB Tryd.prog 159 = false := by kernel_rfl
theorem nu159 : notInt Tryd.prog 159 = true := by kernel_rfl
theorem zr159 : (Tryd.prog.info? 159).map (·.zero) = some (some (.nilIface)) := by kernel_rfl
theorem sz162 : (Tryd.prog.info? 162).map (·.size) = some 1 := by kernel_rfl
theorem by162 : (Tryd.prog.info? 162).map (·.bytes) = some 4 := by kernel_rfl
theorem ag162 : aggB Tryd.prog 162 = false := by kernel_rfl
theorem zr162 : (Tryd.prog.info? 162).map (·.zero) = some (some (.int .u32 0)) := by kernel_rfl
theorem sz165 : (Tryd.prog.info? 165).map (·.size) = some 1 := by kernel_rfl
theorem by165 : (Tryd.prog.info? 165).map (·.bytes) = some 8 := by kernel_rfl
theorem ag165 : aggB Tryd.prog 165 = false := by kernel_rfl
theorem zr165 : (Tryd.prog.info? 165).map (·.zero) = some (some (.int .i64 0)) := by kernel_rfl
theorem sz175 : (Tryd.prog.info? 175).map (·.size) = some 1 := by kernel_rfl
theorem by175 : (Tryd.prog.info? 175).map (·.bytes) = some 8 := by kernel_rfl
theorem ag175 : aggB Tryd.prog 175 = false := by kernel_rfl
theorem nu175 : notInt Tryd.prog 175 = true := by kernel_rfl
theorem zr175 : (Tryd.prog.info? 175).map (·.zero) = some (some (.pointer none)) := by kernel_rfl
theorem sz176 : (Tryd.prog.info? 176).map (·.size) = some 1 := by kernel_rfl
theorem by176 : (Tryd.prog.info? 176).map (·.bytes) = some 8 := by kernel_rfl
theorem ag176 : aggB Tryd.prog 176 = false := by kernel_rfl
theorem zr176 : (Tryd.prog.info? 176).map (·.zero) = some (some (.int .u64 0)) := by kernel_rfl
theorem sz184 : (Tryd.prog.info? 184).map (·.size) = some 1 := by kernel_rfl
theorem by184 : (Tryd.prog.info? 184).map (·.bytes) = some 8 := by kernel_rfl
theorem ag184 : aggB Tryd.prog 184 = false := by kernel_rfl
theorem nu184 : notInt Tryd.prog 184 = true := by kernel_rfl
theorem zr184 : (Tryd.prog.info? 184).map (·.zero) = some (some (.pointer none)) := by kernel_rfl
theorem sz187 : (Tryd.prog.info? 187).map (·.size) = some 1 := by kernel_rfl
theorem by187 : (Tryd.prog.info? 187).map (·.bytes) = some 8 := by kernel_rfl
theorem ag187 : aggB Tryd.prog 187 = false := by kernel_rfl
theorem nu187 : notInt Tryd.prog 187 = true := by kernel_rfl
theorem zr187 : (Tryd.prog.info? 187).map (·.zero) = some (some (.pointer none)) := by kernel_rfl
theorem sz191 : (Tryd.prog.info? 191).map (·.size) = some 256 := by kernel_rfl
theorem by191 : (Tryd.prog.info? 191).map (·.bytes) = some 256 := by kernel_rfl
theorem ag191 : aggB Tryd.prog 191 = true := by kernel_rfl
theorem nu191 : notInt Tryd.prog 191 = true := by kernel_rfl
theorem sz192 : (Tryd.prog.info? 192).map (·.size) = some 2 := by kernel_rfl
theorem by192 : (Tryd.prog.info? 192).map (·.bytes) = some 2 := by kernel_rfl
theorem ag192 : aggB Tryd.prog 192 = true := by kernel_rfl
theorem nu192 : notInt Tryd.prog 192 = true := by kernel_rfl
theorem zr192 : (Tryd.prog.info? 192).map (·.zero) = some (some (.agg #[.int .u8 0, .int .u8 0])) := by kernel_rfl
theorem pl192 : plOf Tryd.prog 192 = some [(0, 1), (1, 1)] := by kernel_rfl
theorem sz193 : (Tryd.prog.info? 193).map (·.size) = some 2 := by kernel_rfl
theorem by193 : (Tryd.prog.info? 193).map (·.bytes) = some 2 := by kernel_rfl
theorem ag193 : aggB Tryd.prog 193 = true := by kernel_rfl
theorem nu193 : notInt Tryd.prog 193 = true := by kernel_rfl
theorem zr193 : (Tryd.prog.info? 193).map (·.zero) = some (some (.agg #[.int .u8 0, .int .u8 0])) := by kernel_rfl
theorem pl193 : plOf Tryd.prog 193 = some [(0, 1), (1, 1)] := by kernel_rfl
theorem sz194 : (Tryd.prog.info? 194).map (·.size) = some 32 := by kernel_rfl
theorem by194 : (Tryd.prog.info? 194).map (·.bytes) = some 32 := by kernel_rfl
theorem ag194 : aggB Tryd.prog 194 = true := by kernel_rfl
theorem nu194 : notInt Tryd.prog 194 = true := by kernel_rfl
theorem zr194 : (Tryd.prog.info? 194).map (·.zero) = some (some (.agg #[.int .u8 0, .int .u8 0, .int .u8 0, .int .u8 0, .int .u8 0, .int .u8 0, .int .u8 0, .int .u8 0, .int .u8 0, .int .u8 0, .int .u8 0, .int .u8 0, .int .u8 0, .int .u8 0, .int .u8 0, .int .u8 0, .int .u8 0, .int .u8 0, .int .u8 0, .int .u8 0, .int .u8 0, .int .u8 0, .int .u8 0, .int .u8 0, .int .u8 0, .int .u8 0, .int .u8 0, .int .u8 0, .int .u8 0, .int .u8 0, .int .u8 0, .int .u8 0])) := by kernel_rfl
theorem sz197 : (Tryd.prog.info? 197).map (·.size) = some 1 := by kernel_rfl
theorem by197 : (Tryd.prog.info? 197).map (·.bytes) = some 8 := by kernel_rfl
theorem ag197 : aggB Tryd.prog 197 = false := by kernel_rfl
theorem nu197 : notInt Tryd.prog 197 = true := by kernel_rfl
theorem zr197 : (Tryd.prog.info? 197).map (·.zero) = some (some (.pointer none)) := by kernel_rfl
theorem sz198 : (Tryd.prog.info? 198).map (·.size) = some 4 := by kernel_rfl
theorem by198 : (Tryd.prog.info? 198).map (·.bytes) = some 40 := by kernel_rfl
theorem ag198 : aggB Tryd.prog 198 = true := by kernel_rfl
theorem nu198 : notInt Tryd.prog 198 = true := by kernel_rfl
theorem zr198 : (Tryd.prog.info? 198).map (·.zero) = some (some (.agg #[.pointer none, .pointer none, .pointer none, .string ByteArray.empty])) := by kernel_rfl
theorem pl198 : plOf Tryd.prog 198 = some [(0, 1), (1, 1), (2, 1), (3, 1)] := by kernel_rfl
theorem sz199 : (Tryd.prog.info? 199).map (·.size) = some 4 := by kernel_rfl
theorem by199 : (Tryd.prog.info? 199).map (·.bytes) = some 40 := by kernel_rfl
theorem ag199 : aggB Tryd.prog 199 = true := by kernel_rfl
theorem nu199 : notInt Tryd.prog 199 = true := by kernel_rfl
theorem zr199 : (Tryd.prog.info? 199).map (·.zero) = some (some (.agg #[.pointer none, .pointer none, .pointer none, .string ByteArray.empty])) := by kernel_rfl
theorem pl199 : plOf Tryd.prog 199 = some [(0, 1), (1, 1), (2, 1), (3, 1)] := by kernel_rfl
theorem sz200 : (Tryd.prog.info? 200).map (·.size) = some 0 := by kernel_rfl
theorem by200 : (Tryd.prog.info? 200).map (·.bytes) = some 0 := by kernel_rfl
theorem ag200 : aggB Tryd.prog 200 = true := by kernel_rfl
theorem nu200 : notInt Tryd.prog 200 = true := by kernel_rfl
theorem zr200 : (Tryd.prog.info? 200).map (·.zero) = some (some (.agg #[])) := by kernel_rfl
theorem sz201 : (Tryd.prog.info? 201).map (·.size) = some 0 := by kernel_rfl
theorem by201 : (Tryd.prog.info? 201).map (·.bytes) = some 0 := by kernel_rfl
theorem ag201 : aggB Tryd.prog 201 = true := by kernel_rfl
theorem nu201 : notInt Tryd.prog 201 = true := by kernel_rfl
theorem zr201 : (Tryd.prog.info? 201).map (·.zero) = some (some (.agg #[])) := by kernel_rfl
theorem pl201 : plOf Tryd.prog 201 = some [(0, 0)] := by kernel_rfl
theorem sz202 : (Tryd.prog.info? 202).map (·.size) = some 0 := by kernel_rfl
theorem by202 : (Tryd.prog.info? 202).map (·.bytes) = some 0 := by kernel_rfl
theorem ag202 : aggB Tryd.prog 202 = true := by kernel_rfl
theorem nu202 : notInt Tryd.prog 202 = true := by kernel_rfl
theorem zr202 : (Tryd.prog.info? 202).map (·.zero) = some (some (.agg #[])) := by kernel_rfl
theorem pl202 : plOf Tryd.prog 202 = some [(0, 0)] := by kernel_rfl
theorem sz203 : (Tryd.prog.info? 203).map (·.size) = some 1 := by kernel_rfl
theorem by203 : (Tryd.prog.info? 203).map (·.bytes) = some 1 := by kernel_rfl
theorem ag203 : aggB Tryd.prog 203 = false := by kernel_rfl
theorem zr203 : (Tryd.prog.info? 203).map (·.zero) = some (some (.int .u8 0)) := by kernel_rfl
theorem sz204 : (Tryd.prog.info? 204).map (·.size) = some 1 := by kernel_rfl
theorem by204 : (Tryd.prog.info? 204).map (·.bytes) = some 1 := by kernel_rfl
theorem ag204 : aggB Tryd.prog 204 = false := by kernel_rfl
theorem zr204 : (Tryd.prog.info? 204).map (·.zero) = some (some (.int .u8 0)) := by kernel_rfl
theorem sz206 : (Tryd.prog.info? 206).map (·.size) = some 1 := by kernel_rfl
theorem by206 : (Tryd.prog.info? 206).map (·.bytes) = some 4 := by kernel_rfl
theorem ag206 : aggB Tryd.prog 206 = false := by kernel_rfl
theorem zr206 : (Tryd.prog.info? 206).map (·.zero) = some (some (.int .i32 0)) := by kernel_rfl
theorem sz207 : (Tryd.prog.info? 207).map (·.size) = some 1 := by kernel_rfl
theorem by207 : (Tryd.prog.info? 207).map (·.bytes) = some 4 := by kernel_rfl
theorem ag207 : aggB Tryd.prog 207 = false := by kernel_rfl
theorem zr207 : (Tryd.prog.info? 207).map (·.zero) = some (some (.int .i32 0)) := by kernel_rfl
theorem sz208 : (Tryd.prog.info? 208).map (·.size) = some 11 := by kernel_rfl
theorem by208 : (Tryd.prog.info? 208).map (·.bytes) = some 48 := by kernel_rfl
theorem ag208 : aggB Tryd.prog 208 = true := by kernel_rfl
theorem nu208 : notInt Tryd.prog 208 = true := by kernel_rfl
theorem zr208 : (Tryd.prog.info? 208).map (·.zero) = some (some (.agg #[.int .u64 0, .int .u64 0, .int .u32 0, .int .u8 0, .int .u8 0, .int .u8 0, .int .u8 0, .nilFunc, .pointer none, .int .i32 0, .int .i32 0])) := by kernel_rfl
theorem pl208 : plOf Tryd.prog 208 = some [(0, 1), (1, 1), (2, 1), (3, 1), (4, 1), (5, 1), (6, 1), (7, 1), (8, 1), (9, 1), (10, 1)] := by kernel_rfl
theorem sz209 : (Tryd.prog.info? 209).map (·.size) = some 11 := by kernel_rfl
theorem by209 : (Tryd.prog.info? 209).map (·.bytes) = some 48 := by kernel_rfl
theorem ag209 : aggB Tryd.prog 209 = true := by kernel_rfl
theorem nu209 : notInt Tryd.prog 209 = true := by kernel_rfl
theorem zr209 : (Tryd.prog.info? 209).map (·.zero) = some (some (.agg #[.int .u64 0, .int .u64 0, .int .u32 0, .int .u8 0, .int .u8 0, .int .u8 0, .int .u8 0, .nilFunc, .pointer none, .int .i32 0, .int .i32 0])) := by kernel_rfl
theorem pl209 : plOf Tryd.prog 209 = some [(0, 1), (1, 1), (2, 1), (3, 1), (4, 1), (5, 1), (6, 1), (7, 1), (8, 1), (9, 1), (10, 1)] := by kernel_rfl
theorem sz221 : (Tryd.prog.info? 221).map (·.size) = some 2 := by kernel_rfl
theorem by221 : (Tryd.prog.info? 221).map (·.bytes) = some 24 := by kernel_rfl
theorem ag221 : aggB Tryd.prog 221 = true := by kernel_rfl
theorem nu221 : notInt Tryd.prog 221 = true := by kernel_rfl
theorem zr221 : (Tryd.prog.info? 221).map (·.zero) = some (some (.agg #[.string ByteArray.empty, .int .u8 0])) := by kernel_rfl
theorem pl221 : plOf Tryd.prog 221 = some [(0, 1), (1, 1)] := by kernel_rfl
theorem sz222 : (Tryd.prog.info? 222).map (·.size) = some 2 := by kernel_rfl
theorem by222 : (Tryd.prog.info? 222).map (·.bytes) = some 24 := by kernel_rfl
theorem ag222 : aggB Tryd.prog 222 = true := by kernel_rfl
theorem nu222 : notInt Tryd.prog 222 = true := by kernel_rfl
theorem zr222 : (Tryd.prog.info? 222).map (·.zero) = some (some (.agg #[.string ByteArray.empty, .int .u8 0])) := by kernel_rfl
theorem pl222 : plOf Tryd.prog 222 = some [(0, 1), (1, 1)] := by kernel_rfl
theorem sz223 : (Tryd.prog.info? 223).map (·.size) = some 1 := by kernel_rfl
theorem by223 : (Tryd.prog.info? 223).map (·.bytes) = some 16 := by kernel_rfl
theorem ag223 : aggB Tryd.prog 223 = true := by kernel_rfl
theorem nu223 : notInt Tryd.prog 223 = true := by kernel_rfl
theorem zr223 : (Tryd.prog.info? 223).map (·.zero) = some (some (.agg #[.string ByteArray.empty])) := by kernel_rfl
theorem pl223 : plOf Tryd.prog 223 = some [(0, 1)] := by kernel_rfl
theorem sz224 : (Tryd.prog.info? 224).map (·.size) = some 1 := by kernel_rfl
theorem by224 : (Tryd.prog.info? 224).map (·.bytes) = some 16 := by kernel_rfl
theorem ag224 : aggB Tryd.prog 224 = true := by kernel_rfl
theorem nu224 : notInt Tryd.prog 224 = true := by kernel_rfl
theorem zr224 : (Tryd.prog.info? 224).map (·.zero) = some (some (.agg #[.string ByteArray.empty])) := by kernel_rfl
theorem pl224 : plOf Tryd.prog 224 = some [(0, 1)] := by kernel_rfl
theorem sz225 : (Tryd.prog.info? 225).map (·.size) = some 1 := by kernel_rfl
theorem by225 : (Tryd.prog.info? 225).map (·.bytes) = some 8 := by kernel_rfl
theorem ag225 : aggB Tryd.prog 225 = false := by kernel_rfl
theorem nu225 : notInt Tryd.prog 225 = true := by kernel_rfl
theorem zr225 : (Tryd.prog.info? 225).map (·.zero) = some (some (.pointer none)) := by kernel_rfl
theorem sz226 : (Tryd.prog.info? 226).map (·.size) = some 5 := by kernel_rfl
theorem by226 : (Tryd.prog.info? 226).map (·.bytes) = some 64 := by kernel_rfl
theorem ag226 : aggB Tryd.prog 226 = true := by kernel_rfl
theorem nu226 : notInt Tryd.prog 226 = true := by kernel_rfl
theorem zr226 : (Tryd.prog.info? 226).map (·.zero) = some (some (.agg #[.int .i64 0, .int .i64 0, .bool false, .slice none 0 0, .string ByteArray.empty])) := by kernel_rfl
theorem pl226 : plOf Tryd.prog 226 = some [(0, 1), (1, 1), (2, 1), (3, 1), (4, 1)] := by kernel_rfl
theorem sz227 : (Tryd.prog.info? 227).map (·.size) = some 5 := by kernel_rfl
theorem by227 : (Tryd.prog.info? 227).map (·.bytes) = some 64 := by kernel_rfl
theorem ag227 : aggB Tryd.prog 227 = true := by kernel_rfl
theorem nu227 : notInt Tryd.prog 227 = true := by kernel_rfl
theorem zr227 : (Tryd.prog.info? 227).map (·.zero) = some (some (.agg #[.int .i64 0, .int .i64 0, .bool false, .slice none 0 0, .string ByteArray.empty])) := by kernel_rfl
theorem pl227 : plOf Tryd.prog 227 = some [(0, 1), (1, 1), (2, 1), (3, 1), (4, 1)] := by kernel_rfl
theorem sz228 : (Tryd.prog.info? 228).map (·.size) = some 1 := by kernel_rfl
theorem by228 : (Tryd.prog.info? 228).map (·.bytes) = some 24 := by kernel_rfl
theorem ag228 : aggB Tryd.prog 228 = false := by kernel_rfl
theorem nu228 : notInt Tryd.prog 228 = true := by kernel_rfl
theorem zr228 : (Tryd.prog.info? 228).map (·.zero) = some (some (.slice none 0 0)) := by kernel_rfl
theorem sz229 : (Tryd.prog.info? 229).map (·.size) = some 1 := by kernel_rfl
theorem by229 : (Tryd.prog.info? 229).map (·.bytes) = some 8 := by kernel_rfl
theorem ag229 : aggB Tryd.prog 229 = false := by kernel_rfl
theorem nu229 : notInt Tryd.prog 229 = true := by kernel_rfl
theorem zr229 : (Tryd.prog.info? 229).map (·.zero) = some (some (.pointer none)) := by kernel_rfl
theorem sz230 : (Tryd.prog.info? 230).map (·.size) = some 1 := by kernel_rfl
theorem by230 : (Tryd.prog.info? 230).map (·.bytes) = some 24 := by kernel_rfl
theorem ag230 : aggB Tryd.prog 230 = false := by kernel_rfl
theorem nu230 : notInt Tryd.prog 230 = true := by kernel_rfl
theorem zr230 : (Tryd.prog.info? 230).map (·.zero) = some (some (.slice none 0 0)) := by kernel_rfl
theorem sz231 : (Tryd.prog.info? 231).map (·.size) = some 3 := by kernel_rfl
theorem by231 : (Tryd.prog.info? 231).map (·.bytes) = some 64 := by kernel_rfl
theorem ag231 : aggB Tryd.prog 231 = true := by kernel_rfl
theorem nu231 : notInt Tryd.prog 231 = true := by kernel_rfl
theorem zr231 : (Tryd.prog.info? 231).map (·.zero) = some (some (.agg #[.slice none 0 0, .slice none 0 0, .nilIface])) := by kernel_rfl
theorem pl231 : plOf Tryd.prog 231 = some [(0, 1), (1, 1), (2, 1)] := by kernel_rfl
theorem sz232 : (Tryd.prog.info? 232).map (·.size) = some 3 := by kernel_rfl
theorem by232 : (Tryd.prog.info? 232).map (·.bytes) = some 64 := by kernel_rfl
theorem ag232 : aggB Tryd.prog 232 = true := by kernel_rfl
theorem nu232 : notInt Tryd.prog 232 = true := by kernel_rfl
theorem zr232 : (Tryd.prog.info? 232).map (·.zero) = some (some (.agg #[.slice none 0 0, .slice none 0 0, .nilIface])) := by kernel_rfl
theorem pl232 : plOf Tryd.prog 232 = some [(0, 1), (1, 1), (2, 1)] := by kernel_rfl
theorem sz234 : (Tryd.prog.info? 234).map (·.size) = some 5 := by kernel_rfl
theorem by234 : (Tryd.prog.info? 234).map (·.bytes) = some 16 := by kernel_rfl
theorem ag234 : aggB Tryd.prog 234 = true := by kernel_rfl
theorem nu234 : notInt Tryd.prog 234 = true := by kernel_rfl
theorem zr234 : (Tryd.prog.info? 234).map (·.zero) = some (some (.agg #[.int .i32 0, .int .u16 0, .int .u16 0, .int .u32 0, .int .u32 0])) := by kernel_rfl
theorem pl234 : plOf Tryd.prog 234 = some [(0, 1), (1, 1), (2, 1), (3, 1), (4, 1)] := by kernel_rfl
theorem sz235 : (Tryd.prog.info? 235).map (·.size) = some 5 := by kernel_rfl
theorem by235 : (Tryd.prog.info? 235).map (·.bytes) = some 16 := by kernel_rfl
theorem ag235 : aggB Tryd.prog 235 = true := by kernel_rfl
theorem nu235 : notInt Tryd.prog 235 = true := by kernel_rfl
theorem zr235 : (Tryd.prog.info? 235).map (·.zero) = some (some (.agg #[.int .i32 0, .int .u16 0, .int .u16 0, .int .u32 0, .int .u32 0])) := by kernel_rfl
theorem pl235 : plOf Tryd.prog 235 = some [(0, 1), (1, 1), (2, 1), (3, 1), (4, 1)] := by kernel_rfl
theorem sz236 : (Tryd.prog.info? 236).map (·.size) = some 2 := by kernel_rfl
theorem by236 : (Tryd.prog.info? 236).map (·.bytes) = some 32 := by kernel_rfl
theorem ag236 : aggB Tryd.prog 236 = true := by kernel_rfl
theorem nu236 : notInt Tryd.prog 236 = true := by kernel_rfl
theorem zr236 : (Tryd.prog.info? 236).map (·.zero) = some (some (.agg #[.int .i64 0, .slice none 0 0])) := by kernel_rfl
theorem pl236 : plOf Tryd.prog 236 = some [(0, 1), (1, 1)] := by kernel_rfl
theorem sz237 : (Tryd.prog.info? 237).map (·.size) = some 2 := by kernel_rfl
theorem by237 : (Tryd.prog.info? 237).map (·.bytes) = some 32 := by kernel_rfl
theorem ag237 : aggB Tryd.prog 237 = true := by kernel_rfl
theorem nu237 : notInt Tryd.prog 237 = true := by kernel_rfl
theorem zr237 : (Tryd.prog.info? 237).map (·.zero) = some (some (.agg #[.int .i64 0, .slice none 0 0])) := by kernel_rfl
theorem pl237 : plOf Tryd.prog 237 = some [(0, 1), (1, 1)] := by kernel_rfl
theorem sz238 : (Tryd.prog.info? 238).map (·.size) = some 1 := by kernel_rfl
theorem by238 : (Tryd.prog.info? 238).map (·.bytes) = some 24 := by kernel_rfl
theorem ag238 : aggB Tryd.prog 238 = false := by kernel_rfl
theorem nu238 : notInt Tryd.prog 238 = true := by kernel_rfl
theorem zr238 : (Tryd.prog.info? 238).map (·.zero) = some (some (.slice none 0 0)) := by kernel_rfl
theorem sz240 : (Tryd.prog.info? 240).map (·.size) = some 1 := by kernel_rfl
theorem by240 : (Tryd.prog.info? 240).map (·.bytes) = some 4 := by kernel_rfl
theorem ag240 : aggB Tryd.prog 240 = false := by kernel_rfl
theorem zr240 : (Tryd.prog.info? 240).map (·.zero) = some (some (.int .i32 0)) := by kernel_rfl
theorem sz241 : (Tryd.prog.info? 241).map (·.size) = some 4 := by kernel_rfl
theorem by241 : (Tryd.prog.info? 241).map (·.bytes) = some 16 := by kernel_rfl
theorem ag241 : aggB Tryd.prog 241 = true := by kernel_rfl
theorem nu241 : notInt Tryd.prog 241 = true := by kernel_rfl
theorem zr241 : (Tryd.prog.info? 241).map (·.zero) = some (some (.agg #[.int .i32 0, .int .i32 0, .int .i32 0, .int .i32 0])) := by kernel_rfl
theorem pl241 : plOf Tryd.prog 241 = some [(0, 1), (1, 1), (2, 1), (3, 1)] := by kernel_rfl
theorem sz242 : (Tryd.prog.info? 242).map (·.size) = some 4 := by kernel_rfl
theorem by242 : (Tryd.prog.info? 242).map (·.bytes) = some 16 := by kernel_rfl
theorem ag242 : aggB Tryd.prog 242 = true := by kernel_rfl
theorem nu242 : notInt Tryd.prog 242 = true := by kernel_rfl
theorem zr242 : (Tryd.prog.info? 242).map (·.zero) = some (some (.agg #[.int .i32 0, .int .i32 0, .int .i32 0, .int .i32 0])) := by kernel_rfl
theorem pl242 : plOf Tryd.prog 242 = some [(0, 1), (1, 1), (2, 1), (3, 1)] := by kernel_rfl
end Am
end Go.Proofs.YtdfjiodkmhpfkaaDoor

/- The abstract walk, more small facts. -/
namespace Go.Proofs.YtdfjiodkmhpfkaaDoor
set_option linter.unusedVariables false
open Go.RowKit
namespace Am
theorem updF_one (f : Nat → CV) (off : Nat) (x : CV) (j : Nat) : updF f off [x] j = if j = off then x else f j := by
  rw [updF_get]
  by_cases h : j = off
  · subst h; rw [if_pos (by simp), if_pos rfl, Nat.sub_self]; rfl
  · rw [if_neg (by simp; omega), if_neg h]
section
variable {P : Program} {G : Gh} {ops : Array Oper} {o : Oper} {s : AS} {r : List Oper} {K : AS → Prop} {t u : TypeId} {x y : Operand} {env : List (Nat × CV)} {b0 : Nat → CV} {H : List (Option Nat × Res)}

/-- how long a slice that is handed in may be -/
theorem ac_len {gs : List Nat} {P : Program} {f : FuncId} {H : List (Option Nat × Res)} {args : List CV} {Q : CV → List (Option Nat × Res) → Prop} (j : Nat) {k n : Nat} {F : Nat → Nat → CV} (hj : fl args j = .rs k n F) (h : n ≤ 9223372036854775807 → AC gs P f H args Q) : AC gs P f H args Q := fun al w St F0 vals he hs hv => by
  have h1 := hv j
  rw [hj] at h1
  obtain ⟨ao, cap, _, h2, h3, _⟩ := id h1
  exact h (by omega) al w St F0 vals he hs hv
theorem CEnt.nilS' {n k : Nat} {f : Nat → Nat → CV} (h : n = 0) : CEnt (.c (.slice none 0 0)) (.rs k n f) := by subst h; exact CEnt.nilS k f
theorem fl_by {cs : List CV} {l2 : List UInt8} (h : EntL cs (l2.map fun c => .c (.int .u8 (c.toNat : Nat)))) : ∀ j, j < l2.length → CEnt (fl cs j) (byF l2 j) := fun j hj => by
  have := hh_bytes h j hj
  rwa [Nat.zero_add] at this
/-! ### slices against nil -/
theorem eqG_slice (op : BinOp) (t : TypeId) (x y : Operand) (a b : Option Addr) (n c n' c' : Nat) (W : World) : (eqGuard op t x y (.slice a n c) (.slice b n' c')).run P W = .ok () W := by
  unfold eqGuard
  split <;> simp
theorem run_slice_nil {e : TypeId} (ht : P.underlying t = some (.slice e)) (a : Option Addr) (n c : Nat) (W : World) : (Op.equal t (.slice a n c) (.slice none 0 0)).run P W = .ok a.isNone W := by
  show (Op.equalIn 10000 t (.slice a n c) (.slice none 0 0)).run P W = _
  rw [show (10000 : Nat) = 9999 + 1 from rfl, Op.equalIn]
  cases a <;> simp only [underlying, Sem.run_bind, run_program, Result.andThen_ok, ht, Sem.run_pure] <;> rfl
theorem exec_eqSnil {e : TypeId} (ho : o.op = .binOp .eql t x y u) {a : Act} {ao : Option Addr} {n c : Nat} (hx : a.eval x = .slice ao n c) (hy : a.eval y = .slice none 0 0) (ht : P.underlying t = some (.slice e)) (W : World) : (execOp a.eval o).run P W = .ok (.value (.bool ao.isNone)) W := by
  simp only [execOp, ho, hx, hy]
  refine vOk ?_
  simp [eqG_slice, binOp, run_slice_nil ht]
theorem rd_eqSC {e : TypeId} (ho : o.op = .binOp .eql t x y u) (hx : s.eval x = .c (.slice none 0 0)) (hy : s.eval y = .c (.slice none 0 0)) (ht : P.underlying t = some (.slice e)) : ARd P G o s (.c (.bool true)) := fun St a w h =>
  ⟨_, fun W _ => exec_eqSnil ho (evC h hx) (evC h hy) ht W, rfl⟩
theorem rd_eqSO {e : TypeId} {i off n k : Nat} {g : Option Nat} (ho : o.op = .binOp .eql t x y u) (hx : s.eval x = .os i g off n k) (hy : s.eval y = .c (.slice none 0 0)) (ht : P.underlying t = some (.slice e)) : ARd P G o s (.c (.bool g.isNone)) := fun St a w h => by
  have he := evR h hx
  cases g with
  | none => exact ⟨_, fun W _ => exec_eqSnil ho he.2 (evC h hy) ht W, rfl⟩
  | some b => obtain ⟨cap, e0, _⟩ := he; exact ⟨_, fun W _ => exec_eqSnil ho e0 (evC h hy) ht W, rfl⟩
/-- is it nil? both may be -/
theorem seq_eqNil {e : TypeId} {k n d : Nat} {f : Nat → Nat → CV} (hw : Wanted G ops o ⟨env, b0, H⟩ true) (ho : o.op = .binOp .eql t x y u) (hx : (⟨env, b0, H⟩ : AS).eval x = .rs k n f) (hy : (⟨env, b0, H⟩ : AS).eval y = .c (.slice none 0 0)) (ht : P.underlying t = some (.slice e)) (hd : o.dst = some d) (hN : Nat.blt d G.N = true)
    (h1 : n = 0 → ASeq P G ops r ⟨(d, .c (.bool true)) :: env, b0, H⟩ K) (h2 : ASeq P G ops r ⟨(d, .c (.bool false)) :: env, b0, H⟩ K) : ASeq P G ops (o :: r) ⟨env, b0, H⟩ K := fun a w ⟨St, hr⟩ Q hQ => by
  unfold wpSeq
  rw [if_pos (hw St a w hr)]
  obtain ⟨ao, cap, e0, h3, h4, h5, h6⟩ := evR hr hx
  refine .inl ?_
  unfold Oper.wp
  rw [exec_eqSnil ho e0 (evC hr hy) ht w]
  have put : ∀ b : Bool, RelSt G St ⟨(d, .c (.bool b)) :: env, b0, H⟩ (a.put o.dst (.bool b)) w := fun b => by
    have := hr.put (dst := o.dst) (v := .c (.bool b)) (x := .bool b) (dst_of (dst_s hd hN)) rfl
    rwa [hd] at this ⊢
  cases ao with
  | none => exact h1 (by have := h5 rfl; omega) _ _ ⟨St, put true⟩ Q hQ
  | some ad => exact h2 _ _ ⟨St, put false⟩ Q hQ

/-! ### own bytes from a literal, written no more -/
theorem thawBL (d : Nat) {i n N : Nat} {g : Option Nat} {cs : List CV} (l : List UInt8) (hl : look s.env s.b d = .os i g 0 n 1) (hH : s.H[i]? = some (g, .frz N (fl cs))) (hn : n = l.length) (hN : Nat.ble n N = true) (he : EntL cs (l.map fun c => .c (.int .u8 (c.toNat : Nat)))) :
    EntS G s ⟨(d, bsC l) :: s.env, s.b, s.H⟩ := by
  subst hn
  have hN := Nat.le_of_ble_eq_true hN
  exact thaw d (fun a _ => byF l a) hl hH (by omega) (fun a b ha hb => by
    have := hh_bytes he a ha
    rwa [show 0 + (a * 1 + b) = 0 + a by omega])
theorem thawIL (d : Nat) {i n N : Nat} {g : Option Nat} {F : Nat → CV} (l : List Int) (hl : look s.env s.b d = .os i g 0 n 1) (hH : s.H[i]? = some (g, .frz N F)) (hn : n = l.length) (hN : Nat.ble n N = true) (he : ∀ j, j < l.length → CEnt (F j) (inF l j)) :
    EntS G s ⟨(d, isC l) :: s.env, s.b, s.H⟩ := by
  subst hn
  have hN := Nat.le_of_ble_eq_true hN
  exact thaw d (fun a _ => inF l a) hl hH (by omega) (fun a b ha hb => by
    have := he a ha
    rwa [show 0 + (a * 1 + b) = a by omega])
/-- a byte as a wider number -/
def wide8 : IntKind → Bool | .i8 => false | _ => true
theorem wide8_wrap {k : IntKind} (h : wide8 k = true) {z : Int} (h0 : 0 ≤ z) (h1 : z < 256) : k.wrap z = z := by
  cases k <;> first | (simp [wide8] at h; done) | (refine wrap_id ?_; show _ ∧ _; omega)
theorem rd_conv8 {c : UInt8} {k' : IntKind} {d : TypeDesc} (ho : o.op = .convert t u x) (hx : s.eval x = .c (.int .u8 ((c.toNat : Nat) : Int))) (h1 : P.underlying t = some d) (h2 : P.underlying u = some (.int k')) (hk : wide8 k' = true) : ARd P G o s (.c (.int k' ((c.toNat : Nat) : Int))) :=
  rd_convI ho hx h1 h2 _ (wide8_wrap hk (by omega) (by have := c.toNat_lt; omega))
/-- make([]T, n, c) -/
theorem e_make {e : TypeId} {z : Value} {n c k by_ d : Nat} {kn kc : IntKind} {zn zc : Int} {F : Nat → CV} (ho : o.op = .makeSlice t x y) (hx : (⟨env, b0, H⟩ : AS).eval x = .c (.int kn zn)) (hy : (⟨env, b0, H⟩ : AS).eval y = .c (.int kc zc)) (hn : zn = (n : Int)) (hc : zc = (c : Int)) (hnc : n ≤ c) (h1 : P.underlying t = some (.slice e)) (h5 : (P.info? e).map (·.size) = some k) (hz : (P.info? e).map (·.zero) = some (some z)) (hby : (P.info? e).map (·.bytes) = some by_)
    (h48 : c * by_ ≤ 140737488355328) (h63 : c ≤ 9223372036854775807) (hF : ∀ j, j < n * k → CEnt (.c (z.cells[j % z.cells.size]!)) (F j)) (hd : o.dst = some d) (hN : Nat.blt d G.N = true)
    (hK : ∀ g, K ⟨(d, .os H.length g 0 n k) :: env, b0, H ++ [(g, .blk (n * k) F)]⟩) : AEx P G o ⟨env, b0, H⟩ K :=
  AEx.new (dst_s hd hN) (fun g => .os H.length g 0 n k) (fun St a w hr => by
    obtain ⟨info, hi, h6⟩ := Option.map_eq_some_iff.1 h5
    obtain ⟨info', hi', hz⟩ := Option.map_eq_some_iff.1 hz
    obtain rfl := Option.some.inj (hi.symm.trans hi')
    obtain ⟨info', hi', hby⟩ := Option.map_eq_some_iff.1 hby
    obtain rfl := Option.some.inj (hi.symm.trans hi')
    subst hn hc
    have hb' : (info.bytes : Int) * (c : Int) ≤ 281474976710656 := by
      have h : ((info.bytes * c : Nat) : Int) ≤ 281474976710656 := by rw [Nat.mul_comm, hby]; omega
      rwa [Int.natCast_mul] at h
    have hr' := run_make (P := P) w t e info z h1 hi hz kn kc n c (by omega) (by omega) hb' (by omega)
    simp only [Int.toNat_natCast] at hr'
    have hsz : (madeCells z.cells (c * info.size)).size = c * k := by rw [h6]; simp [madeCells]
    refine ⟨w.alloc (.cells (madeCells z.cells (c * info.size)) e), w.heap.size, _, e, .slice (some ⟨w.heap.size, 0, none⟩) n c, ?_, below_alloc w _, Nat.le_refl _, heap_alloc_new w _, ?_, fun j hj => ?_, c, rfl, hnc, h63, _, e, (0, 0), heap_alloc_new w _, ?_⟩
    · simp only [execOp, ho, evC hr hx, evC hr hy]
      exact vOk hr'
    · rw [hsz]; exact Nat.mul_le_mul_right _ hnc
    · refine hF j hj _ _ _ _ ?_
      have hj2 : j < c * k := Nat.lt_of_lt_of_le hj (Nat.mul_le_mul_right _ hnc)
      show _ = _
      rw [h6]
      simp [madeCells, hj2]
    · rw [hsz]; omega) (fun g => by rw [with_some hd]; exact hK g)
end
end Am
end Go.Proofs.YtdfjiodkmhpfkaaDoor

/- The abstract walk, more small facts: cap and pieces of a slice that is nil. -/
namespace Go.Proofs.YtdfjiodkmhpfkaaDoor
set_option linter.unusedVariables false
open Go.RowKit
namespace Am
section
variable {P : Program} {G : Gh} {ops : Array Oper} {o : Oper} {s : AS} {r : List Oper} {K : AS → Prop} {t u : TypeId} {x y : Operand} {env : List (Nat × CV)} {b0 : Nat → CV} {H : List (Option Nat × Res)}
theorem exec_cap {ats : Array TypeId} (ho : o.op = .call ⟨.builtin .cap, #[x], ats⟩) {a : Act} {v : Value} {w : World} (h : (Builtin.cap_ ats o.type #[a.eval x]).run P w = .ok v w) : (execOp a.eval o).run P w = .ok (.value v) w := by
  simp [execOp, ho, resolve, invoke, builtin, h]
theorem rd_capN {e : TypeId} (ho : o.op = .call ⟨.builtin .cap, #[x], #[t]⟩) (hx : s.eval x = .c (.slice none 0 0)) (h1 : P.underlying t = some (.slice e)) : ARd P G o s (.c (.int .i64 0)) := fun St a w h =>
  ⟨_, fun W _ => exec_cap ho (v := .int .i64 0) (by rw [evC h hx]; simp [Builtin.cap_, underlying, h1, goInt]), rfl⟩
theorem rd_sliceN {e : TypeId} {m l v : Nat} {lo hi : Option Operand} (ho : o.op = .slice t x lo hi none) (hx : s.eval x = .c (.slice none 0 0)) (h1 : P.underlying t = some (.slice e)) (h5 : (P.info? e).map (·.size) = some m)
    (hl : Bd s 0 lo l) (hu : Bd s 0 hi v) (hlv : l ≤ v) (hvn : v ≤ 0) : ARd P G o s (.c (.slice none 0 0)) := fun St a w h => by
  obtain ⟨info, hi', hs⟩ := Option.map_eq_some_iff.1 h5
  have hl0 : l = 0 := by omega
  have hv0 : v = 0 := by omega
  subst hl0 hv0
  refine ⟨.slice none 0 0, fun W _ => exec_slice ho ?_, rfl⟩
  rw [evC h hx]
  simp [Instr.sliceAt, Instr.slice, underlying, h1, run_bounds h hl hu hlv hvn (Nat.le_refl _), sizeOf, typeInfo, hi', hs]
theorem run_app_zero {e ty : TypeId} {info : TypeInfo} {z : Value} {n : Nat} {w : World} (h1 : P.underlying t = some (.slice e)) (hu : P.underlying u = some (.int .i64)) (hi : P.info? e = some info) (hz : info.zero = some z) (hk : 0 < info.size) (hn : 0 < n) (h63 : n ≤ 9223372036854775807) (h48 : n * info.bytes ≤ 140737488355328) :
    (Builtin.append_ #[t, u] ty #[.slice none 0 0, .int .i64 (n : Nat)]).run P w = .ok (.slice (some ⟨w.heap.size, 0, none⟩) n (grownCap w n 0 e)) (w.drew.alloc (.cells (#[] ++ Builtin.zeroCells z.cells n ++ Builtin.zeroCells z.cells (grownCap w n 0 e - n)) e)) := by
  have hw : IntKind.i64.wrap (n : Int) = (n : Int) := wrap_id (k := .i64) (by show _ ∧ _; omega)
  have hneg : ¬ ((n : Int) < 0) := by omega
  have hb : ¬ ((n : Int) * (info.bytes : Int) > 2 ^ 48) := by
    have h : ((n * info.bytes : Nat) : Int) ≤ 140737488355328 := by omega
    rw [Int.natCast_mul] at h; omega
  have hnot : ¬ (0 + n ≤ 0) := by omega
  have hfit := growslice_fits (need := n) (old := 0) (by omega) h48
  have h49 : ¬ (Builtin.nextslicecap n 0 * info.bytes > 2 ^ 48) := by omega
  have h64 : ¬ (((n : Nat) : Int) > IntKind.i64.max ∧ (true = true ∨ info.bytes = 0)) := by simp [IntKind.max, IntKind.bits, IntKind.signed]; omega
  have hch : (choose (.appendCap n 0 e)).run P w = .ok (grownCap w n 0 e) w.drew := by simp [Question.forced, grownCap]
  have hns : ¬ (n * info.size = 0) := by have := Nat.mul_pos hn hk; omega
  simp only [Builtin.append_, List.getElem?_toArray, List.getElem?_cons_zero, List.getElem?_cons_succ, underlying, Sem.run_bind, run_program, Result.andThen_ok, h1, hu, Sem.run_pure, sizeOf, typeInfo, hi, asInt, asIntOf, hw, if_neg hneg, if_neg hb, Int.toNat_natCast, Nat.zero_add, if_true, if_neg (show ¬ n ≤ 0 by omega), hz, zeroValue, if_neg h49, hch, run_askRoom, Builtin.firstCells, Bool.not_true, Bool.false_eq_true, if_false, if_neg hns, newRow, run_newObj, World.alloc_eq]
  rw [if_neg (by simp [IntKind.max, IntKind.bits, IntKind.signed]; omega)]
  simp only [Sem.run_bind, run_program, Result.andThen_ok, Sem.run_pure, hi, hz, if_neg h49, hch, run_askRoom, newRow, run_newObj, World.alloc_eq, World.size_drew]
/-- append(nil, make([]T, n)...) -/
theorem e_appZ {e : TypeId} {z : Value} {n k by_ d : Nat} {zn : Int} {F : Nat → CV} (ho : o.op = .call ⟨.builtin .append, #[x, y], #[t, u]⟩) (hx : (⟨env, b0, H⟩ : AS).eval x = .c (.slice none 0 0)) (hy : (⟨env, b0, H⟩ : AS).eval y = .c (.int .i64 zn)) (hn : zn = (n : Int)) (hn0 : 0 < n) (h1 : P.underlying t = some (.slice e)) (hu : P.underlying u = some (.int .i64)) (h5 : (P.info? e).map (·.size) = some k) (hk0 : 0 < k) (hz : (P.info? e).map (·.zero) = some (some z)) (hby : (P.info? e).map (·.bytes) = some by_)
    (h48 : n * by_ ≤ 140737488355328) (h63 : n ≤ 4611686018427387904) (hzk : z.cells.size = k) (hd : o.dst = some d) (hN : Nat.blt d G.N = true)
    (hK : ∀ g, K ⟨(d, .os H.length g 0 n k) :: env, b0, H ++ [(g, .blk 0 F)]⟩) : AEx P G o ⟨env, b0, H⟩ K :=
  AEx.new (dst_s hd hN) (fun g => .os H.length g 0 n k) (fun St a w hr => by
    obtain ⟨info, hi, h6⟩ := Option.map_eq_some_iff.1 h5
    obtain ⟨info', hi', hz⟩ := Option.map_eq_some_iff.1 hz
    obtain rfl := Option.some.inj (hi.symm.trans hi')
    obtain ⟨info', hi', hby⟩ := Option.map_eq_some_iff.1 hby
    obtain rfl := Option.some.inj (hi.symm.trans hi')
    subst hn
    have hrun := run_app_zero (P := P) (t := t) (u := u) (ty := o.type) (w := w) h1 hu hi hz (by omega) hn0 (by omega) (by rw [hby]; exact h48)
    have hgc : n ≤ grownCap w n 0 e ∧ grownCap w n 0 e ≤ 9223372036854775807 := by
      have hlt := Nat.mod_lt (w.tape w.drawn (.appendCap n 0 e)) (show 0 < 2 ^ 63 - n by omega)
      simp only [grownCap, Question.cut]
      omega
    have hsz : (#[] ++ Builtin.zeroCells z.cells n ++ Builtin.zeroCells z.cells (grownCap w n 0 e - n)).size = grownCap w n 0 e * k := by
      simp [Builtin.zeroCells, hzk]
      rw [← Nat.add_mul]
      congr 1
      omega
    have hargs : (#[x, y] : Array Operand).map a.eval = #[a.eval x, a.eval y] := by simp
    refine ⟨w.drew.alloc (.cells (#[] ++ Builtin.zeroCells z.cells n ++ Builtin.zeroCells z.cells (grownCap w n 0 e - n)) e), w.heap.size, _, e, .slice (some ⟨w.heap.size, 0, none⟩) n (grownCap w n 0 e), ?_, below_drewAlloc w _, Nat.le_refl _, heap_alloc_new w.drew _, Nat.zero_le _, fun j hj => absurd hj (Nat.not_lt_zero j), grownCap w n 0 e, rfl, hgc.1, hgc.2, _, e, (0, 0), heap_alloc_new w.drew _, ?_⟩
    · exact exec_append ho (by rw [hargs, evC hr hx, evC hr hy]; exact hrun)
    · rw [hsz]; omega) (fun g => by rw [with_some hd]; exact hK g)
end
theorem CEnt.nilE {n : Nat} (h : n = 0) : CEnt (.c .nilIface) (.err n) := by subst h; exact CEnt.nil
/-- own bytes, from cells that are themselves slices of bytes: read as a list of lists -/
def lbC (ls : List (List UInt8)) : CV := .rs 1 ls.length fun i _ => bsC (ls.getD i [])
theorem thawLB {G : Gh} {s : AS} (d : Nat) {i n N : Nat} {g : Option Nat} {cs : List CV} (ls : List (List UInt8)) (hl : look s.env s.b d = .os i g 0 n 1) (hH : s.H[i]? = some (g, .frz N (fl cs))) (hn : n = ls.length) (hN : Nat.ble n N = true) (he : EntL cs (ls.map bsC)) :
    EntS G s ⟨(d, lbC ls) :: s.env, s.b, s.H⟩ := by
  subst hn
  have hN := Nat.le_of_ble_eq_true hN
  exact thaw d (fun a _ => bsC (ls.getD a [])) hl hH (by omega) (fun a b ha hb => by
    have := (entl_at he).2 a
    rw [fl_at (cs := ls.map bsC) (by simpa using ha)] at this
    obtain rfl : b = 0 := by omega
    rw [show 0 + (a * 1 + 0) = a by omega]
    simpa [List.getD, ha] using this)
/-- the sum of the lengths -/
def sumL (ls : List (List UInt8)) : Nat := (ls.map List.length).sum
theorem sumL_app (a b : List (List UInt8)) : sumL (a ++ b) = sumL a + sumL b := by simp only [sumL, List.map_append, List.sum_append]
theorem sumL_take {ls : List (List UInt8)} {i : Nat} (h : i < ls.length) : sumL (ls.take (i + 1)) = sumL (ls.take i) + (ls.getD i []).length := by
  rw [List.take_succ_eq_append_getElem h, sumL_app]
  simp only [sumL, List.map_cons, List.map_nil, List.sum_cons, List.sum_nil, List.getD, List.getElem?_eq_getElem h, Option.getD_some, Nat.add_zero]
theorem sumL_le (ls : List (List UInt8)) (i : Nat) : sumL (ls.take i) ≤ sumL ls := by
  have h := sumL_app (ls.take i) (ls.drop i)
  rw [List.take_append_drop] at h
  omega
theorem flat_take {ls : List (List UInt8)} {i : Nat} (h : i < ls.length) : (ls.take (i + 1)).flatten = (ls.take i).flatten ++ ls.getD i [] := by
  rw [List.take_succ_eq_append_getElem h, List.flatten_append, List.flatten_singleton]
  simp only [List.getD, List.getElem?_eq_getElem h, Option.getD_some]
theorem flat_len (ls : List (List UInt8)) : ls.flatten.length = sumL ls := by simp [sumL, List.length_flatten]
end Am
end Go.Proofs.YtdfjiodkmhpfkaaDoor

/- The abstract walk: things of several blocks, as one: opened and closed. -/
namespace Go.Proofs.YtdfjiodkmhpfkaaDoor
set_option linter.unusedVariables false
open Go.RowKit
namespace Am
/-- blocks with a footprint -/
structure Foot (al : List Addr) (St : Nat → Prop) (w : World) (F : Nat → Prop) (E : List (Option Nat × Res)) (fp : Nat → Nat → Prop) : Prop where
  rep : ∀ (i : Nat) (g : Option Nat) (r : Res), E[i]? = some (g, r) → r.rep al St w (fp i) g
  dis : ∀ i j b, fp i b → fp j b → i = j
  out : ∀ i, E.length ≤ i → ∀ b, ¬ fp i b
  all : ∀ b, F b ↔ ∃ i, fp i b
/-- a thing whose blocks are E x, for some x; the first of them is its own -/
def packOP {γ : Type} (gd : γ → Nat) (E : γ → List (Option Nat × Res)) : OP where
  p al St w g F := ∃ x, gd x = g ∧ ∃ fp, Foot al St w F (E x) fp
  st := fun he hs hF ⟨x, hx, fp, h⟩ => ⟨x, hx, fp, fun i g r hi => Res.rep_evo he hs (fun b hb => hF b ((h.all b).2 ⟨i, hb⟩)) (h.rep i g r hi), h.dis, h.out, h.all⟩
def objE {γ : Type} (g : Nat) (gd : γ → Nat) (E : γ → List (Option Nat × Res)) : Option Nat × Res := (some g, .obj (packOP gd E))

theorem HRel.pack {al : List Addr} {St : Nat → Prop} {w : World} {base : Nat} {F0 : Nat → Prop} {γ : Type} {gd : γ → Nat} {E : γ → List (Option Nat × Res)} (x : γ) {B : List (Option Nat × Res)} (h : HRel al St w base F0 (E x ++ B)) : HRel al St w base F0 (objE (gd x) gd E :: B) := by
  obtain ⟨fp, hp⟩ := h
  refine ⟨fun j b => match j with | 0 => ∃ i, i < (E x).length ∧ fp i b | j + 1 => fp ((E x).length + j) b, fun j g r hj => ?_, fun i j b hi hj => ?_, fun i b hi => ?_, fun i hi b hb => ?_⟩
  · cases j with
    | zero =>
      simp only [objE, List.getElem?_cons_zero, Option.some.injEq, Prod.mk.injEq] at hj
      obtain ⟨rfl, rfl⟩ := hj
      refine ⟨x, rfl, fun i b => i < (E x).length ∧ fp i b, fun i g r hi => ?_, fun i j b hi hj => hp.dis i j b hi.2 hj.2, fun i hi b hb => by omega, fun b => Iff.rfl⟩
      have hlt := (List.getElem?_eq_some_iff.1 hi).1
      have e : (fun b => i < (E x).length ∧ fp i b) = fp i := funext fun b => propext ⟨fun h => h.2, fun h => ⟨hlt, h⟩⟩
      show r.rep al St w (fun b => i < (E x).length ∧ fp i b) g
      rw [e]
      exact hp.rep i g r (by rw [List.getElem?_append_left hlt]; exact hi)
    | succ j =>
      simp only [List.getElem?_cons_succ] at hj
      exact hp.rep _ g r (by rw [List.getElem?_append_right (by omega), Nat.add_sub_cancel_left]; exact hj)
  · cases i with
    | zero =>
      cases j with
      | zero => rfl
      | succ j => obtain ⟨k, hk, hf⟩ := hi; have := hp.dis _ _ b hf hj; omega
    | succ i =>
      cases j with
      | zero => obtain ⟨k, hk, hf⟩ := hj; have := hp.dis _ _ b hf hi; omega
      | succ j => have := hp.dis _ _ b hi hj; omega
  · cases i with
    | zero => obtain ⟨k, hk, hf⟩ := hi; exact hp.own _ b hf
    | succ i => exact hp.own _ b hi
  · cases i with
    | zero => simp at hi
    | succ i => exact hp.out _ (by simp at hi ⊢; omega) b hb
/-- the thing at place i is opened: its first block stays there, the others come behind all -/
theorem HRel.unpack {al : List Addr} {St : Nat → Prop} {w : World} {base : Nat} {F0 : Nat → Prop} {γ : Type} {gd : γ → Nat} {e0 : γ → Option Nat × Res} {tl : γ → List (Option Nat × Res)} {H : List (Option Nat × Res)} {i g : Nat} (hH : H[i]? = some (objE g gd fun x => e0 x :: tl x)) (h : HRel al St w base F0 H) :
    ∃ x, gd x = g ∧ HRel al St w base F0 (H.set i (e0 x) ++ tl x) := by
  obtain ⟨fp, hp⟩ := h
  have hlt := (List.getElem?_eq_some_iff.1 hH).1
  obtain ⟨x, hx, fe, he⟩ := hp.rep i _ _ hH
  refine ⟨x, hx, fun j b => if j < H.length then (if j = i then fe 0 b else fp j b) else fe (j - H.length + 1) b, fun j q r hj => ?_, fun j k b hj hk => ?_, fun j b hj => ?_, fun j hj b hb => ?_⟩
  · by_cases h1 : j < H.length
    · rw [List.getElem?_append_left (by simpa using h1)] at hj
      by_cases h2 : j = i
      · subst h2
        simp [h1] at hj
        simp only [h1, if_true]
        exact he.rep 0 q r (by simp [hj])
      · rw [List.getElem?_set_ne (Ne.symm h2)] at hj
        simp only [h1, h2, if_true, if_false]
        exact hp.rep j q r hj
    · rw [List.getElem?_append_right (by simp; omega)] at hj
      simp only [h1, if_false]
      refine he.rep (j - H.length + 1) q r ?_
      simpa using hj
  · have inF : ∀ q b, fe q b → fp i b := fun q b hq => (he.all b).2 ⟨q, hq⟩
    by_cases h1 : j < H.length <;> by_cases h2 : k < H.length <;> simp only [h1, h2, if_true, if_false] at hj hk
    · by_cases h3 : j = i <;> by_cases h4 : k = i <;> simp only [h3, h4, if_true, if_false] at hj hk
      · omega
      · exact absurd (hp.dis _ _ b (inF _ _ hj) hk).symm h4
      · exact absurd (hp.dis _ _ b hj (inF _ _ hk)) h3
      · exact hp.dis _ _ b hj hk
    · by_cases h3 : j = i <;> simp only [h3, if_true, if_false] at hj
      · have := he.dis _ _ b hj hk; omega
      · exact absurd (hp.dis _ _ b hj (inF _ _ hk)) h3
    · by_cases h4 : k = i <;> simp only [h4, if_true, if_false] at hk
      · have := he.dis _ _ b hj hk; omega
      · exact absurd (hp.dis _ _ b hk (inF _ _ hj)) h4
    · have := he.dis _ _ b hj hk; omega
  · have inF : ∀ q b, fe q b → fp i b := fun q b hq => (he.all b).2 ⟨q, hq⟩
    by_cases h1 : j < H.length <;> simp only [h1, if_true, if_false] at hj
    · by_cases h3 : j = i <;> simp only [h3, if_true, if_false] at hj
      · exact hp.own i b (inF _ _ hj)
      · exact hp.own j b hj
    · exact hp.own i b (inF _ _ hj)
  · have h1 : ¬ j < H.length := by simp at hj; omega
    simp only [h1, if_false] at hb
    exact he.out _ (by simp at hj ⊢; omega) b hb
theorem map_erase {α β : Type} (f : α → β) : ∀ (l : List α) (i : Nat), (l.eraseIdx i).map f = (l.map f).eraseIdx i
  | [], _ => rfl
  | _ :: _, 0 => rfl
  | a :: l, i + 1 => congrArg (f a :: ·) (map_erase f l i)
/-- one of the blocks is forgotten -/
theorem HRel.erase {al : List Addr} {St : Nat → Prop} {w : World} {base : Nat} {F0 : Nat → Prop} {H : List (Option Nat × Res)} (h : HRel al St w base F0 H) (i : Nat) : HRel al St w base F0 (H.eraseIdx i) := by
  refine h.pick ((List.range H.length).eraseIdx i) (List.Nodup.sublist (List.eraseIdx_sublist _ _) (range_nodup _)) ?_
  show List.map _ _ = _
  rw [map_erase]
  exact congrArg (fun l => List.eraseIdx l i) ((pickL_range H H.length (Nat.le_refl _)).trans (List.take_length))

section
variable {P : Program} {G : Gh} {ops : Array Oper} {s : AS} {K : AS → Prop} {c : Code} {R : Exit → AS → Prop} {γ : Type} {gd : γ → Nat} {e0 : γ → Option Nat × Res} {tl : γ → List (Option Nat × Res)}
theorem EntS.hrel {H' : List (Option Nat × Res)} (h : ∀ {al St w base F0}, HRel al St w base F0 s.H → HRel al St w base F0 H') : EntS G s ⟨s.env, s.b, H'⟩ := fun St _ _ hr =>
  ⟨St, fun _ h => h, hr.df, hr.sz, hr.env, hr.un, hr.s1, hr.s2, hr.s3, h hr.hp, hr.sn, hr.sg⟩
/-- all blocks are a thing's -/
theorem pack_ent {E : γ → List (Option Nat × Res)} (x : γ) {B : List (Option Nat × Res)} (l : List Nat) (hl : l.Nodup) (hH : pickL s.H l = E x ++ B) : EntS G s ⟨s.env, s.b, objE (gd x) gd E :: B⟩ := EntS.hrel fun h => (h.pick l hl hH).pack x
theorem packAll_ent {E : γ → List (Option Nat × Res)} (x : γ) (hH : s.H = E x) : EntS G s ⟨s.env, s.b, [objE (gd x) gd E]⟩ := EntS.hrel fun h => HRel.pack x (by rw [List.append_nil, ← hH]; exact h)
theorem erase_ent (i : Nat) : EntS G s ⟨s.env, s.b, s.H.eraseIdx i⟩ := EntS.hrel fun h => h.erase i
theorem pick_ent {H' : List (Option Nat × Res)} (l : List Nat) (hl : l.Nodup) (hH : pickL s.H l = H') : EntS G s ⟨s.env, s.b, H'⟩ := EntS.hrel fun h => h.pick l hl hH
theorem unpackRelSt {i g : Nat} (hH : s.H[i]? = some (objE g gd fun x => e0 x :: tl x)) {St : Nat → Prop} {a : Act} {w : World} (hr : RelSt G St s a w) : ∃ x, gd x = g ∧ RelSt G St ⟨s.env, s.b, s.H.set i (e0 x) ++ tl x⟩ a w := by
  obtain ⟨x, hx, h2⟩ := hr.hp.unpack hH
  exact ⟨x, hx, hr.df, hr.sz, hr.env, hr.un, hr.s1, hr.s2, hr.s3, h2, hr.sn, hr.sg⟩
theorem unpackRel {i g : Nat} (hH : s.H[i]? = some (objE g gd fun x => e0 x :: tl x)) {a : Act} {w : World} (h : Rel G s a w) : ∃ x, gd x = g ∧ Rel G ⟨s.env, s.b, s.H.set i (e0 x) ++ tl x⟩ a w := by
  obtain ⟨St, hr⟩ := h
  obtain ⟨x, hx, h2⟩ := unpackRelSt hH hr
  exact ⟨x, hx, St, h2⟩
theorem z_unpack (i : Nat) {g : Nat} {tr : OrdO} (hH : s.H[i]? = some (objE g gd fun x => e0 x :: tl x)) (h : ∀ x, gd x = g → AZ P G ops tr ⟨s.env, s.b, s.H.set i (e0 x) ++ tl x⟩ K) : AZ P G ops tr s K := fun St a w hr Q hQ => by
  obtain ⟨x, hx, h2⟩ := unpackRelSt hH hr
  exact h x hx St a w h2 Q hQ
theorem code_unpack (i : Nat) {g : Nat} (hH : s.H[i]? = some (objE g gd fun x => e0 x :: tl x)) (h : ∀ x, gd x = g → ACode P G c ⟨s.env, s.b, s.H.set i (e0 x) ++ tl x⟩ R) : ACode P G c s R := fun a w hr Q hQ => by
  obtain ⟨x, hx, h2⟩ := unpackRel hH hr
  exact h x hx a w h2 Q hQ
theorem seq_unpack (i : Nat) {g : Nat} {r : List Oper} (hH : s.H[i]? = some (objE g gd fun x => e0 x :: tl x)) (h : ∀ x, gd x = g → ASeq P G ops r ⟨s.env, s.b, s.H.set i (e0 x) ++ tl x⟩ K) : ASeq P G ops r s K := fun a w hr Q hQ => by
  obtain ⟨x, hx, h2⟩ := unpackRel hH hr
  exact h x hx a w h2 Q hQ
end
end Am
end Go.Proofs.YtdfjiodkmhpfkaaDoor

/- The abstract walk: the runes of a text, one by one. -/
namespace Go.Proofs.YtdfjiodkmhpfkaaDoor
set_option linter.unusedVariables false
open Go.RowKit
namespace Am
/-- an iterator over a text -/
def iterOP (l : ByteArray) (pos : Nat) : OP where
  p al St w g F := (∀ b, F b ↔ b = g) ∧ w.heap[g]? = some (.stringIter l pos)
  st := fun he hs hF ⟨h1, h2⟩ => ⟨h1, (hF _ ((h1 _).2 rfl)).trans h2⟩
section
variable {P : Program} {G : Gh} {ops : Array Oper} {o : Oper} {s : AS} {r : List Oper} {K : AS → Prop} {t u : TypeId} {x y : Operand} {env : List (Nat × CV)} {b0 : Nat → CV} {H : List (Option Nat × Res)}
theorem under_below {w w' : World} (h : Below w.heap.size w w') : Under (fun _ => False) w w' := (Under.refl _ w).then h
theorem RelSt.freshObj {St : Nat → Prop} {a : Act} {w w' : World} {g : Nat} {p : OP} (h : RelSt G St s a w) (hb : Below w.heap.size w w') (h1 : w.heap.size ≤ g) (h2 : g < w'.heap.size) (hp : p.p G.al St w' g (fun b => b = g)) : RelSt G St ⟨s.env, s.b, s.H ++ [(some g, .obj p)]⟩ a w' := by
  refine h.after (under_below hb) (fun _ h => h) (fun b h => .inl h) (fun b hs => Nat.lt_of_lt_of_le (h.s3 b hs) hb.size) ⟨fun i b => i = 0 ∧ b = g, fun i q r hi => ?_, fun i j b hi hj => by omega, fun i b hi => ?_, fun i hi b hb => by simp at hi; omega⟩
  · match i, hi with
    | 0, hi =>
      simp at hi
      obtain ⟨rfl, rfl⟩ := hi
      have e : (fun b => (0 : Nat) = 0 ∧ b = g) = fun b => b = g := funext fun b => by simp
      show p.p G.al St w' g (fun b => (0 : Nat) = 0 ∧ b = g)
      rw [e]
      exact hp
    | i + 1, hi => simp at hi
  · obtain ⟨_, rfl⟩ := hi
    exact ⟨h2, fun hs => by have := h.s3 _ hs; omega, .inl h1⟩
/-- a block that is no row turns -/
theorem RelSt.turnObj {St : Nat → Prop} {a : Act} {w w' : World} {i g : Nat} {p p' : OP} (h : RelSt G St s a w) (hH : s.H[i]? = some (some g, .obj p)) (hF : ∀ F, p.p G.al St w g F → (∀ b, F b ↔ b = g)) (hno : ∀ cur t z, w.heap[g]? ≠ some (.cells cur t z))
    (ho : w'.os = w.os) (ht : w'.tape = w.tape) (hout : w'.output = w.output) (hsz : w'.heap.size = w.heap.size) (hold : ∀ b, b ≠ g → w'.heap[b]? = w.heap[b]?) (hp' : p'.p G.al St w' g (fun b => b = g)) : RelSt G St ⟨s.env, s.b, s.H.set i (some g, .obj p')⟩ a w' := by
  obtain ⟨fp, hp⟩ := h.hp
  have hlt : i < s.H.length := (List.getElem?_eq_some_iff.1 hH).1
  have hrep : p.p G.al St w g (fp i) := hp.rep i (some g) _ hH
  have hfi := hF _ hrep
  have hg : fp i g := (hfi g).2 rfl
  obtain ⟨hg1, hg2, hg3⟩ := hp.own i g hg
  have he : Evo St w w' := ⟨fun b cu ct cz hb hcu => (hold b (fun e => hg2 (e ▸ hb))).trans hcu, fun b cu t z hb => ⟨cu, z, (hold b (fun e => hno cu t z (e ▸ hb))).trans hb, rfl⟩⟩
  refine ⟨h.df.keep (fun _ h => h) (fun b hb => hold b (fun e => hg2 (e ▸ hb))), h.sz, fun d => RepC.evo he (fun _ x => x) _ _ (h.env d), ⟨ho.trans h.un.os, ht.trans h.un.tape, hout.trans h.un.output, by rw [hsz]; exact h.un.size, fun k hk hFk => ?_, fun b cu t z hb => ?_⟩, h.s1, h.s2, fun b hb => by rw [hsz]; exact h.s3 b hb, ?_, ?_, h.sg⟩
  · refine (hold k (fun e => ?_)).trans (h.un.block k hk hFk)
    subst e
    rcases hg3 with h1 | h1
    · omega
    · exact hFk h1
  · obtain ⟨cur', z', h1, h2⟩ := h.un.sh b cu t z hb
    obtain ⟨cur2, z2, h3, h4⟩ := he.sh b cur' t z' h1
    exact ⟨cur2, z2, h3, h4.trans h2⟩
  · refine ⟨fp, fun j q r hj => ?_, hp.dis, fun j b hb => by rw [hsz]; exact hp.own j b hb, fun j hj => hp.out j (by simpa using hj)⟩
    by_cases e : j = i
    · subst e
      simp [hlt] at hj
      obtain ⟨rfl, rfl⟩ := hj
      have e2 : fp j = fun b => b = g := funext fun b => propext (hfi b)
      show p'.p G.al St w' g (fp j)
      rw [e2]
      exact hp'
    · rw [List.getElem?_set_ne (Ne.symm e)] at hj
      exact Res.rep_evo he (fun _ x => x) (fun b hFb => hold b (fun e2 => e (hp.dis j i b hFb (e2 ▸ hg)))) (hp.rep j q r hj)
  · exact SentL.keep h.sn (fun q hq => hold q (fun e => hg2 (e ▸ h.sg.1 q hq))) (fun q hq => hold _ (fun e => hg2 (e ▸ h.sg.2 q hq)))

/-- range over a text -/
theorem e_range {l : ByteArray} {d : Nat} (ho : o.op = .range t x) (hx : (⟨env, b0, H⟩ : AS).eval x = .c (.string l)) (h1 : P.underlying t = some .string) (hd : o.dst = some d) (hN : Nat.blt d G.N = true)
    (hK : ∀ g, K ⟨(d, .op H.length (some g) 0) :: env, b0, H ++ [(some g, .obj (iterOP l 0))]⟩) : AEx P G o ⟨env, b0, H⟩ K := fun St a w hr Q => by
  have hrun : (execOp a.eval o).run P w = .ok (.value (.pointer (some ⟨w.heap.size, 0, none⟩))) (w.iter l 0) := by
    simp only [execOp, ho, evC hr hx]
    exact vOk (run_range_string w t l h1)
  unfold Oper.wp
  rw [hrun]
  have hb : Below w.heap.size w (w.iter l 0) := below_alloc w _
  refine ⟨hb, St, fun _ h => h, _, hK w.heap.size, ?_⟩
  have h2 := hr.freshObj (g := w.heap.size) (p := iterOP l 0) hb (Nat.le_refl _) (by show _ < (w.heap.push _).size; simp) ⟨fun b => Iff.rfl, World.iter_heap w l 0⟩
  have := h2.put (dst := o.dst) (v := .op H.length (some w.heap.size) 0) (x := .pointer (some ⟨w.heap.size, 0, none⟩)) (by intro d' hd'; rw [hd] at hd'; cases hd'; exact Nat.le_of_ble_eq_true hN) ⟨_, rfl, rfl⟩
  rw [hd] at this ⊢
  exact this
theorem run_next_any {l : ByteArray} {pos g : Nat} {w : World} (ty : TypeId) (hg : w.heap[g]? = some (.stringIter l pos)) (h : pos < l.size) :
    (Instr.next (.pointer (some ⟨g, 0, none⟩)) true ty).run P w = .ok (.tuple #[.bool true, .int .i64 pos, .int .i32 (Utf8.decode l pos).1]) { w with heap := w.heap.setIfInBounds g (.stringIter l (pos + (Utf8.decode l pos).2)) } := by
  simp [Instr.next, getObj, setObj, Sem.run, hg, h, goInt]
theorem run_next_over {l : ByteArray} {pos g : Nat} {w : World} (ty : TypeId) (hg : w.heap[g]? = some (.stringIter l pos)) (h : ¬ pos < l.size) :
    (Instr.next (.pointer (some ⟨g, 0, none⟩)) true ty).run P w = .ok (.tuple #[.bool false]) w := by
  simp [Instr.next, getObj, Sem.run, hg, h]
/-- the next rune, if there is one -/
theorem m_next {l : ByteArray} {pos i g d : Nat} (ho : o.op = .next x true) (hx : (⟨env, b0, H⟩ : AS).eval x = .op i (some g) 0) (hH : H[i]? = some (some g, .obj (iterOP l pos))) (hd : o.dst = some d) (hN : Nat.blt d G.N = true)
    (h1 : pos < l.size → K ⟨(d, .tup 3 (fl [.c (.bool true), .c (.int .i64 (pos : Nat)), .c (.int .i32 ((Utf8.decode l pos).1 : Nat))])) :: env, b0, H.set i (some g, .obj (iterOP l (pos + (Utf8.decode l pos).2)))⟩)
    (h2 : ¬ pos < l.size → K ⟨(d, .tup 1 (fl [.c (.bool false)])) :: env, b0, H⟩) : AMd P G o ⟨env, b0, H⟩ K := fun St a w hr Q => by
  obtain ⟨b, hb, e0⟩ := evR hr hx
  cases hb
  obtain ⟨fp, hp⟩ := id hr.hp
  obtain ⟨hF, hg⟩ := hp.rep i _ _ hH
  have dlt : ∀ d', o.dst = some d' → d' < G.N := by intro d' hd'; rw [hd] at hd'; cases hd'; exact Nat.le_of_ble_eq_true hN
  by_cases h : pos < l.size
  · have hrun : (execOp a.eval o).run P w = .ok (.value (.tuple #[.bool true, .int .i64 pos, .int .i32 (Utf8.decode l pos).1])) { w with heap := w.heap.setIfInBounds g (.stringIter l (pos + (Utf8.decode l pos).2)) } := by
      simp only [execOp, ho, e0]
      exact vOk (run_next_any _ hg h)
    unfold Oper.wp
    rw [hrun]
    refine ⟨fun b hb => ?_, St, fun _ h => h, _, h1 h, ?_⟩
    · have hne : b ≠ g := fun e => (hp.own i g ((hF g).2 rfl)).2.1 (e ▸ hb)
      simp [Array.getElem?_setIfInBounds_ne (Ne.symm hne)]
    have hlt : g < w.heap.size := (Array.getElem?_eq_some_iff.1 hg).1
    have h3 := hr.turnObj (p := iterOP l pos) (p' := iterOP l (pos + (Utf8.decode l pos).2)) (w' := { w with heap := w.heap.setIfInBounds g (.stringIter l (pos + (Utf8.decode l pos).2)) }) hH (fun F h => h.1) (fun cur t z he => by rw [hg] at he; cases he) rfl rfl rfl (by simp) (fun b hb => by simp [Array.getElem?_setIfInBounds_ne (Ne.symm hb)]) ⟨fun b => Iff.rfl, by simp [hlt]⟩
    have := h3.put (dst := o.dst) (v := .tup 3 (fl [.c (.bool true), .c (.int .i64 (pos : Nat)), .c (.int .i32 ((Utf8.decode l pos).1 : Nat))])) (x := .tuple #[.bool true, .int .i64 pos, .int .i32 (Utf8.decode l pos).1]) dlt ⟨_, rfl, rfl, fun j hj => match j, hj with | 0, _ => rfl | 1, _ => rfl | 2, _ => rfl⟩
    rw [hd] at this ⊢
    exact this
  · have hrun : (execOp a.eval o).run P w = .ok (.value (.tuple #[.bool false])) w := by
      simp only [execOp, ho, e0]
      exact vOk (run_next_over _ hg h)
    unfold Oper.wp
    rw [hrun]
    refine ⟨KeepS.refl _ _, St, fun _ h => h, _, h2 h, ?_⟩
    have := hr.put (dst := o.dst) (v := .tup 1 (fl [.c (.bool false)])) (x := .tuple #[.bool false]) dlt ⟨_, rfl, rfl, fun j hj => match j, hj with | 0, _ => rfl⟩
    rw [hd] at this ⊢
    exact this
end
end Am
end Go.Proofs.YtdfjiodkmhpfkaaDoor

/- The abstract walk: texts as lists of bytes. -/
namespace Go.Proofs.YtdfjiodkmhpfkaaDoor
set_option linter.unusedVariables false
open Go.RowKit
namespace Am
/-- a text whose bytes are l -/
def strC (l : List UInt8) : CV := .c (.string ⟨l.toArray⟩)
theorem ba_inj {a b : List UInt8} : ((⟨a.toArray⟩ : ByteArray) = ⟨b.toArray⟩) ↔ a = b := by
  constructor
  · intro h
    have := congrArg (fun x : ByteArray => x.data.toList) h
    simpa using this
  · rintro rfl; rfl
theorem ba_list (s : ByteArray) : ∃ l : List UInt8, s = ⟨l.toArray⟩ := ⟨s.data.toList, by cases s; simp⟩
theorem ba_toList (a : List UInt8) : (⟨a.toArray⟩ : ByteArray).toList = a := by rw [Go.ByteArray.toList_eq]
theorem ba_app (l r : List UInt8) : (⟨l.toArray⟩ ++ ⟨r.toArray⟩ : ByteArray) = ⟨(l ++ r).toArray⟩ := by
  apply ByteArray.ext
  simp
theorem ba_ext (l : List UInt8) (i j : Nat) : (⟨l.toArray⟩ : ByteArray).extract i j = ⟨((l.take j).drop i).toArray⟩ := by
  apply ByteArray.ext
  simp [List.drop_take]
section
variable {P : Program} {G : Gh} {ops : Array Oper} {o : Oper} {s : AS} {r : List Oper} {K : AS → Prop} {t u : TypeId} {x y : Operand} {env : List (Nat × CV)} {b0 : Nat → CV} {H : List (Option Nat × Res)} {k : IntKind} {a b : List UInt8}
theorem rd_eqL (ho : o.op = .binOp .eql t x y u) (hx : s.eval x = strC a) (hy : s.eval y = strC b) : ARd P G o s (.c (.bool (decide (a = b)))) := by
  have := rd_eqS (P := P) (G := G) ho hx hy
  rwa [show decide ((⟨a.toArray⟩ : ByteArray) = ⟨b.toArray⟩) = decide (a = b) from decide_eq_decide.2 ba_inj] at this
theorem rd_neL (ho : o.op = .binOp .neq t x y u) (hx : s.eval x = strC a) (hy : s.eval y = strC b) : ARd P G o s (.c (.bool (decide (a ≠ b)))) := by
  have := rd_neS (P := P) (G := G) ho hx hy
  rwa [show decide ((⟨a.toArray⟩ : ByteArray) ≠ ⟨b.toArray⟩) = decide (a ≠ b) from decide_eq_decide.2 (not_congr ba_inj)] at this
theorem rd_ltL (ho : o.op = .binOp .lss t x y u) (hx : s.eval x = strC a) (hy : s.eval y = strC b) : ARd P G o s (.c (.bool (Op.bytesLess a b))) := by
  have := rd_ltS (P := P) (G := G) ho hx hy
  rwa [ba_toList, ba_toList] at this
theorem rd_gtL (ho : o.op = .binOp .gtr t x y u) (hx : s.eval x = strC a) (hy : s.eval y = strC b) : ARd P G o s (.c (.bool (!(Op.bytesLess a b || a == b)))) := by
  have := rd_gtS (P := P) (G := G) ho hx hy
  rwa [ba_toList, ba_toList] at this
theorem rd_addL (ho : o.op = .binOp .add t x y u) (hx : s.eval x = strC a) (hy : s.eval y = strC b) (hl : a.length + b.length ≤ 9223372036854775807) : ARd P G o s (strC (a ++ b)) := by
  have := rd_addS (P := P) (G := G) ho hx hy hl
  rwa [ba_app] at this
theorem rd_indexL {i : Nat} {z : Int} (ho : o.op = .index t x y) (hx : s.eval x = strC a) (hy : s.eval y = .c (.int k z)) (h1 : P.underlying t = some .string) (hz : z = (i : Int)) (hi : i < a.length) : ARd P G o s (byF a i) :=
  rd_indexS (l := ⟨a.toArray⟩) ho hx hy h1 hz hi
theorem rd_lenL (ho : o.op = .call ⟨.builtin .len, #[x], #[t]⟩) (hx : s.eval x = strC a) (h1 : P.underlying t = some .string) : ARd P G o s (.c (.int .i64 (a.length : Nat))) := rd_lenS ho hx h1
theorem rd_sliceL {l v : Nat} {lo hi : Option Operand} (ho : o.op = .slice t x lo hi none) (hx : s.eval x = strC a) (h1 : P.underlying t = some .string)
    (hl : Bd s 0 lo l) (hu : Bd s a.length hi v) (hlv : l ≤ v) (hvn : v ≤ a.length) : ARd P G o s (strC ((a.take v).drop l)) := by
  have := rd_sliceS (P := P) (G := G) (b := ⟨a.toArray⟩) ho hx h1 hl hu hlv hvn
  rwa [ba_ext] at this
theorem rd_sliceLF {l : Nat} {lo : Operand} {z : Int} (ho : o.op = .slice t x (some lo) none none) (hx : s.eval x = strC a) (h1 : P.underlying t = some .string) (hl : s.eval lo = .c (.int .i64 z)) (hz : z = (l : Int)) (hvn : l ≤ a.length) : ARd P G o s (strC (a.drop l)) := by
  have := rd_sliceL (P := P) (G := G) ho hx h1 (bd_some hl hz) (bd_none _ _) hvn (Nat.le_refl _)
  rwa [List.take_length] at this
theorem rd_sliceLT {v : Nat} {hi : Operand} {z : Int} (ho : o.op = .slice t x none (some hi) none) (hx : s.eval x = strC a) (h1 : P.underlying t = some .string) (hl : s.eval hi = .c (.int .i64 z)) (hz : z = (v : Int)) (hvn : v ≤ a.length) : ARd P G o s (strC (a.take v)) := by
  have := rd_sliceL (P := P) (G := G) ho hx h1 (bd_none _ _) (bd_some hl hz) (Nat.zero_le _) hvn
  rwa [List.drop_zero] at this
theorem rd_convBL {e : TypeId} (ho : o.op = .convert t u x) (hx : s.eval x = bsC a) (h1 : P.underlying t = some (.slice e)) (h2 : P.underlying e = some (.int .u8)) (h3 : P.underlying u = some .string) : ARd P G o s (strC a) := rd_convBS ho hx h1 h2 h3
theorem e_convLB {e : TypeId} {d : Nat} (ho : o.op = .convert t u x) (hx : (⟨env, b0, H⟩ : AS).eval x = strC a) (h1 : P.underlying t = some .string) (h2 : P.underlying u = some (.slice e)) (h3 : P.underlying e = some (.int .u8)) (hl : a.length ≤ 9223372036854775807) (hd : o.dst = some d) (hN : Nat.blt d G.N = true)
    (hK : K ⟨(d, bsC a) :: env, b0, H⟩) : AEx P G o ⟨env, b0, H⟩ K := by
  refine e_convSB ho hx h1 h2 h3 hl hd hN ?_
  simpa using hK
end
theorem CEnt.errN {m n : Nat} (h : n = m) : CEnt (.err m) (.err n) := by subst h; exact CEnt.refl _
theorem CEnt.strL {a b : List UInt8} (h : a = b) : CEnt (strC a) (strC b) := by subst h; exact CEnt.refl _
end Am
end Go.Proofs.YtdfjiodkmhpfkaaDoor

/- The abstract walk: clear; functions that are handed over. -/
namespace Go.Proofs.YtdfjiodkmhpfkaaDoor
set_option linter.unusedVariables false
open Go.RowKit
namespace Am
section
variable {P : Program} {G : Gh} {ops : Array Oper} {o : Oper} {s : AS} {r : List Oper} {K : AS → Prop} {t u : TypeId} {x y : Operand} {env : List (Nat × CV)} {b0 : Nat → CV} {H : List (Option Nat × Res)}
theorem exec_clear {ats : Array TypeId} (ho : o.op = .call ⟨.builtin .clear, #[x], ats⟩) {a : Act} {v : Value} {w w' : World} (h : (Builtin.clear_ ats o.type #[a.eval x]).run P w = .ok v w') : (execOp a.eval o).run P w = .ok (.value v) w' := by
  simp [execOp, ho, resolve, invoke, builtin, h]
/-- clear(s): what lies ahead of s is as it was -/
theorem m_clear {e : TypeId} {z : Value} {i off n k N M : Nat} {g : Option Nat} {f : Nat → CV} (ho : o.op = .call ⟨.builtin .clear, #[x], #[t]⟩) (hx : (⟨env, b0, H⟩ : AS).eval x = .os i g off n k) (hH : H[i]? = some (g, .blk N f)) (h1 : P.underlying t = some (.slice e)) (h5 : (P.info? e).map (·.size) = some k) (hz : (P.info? e).map (·.zero) = some (some z)) (hzk : z.cells.size = k) (hk : 0 < k) (hz1 : z.cells.all (·.oneCell') = true)
    (hM : M ≤ off) (hMN : M ≤ N) (hg : g = none → M = N) (hd : o.dst = none) (hK : K ⟨env, b0, H.set i (g, .blk M f)⟩) : AMd P G o ⟨env, b0, H⟩ K := fun St a w hr Q => by
  obtain ⟨info, hi, h6⟩ := Option.map_eq_some_iff.1 h5
  obtain ⟨info', hi', hz⟩ := Option.map_eq_some_iff.1 hz
  obtain rfl := Option.some.inj (hi.symm.trans hi')
  have less : ∀ {w'}, RelSt G St ⟨env, b0, H⟩ a w' → ∃ St', (∀ b, St b → St' b) ∧ RelSt G St' ⟨env, b0, H.set i (g, .blk M f)⟩ a w' := fun hr' =>
    blk_ent (G := G) (s := ⟨env, b0, H⟩) i (m := M) (F := f) hH hMN hg (fun j hj => CEnt.refl _) St a _ hr'
  have he := evR hr hx
  have fin : ∀ {w'}, (execOp a.eval o).run P w = .ok (.value (.tuple #[])) w' → KeepS St w w' → (∃ St', (∀ b, St b → St' b) ∧ RelSt G St' ⟨env, b0, H.set i (g, .blk M f)⟩ a w') → o.wp P a w (fun a' w' => KeepS St w w' ∧ ∃ St', (∀ b, St b → St' b) ∧ ∃ s', K s' ∧ RelSt G St' s' a' w') Q := fun {w'} hrun hkeep ⟨St', hs, h⟩ => by
    unfold Oper.wp
    rw [hrun]
    refine ⟨hkeep, St', hs, _, hK, ?_⟩
    rw [hd]
    exact h
  cases g with
  | none =>
    obtain ⟨hn, e0⟩ := he
    refine fin (exec_clear ho ?_) (KeepS.refl _ _) (less hr)
    rw [e0]
    simp [Builtin.clear_, underlying, h1]
  | some b =>
    obtain ⟨cap, e0, h3, h4, cur, ty, zz, hh, hfit⟩ := he
    rcases Nat.eq_zero_or_pos n with hn | hn
    · subst hn
      refine fin (exec_clear ho ?_) (KeepS.refl _ _) (less hr)
      rw [e0]
      simp [Builtin.clear_, underlying, h1]
    · obtain ⟨fp, hp⟩ := id hr.hp
      obtain ⟨h00, cur', ty', hh', hle, hcell⟩ := hp.rep i (some b) _ hH
      rw [hh] at hh'
      cases hh'
      have hlen : (Builtin.zeroCells z.cells n).toList.length = n * k := by simp [Builtin.zeroCells, hzk]
      have hcap : off + n * k ≤ cur.size := by
        have := Nat.mul_le_mul_right k h3
        omega
      have hone : ∀ v ∈ (Builtin.zeroCells z.cells n).toList, v.oneCell' = true := fun v hv => by
        have hv' : v ∈ Builtin.zeroCells z.cells n := by simpa using hv
        obtain ⟨j, hj, e⟩ := Array.mem_iff_getElem.1 hv'
        rw [← e]
        have hlt : j % z.cells.size < z.cells.size := Nat.mod_lt _ (by omega)
        have := Array.all_eq_true.1 hz1 (j % z.cells.size) hlt
        simpa [Builtin.zeroCells, hlt] using this
      have hst := run_storeCells_at P b off ty (Builtin.zeroCells z.cells n).toList 0 cur w hh (by rw [hlen]; omega) hone
      simp only [Nat.add_zero] at hst
      obtain ⟨m, rfl⟩ : ∃ m, n = m + 1 := ⟨n - 1, by omega⟩
      refine fin (w' := w.setRow b (cur.toList.take off ++ (Builtin.zeroCells z.cells (m + 1)).toList ++ cur.toList.drop (off + (Builtin.zeroCells z.cells (m + 1)).toList.length)).toArray) (exec_clear ho ?_) (fun q hq => setRow_other w b q _ (fun e => (hp.own i b ((h00 b).2 rfl)).2.1 (e ▸ hq))) ?_
      · rw [e0]
        simp [Builtin.clear_, underlying, h1, zeroValue, typeInfo, hi, hz, hst]
      · refine ⟨St, fun _ h => h, hr.write hH hh ?_ ?_ fun j hj => ?_⟩
        · simp only [List.size_toArray, List.length_append, List.length_take, List.length_drop, Array.length_toList, hlen]; omega
        · simp only [List.size_toArray, List.length_append, List.length_take, List.length_drop, Array.length_toList, hlen]; omega
        · rw [row_at cur _ off (by rw [hlen]; omega), if_neg (by omega)]
          exact hcell j (by omega)
end
end Am
end Go.Proofs.YtdfjiodkmhpfkaaDoor

/- The abstract walk: ranges over functions: a loop's record, a round, a call of yield, the statement. -/
namespace Go.Proofs.YtdfjiodkmhpfkaaDoor
set_option linter.unusedVariables false
open Go.RowKit
namespace Am
/-- a loop's record -/
def recOP (r : Loop) : OP where
  p al St w g F := (∀ b, F b ↔ b = g) ∧ w.heap[g]? = some (.loop r)
  st := fun he hs hF ⟨h1, h2⟩ => ⟨h1, (hF _ ((h1 _).2 rfl)).trans h2⟩
/-- what a loop's rounds begin with: how many slots, what they hold, yield's parameters, the code -/
structure RdC where
  N : Nat
  env : List (Nat × CV)
  b : Nat → CV
  ps : Array Tmp
  assign : Code
  body : Code
def mkRec (fn : FuncId) (tmps : Array Value) (L : RdC) (D : Nat) (sp : LoopState × Option Code) : Loop := { state := sp.1, pending := sp.2, fn, tmps, params := L.ps, assign := L.assign, body := L.body, defers := D }
/-- a loop between two rounds (or behind its last): the caller's blocks, and the record -/
def rndOP {π : Type} (L : RdC) (sp : π → LoopState × Option Code) (HB : π → List (Option Nat × Res)) (φ : π → Prop) : OP where
  p al St w g F := ∃ (x : π) (fn : FuncId) (tmps : Array Value) (D : Nat), φ x ∧ tmps.size = L.N ∧ (∀ d, RepC al St w (look L.env L.b d) (tmps.getD d undef)) ∧ ∃ fp, Foot al St w F (HB x ++ [(some g, .obj (recOP (mkRec fn tmps L D (sp x))))]) fp
  st := fun he hs hF ⟨x, fn, tmps, D, h1, h2, h3, fp, h⟩ => ⟨x, fn, tmps, D, h1, h2, fun d => RepC.evo he hs _ _ (h3 d), fp, fun i g r hi => Res.rep_evo he hs (fun b hb => hF b ((h.all b).2 ⟨i, hb⟩)) (h.rep i g r hi), h.dis, h.out, h.all⟩

/-- a call of the yield of loop l -/
def ACY (gs : List Nat) (P : Program) (l : Nat) (H : List (Option Nat × Res)) (args : List CV) (Q : CV → List (Option Nat × Res) → Prop) : Prop :=
  ∀ al w St F0 (vals : Array Value), Entry gs al St F0 H w → vals.size = args.length → (∀ i, RepC al St w (fl args i) (vals.getD i undef)) →
    YieldAt (frd none) 0 P l vals w fun e w' => ∃ v r H' St', e = .returned v ∧ Q r H' ∧ RepC al St' w' r v ∧ Under F0 w w' ∧ (∀ b, St b → St' b) ∧ (∀ b, St' b → St b ∨ w.heap.size ≤ b ∨ F0 b) ∧ (∀ b, St' b → b < w'.heap.size) ∧ HRel al St' w' w.heap.size F0 H'
/-- yield goes on with J', or stops with Jx -/
def YQ (l : Nat) (J' Jx : OP) : CV → List (Option Nat × Res) → Prop := fun r H' => (r = .c (.bool true) ∧ H' = [(some l, .obj J')]) ∨ (r = .c (.bool false) ∧ H' = [(some l, .obj Jx)])

section
variable {P : Program} {G : Gh} {ops : Array Oper} {o : Oper} {s : AS} {K : AS → Prop} {env : List (Nat × CV)} {b0 : Nat → CV} {H : List (Option Nat × Res)} {R : Exit → AS → Prop}

/-- an operation that is carried out in the fence -/
def AMdI (P : Program) (G : Gh) (o : Oper) (s : AS) (K : AS → Prop) : Prop := ∀ a w, Rel G s a w → ∀ Q, o.wpIn (frd G.rd) 0 P a w (fun a' w' => ∃ s', K s' ∧ Rel G s' a' w') Q
theorem seq_mdI {r : List Oper} (hw : Wanted G ops o s true) (hy : G.yl = true) (h : AMdI P G o s (fun s' => ASeq P G ops r s' K)) : ASeq P G ops (o :: r) s K := fun a w hr Q hQ => by
  unfold wpSeq
  obtain ⟨St, hs⟩ := id hr
  rw [if_pos (hw St a w hs)]
  exact .inr ⟨hy, Oper.wpIn_mono (fun a' w' ⟨s', h1, h2⟩ => h1 a' w' h2 Q hQ) (h a w hr Q)⟩

theorem exec_yield {v : Operand} {l : Nat} {xs : Array Operand} {ats : Array TypeId} (ho : o.op = .call ⟨.value v, xs, ats⟩) (a : Act) (hv : a.eval v = .func (.yield l) #[] #[]) {w : World} {x : Next} (h : (Instr.yield l (xs.map a.eval)).run P w = .ok x w) :
    (execOp a.eval o).run P w = .ok x w := by
  simp [execOp, ho, resolve, hv, Deferred.ofValue, invoke, h]

/-- a call of yield: the block i is handed over, and one comes back in its place -/
theorem m_callY {v : Operand} {l : Nat} {xs : Array Operand} {ats : Array TypeId} {args : List CV} {Q : CV → List (Option Nat × Res) → Prop} {i d : Nat} {x0 : Option Nat × Res} (ho : o.op = .call ⟨.value v, xs, ats⟩) (hv : (⟨env, b0, H⟩ : AS).eval v = .c (.func (.yield l) #[] #[])) (hi : H[i]? = some x0) (hA : ACY G.gs P l [x0] args Q) (he : SEL G ⟨env, b0, H⟩ xs.toList args) (hd : o.dst = some d) (hN : Nat.blt d G.N = true)
    (hK : ∀ r H', Q r H' → ∃ x r', H' = [x] ∧ CEnt r r' ∧ K ⟨(d, r') :: env, b0, H.set i x⟩) : AMdI P G o ⟨env, b0, H⟩ K := fun a w ⟨St, hr⟩ Q' => by
  obtain ⟨h1, h2⟩ := args_se he hr
  obtain ⟨fp, hp⟩ := hr.hp
  have hlt : i < H.length := (List.getElem?_eq_some_iff.1 hi).1
  obtain ⟨g0, r0⟩ := x0
  have hent : Entry G.gs G.al St (fp i) [(g0, r0)] w := by
    refine ⟨hr.s3, hr.sn, hr.sg, ⟨fun j b => j = 0 ∧ fp i b, fun j g r hj => ?_, fun j l b hj hl => by omega, fun j b hj => ⟨(hp.own i b hj.2).1, (hp.own i b hj.2).2.1, .inr hj.2⟩, fun j hj b hb => by simp at hj; omega⟩, fun b hb => (hp.own i b hb).2.1⟩
    match j, hj with
    | 0, hj =>
      simp at hj
      obtain ⟨rfl, rfl⟩ := hj
      have e : (fun b => (0 : Nat) = 0 ∧ fp i b) = fp i := funext fun b => by simp
      show r0.rep G.al St w (fun b => (0 : Nat) = 0 ∧ fp i b) g0
      rw [e]
      exact hp.rep i g0 r0 hi
    | j + 1, hj => simp at hj
  obtain ⟨fn, tmps, assign, body, hy, hR⟩ := hA G.al w St _ _ hent h1 h2
  refine ⟨fun f _ => trivial, ?_⟩
  rw [Oper.semAt_eq _ _ _ (by rw [ho]; intro c e; cases e), exec_yield ho a (evC hr hv) hy]
  refine ⟨fun e => (by cases e), ?_⟩
  refine RoundIn.mono (F := frd none) (n := 0) hR ?_
  rintro e w' ⟨v, r, H', St', rfl, hq, hv, hu, h3, h4, h5, h6⟩
  obtain ⟨x, r', rfl, hce, hk⟩ := hK r H' hq
  refine ⟨_, hk, St', ?_⟩
  have h7 := (hr.afterH hp hlt hu h3 h4 h5 h6).put (dst := o.dst) (v := r') (x := v) (by intro d' hd'; rw [hd] at hd'; cases hd'; exact Nat.le_of_ble_eq_true hN) (hce _ _ _ _ hv)
  rw [hd] at h7 ⊢
  exact h7

/-! ### a round -/
def penv : List Tmp → List CV → List (Nat × CV) → List (Nat × CV)
  | p :: ps, c :: cs, env => penv ps cs ((p, c) :: env)
  | _, _, env => env
theorem penv_rep {al : List Addr} {St : Nat → Prop} {w : World} {b : Nat → CV} {N : Nat} : ∀ (ps : List Tmp) (cs : List CV) (vs : List Value) (env : List (Nat × CV)) (tmps : Array Value), tmps.size = N → (∀ d, RepC al St w (look env b d) (tmps.getD d undef)) → ps.length = cs.length → vs.length = cs.length → (∀ p ∈ ps, p < N) → (∀ i, i < cs.length → RepC al St w (fl cs i) (vs.getD i undef)) →
    ((ps.zip vs).foldl (fun t (p, v) => t.setIfInBounds p v) tmps).size = N ∧ ∀ d, RepC al St w (look (penv ps cs env) b d) (((ps.zip vs).foldl (fun t (p, v) => t.setIfInBounds p v) tmps).getD d undef)
  | [], cs, vs, env, tmps, h1, h2, _, _, _, _ => ⟨by simpa using h1, by simpa [penv] using h2⟩
  | p :: ps, [], vs, env, tmps, _, _, h3, _, _, _ => by simp at h3
  | p :: ps, c :: cs, [], env, tmps, _, _, _, h4, _, _ => by simp at h4
  | p :: ps, c :: cs, v :: vs, env, tmps, h1, h2, h3, h4, h5, h6 => by
    simp only [List.zip_cons_cons, List.foldl_cons, penv]
    refine penv_rep ps cs vs _ _ (by simpa using h1) (fun d => ?_) (by simpa using h3) (by simpa using h4) (fun q hq => h5 q (List.mem_cons_of_mem _ hq)) (fun i hi => ?_)
    · by_cases hpd : p = d
      · subst hpd
        rw [look_same]
        have h0 := h6 0 (by simp)
        have hlt : p < tmps.size := by rw [h1]; exact h5 p (List.mem_cons_self ..)
        simpa [hlt, fl] using h0
      · rw [look_other _ _ _ hpd]
        have := h2 d
        simpa [Array.getElem?_setIfInBounds_ne hpd] using this
    · have := h6 (i + 1) (by simp; omega)
      simpa [fl] using this

theorem set_last {α : Type} (l : List α) (x y : α) : (l ++ [x]).set l.length y = l ++ [y] := by
  rw [List.set_append_right _ _ (Nat.le_refl _)]; simp
theorem get_last {α : Type} (l : List α) (x : α) : (l ++ [x])[l.length]? = some x := by simp

/-- the blocks and the record, as one -/
theorem HRel.packR {al : List Addr} {St : Nat → Prop} {w : World} {base : Nat} {F0 : Nat → Prop} {π : Type} {L : RdC} {sp : π → LoopState × Option Code} {HB : π → List (Option Nat × Res)} {φ : π → Prop} {l : Nat} {x : π} {fn : FuncId} {tmps : Array Value} {D : Nat} (hx : φ x) (hs : tmps.size = L.N) (he : ∀ d, RepC al St w (look L.env L.b d) (tmps.getD d undef))
    (h : HRel al St w base F0 (HB x ++ [(some l, .obj (recOP (mkRec fn tmps L D (sp x))))])) : HRel al St w base F0 [(some l, .obj (rndOP L sp HB φ))] := by
  obtain ⟨fp, hp⟩ := h
  refine ⟨fun j b => j = 0 ∧ ∃ i, fp i b, fun j g r hj => ?_, fun i j b hi hj => by omega, fun i b hi => ?_, fun i hi b hb => by simp at hi; omega⟩
  · match j, hj with
    | 0, hj =>
      simp at hj
      obtain ⟨rfl, rfl⟩ := hj
      exact ⟨x, fn, tmps, D, hx, hs, he, fp, fun i g r hi => hp.rep i g r hi, hp.dis, hp.out, fun b => by simp⟩
    | j + 1, hj => simp at hj
  · obtain ⟨_, k, hk⟩ := hi
    exact hp.own k b hk

/-- how a round's body may be left: off its end; by ret, by an exit -/
def roundR {π q : Type} (l : Nat) (R1 : OP) (HB : π → List (Option Nat × Res)) (φ' : π → Prop) (HX : q → List (Option Nat × Res)) (χ : Code → q → Prop) : Exit → AS → Prop
  | .normal, s => ∃ x, φ' x ∧ (HB x).length + 1 ≤ s.H.length ∧ HEnt (s.H.take ((HB x).length + 1)) (HB x ++ [(some l, .obj R1)])
  | .ret, s => ∃ x, χ .ret x ∧ (HX x).length + 1 ≤ s.H.length ∧ HEnt (s.H.take ((HX x).length + 1)) (HX x ++ [(some l, .obj R1)])
  | .exit id, s => ∃ x, χ (.exit id) x ∧ (HX x).length + 1 ≤ s.H.length ∧ HEnt (s.H.take ((HX x).length + 1)) (HX x ++ [(some l, .obj R1)])
  | _, _ => False
/-- the assignment to the loop's left sides, then the body -/
def assignR (P : Program) (G : Gh) (body : Code) (B : List (Option Nat × Res)) (l : Nat) (R0 R1 : OP) (RE : Exit → AS → Prop) : Exit → AS → Prop
  | .normal, s => ∃ env b, s = ⟨env, b, B ++ [(some l, .obj R0)]⟩ ∧ ACode P G body ⟨env, b, B ++ [(some l, .obj R1)]⟩ RE
  | _, _ => False

theorem RelSt.take_h {St : Nat → Prop} {a : Act} {w : World} {B : List (Option Nat × Res)} (h : RelSt G St s a w) (hl : B.length ≤ s.H.length) (he : HEnt (s.H.take B.length) B) : RelSt G St ⟨s.env, s.b, B⟩ a w := by
  have h1 := h.hp.pick (List.range B.length) (range_nodup _) (pickL_range _ _ hl)
  exact ⟨h.df, h.sz, h.env, h.un, h.s1, h.s2, h.s3, h1.hent he, h.sn, h.sg⟩

/-- the record turns -/
theorem RelSt.turnRec {St : Nat → Prop} {a : Act} {w : World} {B : List (Option Nat × Res)} {l : Nat} {r r' : Loop} (h : RelSt G St ⟨env, b0, B ++ [(some l, .obj (recOP r))]⟩ a w) :
    w.heap[l]? = some (.loop r) ∧ RelSt G St ⟨env, b0, B ++ [(some l, .obj (recOP r'))]⟩ a (w.putObj l (.loop r')) := by
  obtain ⟨fp, hp⟩ := id h.hp
  obtain ⟨hF, hg⟩ := hp.rep B.length (some l) _ (get_last _ _)
  have hlt : l < w.heap.size := (Array.getElem?_eq_some_iff.1 hg).1
  refine ⟨hg, ?_⟩
  have := h.turnObj (i := B.length) (g := l) (p := recOP r) (p' := recOP r') (w' := w.putObj l (.loop r')) (get_last _ _) (fun F h => h.1) (fun cur t z he => by rw [hg] at he; cases he) rfl rfl rfl (by simp) (fun b hb => World.putObj_heap_other hb) ⟨fun b => Iff.rfl, World.putObj_heap_same hlt⟩
  rw [set_last] at this
  exact this

theorem round_post {π : Type} {gs : List Nat} {al : List Addr} {l : Nat} {w W : World} {F0 St0 St : Nat → Prop} {N : Nat} {L : RdC} {sp : π → LoopState × Option Code} {HB : π → List (Option Nat × Res)} {φ : π → Prop} {env0 : List (Nat × CV)} {b : Nat → CV} {x : π} {a : Act} {fn : FuncId} {tmps : Array Value} {D : Nat} {jump : Option Code} {Q : CV → List (Option Nat × Res) → Prop}
    (hent : ∀ b, F0 b → ¬ St0 b) (h3 : ∀ b, St0 b → b < w.heap.size) (hx : φ x) (hs : tmps.size = L.N) (henv : ∀ d, RepC al St0 w (look L.env L.b d) (tmps.getD d undef))
    (hsp : sp x = (if jump.isNone then .ready else .done, jump))
    (hr : RelSt ⟨gs, al, w, F0, St0, N, some l, false⟩ St ⟨env0, b, HB x ++ [(some l, .obj (recOP { mkRec fn tmps L D (.ready, none) with state := .busy }))]⟩ a W) (hQ : Q (.c (.bool jump.isNone)) [(some l, .obj (rndOP L sp HB φ))]) :
    ∃ v w', (Instr.endRound l jump).run P W = .ok v w' ∧ ∃ v' r H' St', Ending.returned v = .returned v' ∧ Q r H' ∧ RepC al St' w' r v' ∧ Under F0 w w' ∧ (∀ b, St0 b → St' b) ∧ (∀ b, St' b → St0 b ∨ w.heap.size ≤ b ∨ F0 b) ∧ (∀ b, St' b → b < w'.heap.size) ∧ HRel al St' w' w.heap.size F0 H' := by
  obtain ⟨hg, hr2⟩ := hr.turnRec (r' := mkRec fn tmps L D (sp x))
  refine ⟨_, _, run_endRound jump hg, .bool jump.isNone, _, _, St, rfl, hQ, rfl, ?_⟩
  have e : ({ { mkRec fn tmps L D (.ready, none) with state := LoopState.busy } with state := if jump.isNone then LoopState.ready else LoopState.done, pending := jump } : Loop) = mkRec fn tmps L D (sp x) := by rw [hsp]; rfl
  rw [e]
  have hev : Evo St0 w (W.putObj l (.loop (mkRec fn tmps L D (sp x)))) := ⟨fun b cur t z hb hc => (hr2.un.block b (h3 b hb) (fun hf => hent b hf hb)).trans hc, hr2.un.sh⟩
  exact ⟨hr2.un, hr2.s1, hr2.s2, hr2.s3, HRel.packR hx hs (fun d => RepC.evo hev hr2.s1 _ _ (henv d)) hr2.hp⟩

/-- yield's contract, by a walk through the round -/
theorem acy_round {gs : List Nat} {π q : Type} {l : Nat} {L : RdC} {HB : π → List (Option Nat × Res)} {φ φ' : π → Prop} {HX : q → List (Option Nat × Res)} {χ : Code → q → Prop} {args : List CV} (hn : L.ps.toList.length = args.length) (hps : ∀ p ∈ L.ps.toList, p < L.N)
    (hb : ∀ (al : List Addr) (w0 : World) (F0 St0 : Nat → Prop) (R0 R1 : OP) (x : π), φ x → ACode P ⟨gs, al, w0, F0, St0, L.N, some l, false⟩ L.assign ⟨penv L.ps.toList args L.env, L.b, HB x ++ [(some l, .obj R0)]⟩ (assignR P ⟨gs, al, w0, F0, St0, L.N, some l, false⟩ L.body (HB x) l R0 R1 (roundR l R1 HB φ' HX χ))) :
    ACY gs P l [(some l, .obj (rndOP L (fun _ => (.ready, none)) HB φ))] args (YQ l (rndOP L (fun _ => (.ready, none)) HB φ') (rndOP L (fun x : Code × q => (.done, some x.1)) (fun x => HX x.2) (fun x => χ x.1 x.2))) := by
  intro al w St F0 vals he hvs hv
  obtain ⟨fp, hp⟩ := he.hp
  obtain ⟨x, fn, tmps, D, hx, hsz, henv, fq, hf⟩ := hp.rep 0 (some l) _ rfl
  obtain ⟨hFl, hg⟩ := hf.rep (HB x).length (some l) _ (get_last _ _)
  have hlen : L.ps.size = args.length := by simpa using hn
  have hy := run_yield (P := P) (args := vals) hg (by rw [hvs]; exact hlen.symm)
  refine ⟨_, _, _, _, hy, roundIn_of_wpIn trivial ?_⟩
  have hpe := penv_rep (al := al) (St := St) (w := w) (b := L.b) (N := L.N) L.ps.toList args vals.toList L.env tmps hsz henv hn (by simpa using hvs) hps (fun i hi => by
    have := hv i
    simpa using this)
  have hfold : (L.ps.toList.zip vals.toList).foldl (fun t (p, v) => t.setIfInBounds p v) tmps = ((mkRec fn tmps L D (.ready, none)).params.zip vals).foldl (fun tmps (t, a) => tmps.setIfInBounds t a) (mkRec fn tmps L D (.ready, none)).tmps := by
    rw [← Array.foldl_toList, Array.toList_zip]
    rfl
  rw [hfold] at hpe
  have hrel : RelSt ⟨gs, al, w, F0, St, L.N, some l, false⟩ St ⟨penv L.ps.toList args L.env, L.b, HB x ++ [(some l, .obj (recOP (mkRec fn tmps L D (.ready, none))))]⟩ { tmps := ((mkRec fn tmps L D (.ready, none)).params.zip vals).foldl (fun tmps (t, a) => tmps.setIfInBounds t a) (mkRec fn tmps L D (.ready, none)).tmps, defers := [] } w :=
    ⟨DefOk.none _ _ _, hpe.1, hpe.2, Under.refl _ _, fun _ h => h, fun _ h => .inl h, he.s3, ⟨fq, fun i g r hi => hf.rep i g r hi, hf.dis, fun i b hi => hp.own 0 b ((hf.all b).2 ⟨i, hi⟩), hf.out⟩, he.sn, he.sg⟩
  refine (hb al w F0 St (recOP (mkRec fn tmps L D (.ready, none))) (recOP { mkRec fn tmps L D (.ready, none) with state := .busy }) x hx) _ _ ⟨St, hrel⟩ _ ?_
  intro e s1 a1 w1 h1 h2
  cases e with
  | normal =>
    obtain ⟨env1, b1, rfl, hbody⟩ := h1
    obtain ⟨St1, hr1⟩ := h2
    obtain ⟨hg1, hr2⟩ := hr1.turnRec (r' := { mkRec fn tmps L D (.ready, none) with state := .busy })
    refine ⟨_, run_beginRound hg1 rfl, hbody a1 _ ⟨St1, hr2⟩ _ ?_⟩
    intro e s2 a2 w2 h3 ⟨St2, hr3⟩
    cases e with
    | normal =>
      obtain ⟨x', hx', hl', hh'⟩ := h3
      have hr4 := hr3.take_h (B := HB x' ++ [(some l, .obj (recOP { mkRec fn tmps L D (.ready, none) with state := .busy }))]) (by simpa using hl') (by simpa using hh')
      exact round_post (jump := none) he.f0 he.s3 hx' hsz henv rfl hr4 (.inl ⟨rfl, rfl⟩)
    | ret =>
      obtain ⟨x', hx', hl', hh'⟩ := h3
      have hr4 := hr3.take_h (B := HX x' ++ [(some l, .obj (recOP { mkRec fn tmps L D (.ready, none) with state := .busy }))]) (by simpa using hl') (by simpa using hh')
      exact round_post (x := (Code.ret, x')) (HB := fun x : Code × q => HX x.2) (φ := fun x => χ x.1 x.2) (sp := fun x : Code × q => (.done, some x.1)) (jump := some .ret) he.f0 he.s3 hx' hsz henv rfl hr4 (.inr ⟨rfl, rfl⟩)
    | exit id =>
      obtain ⟨x', hx', hl', hh'⟩ := h3
      have hr4 := hr3.take_h (B := HX x' ++ [(some l, .obj (recOP { mkRec fn tmps L D (.ready, none) with state := .busy }))]) (by simpa using hl') (by simpa using hh')
      exact round_post (x := (Code.exit id, x')) (HB := fun x : Code × q => HX x.2) (φ := fun x => χ x.1 x.2) (sp := fun x : Code × q => (.done, some x.1)) (jump := some (.exit id)) he.f0 he.s3 hx' hsz henv rfl hr4 (.inr ⟨rfl, rfl⟩)
    | _ => exact h3.elim
  | _ => exact h1.elim
end
end Am
end Go.Proofs.YtdfjiodkmhpfkaaDoor
