/- What the law leans on, part 3: AmD, AmE, AmF, AmG, AmH, AmI, AmJ, P09n, Shelf, W07l, W09n, W23, W23b, W23c, W23d, SlC, W23e, P38 -/
import Derived.Test.YtdfjiodkmhpfkaaDoorM2LinesText
import Derived.Laws.RangeString
import Derived.Shelf.Abstract
import Derived.Shelf.Strings.Builder1
import Derived.Shelf.Strings.Builder2
import Derived.Shelf.Strings.OnBuilder
import Derived.Shelf.Small.Bits
import Derived.Shelf.Small.Strs
import Derived.Shelf.Small.Wraps
import Derived.Shelf.Utf8.RuneCount
import Derived.Shelf.Strconv.Itoa0
import Derived.Shelf.Strings.Search1
import Derived.Shelf.Strings.Search2
import Derived.Shelf.Strings.Search3
import Derived.Shelf.Strings.Count
import Derived.Shelf.LaysM
import Derived.Shelf.Strings.Shaped
import Derived.Shelf.Strings.Prefix
import Derived.Shelf.Strings.Split
import Derived.Shelf.Strings.SplitShaped
import Derived.Shelf.Unicode.Decode
import Derived.Shelf.Strings.RuneCount
import Derived.Shelf.Strings.Explode
import Derived.Shelf.Unicode.DecodeSlow
import Derived.Shelf.Unicode.DecodeAny
import Derived.Test.YtdfjiodkmhpfkaaDoorProg

/- The abstract walk: the runes of a text, one by one. -/
namespace Go.Proofs.YtdfjiodkmhpfkaaDoor
set_option linter.unusedVariables false
open Go.RowKit
namespace Am
/-- an iterator over a text -/
def iterOP (l : ByteArray) (pos : Nat) : OP where
  p al St w g F := (∀ b, F b ↔ b = g) ∧ w.heap[g]? = some (.stringIter l pos)
  st := fun he hs hF ⟨h1, h2⟩ => ⟨h1, (hF _ ((h1 _).2 rfl)).trans h2⟩
section
variable {P : Program} {G : Gh} {ops : Array Oper} {o : Oper} {s : AS} {r : List Oper} {K : AS → Prop} {t u : TypeId} {x y : Operand} {env : List (Nat × CV)} {b0 : Nat → CV} {H : List (Option Nat × Res)}
theorem under_below {w w' : World} (h : Below w.heap.size w w') : Under (fun _ => False) w w' := (Under.refl _ w).then h
theorem RelSt.freshObj {St : Nat → Prop} {a : Act} {w w' : World} {g : Nat} {p : OP} (h : RelSt G St s a w) (hb : Below w.heap.size w w') (h1 : w.heap.size ≤ g) (h2 : g < w'.heap.size) (hp : p.p G.al St w' g (fun b => b = g)) : RelSt G St ⟨s.env, s.b, s.H ++ [(some g, .obj p)]⟩ a w' := by
  refine h.after (under_below hb) (fun _ h => h) (fun b h => .inl h) (fun b hs => Nat.lt_of_lt_of_le (h.s3 b hs) hb.size) ⟨fun i b => i = 0 ∧ b = g, fun i q r hi => ?_, fun i j b hi hj => by omega, fun i b hi => ?_, fun i hi b hb => by simp at hi; omega⟩
  · match i, hi with
    | 0, hi =>
      simp at hi
      obtain ⟨rfl, rfl⟩ := hi
      have e : (fun b => (0 : Nat) = 0 ∧ b = g) = fun b => b = g := funext fun b => by simp
      show p.p G.al St w' g (fun b => (0 : Nat) = 0 ∧ b = g)
      rw [e]
      exact hp
    | i + 1, hi => simp at hi
  · obtain ⟨_, rfl⟩ := hi
    exact ⟨h2, fun hs => by have := h.s3 _ hs; omega, .inl h1⟩
/-- a block that is no row turns -/
theorem RelSt.turnObj {St : Nat → Prop} {a : Act} {w w' : World} {i g : Nat} {p p' : OP} (h : RelSt G St s a w) (hH : s.H[i]? = some (some g, .obj p)) (hF : ∀ F, p.p G.al St w g F → (∀ b, F b ↔ b = g)) (hno : ∀ cur t z, w.heap[g]? ≠ some (.cells cur t z))
    (ho : w'.os = w.os) (ht : w'.tape = w.tape) (hout : w'.output = w.output) (hsz : w'.heap.size = w.heap.size) (hold : ∀ b, b ≠ g → w'.heap[b]? = w.heap[b]?) (hp' : p'.p G.al St w' g (fun b => b = g)) : RelSt G St ⟨s.env, s.b, s.H.set i (some g, .obj p')⟩ a w' := by
  obtain ⟨fp, hp⟩ := h.hp
  have hlt : i < s.H.length := (List.getElem?_eq_some_iff.1 hH).1
  have hrep : p.p G.al St w g (fp i) := hp.rep i (some g) _ hH
  have hfi := hF _ hrep
  have hg : fp i g := (hfi g).2 rfl
  obtain ⟨hg1, hg2, hg3⟩ := hp.own i g hg
  have he : Evo St w w' := ⟨fun b cu ct cz hb hcu => (hold b (fun e => hg2 (e ▸ hb))).trans hcu, fun b cu t z hb => ⟨cu, z, (hold b (fun e => hno cu t z (e ▸ hb))).trans hb, rfl⟩⟩
  refine ⟨h.df.keep (fun _ h => h) (fun b hb => hold b (fun e => hg2 (e ▸ hb))), h.sz, fun d => RepC.evo he (fun _ x => x) _ _ (h.env d), ⟨ho.trans h.un.os, ht.trans h.un.tape, hout.trans h.un.output, by rw [hsz]; exact h.un.size, fun k hk hFk => ?_, fun b cu t z hb => ?_⟩, h.s1, h.s2, fun b hb => by rw [hsz]; exact h.s3 b hb, ?_, ?_, h.sg⟩
  · refine (hold k (fun e => ?_)).trans (h.un.block k hk hFk)
    subst e
    rcases hg3 with h1 | h1
    · omega
    · exact hFk h1
  · obtain ⟨cur', z', h1, h2⟩ := h.un.sh b cu t z hb
    obtain ⟨cur2, z2, h3, h4⟩ := he.sh b cur' t z' h1
    exact ⟨cur2, z2, h3, h4.trans h2⟩
  · refine ⟨fp, fun j q r hj => ?_, hp.dis, fun j b hb => by rw [hsz]; exact hp.own j b hb, fun j hj => hp.out j (by simpa using hj)⟩
    by_cases e : j = i
    · subst e
      simp [hlt] at hj
      obtain ⟨rfl, rfl⟩ := hj
      have e2 : fp j = fun b => b = g := funext fun b => propext (hfi b)
      show p'.p G.al St w' g (fp j)
      rw [e2]
      exact hp'
    · rw [List.getElem?_set_ne (Ne.symm e)] at hj
      exact Res.rep_evo he (fun _ x => x) (fun b hFb => hold b (fun e2 => e (hp.dis j i b hFb (e2 ▸ hg)))) (hp.rep j q r hj)
  · exact SentL.keep h.sn (fun q hq => hold q (fun e => hg2 (e ▸ h.sg.1 q hq))) (fun q hq => hold _ (fun e => hg2 (e ▸ h.sg.2 q hq)))

/-- range over a text -/
theorem e_range {l : ByteArray} {d : Nat} (ho : o.op = .range t x) (hx : (⟨env, b0, H⟩ : AS).eval x = .c (.string l)) (h1 : P.underlying t = some .string) (hd : o.dst = some d) (hN : Nat.blt d G.N = true)
    (hK : ∀ g, K ⟨(d, .op H.length (some g) 0) :: env, b0, H ++ [(some g, .obj (iterOP l 0))]⟩) : AEx P G o ⟨env, b0, H⟩ K := fun St a w hr Q => by
  have hrun : (execOp a.eval o).run P w = .ok (.value (.pointer (some ⟨w.heap.size, 0, none⟩))) (w.iter l 0) := by
    simp only [execOp, ho, evC hr hx]
    exact vOk (run_range_string w t l h1)
  unfold Oper.wp
  rw [hrun]
  have hb : Below w.heap.size w (w.iter l 0) := below_alloc w _
  refine ⟨hb, St, fun _ h => h, _, hK w.heap.size, ?_⟩
  have h2 := hr.freshObj (g := w.heap.size) (p := iterOP l 0) hb (Nat.le_refl _) (by show _ < (w.heap.push _).size; simp) ⟨fun b => Iff.rfl, World.iter_heap w l 0⟩
  have := h2.put (dst := o.dst) (v := .op H.length (some w.heap.size) 0) (x := .pointer (some ⟨w.heap.size, 0, none⟩)) (by intro d' hd'; rw [hd] at hd'; cases hd'; exact Nat.le_of_ble_eq_true hN) ⟨_, rfl, rfl⟩
  rw [hd] at this ⊢
  exact this
theorem run_next_any {l : ByteArray} {pos g : Nat} {w : World} (ty : TypeId) (hg : w.heap[g]? = some (.stringIter l pos)) (h : pos < l.size) :
    (Instr.next (.pointer (some ⟨g, 0, none⟩)) true ty).run P w = .ok (.tuple #[.bool true, .int .i64 pos, .int .i32 (Utf8.decode l pos).1]) { w with heap := w.heap.setIfInBounds g (.stringIter l (pos + (Utf8.decode l pos).2)) } := by
  simp [Instr.next, getObj, setObj, Sem.run, hg, h, goInt]
theorem run_next_over {l : ByteArray} {pos g : Nat} {w : World} (ty : TypeId) (hg : w.heap[g]? = some (.stringIter l pos)) (h : ¬ pos < l.size) :
    (Instr.next (.pointer (some ⟨g, 0, none⟩)) true ty).run P w = .ok (.tuple #[.bool false]) w := by
  simp [Instr.next, getObj, Sem.run, hg, h]
/-- the next rune, if there is one -/
theorem m_next {l : ByteArray} {pos i g d : Nat} (ho : o.op = .next x true) (hx : (⟨env, b0, H⟩ : AS).eval x = .op i (some g) 0) (hH : H[i]? = some (some g, .obj (iterOP l pos))) (hd : o.dst = some d) (hN : Nat.blt d G.N = true)
    (h1 : pos < l.size → K ⟨(d, .tup 3 (fl [.c (.bool true), .c (.int .i64 (pos : Nat)), .c (.int .i32 ((Utf8.decode l pos).1 : Nat))])) :: env, b0, H.set i (some g, .obj (iterOP l (pos + (Utf8.decode l pos).2)))⟩)
    (h2 : ¬ pos < l.size → K ⟨(d, .tup 1 (fl [.c (.bool false)])) :: env, b0, H⟩) : AMd P G o ⟨env, b0, H⟩ K := fun St a w hr Q => by
  obtain ⟨b, hb, e0⟩ := evR hr hx
  cases hb
  obtain ⟨fp, hp⟩ := id hr.hp
  obtain ⟨hF, hg⟩ := hp.rep i _ _ hH
  have dlt : ∀ d', o.dst = some d' → d' < G.N := by intro d' hd'; rw [hd] at hd'; cases hd'; exact Nat.le_of_ble_eq_true hN
  by_cases h : pos < l.size
  · have hrun : (execOp a.eval o).run P w = .ok (.value (.tuple #[.bool true, .int .i64 pos, .int .i32 (Utf8.decode l pos).1])) { w with heap := w.heap.setIfInBounds g (.stringIter l (pos + (Utf8.decode l pos).2)) } := by
      simp only [execOp, ho, e0]
      exact vOk (run_next_any _ hg h)
    unfold Oper.wp
    rw [hrun]
    refine ⟨fun b hb => ?_, St, fun _ h => h, _, h1 h, ?_⟩
    · have hne : b ≠ g := fun e => (hp.own i g ((hF g).2 rfl)).2.1 (e ▸ hb)
      simp [Array.getElem?_setIfInBounds_ne (Ne.symm hne)]
    have hlt : g < w.heap.size := (Array.getElem?_eq_some_iff.1 hg).1
    have h3 := hr.turnObj (p := iterOP l pos) (p' := iterOP l (pos + (Utf8.decode l pos).2)) (w' := { w with heap := w.heap.setIfInBounds g (.stringIter l (pos + (Utf8.decode l pos).2)) }) hH (fun F h => h.1) (fun cur t z he => by rw [hg] at he; cases he) rfl rfl rfl (by simp) (fun b hb => by simp [Array.getElem?_setIfInBounds_ne (Ne.symm hb)]) ⟨fun b => Iff.rfl, by simp [hlt]⟩
    have := h3.put (dst := o.dst) (v := .tup 3 (fl [.c (.bool true), .c (.int .i64 (pos : Nat)), .c (.int .i32 ((Utf8.decode l pos).1 : Nat))])) (x := .tuple #[.bool true, .int .i64 pos, .int .i32 (Utf8.decode l pos).1]) dlt ⟨_, rfl, rfl, fun j hj => match j, hj with | 0, _ => rfl | 1, _ => rfl | 2, _ => rfl⟩
    rw [hd] at this ⊢
    exact this
  · have hrun : (execOp a.eval o).run P w = .ok (.value (.tuple #[.bool false])) w := by
      simp only [execOp, ho, e0]
      exact vOk (run_next_over _ hg h)
    unfold Oper.wp
    rw [hrun]
    refine ⟨KeepS.refl _ _, St, fun _ h => h, _, h2 h, ?_⟩
    have := hr.put (dst := o.dst) (v := .tup 1 (fl [.c (.bool false)])) (x := .tuple #[.bool false]) dlt ⟨_, rfl, rfl, fun j hj => match j, hj with | 0, _ => rfl⟩
    rw [hd] at this ⊢
    exact this
end
end Am
end Go.Proofs.YtdfjiodkmhpfkaaDoor

/- The abstract walk: texts as lists of bytes. -/
namespace Go.Proofs.YtdfjiodkmhpfkaaDoor
set_option linter.unusedVariables false
open Go.RowKit
namespace Am
/-- a text whose bytes are l -/
def strC (l : List UInt8) : CV := .c (.string ⟨l.toArray⟩)
theorem ba_inj {a b : List UInt8} : ((⟨a.toArray⟩ : ByteArray) = ⟨b.toArray⟩) ↔ a = b := by
  constructor
  · intro h
    have := congrArg (fun x : ByteArray => x.data.toList) h
    simpa using this
  · rintro rfl; rfl
theorem ba_list (s : ByteArray) : ∃ l : List UInt8, s = ⟨l.toArray⟩ := ⟨s.data.toList, by cases s; simp⟩
theorem ba_toList (a : List UInt8) : (⟨a.toArray⟩ : ByteArray).toList = a := by rw [Go.ByteArray.toList_eq]
theorem ba_app (l r : List UInt8) : (⟨l.toArray⟩ ++ ⟨r.toArray⟩ : ByteArray) = ⟨(l ++ r).toArray⟩ := by
  apply ByteArray.ext
  simp
theorem ba_ext (l : List UInt8) (i j : Nat) : (⟨l.toArray⟩ : ByteArray).extract i j = ⟨((l.take j).drop i).toArray⟩ := by
  apply ByteArray.ext
  simp [List.drop_take]
section
variable {P : Program} {G : Gh} {ops : Array Oper} {o : Oper} {s : AS} {r : List Oper} {K : AS → Prop} {t u : TypeId} {x y : Operand} {env : List (Nat × CV)} {b0 : Nat → CV} {H : List (Option Nat × Res)} {k : IntKind} {a b : List UInt8}
theorem rd_eqL (ho : o.op = .binOp .eql t x y u) (hx : s.eval x = strC a) (hy : s.eval y = strC b) : ARd P G o s (.c (.bool (decide (a = b)))) := by
  have := rd_eqS (P := P) (G := G) ho hx hy
  rwa [show decide ((⟨a.toArray⟩ : ByteArray) = ⟨b.toArray⟩) = decide (a = b) from decide_eq_decide.2 ba_inj] at this
theorem rd_neL (ho : o.op = .binOp .neq t x y u) (hx : s.eval x = strC a) (hy : s.eval y = strC b) : ARd P G o s (.c (.bool (decide (a ≠ b)))) := by
  have := rd_neS (P := P) (G := G) ho hx hy
  rwa [show decide ((⟨a.toArray⟩ : ByteArray) ≠ ⟨b.toArray⟩) = decide (a ≠ b) from decide_eq_decide.2 (not_congr ba_inj)] at this
theorem rd_ltL (ho : o.op = .binOp .lss t x y u) (hx : s.eval x = strC a) (hy : s.eval y = strC b) : ARd P G o s (.c (.bool (Op.bytesLess a b))) := by
  have := rd_ltS (P := P) (G := G) ho hx hy
  rwa [ba_toList, ba_toList] at this
theorem rd_gtL (ho : o.op = .binOp .gtr t x y u) (hx : s.eval x = strC a) (hy : s.eval y = strC b) : ARd P G o s (.c (.bool (!(Op.bytesLess a b || a == b)))) := by
  have := rd_gtS (P := P) (G := G) ho hx hy
  rwa [ba_toList, ba_toList] at this
theorem rd_addL (ho : o.op = .binOp .add t x y u) (hx : s.eval x = strC a) (hy : s.eval y = strC b) (hl : a.length + b.length ≤ 9223372036854775807) : ARd P G o s (strC (a ++ b)) := by
  have := rd_addS (P := P) (G := G) ho hx hy hl
  rwa [ba_app] at this
theorem rd_indexL {i : Nat} {z : Int} (ho : o.op = .index t x y) (hx : s.eval x = strC a) (hy : s.eval y = .c (.int k z)) (h1 : P.underlying t = some .string) (hz : z = (i : Int)) (hi : i < a.length) : ARd P G o s (byF a i) :=
  rd_indexS (l := ⟨a.toArray⟩) ho hx hy h1 hz hi
theorem rd_lenL (ho : o.op = .call ⟨.builtin .len, #[x], #[t]⟩) (hx : s.eval x = strC a) (h1 : P.underlying t = some .string) : ARd P G o s (.c (.int .i64 (a.length : Nat))) := rd_lenS ho hx h1
theorem rd_sliceL {l v : Nat} {lo hi : Option Operand} (ho : o.op = .slice t x lo hi none) (hx : s.eval x = strC a) (h1 : P.underlying t = some .string)
    (hl : Bd s 0 lo l) (hu : Bd s a.length hi v) (hlv : l ≤ v) (hvn : v ≤ a.length) : ARd P G o s (strC ((a.take v).drop l)) := by
  have := rd_sliceS (P := P) (G := G) (b := ⟨a.toArray⟩) ho hx h1 hl hu hlv hvn
  rwa [ba_ext] at this
theorem rd_sliceLF {l : Nat} {lo : Operand} {z : Int} (ho : o.op = .slice t x (some lo) none none) (hx : s.eval x = strC a) (h1 : P.underlying t = some .string) (hl : s.eval lo = .c (.int .i64 z)) (hz : z = (l : Int)) (hvn : l ≤ a.length) : ARd P G o s (strC (a.drop l)) := by
  have := rd_sliceL (P := P) (G := G) ho hx h1 (bd_some hl hz) (bd_none _ _) hvn (Nat.le_refl _)
  rwa [List.take_length] at this
theorem rd_sliceLT {v : Nat} {hi : Operand} {z : Int} (ho : o.op = .slice t x none (some hi) none) (hx : s.eval x = strC a) (h1 : P.underlying t = some .string) (hl : s.eval hi = .c (.int .i64 z)) (hz : z = (v : Int)) (hvn : v ≤ a.length) : ARd P G o s (strC (a.take v)) := by
  have := rd_sliceL (P := P) (G := G) ho hx h1 (bd_none _ _) (bd_some hl hz) (Nat.zero_le _) hvn
  rwa [List.drop_zero] at this
theorem rd_convBL {e : TypeId} (ho : o.op = .convert t u x) (hx : s.eval x = bsC a) (h1 : P.underlying t = some (.slice e)) (h2 : P.underlying e = some (.int .u8)) (h3 : P.underlying u = some .string) : ARd P G o s (strC a) := rd_convBS ho hx h1 h2 h3
theorem e_convLB {e : TypeId} {d : Nat} (ho : o.op = .convert t u x) (hx : (⟨env, b0, H⟩ : AS).eval x = strC a) (h1 : P.underlying t = some .string) (h2 : P.underlying u = some (.slice e)) (h3 : P.underlying e = some (.int .u8)) (hl : a.length ≤ 9223372036854775807) (hd : o.dst = some d) (hN : Nat.blt d G.N = true)
    (hK : K ⟨(d, bsC a) :: env, b0, H⟩) : AEx P G o ⟨env, b0, H⟩ K := by
  refine e_convSB ho hx h1 h2 h3 hl hd hN ?_
  simpa using hK
end
theorem CEnt.errN {m n : Nat} (h : n = m) : CEnt (.err m) (.err n) := by subst h; exact CEnt.refl _
theorem CEnt.strL {a b : List UInt8} (h : a = b) : CEnt (strC a) (strC b) := by subst h; exact CEnt.refl _
end Am
end Go.Proofs.YtdfjiodkmhpfkaaDoor

/- The abstract walk: clear; functions that are handed over. -/
namespace Go.Proofs.YtdfjiodkmhpfkaaDoor
set_option linter.unusedVariables false
open Go.RowKit
namespace Am
section
variable {P : Program} {G : Gh} {ops : Array Oper} {o : Oper} {s : AS} {r : List Oper} {K : AS → Prop} {t u : TypeId} {x y : Operand} {env : List (Nat × CV)} {b0 : Nat → CV} {H : List (Option Nat × Res)}
theorem exec_clear {ats : Array TypeId} (ho : o.op = .call ⟨.builtin .clear, #[x], ats⟩) {a : Act} {v : Value} {w w' : World} (h : (Builtin.clear_ ats o.type #[a.eval x]).run P w = .ok v w') : (execOp a.eval o).run P w = .ok (.value v) w' := by
  simp [execOp, ho, resolve, invoke, builtin, h]
/-- clear(s): what lies ahead of s is as it was -/
theorem m_clear {e : TypeId} {z : Value} {i off n k N M : Nat} {g : Option Nat} {f : Nat → CV} (ho : o.op = .call ⟨.builtin .clear, #[x], #[t]⟩) (hx : (⟨env, b0, H⟩ : AS).eval x = .os i g off n k) (hH : H[i]? = some (g, .blk N f)) (h1 : P.underlying t = some (.slice e)) (h5 : (P.info? e).map (·.size) = some k) (hz : (P.info? e).map (·.zero) = some (some z)) (hzk : z.cells.size = k) (hk : 0 < k) (hz1 : z.cells.all (·.oneCell') = true)
    (hM : M ≤ off) (hMN : M ≤ N) (hg : g = none → M = N) (hd : o.dst = none) (hK : K ⟨env, b0, H.set i (g, .blk M f)⟩) : AMd P G o ⟨env, b0, H⟩ K := fun St a w hr Q => by
  obtain ⟨info, hi, h6⟩ := Option.map_eq_some_iff.1 h5
  obtain ⟨info', hi', hz⟩ := Option.map_eq_some_iff.1 hz
  obtain rfl := Option.some.inj (hi.symm.trans hi')
  have less : ∀ {w'}, RelSt G St ⟨env, b0, H⟩ a w' → ∃ St', (∀ b, St b → St' b) ∧ RelSt G St' ⟨env, b0, H.set i (g, .blk M f)⟩ a w' := fun hr' =>
    blk_ent (G := G) (s := ⟨env, b0, H⟩) i (m := M) (F := f) hH hMN hg (fun j hj => CEnt.refl _) St a _ hr'
  have he := evR hr hx
  have fin : ∀ {w'}, (execOp a.eval o).run P w = .ok (.value (.tuple #[])) w' → KeepS St w w' → (∃ St', (∀ b, St b → St' b) ∧ RelSt G St' ⟨env, b0, H.set i (g, .blk M f)⟩ a w') → o.wp P a w (fun a' w' => KeepS St w w' ∧ ∃ St', (∀ b, St b → St' b) ∧ ∃ s', K s' ∧ RelSt G St' s' a' w') Q := fun {w'} hrun hkeep ⟨St', hs, h⟩ => by
    unfold Oper.wp
    rw [hrun]
    refine ⟨hkeep, St', hs, _, hK, ?_⟩
    rw [hd]
    exact h
  cases g with
  | none =>
    obtain ⟨hn, e0⟩ := he
    refine fin (exec_clear ho ?_) (KeepS.refl _ _) (less hr)
    rw [e0]
    simp [Builtin.clear_, underlying, h1]
  | some b =>
    obtain ⟨cap, e0, h3, h4, cur, ty, zz, hh, hfit⟩ := he
    rcases Nat.eq_zero_or_pos n with hn | hn
    · subst hn
      refine fin (exec_clear ho ?_) (KeepS.refl _ _) (less hr)
      rw [e0]
      simp [Builtin.clear_, underlying, h1]
    · obtain ⟨fp, hp⟩ := id hr.hp
      obtain ⟨h00, cur', ty', hh', hle, hcell⟩ := hp.rep i (some b) _ hH
      rw [hh] at hh'
      cases hh'
      have hlen : (Builtin.zeroCells z.cells n).toList.length = n * k := by simp [Builtin.zeroCells, hzk]
      have hcap : off + n * k ≤ cur.size := by
        have := Nat.mul_le_mul_right k h3
        omega
      have hone : ∀ v ∈ (Builtin.zeroCells z.cells n).toList, v.oneCell' = true := fun v hv => by
        have hv' : v ∈ Builtin.zeroCells z.cells n := by simpa using hv
        obtain ⟨j, hj, e⟩ := Array.mem_iff_getElem.1 hv'
        rw [← e]
        have hlt : j % z.cells.size < z.cells.size := Nat.mod_lt _ (by omega)
        have := Array.all_eq_true.1 hz1 (j % z.cells.size) hlt
        simpa [Builtin.zeroCells, hlt] using this
      have hst := run_storeCells_at P b off ty (Builtin.zeroCells z.cells n).toList 0 cur w hh (by rw [hlen]; omega) hone
      simp only [Nat.add_zero] at hst
      obtain ⟨m, rfl⟩ : ∃ m, n = m + 1 := ⟨n - 1, by omega⟩
      refine fin (w' := w.setRow b (cur.toList.take off ++ (Builtin.zeroCells z.cells (m + 1)).toList ++ cur.toList.drop (off + (Builtin.zeroCells z.cells (m + 1)).toList.length)).toArray) (exec_clear ho ?_) (fun q hq => setRow_other w b q _ (fun e => (hp.own i b ((h00 b).2 rfl)).2.1 (e ▸ hq))) ?_
      · rw [e0]
        simp [Builtin.clear_, underlying, h1, zeroValue, typeInfo, hi, hz, hst]
      · refine ⟨St, fun _ h => h, hr.write hH hh ?_ ?_ fun j hj => ?_⟩
        · simp only [List.size_toArray, List.length_append, List.length_take, List.length_drop, Array.length_toList, hlen]; omega
        · simp only [List.size_toArray, List.length_append, List.length_take, List.length_drop, Array.length_toList, hlen]; omega
        · rw [row_at cur _ off (by rw [hlen]; omega), if_neg (by omega)]
          exact hcell j (by omega)
end
end Am
end Go.Proofs.YtdfjiodkmhpfkaaDoor

/- The abstract walk: ranges over functions: a loop's record, a round, a call of yield, the statement. -/
namespace Go.Proofs.YtdfjiodkmhpfkaaDoor
set_option linter.unusedVariables false
open Go.RowKit
namespace Am
/-- a loop's record -/
def recOP (r : Loop) : OP where
  p al St w g F := (∀ b, F b ↔ b = g) ∧ w.heap[g]? = some (.loop r)
  st := fun he hs hF ⟨h1, h2⟩ => ⟨h1, (hF _ ((h1 _).2 rfl)).trans h2⟩
/-- what a loop's rounds begin with: how many slots, what they hold, yield's parameters, the code -/
structure RdC where
  N : Nat
  env : List (Nat × CV)
  b : Nat → CV
  ps : Array Tmp
  assign : Code
  body : Code
def mkRec (fn : FuncId) (tmps : Array Value) (L : RdC) (D : Nat) (sp : LoopState × Option Code) : Loop := { state := sp.1, pending := sp.2, fn, tmps, params := L.ps, assign := L.assign, body := L.body, defers := D }
/-- a loop between two rounds (or behind its last): the caller's blocks, and the record -/
def rndOP {π : Type} (L : RdC) (sp : π → LoopState × Option Code) (HB : π → List (Option Nat × Res)) (φ : π → Prop) : OP where
  p al St w g F := ∃ (x : π) (fn : FuncId) (tmps : Array Value) (D : Nat), φ x ∧ tmps.size = L.N ∧ (∀ d, RepC al St w (look L.env L.b d) (tmps.getD d undef)) ∧ ∃ fp, Foot al St w F (HB x ++ [(some g, .obj (recOP (mkRec fn tmps L D (sp x))))]) fp
  st := fun he hs hF ⟨x, fn, tmps, D, h1, h2, h3, fp, h⟩ => ⟨x, fn, tmps, D, h1, h2, fun d => RepC.evo he hs _ _ (h3 d), fp, fun i g r hi => Res.rep_evo he hs (fun b hb => hF b ((h.all b).2 ⟨i, hb⟩)) (h.rep i g r hi), h.dis, h.out, h.all⟩

/-- a call of the yield of loop l -/
def ACY (gs : List Nat) (P : Program) (l : Nat) (H : List (Option Nat × Res)) (args : List CV) (Q : CV → List (Option Nat × Res) → Prop) : Prop :=
  ∀ al w St F0 (vals : Array Value), Entry gs al St F0 H w → vals.size = args.length → (∀ i, RepC al St w (fl args i) (vals.getD i undef)) →
    YieldAt (frd none) 0 P l vals w fun e w' => ∃ v r H' St', e = .returned v ∧ Q r H' ∧ RepC al St' w' r v ∧ Under F0 w w' ∧ (∀ b, St b → St' b) ∧ (∀ b, St' b → St b ∨ w.heap.size ≤ b ∨ F0 b) ∧ (∀ b, St' b → b < w'.heap.size) ∧ HRel al St' w' w.heap.size F0 H'
/-- yield goes on with J', or stops with Jx -/
def YQ (l : Nat) (J' Jx : OP) : CV → List (Option Nat × Res) → Prop := fun r H' => (r = .c (.bool true) ∧ H' = [(some l, .obj J')]) ∨ (r = .c (.bool false) ∧ H' = [(some l, .obj Jx)])

section
variable {P : Program} {G : Gh} {ops : Array Oper} {o : Oper} {s : AS} {K : AS → Prop} {env : List (Nat × CV)} {b0 : Nat → CV} {H : List (Option Nat × Res)} {R : Exit → AS → Prop}

/-- an operation that is carried out in the fence -/
def AMdI (P : Program) (G : Gh) (o : Oper) (s : AS) (K : AS → Prop) : Prop := ∀ a w, Rel G s a w → ∀ Q, o.wpIn (frd G.rd) 0 P a w (fun a' w' => ∃ s', K s' ∧ Rel G s' a' w') Q
theorem seq_mdI {r : List Oper} (hw : Wanted G ops o s true) (hy : G.yl = true) (h : AMdI P G o s (fun s' => ASeq P G ops r s' K)) : ASeq P G ops (o :: r) s K := fun a w hr Q hQ => by
  unfold wpSeq
  obtain ⟨St, hs⟩ := id hr
  rw [if_pos (hw St a w hs)]
  exact .inr ⟨hy, Oper.wpIn_mono (fun a' w' ⟨s', h1, h2⟩ => h1 a' w' h2 Q hQ) (h a w hr Q)⟩

theorem exec_yield {v : Operand} {l : Nat} {xs : Array Operand} {ats : Array TypeId} (ho : o.op = .call ⟨.value v, xs, ats⟩) (a : Act) (hv : a.eval v = .func (.yield l) #[] #[]) {w : World} {x : Next} (h : (Instr.yield l (xs.map a.eval)).run P w = .ok x w) :
    (execOp a.eval o).run P w = .ok x w := by
  simp [execOp, ho, resolve, hv, Deferred.ofValue, invoke, h]

/-- a call of yield: the block i is handed over, and one comes back in its place -/
theorem m_callY {v : Operand} {l : Nat} {xs : Array Operand} {ats : Array TypeId} {args : List CV} {Q : CV → List (Option Nat × Res) → Prop} {i d : Nat} {x0 : Option Nat × Res} (ho : o.op = .call ⟨.value v, xs, ats⟩) (hv : (⟨env, b0, H⟩ : AS).eval v = .c (.func (.yield l) #[] #[])) (hi : H[i]? = some x0) (hA : ACY G.gs P l [x0] args Q) (he : SEL G ⟨env, b0, H⟩ xs.toList args) (hd : o.dst = some d) (hN : Nat.blt d G.N = true)
    (hK : ∀ r H', Q r H' → ∃ x r', H' = [x] ∧ CEnt r r' ∧ K ⟨(d, r') :: env, b0, H.set i x⟩) : AMdI P G o ⟨env, b0, H⟩ K := fun a w ⟨St, hr⟩ Q' => by
  obtain ⟨h1, h2⟩ := args_se he hr
  obtain ⟨fp, hp⟩ := hr.hp
  have hlt : i < H.length := (List.getElem?_eq_some_iff.1 hi).1
  obtain ⟨g0, r0⟩ := x0
  have hent : Entry G.gs G.al St (fp i) [(g0, r0)] w := by
    refine ⟨hr.s3, hr.sn, hr.sg, ⟨fun j b => j = 0 ∧ fp i b, fun j g r hj => ?_, fun j l b hj hl => by omega, fun j b hj => ⟨(hp.own i b hj.2).1, (hp.own i b hj.2).2.1, .inr hj.2⟩, fun j hj b hb => by simp at hj; omega⟩, fun b hb => (hp.own i b hb).2.1⟩
    match j, hj with
    | 0, hj =>
      simp at hj
      obtain ⟨rfl, rfl⟩ := hj
      have e : (fun b => (0 : Nat) = 0 ∧ fp i b) = fp i := funext fun b => by simp
      show r0.rep G.al St w (fun b => (0 : Nat) = 0 ∧ fp i b) g0
      rw [e]
      exact hp.rep i g0 r0 hi
    | j + 1, hj => simp at hj
  obtain ⟨fn, tmps, assign, body, hy, hR⟩ := hA G.al w St _ _ hent h1 h2
  refine ⟨fun f _ => trivial, ?_⟩
  rw [Oper.semAt_eq _ _ _ (by rw [ho]; intro c e; cases e), exec_yield ho a (evC hr hv) hy]
  refine ⟨fun e => (by cases e), ?_⟩
  refine RoundIn.mono (F := frd none) (n := 0) hR ?_
  rintro e w' ⟨v, r, H', St', rfl, hq, hv, hu, h3, h4, h5, h6⟩
  obtain ⟨x, r', rfl, hce, hk⟩ := hK r H' hq
  refine ⟨_, hk, St', ?_⟩
  have h7 := (hr.afterH hp hlt hu h3 h4 h5 h6).put (dst := o.dst) (v := r') (x := v) (by intro d' hd'; rw [hd] at hd'; cases hd'; exact Nat.le_of_ble_eq_true hN) (hce _ _ _ _ hv)
  rw [hd] at h7 ⊢
  exact h7

/-! ### a round -/
def penv : List Tmp → List CV → List (Nat × CV) → List (Nat × CV)
  | p :: ps, c :: cs, env => penv ps cs ((p, c) :: env)
  | _, _, env => env
theorem penv_rep {al : List Addr} {St : Nat → Prop} {w : World} {b : Nat → CV} {N : Nat} : ∀ (ps : List Tmp) (cs : List CV) (vs : List Value) (env : List (Nat × CV)) (tmps : Array Value), tmps.size = N → (∀ d, RepC al St w (look env b d) (tmps.getD d undef)) → ps.length = cs.length → vs.length = cs.length → (∀ p ∈ ps, p < N) → (∀ i, i < cs.length → RepC al St w (fl cs i) (vs.getD i undef)) →
    ((ps.zip vs).foldl (fun t (p, v) => t.setIfInBounds p v) tmps).size = N ∧ ∀ d, RepC al St w (look (penv ps cs env) b d) (((ps.zip vs).foldl (fun t (p, v) => t.setIfInBounds p v) tmps).getD d undef)
  | [], cs, vs, env, tmps, h1, h2, _, _, _, _ => ⟨by simpa using h1, by simpa [penv] using h2⟩
  | p :: ps, [], vs, env, tmps, _, _, h3, _, _, _ => by simp at h3
  | p :: ps, c :: cs, [], env, tmps, _, _, _, h4, _, _ => by simp at h4
  | p :: ps, c :: cs, v :: vs, env, tmps, h1, h2, h3, h4, h5, h6 => by
    simp only [List.zip_cons_cons, List.foldl_cons, penv]
    refine penv_rep ps cs vs _ _ (by simpa using h1) (fun d => ?_) (by simpa using h3) (by simpa using h4) (fun q hq => h5 q (List.mem_cons_of_mem _ hq)) (fun i hi => ?_)
    · by_cases hpd : p = d
      · subst hpd
        rw [look_same]
        have h0 := h6 0 (by simp)
        have hlt : p < tmps.size := by rw [h1]; exact h5 p (List.mem_cons_self ..)
        simpa [hlt, fl] using h0
      · rw [look_other _ _ _ hpd]
        have := h2 d
        simpa [Array.getElem?_setIfInBounds_ne hpd] using this
    · have := h6 (i + 1) (by simp; omega)
      simpa [fl] using this

theorem set_last {α : Type} (l : List α) (x y : α) : (l ++ [x]).set l.length y = l ++ [y] := by
  rw [List.set_append_right _ _ (Nat.le_refl _)]; simp
theorem get_last {α : Type} (l : List α) (x : α) : (l ++ [x])[l.length]? = some x := by simp

/-- the blocks and the record, as one -/
theorem HRel.packR {al : List Addr} {St : Nat → Prop} {w : World} {base : Nat} {F0 : Nat → Prop} {π : Type} {L : RdC} {sp : π → LoopState × Option Code} {HB : π → List (Option Nat × Res)} {φ : π → Prop} {l : Nat} {x : π} {fn : FuncId} {tmps : Array Value} {D : Nat} (hx : φ x) (hs : tmps.size = L.N) (he : ∀ d, RepC al St w (look L.env L.b d) (tmps.getD d undef))
    (h : HRel al St w base F0 (HB x ++ [(some l, .obj (recOP (mkRec fn tmps L D (sp x))))])) : HRel al St w base F0 [(some l, .obj (rndOP L sp HB φ))] := by
  obtain ⟨fp, hp⟩ := h
  refine ⟨fun j b => j = 0 ∧ ∃ i, fp i b, fun j g r hj => ?_, fun i j b hi hj => by omega, fun i b hi => ?_, fun i hi b hb => by simp at hi; omega⟩
  · match j, hj with
    | 0, hj =>
      simp at hj
      obtain ⟨rfl, rfl⟩ := hj
      exact ⟨x, fn, tmps, D, hx, hs, he, fp, fun i g r hi => hp.rep i g r hi, hp.dis, hp.out, fun b => by simp⟩
    | j + 1, hj => simp at hj
  · obtain ⟨_, k, hk⟩ := hi
    exact hp.own k b hk

/-- how a round's body may be left: off its end; by ret, by an exit -/
def roundR {π q : Type} (l : Nat) (R1 : OP) (HB : π → List (Option Nat × Res)) (φ' : π → Prop) (HX : q → List (Option Nat × Res)) (χ : Code → q → Prop) : Exit → AS → Prop
  | .normal, s => ∃ x, φ' x ∧ (HB x).length + 1 ≤ s.H.length ∧ HEnt (s.H.take ((HB x).length + 1)) (HB x ++ [(some l, .obj R1)])
  | .ret, s => ∃ x, χ .ret x ∧ (HX x).length + 1 ≤ s.H.length ∧ HEnt (s.H.take ((HX x).length + 1)) (HX x ++ [(some l, .obj R1)])
  | .exit id, s => ∃ x, χ (.exit id) x ∧ (HX x).length + 1 ≤ s.H.length ∧ HEnt (s.H.take ((HX x).length + 1)) (HX x ++ [(some l, .obj R1)])
  | _, _ => False
/-- the assignment to the loop's left sides, then the body -/
def assignR (P : Program) (G : Gh) (body : Code) (B : List (Option Nat × Res)) (l : Nat) (R0 R1 : OP) (RE : Exit → AS → Prop) : Exit → AS → Prop
  | .normal, s => ∃ env b, s = ⟨env, b, B ++ [(some l, .obj R0)]⟩ ∧ ACode P G body ⟨env, b, B ++ [(some l, .obj R1)]⟩ RE
  | _, _ => False

theorem RelSt.take_h {St : Nat → Prop} {a : Act} {w : World} {B : List (Option Nat × Res)} (h : RelSt G St s a w) (hl : B.length ≤ s.H.length) (he : HEnt (s.H.take B.length) B) : RelSt G St ⟨s.env, s.b, B⟩ a w := by
  have h1 := h.hp.pick (List.range B.length) (range_nodup _) (pickL_range _ _ hl)
  exact ⟨h.df, h.sz, h.env, h.un, h.s1, h.s2, h.s3, h1.hent he, h.sn, h.sg⟩

/-- the record turns -/
theorem RelSt.turnRec {St : Nat → Prop} {a : Act} {w : World} {B : List (Option Nat × Res)} {l : Nat} {r r' : Loop} (h : RelSt G St ⟨env, b0, B ++ [(some l, .obj (recOP r))]⟩ a w) :
    w.heap[l]? = some (.loop r) ∧ RelSt G St ⟨env, b0, B ++ [(some l, .obj (recOP r'))]⟩ a (w.putObj l (.loop r')) := by
  obtain ⟨fp, hp⟩ := id h.hp
  obtain ⟨hF, hg⟩ := hp.rep B.length (some l) _ (get_last _ _)
  have hlt : l < w.heap.size := (Array.getElem?_eq_some_iff.1 hg).1
  refine ⟨hg, ?_⟩
  have := h.turnObj (i := B.length) (g := l) (p := recOP r) (p' := recOP r') (w' := w.putObj l (.loop r')) (get_last _ _) (fun F h => h.1) (fun cur t z he => by rw [hg] at he; cases he) rfl rfl rfl (by simp) (fun b hb => World.putObj_heap_other hb) ⟨fun b => Iff.rfl, World.putObj_heap_same hlt⟩
  rw [set_last] at this
  exact this

theorem round_post {π : Type} {gs : List Nat} {al : List Addr} {l : Nat} {w W : World} {F0 St0 St : Nat → Prop} {N : Nat} {L : RdC} {sp : π → LoopState × Option Code} {HB : π → List (Option Nat × Res)} {φ : π → Prop} {env0 : List (Nat × CV)} {b : Nat → CV} {x : π} {a : Act} {fn : FuncId} {tmps : Array Value} {D : Nat} {jump : Option Code} {Q : CV → List (Option Nat × Res) → Prop}
    (hent : ∀ b, F0 b → ¬ St0 b) (h3 : ∀ b, St0 b → b < w.heap.size) (hx : φ x) (hs : tmps.size = L.N) (henv : ∀ d, RepC al St0 w (look L.env L.b d) (tmps.getD d undef))
    (hsp : sp x = (if jump.isNone then .ready else .done, jump))
    (hr : RelSt ⟨gs, al, w, F0, St0, N, some l, false⟩ St ⟨env0, b, HB x ++ [(some l, .obj (recOP { mkRec fn tmps L D (.ready, none) with state := .busy }))]⟩ a W) (hQ : Q (.c (.bool jump.isNone)) [(some l, .obj (rndOP L sp HB φ))]) :
    ∃ v w', (Instr.endRound l jump).run P W = .ok v w' ∧ ∃ v' r H' St', Ending.returned v = .returned v' ∧ Q r H' ∧ RepC al St' w' r v' ∧ Under F0 w w' ∧ (∀ b, St0 b → St' b) ∧ (∀ b, St' b → St0 b ∨ w.heap.size ≤ b ∨ F0 b) ∧ (∀ b, St' b → b < w'.heap.size) ∧ HRel al St' w' w.heap.size F0 H' := by
  obtain ⟨hg, hr2⟩ := hr.turnRec (r' := mkRec fn tmps L D (sp x))
  refine ⟨_, _, run_endRound jump hg, .bool jump.isNone, _, _, St, rfl, hQ, rfl, ?_⟩
  have e : ({ { mkRec fn tmps L D (.ready, none) with state := LoopState.busy } with state := if jump.isNone then LoopState.ready else LoopState.done, pending := jump } : Loop) = mkRec fn tmps L D (sp x) := by rw [hsp]; rfl
  rw [e]
  have hev : Evo St0 w (W.putObj l (.loop (mkRec fn tmps L D (sp x)))) := ⟨fun b cur t z hb hc => (hr2.un.block b (h3 b hb) (fun hf => hent b hf hb)).trans hc, hr2.un.sh⟩
  exact ⟨hr2.un, hr2.s1, hr2.s2, hr2.s3, HRel.packR hx hs (fun d => RepC.evo hev hr2.s1 _ _ (henv d)) hr2.hp⟩

/-- yield's contract, by a walk through the round -/
theorem acy_round {gs : List Nat} {π q : Type} {l : Nat} {L : RdC} {HB : π → List (Option Nat × Res)} {φ φ' : π → Prop} {HX : q → List (Option Nat × Res)} {χ : Code → q → Prop} {args : List CV} (hn : L.ps.toList.length = args.length) (hps : ∀ p ∈ L.ps.toList, p < L.N)
    (hb : ∀ (al : List Addr) (w0 : World) (F0 St0 : Nat → Prop) (R0 R1 : OP) (x : π), φ x → ACode P ⟨gs, al, w0, F0, St0, L.N, some l, false⟩ L.assign ⟨penv L.ps.toList args L.env, L.b, HB x ++ [(some l, .obj R0)]⟩ (assignR P ⟨gs, al, w0, F0, St0, L.N, some l, false⟩ L.body (HB x) l R0 R1 (roundR l R1 HB φ' HX χ))) :
    ACY gs P l [(some l, .obj (rndOP L (fun _ => (.ready, none)) HB φ))] args (YQ l (rndOP L (fun _ => (.ready, none)) HB φ') (rndOP L (fun x : Code × q => (.done, some x.1)) (fun x => HX x.2) (fun x => χ x.1 x.2))) := by
  intro al w St F0 vals he hvs hv
  obtain ⟨fp, hp⟩ := he.hp
  obtain ⟨x, fn, tmps, D, hx, hsz, henv, fq, hf⟩ := hp.rep 0 (some l) _ rfl
  obtain ⟨hFl, hg⟩ := hf.rep (HB x).length (some l) _ (get_last _ _)
  have hlen : L.ps.size = args.length := by simpa using hn
  have hy := run_yield (P := P) (args := vals) hg (by rw [hvs]; exact hlen.symm)
  refine ⟨_, _, _, _, hy, roundIn_of_wpIn trivial ?_⟩
  have hpe := penv_rep (al := al) (St := St) (w := w) (b := L.b) (N := L.N) L.ps.toList args vals.toList L.env tmps hsz henv hn (by simpa using hvs) hps (fun i hi => by
    have := hv i
    simpa using this)
  have hfold : (L.ps.toList.zip vals.toList).foldl (fun t (p, v) => t.setIfInBounds p v) tmps = ((mkRec fn tmps L D (.ready, none)).params.zip vals).foldl (fun tmps (t, a) => tmps.setIfInBounds t a) (mkRec fn tmps L D (.ready, none)).tmps := by
    rw [← Array.foldl_toList, Array.toList_zip]
    rfl
  rw [hfold] at hpe
  have hrel : RelSt ⟨gs, al, w, F0, St, L.N, some l, false⟩ St ⟨penv L.ps.toList args L.env, L.b, HB x ++ [(some l, .obj (recOP (mkRec fn tmps L D (.ready, none))))]⟩ { tmps := ((mkRec fn tmps L D (.ready, none)).params.zip vals).foldl (fun tmps (t, a) => tmps.setIfInBounds t a) (mkRec fn tmps L D (.ready, none)).tmps, defers := [] } w :=
    ⟨DefOk.none _ _ _, hpe.1, hpe.2, Under.refl _ _, fun _ h => h, fun _ h => .inl h, he.s3, ⟨fq, fun i g r hi => hf.rep i g r hi, hf.dis, fun i b hi => hp.own 0 b ((hf.all b).2 ⟨i, hi⟩), hf.out⟩, he.sn, he.sg⟩
  refine (hb al w F0 St (recOP (mkRec fn tmps L D (.ready, none))) (recOP { mkRec fn tmps L D (.ready, none) with state := .busy }) x hx) _ _ ⟨St, hrel⟩ _ ?_
  intro e s1 a1 w1 h1 h2
  cases e with
  | normal =>
    obtain ⟨env1, b1, rfl, hbody⟩ := h1
    obtain ⟨St1, hr1⟩ := h2
    obtain ⟨hg1, hr2⟩ := hr1.turnRec (r' := { mkRec fn tmps L D (.ready, none) with state := .busy })
    refine ⟨_, run_beginRound hg1 rfl, hbody a1 _ ⟨St1, hr2⟩ _ ?_⟩
    intro e s2 a2 w2 h3 ⟨St2, hr3⟩
    cases e with
    | normal =>
      obtain ⟨x', hx', hl', hh'⟩ := h3
      have hr4 := hr3.take_h (B := HB x' ++ [(some l, .obj (recOP { mkRec fn tmps L D (.ready, none) with state := .busy }))]) (by simpa using hl') (by simpa using hh')
      exact round_post (jump := none) he.f0 he.s3 hx' hsz henv rfl hr4 (.inl ⟨rfl, rfl⟩)
    | ret =>
      obtain ⟨x', hx', hl', hh'⟩ := h3
      have hr4 := hr3.take_h (B := HX x' ++ [(some l, .obj (recOP { mkRec fn tmps L D (.ready, none) with state := .busy }))]) (by simpa using hl') (by simpa using hh')
      exact round_post (x := (Code.ret, x')) (HB := fun x : Code × q => HX x.2) (φ := fun x => χ x.1 x.2) (sp := fun x : Code × q => (.done, some x.1)) (jump := some .ret) he.f0 he.s3 hx' hsz henv rfl hr4 (.inr ⟨rfl, rfl⟩)
    | exit id =>
      obtain ⟨x', hx', hl', hh'⟩ := h3
      have hr4 := hr3.take_h (B := HX x' ++ [(some l, .obj (recOP { mkRec fn tmps L D (.ready, none) with state := .busy }))]) (by simpa using hl') (by simpa using hh')
      exact round_post (x := (Code.exit id, x')) (HB := fun x : Code × q => HX x.2) (φ := fun x => χ x.1 x.2) (sp := fun x : Code × q => (.done, some x.1)) (jump := some (.exit id)) he.f0 he.s3 hx' hsz henv rfl hr4 (.inr ⟨rfl, rfl⟩)
    | _ => exact h3.elim
  | _ => exact h1.elim
end
end Am
end Go.Proofs.YtdfjiodkmhpfkaaDoor

/- The abstract walk: the statement 'for .. := range f'. -/
namespace Go.Proofs.YtdfjiodkmhpfkaaDoor
set_option linter.unusedVariables false
open Go.RowKit
namespace Am
section
variable {P : Program} {G : Gh} {s : AS} {R : Exit → AS → Prop}

/-- what an iterator does: it hands each of m things to yield, till yield says no -/
def IterC (gs : List Nat) (P : Program) (f : FuncId) (HI : List (Option Nat × Res)) (capt : List CV) (m : Nat) (E : Nat → List CV) : Prop :=
  ∀ (l : Nat) (J : Nat → OP) (Jx : OP), (∀ k, k < m → ACY gs P l [(some l, .obj (J k))] (E k) (YQ l (J (k + 1)) Jx)) →
    AC gs P f (HI ++ [(some l, .obj (J 0))]) (.c (.func (.yield l) #[] #[]) :: capt) fun _ H' => H' = [(some l, .obj (J m))] ∨ H' = [(some l, .obj Jx)]

theorem pickL_append (H : List (Option Nat × Res)) (a b : List Nat) : pickL H (a ++ b) = pickL H a ++ pickL H b := by simp [pickL]

theorem code_range {fi n : Nat} {fv : Nat → CV} {g : Operand} {ps : Array Tmp} {assign body : Code} {π q : Type} (m : Nat) (E : Nat → List CV) (HI : List (Option Nat × Res)) (HB : π → List (Option Nat × Res)) (φ : Nat → π → Prop) (HX : q → List (Option Nat × Res)) (χ : Code → q → Prop) (p0 : π) (li : List Nat)
    (hrd : G.rd = none) (hg : s.eval g = .fn fi n fv) (hc : calleeB P fi = true) (hit : IterC G.gs P fi HI ((List.range n).map fv) m E) (h0 : φ 0 p0) (hnd : li.Nodup) (hpick : pickL s.H li = HI ++ HB p0)
    (hps : ∀ k, k < m → ps.toList.length = (E k).length) (hpN : (ps.toList.all fun p => Nat.blt p G.N) = true)
    (hround : ∀ k, k < m → ∀ (l : Nat) (al : List Addr) (w0 : World) (F0 St0 : Nat → Prop) (R0 R1 : OP) (x : π), φ k x → ACode P ⟨G.gs, al, w0, F0, St0, G.N, some l, false⟩ assign ⟨penv ps.toList (E k) s.env, s.b, HB x ++ [(some l, .obj R0)]⟩ (assignR P ⟨G.gs, al, w0, F0, St0, G.N, some l, false⟩ body (HB x) l R0 R1 (roundR l R1 HB (φ (k + 1)) HX χ)))
    (hdone : ∀ x, φ m x → R .normal ⟨s.env, s.b, HB x⟩) (hjump : ∀ c x, χ c x → (c = .ret ∧ R .ret ⟨s.env, s.b, HX x⟩) ∨ ∃ id, c = .exit id ∧ R (.exit id) ⟨s.env, s.b, HX x⟩) : ACode P G (.rangeFunc g ps assign body) s R := fun a w ⟨St, hr⟩ Q hQ => by
  obtain ⟨cs, hcs, hcn, hfv⟩ := evR hr hg
  rw [hrd]
  refine wpIn_rangeFunc fun fn _ => ?_
  obtain ⟨L, hL⟩ : ∃ L : RdC, L = ⟨G.N, s.env, s.b, ps, assign, body⟩ := ⟨_, rfl⟩
  obtain ⟨w1, hw1⟩ : ∃ w1, w1 = (w.alloc (.deferred (some []))).alloc (.loop (mkRec fn a.tmps L w.heap.size (.ready, none))) := ⟨_, rfl⟩
  have hb1 : Below w.heap.size w w1 := by rw [hw1]; exact ((Below.refl _ w).alloc (Nat.le_refl _) _).alloc (by simp) _
  have hsz1 : w1.heap.size = w.heap.size + 2 := by rw [hw1]; simp
  have hL1 : w1.heap[w.heap.size + 1]? = some (.loop (mkRec fn a.tmps L w.heap.size (.ready, none))) := by
    rw [hw1]; have := World.alloc_heap_new (w.alloc (.deferred (some []))) (.loop (mkRec fn a.tmps L w.heap.size (.ready, none))); rwa [World.size_alloc] at this
  have hD1 : w1.heap[w.heap.size]? = some (.deferred (some [])) := by
    rw [hw1]; exact (Below.heap_alloc _ _ _ (by simp)).trans (World.alloc_heap_new w _)
  -- the blocks that are handed over
  obtain ⟨fp, hp⟩ := hr.hp.pick li hnd hpick
  have hev1 : Evo St w w1 := Evo.of_below hb1 hr.s3
  let l := w.heap.size + 1
  let D := w.heap.size
  let St1 : Nat → Prop := fun b => St b ∨ b = D
  let F1 : Nat → Prop := fun b => (∃ i, fp i b) ∨ b = l
  have hfl : ∀ i b, fp i b → b < D := fun i b hi => (hp.own i b hi).1
  have hst1 : ∀ b, St b → St1 b := fun _ h => .inl h
  have hrep : ∀ (i : Nat) (g : Option Nat) (r : Res), (HI ++ HB p0)[i]? = some (g, r) → r.rep G.al St1 w1 (fp i) g := fun i g r hi => Res.rep_evo hev1 hst1 (fun b hF => hb1.block b (hp.own i b hF).1) (hp.rep i g r hi)
  have hrec : Res.rep G.al St1 w1 (fun b => b = l) (some l) (.obj (recOP (mkRec fn a.tmps L D (.ready, none)))) := ⟨fun b => Iff.rfl, hL1⟩
  have henv1 : ∀ d, RepC G.al St1 w1 (look s.env s.b d) (a.tmps.getD d undef) := fun d => RepC.evo hev1 hst1 _ _ (hr.env d)
  have hent : Entry G.gs G.al St1 F1 (HI ++ [(some l, .obj (rndOP L (fun _ => (.ready, none)) HB (φ 0)))]) w1 := by
    refine ⟨fun b hb => ?_, (hr.ext hb1).sn, ⟨fun g hg => .inl (hr.sg.1 g hg), fun x hx => .inl (hr.sg.2 x hx)⟩, ⟨fun i b => (i < HI.length ∧ fp i b) ∨ (i = HI.length ∧ (b = l ∨ ∃ j, HI.length ≤ j ∧ fp j b)), fun i g r hi => ?_, fun i j b hi hj => ?_, fun i b hi => ?_, fun i hi b hb => ?_⟩, fun b hb => ?_⟩
    · rcases hb with hb | rfl
      · exact Nat.lt_of_lt_of_le (hr.s3 b hb) hb1.size
      · show w.heap.size < _; omega
    · by_cases h1 : i < HI.length
      · rw [List.getElem?_append_left h1] at hi
        have e : (fun b => (i < HI.length ∧ fp i b) ∨ (i = HI.length ∧ (b = l ∨ ∃ j, HI.length ≤ j ∧ fp j b))) = fp i := funext fun b => propext ⟨fun h => h.elim (fun h => h.2) (fun h => by omega), fun h => .inl ⟨h1, h⟩⟩
        show r.rep G.al St1 w1 (fun b => (i < HI.length ∧ fp i b) ∨ (i = HI.length ∧ (b = l ∨ ∃ j, HI.length ≤ j ∧ fp j b))) g
        rw [e]
        exact hrep i g r (by rw [List.getElem?_append_left h1]; exact hi)
      · have h2 : i = HI.length := by
          have := (List.getElem?_eq_some_iff.1 hi).1
          simp at this
          omega
        subst h2
        simp at hi
        obtain ⟨rfl, rfl⟩ := hi
        refine ⟨p0, fn, a.tmps, D, h0, by rw [hL]; exact hr.sz, by rw [hL]; exact henv1, fun j b => if j < (HB p0).length then fp (HI.length + j) b else j = (HB p0).length ∧ b = l, fun j g r hj => ?_, fun i j b hi hj => ?_, fun j hj b hb => ?_, fun b => ⟨fun hb => ?_, fun ⟨j, hj⟩ => ?_⟩⟩
        · by_cases h3 : j < (HB p0).length
          · rw [List.getElem?_append_left h3] at hj
            simp only [h3, if_true]
            exact hrep _ g r (by rw [List.getElem?_append_right (by omega), Nat.add_sub_cancel_left]; exact hj)
          · have h4 : j = (HB p0).length := by
              have := (List.getElem?_eq_some_iff.1 hj).1
              simp at this
              omega
            subst h4
            simp at hj
            obtain ⟨rfl, rfl⟩ := hj
            have e : (fun b => if (HB p0).length < (HB p0).length then fp (HI.length + (HB p0).length) b else (HB p0).length = (HB p0).length ∧ b = l) = fun b => b = l := funext fun b => by simp
            show Res.rep G.al St1 w1 (fun b => if (HB p0).length < (HB p0).length then fp (HI.length + (HB p0).length) b else (HB p0).length = (HB p0).length ∧ b = l) _ _
            rw [e]
            exact hrec
        · by_cases h3 : i < (HB p0).length <;> by_cases h4 : j < (HB p0).length <;> simp only [h3, h4, if_true, if_false] at hi hj
          · have := hp.dis _ _ b hi hj; omega
          · have := hfl _ b hi; obtain ⟨_, rfl⟩ := hj; simp only [l, D] at this; omega
          · have := hfl _ b hj; obtain ⟨_, rfl⟩ := hi; simp only [l, D] at this; omega
          · omega
        · have h3 : ¬ j < (HB p0).length := by simp at hj; omega
          simp only [h3, if_false] at hb
          simp at hj; omega
        · rcases hb with ⟨h5, _⟩ | ⟨_, rfl | ⟨j, hj, hF⟩⟩
          · omega
          · exact ⟨(HB p0).length, by simp⟩
          · refine ⟨j - HI.length, ?_⟩
            have h5 : j < (HI ++ HB p0).length := hp.len hF
            rw [if_pos (by simp at h5; omega), show HI.length + (j - HI.length) = j by omega]
            exact hF
        · by_cases h3 : j < (HB p0).length
          · simp only [h3, if_true] at hj
            exact .inr ⟨rfl, .inr ⟨_, by omega, hj⟩⟩
          · simp only [h3, if_false] at hj
            exact .inr ⟨rfl, .inl hj.2⟩
    · rcases hi with ⟨h1, h2⟩ | ⟨h1, h2⟩ <;> rcases hj with ⟨h3, h4⟩ | ⟨h3, h4⟩
      · exact hp.dis i j b h2 h4
      · rcases h4 with rfl | ⟨k, hk, h4⟩
        · have := hfl _ _ h2; simp only [l, D] at this; omega
        · have := hp.dis _ _ b h2 h4; omega
      · rcases h2 with rfl | ⟨k, hk, h2⟩
        · have := hfl _ _ h4; simp only [l, D] at this; omega
        · have := hp.dis _ _ b h2 h4; omega
      · omega
    · have hb : b = l ∨ ∃ j, fp j b := by
        rcases hi with ⟨_, h2⟩ | ⟨_, h2 | ⟨j, _, h2⟩⟩
        · exact .inr ⟨_, h2⟩
        · exact .inl h2
        · exact .inr ⟨j, h2⟩
      rcases hb with rfl | ⟨j, hj⟩
      · refine ⟨by simp only [l]; omega, fun hs => ?_, .inr (.inr rfl)⟩
        rcases hs with hs | hs
        · have := hr.s3 _ hs; simp only [l] at this; omega
        · simp only [l, D] at hs; omega
      · obtain ⟨k1, k2, k3⟩ := hp.own j b hj
        refine ⟨by omega, fun hs => ?_, .inr (.inl ⟨j, hj⟩)⟩
        rcases hs with hs | hs
        · exact k2 hs
        · simp only [D] at hs; omega
    · simp at hi
      rcases hb with ⟨h1, _⟩ | ⟨h1, _⟩ <;> omega
    · intro hs
      rcases hb with ⟨j, hj⟩ | rfl
      · obtain ⟨k1, k2, k3⟩ := hp.own j b hj
        rcases hs with hs | hs
        · exact k2 hs
        · simp only [D] at hs; omega
      · rcases hs with hs | hs
        · have := hr.s3 _ hs; simp only [l] at this; omega
        · simp only [l, D] at hs; omega
  have hround' : ∀ k, k < m → ACY G.gs P l [(some l, .obj (rndOP L (fun _ => (.ready, none)) HB (φ k)))] (E k) (YQ l (rndOP L (fun _ => (.ready, none)) HB (φ (k + 1))) (rndOP L (fun x : Code × q => (.done, some x.1)) (fun x => HX x.2) (fun x => χ x.1 x.2))) := fun k hk => by
    refine acy_round (by rw [hL]; exact hps k hk) (fun p hp => ?_) (fun al w0 F0 St0 R0 R1 x hx => ?_)
    · rw [hL] at hp ⊢
      exact Nat.le_of_ble_eq_true (List.all_eq_true.1 hpN p hp)
    · rw [hL]
      exact hround k hk l al w0 F0 St0 R0 R1 x hx
  have hA := hit l (fun k => rndOP L (fun _ => (.ready, none)) HB (φ k)) _ hround'
  have hvals : (#[.func (.yield l) #[] #[]] ++ cs : Array Value).size = (.c (.func (.yield l) #[] #[]) :: (List.range n).map fv : List CV).length := by simp [hcn]; omega
  have hcall := hA G.al w1 St1 F1 (#[.func (.yield l) #[] #[]] ++ cs) hent hvals (fun i => by
    cases i with
    | zero =>
      show (#[Value.func (.yield l) #[] #[]] ++ cs).getD 0 undef = _
      rw [Array.getD_eq_getD_getElem?, Array.getElem?_append_left (by simp)]
      rfl
    | succ i =>
      rw [fl, fl_get]
      by_cases hi : i < n
      · have := RepC.evo hev1 hst1 _ _ (hfv i hi)
        simp only [List.getD, List.getElem?_map, List.getElem?_range hi, Option.map_some, Option.getD_some, Array.getD_eq_getD_getElem?]
        rw [Array.getElem?_append_right (by simp)]
        simpa [Array.getD_eq_getD_getElem?] using this
      · simp only [List.getD, List.getElem?_eq_none (show ((List.range n).map fv).length ≤ i by simp; omega), Option.getD_none]
        trivial)
  have e0 : [({ target := .collected w.heap.size, args := #[] } : Deferred)] ++ a.defers = markD D :: a.defers := rfl
  refine ⟨l, [{ target := .collected w.heap.size, args := #[] }], w1, { target := .fn (.func fi) cs, args := #[.func (.yield l) #[] #[]] }, w1, fi, #[.func (.yield l) #[] #[]] ++ cs, w1, ?_, ?_, fun _ _ => trivial, ?_, fun h => (by cases h), ?_⟩
  · rw [hw1]
    have := run_enterLoop_outer (P := P) (w := w) fn a.tmps ps assign body
    rw [hL]
    exact this
  · simp only [resolve, hcs]
    simp [go_sem]
  · have := run_enter hc (#[.func (.yield l) #[] #[]] ++ cs) w1
    simp [invoke, go_sem, this]
  · refine CallsIn.mono (callsIn_frd.2 hcall) ?_
    rintro e w3 ⟨v, r', H', St', rfl, hq, _, hu, h3, h4, h5, h6⟩
    -- the loop's end, whichever
    have key : ∀ {γ : Type} {sp : γ → LoopState × Option Code} {HC : γ → List (Option Nat × Res)} {ψ : γ → Prop}, H' = [(some l, .obj (rndOP L sp HC ψ))] → (∀ x, (sp x).1 ≠ .busy) → ∃ x : γ, ψ x ∧ ∃ w4, (Instr.endLoop l).run P w3 = .ok (sp x).2 w4 ∧ Rel G ⟨s.env, s.b, HC x⟩ { a with defers := [{ target := .collected w.heap.size, args := #[] }] ++ a.defers } w4 := by
      intro γ sp HC ψ hH hbusy
      subst hH
      obtain ⟨fz, hz⟩ := h6
      obtain ⟨x, fn', tmps', D', hx, _, _, fq, hf⟩ := hz.rep 0 (some l) _ rfl
      obtain ⟨hFl, hgl⟩ := hf.rep (HC x).length (some l) _ (get_last _ _)
      have hlt : l < w3.heap.size := (Array.getElem?_eq_some_iff.1 hgl).1
      refine ⟨x, hx, _, run_endLoop hgl (hbusy x), St', ?_⟩
      obtain ⟨w4, hw4⟩ : ∃ w4, w4 = w3.putObj l (.loop { mkRec fn' tmps' L D' (sp x) with state := .exhausted }) := ⟨_, rfl⟩
      rw [← hw4]
      have hold : ∀ b, b ≠ l → w4.heap[b]? = w3.heap[b]? := fun b hb => by rw [hw4]; exact World.putObj_heap_other hb
      have hs4 : w4.heap.size = w3.heap.size := by rw [hw4]; simp
      have hf0 : ∀ b, F1 b → ¬ St1 b := hent.f0
      have hnl : ∀ b, St1 b → b ≠ l := fun b hb e => hf0 b (.inr e) hb
      have hkeep : ∀ b, St1 b → w4.heap[b]? = w1.heap[b]? := fun b hb => (hold b (hnl b hb)).trans (hu.block b (hent.s3 b hb) (fun hF => hf0 b hF hb))
      have hkeep0 : ∀ b, St b → w4.heap[b]? = w.heap[b]? := fun b hb => (hkeep b (.inl hb)).trans (hb1.block b (hr.s3 b hb))
      have hnc : ∀ cur t z, w3.heap[l]? ≠ some (.cells cur t z) := fun cur t z e => by rw [hgl] at e; cases e
      have hev : Evo St w w4 := ⟨fun b cur t z hb hc => (hkeep0 b hb).trans hc, fun b cur t z hc => by
        obtain ⟨c1, z1, k1, k2⟩ := hev1.sh b cur t z hc
        obtain ⟨c2, z2, k3, k4⟩ := hu.sh b c1 t z1 k1
        refine ⟨c2, z2, (hold b (fun e => ?_)).trans k3, k4.trans k2⟩
        rw [e] at k3
        exact hnc _ _ _ k3⟩
      have hev3 : Evo St' w3 w4 := ⟨fun b cur t z hb hc => (hold b (fun e => by rw [e] at hc; exact hnc _ _ _ hc)).trans hc, fun b cur t z hc => ⟨cur, z, (hold b (fun e => by rw [e] at hc; exact hnc _ _ _ hc)).trans hc, rfl⟩⟩
      refine ⟨?_, hr.sz, fun d => RepC.evo hev (fun b hb => h3 b (.inl hb)) _ _ (hr.env d), ⟨?_, ?_, ?_, ?_, fun k hk hF => ?_, fun b cur t z hc => ?_⟩, fun b hb => h3 b (.inl (hr.s1 b hb)), fun b hb => ?_, fun b hb => by rw [hs4]; exact h5 b hb, ⟨fun j b => j < (HC x).length ∧ fq j b, fun j g r hj => ?_, fun i j b hi hj => hf.dis i j b hi.2 hj.2, fun j b hj => ?_, fun j hj b hb => ?_⟩, ?_, ⟨fun g hg => h3 g (.inl (hr.sg.1 g hg)), fun y hy => h3 _ (.inl (hr.sg.2 y hy))⟩⟩
      · obtain ⟨Ds, k1, k2, k3⟩ := hr.df
        refine ⟨D :: Ds, by rw [e0, k1]; rfl, List.nodup_cons.2 ⟨fun hm => ?_, k2⟩, fun E hE => ?_⟩
        · have := (Array.getElem?_eq_some_iff.1 (k3 D hm).1.2).1
          simp only [D] at this
          omega
        · rcases List.mem_cons.1 hE with rfl | hE
          · refine ⟨⟨h3 _ (.inr rfl), (hkeep _ (.inr rfl)).trans hD1⟩, hr.un.size, fun hm => ?_, fun y hy e => ?_⟩
            · have := hr.sn.lt _ hm; simp only [D] at this; omega
            · have := hr.s3 _ (hr.sg.2 y hy); simp only [e, D] at this; omega
          · obtain ⟨⟨k4, k5⟩, k6⟩ := k3 E hE
            exact ⟨⟨h3 _ (.inl k4), (hkeep0 E k4).trans k5⟩, k6⟩
      · rw [hw4]; exact (hu.os.trans hb1.os).trans hr.un.os
      · rw [hw4]; exact (hu.tape.trans hb1.tape).trans hr.un.tape
      · rw [hw4]; exact (hu.output.trans hb1.output).trans hr.un.output
      · rw [hs4]; exact Nat.le_trans hr.un.size (Nat.le_trans hb1.size hu.size)
      · have hkw : k < w.heap.size := Nat.lt_of_lt_of_le hk hr.un.size
        refine (hold k (by simp only [l]; omega)).trans ((hu.block k (by omega) (fun hF1 => ?_)).trans ((hb1.block k hkw).trans (hr.un.block k hk hF)))
        rcases hF1 with ⟨i, hi⟩ | e
        · rcases (hp.own i k hi).2.2 with k1 | k1
          · omega
          · exact hF k1
        · simp only [l] at e; omega
      · obtain ⟨c1, z1, k1, k2⟩ := hr.un.sh b cur t z hc
        obtain ⟨c2, z2, k3, k4⟩ := hev.sh b c1 t z1 k1
        exact ⟨c2, z2, k3, k4.trans k2⟩
      · rcases h4 b hb with (hb | hb) | hb | hb
        · exact hr.s2 b hb
        · exact .inr (.inl (by simp only [D] at hb; have := hr.un.size; omega))
        · exact .inr (.inl (Nat.le_trans hr.un.size (by omega)))
        · rcases hb with ⟨i, hi⟩ | hb
          · exact .inr (hp.own i b hi).2.2
          · exact .inr (.inl (by simp only [l] at hb; have := hr.un.size; omega))
      · have hlt2 : j < (HC x).length := (List.getElem?_eq_some_iff.1 hj).1
        have e : (fun b => j < (HC x).length ∧ fq j b) = fq j := funext fun b => propext ⟨fun h => h.2, fun h => ⟨hlt2, h⟩⟩
        show r.rep G.al St' w4 (fun b => j < (HC x).length ∧ fq j b) g
        rw [e]
        refine Res.rep_evo hev3 (fun _ h => h) (fun b hF => hold b (fun eb => ?_)) (hf.rep j g r (by rw [List.getElem?_append_left hlt2]; exact hj))
        have := hf.dis j (HC x).length b hF ((hFl b).2 eb)
        omega
      · obtain ⟨k1, k2, k3⟩ := hz.own 0 b ((hf.all b).2 ⟨j, hj.2⟩)
        refine ⟨by omega, k2, ?_⟩
        rcases k3 with k3 | ⟨i, hi⟩ | k3
        · exact .inl (Nat.le_trans hr.un.size (by omega))
        · exact (hp.own i b hi).2.2
        · exact .inl (by simp only [l] at k3; have := hr.un.size; omega)
      · have hj : (HC x).length ≤ j := hj
        exact absurd hb.1 (by omega)
      · exact SentL.keep hr.sn (fun g hg => hkeep0 g (hr.sg.1 g hg)) (fun y hy => hkeep0 _ (hr.sg.2 y hy))
    rcases hq with hq | hq
    · obtain ⟨x, hx, w4, hend, hrel⟩ := key hq (fun _ => by simp)
      exact ⟨none, w4, hend, hQ .normal _ _ _ (hdone x hx) hrel⟩
    · obtain ⟨x, hx, w4, hend, hrel⟩ := key hq (fun _ => by simp)
      refine ⟨some x.1, w4, hend, ?_⟩
      rcases hjump _ _ hx with ⟨hc1, hR⟩ | ⟨id, hc1, hR⟩
      · show Code.wpIn _ _ _ x.1 _ _ _
        rw [hc1]
        exact wpIn_ret (hQ .ret _ _ _ hR hrel)
      · show Code.wpIn _ _ _ x.1 _ _ _
        rw [hc1]
        exact wpIn_exit (hQ (.exit id) _ _ _ hR hrel)
theorem assign_norm {body : Code} {B : List (Option Nat × Res)} {l : Nat} {R0 R1 : OP} {RE : Exit → AS → Prop} {env : List (Nat × CV)} {b : Nat → CV} (h : ACode P G body ⟨env, b, B ++ [(some l, .obj R1)]⟩ RE) : assignR P G body B l R0 R1 RE .normal ⟨env, b, B ++ [(some l, .obj R0)]⟩ := ⟨_, _, rfl, h⟩
theorem round_norm {π q : Type} {l : Nat} {R1 : OP} {HB : π → List (Option Nat × Res)} {φ' : π → Prop} {HX : q → List (Option Nat × Res)} {χ : Code → q → Prop} (x : π) (h1 : φ' x) (h2 : Nat.ble ((HB x).length + 1) s.H.length = true) (h3 : HEnt (s.H.take ((HB x).length + 1)) (HB x ++ [(some l, .obj R1)])) : roundR l R1 HB φ' HX χ .normal s := ⟨x, h1, Nat.le_of_ble_eq_true h2, h3⟩
theorem round_ret {π q : Type} {l : Nat} {R1 : OP} {HB : π → List (Option Nat × Res)} {φ' : π → Prop} {HX : q → List (Option Nat × Res)} {χ : Code → q → Prop} (x : q) (h1 : χ .ret x) (h2 : Nat.ble ((HX x).length + 1) s.H.length = true) (h3 : HEnt (s.H.take ((HX x).length + 1)) (HX x ++ [(some l, .obj R1)])) : roundR l R1 HB φ' HX χ .ret s := ⟨x, h1, Nat.le_of_ble_eq_true h2, h3⟩
theorem round_exit {π q : Type} {l : Nat} {R1 : OP} {HB : π → List (Option Nat × Res)} {φ' : π → Prop} {HX : q → List (Option Nat × Res)} {χ : Code → q → Prop} {id : Nat} (x : q) (h1 : χ (.exit id) x) (h2 : Nat.ble ((HX x).length + 1) s.H.length = true) (h3 : HEnt (s.H.take ((HX x).length + 1)) (HX x ++ [(some l, .obj R1)])) : roundR l R1 HB φ' HX χ (.exit id) s := ⟨x, h1, Nat.le_of_ble_eq_true h2, h3⟩
/-- own bytes as a text -/
theorem rd_convB1 {o : Oper} {t u e : TypeId} {x : Operand} {i n N : Nat} {g : Option Nat} {L : List UInt8} (ho : o.op = .convert t u x) (hx : s.eval x = .os i g 0 n 1) (hH : Holds s i g N (byF L)) (hn : n = L.length) (hN : n ≤ N) (h1 : P.underlying t = some (.slice e)) (h2 : P.underlying e = some (.int .u8)) (h3 : P.underlying u = some .string) : ARdO P G o s (strC L) :=
  rd_convBO L ho hx hH hn (by omega) (fun a _ => by rw [Nat.zero_add]; exact CEnt.refl _) h1 h2 h3
end
end Am
end Go.Proofs.YtdfjiodkmhpfkaaDoor

/- Functions that are handed over: what the library's functions on them share. -/
namespace Go.Proofs.YtdfjiodkmhpfkaaDoor
set_option linter.unusedVariables false
open Go.RowKit
namespace Am
/-- where the first one stands that has it; -1: none -/
def firstI {α : Type} (p : α → Bool) : List α → Int
  | [] => -1
  | x :: l => if p x = true then 0 else if firstI p l < 0 then -1 else firstI p l + 1
theorem firstI_bd {α : Type} (p : α → Bool) : ∀ l : List α, -1 ≤ firstI p l ∧ firstI p l < l.length
  | [] => by simp [firstI]
  | x :: l => by
    have := firstI_bd p l
    rw [firstI]
    rw [List.length_cons]
    split
    · omega
    split <;> omega
theorem firstI_neg {α : Type} {p : α → Bool} : ∀ {l : List α}, firstI p l < 0 ↔ l.all (fun x => !p x) = true
  | [] => by simp [firstI]
  | x :: l => by
    have ih := @firstI_neg α p l
    have := firstI_bd p l
    rw [firstI, List.all_cons]
    by_cases h : p x = true
    · simp [h]
    · rw [if_neg h]
      have hx : (!p x) = true := by simpa using h
      rw [hx, Bool.true_and, ← ih]
      split <;> omega
theorem firstI_none {α : Type} {p : α → Bool} {l : List α} (h : ∀ i (hi : i < l.length), p l[i] = false) : firstI p l = -1 := by
  have h1 : firstI p l < 0 := firstI_neg.2 (List.all_eq_true.2 fun x hx => by
    obtain ⟨i, hi, rfl⟩ := List.getElem_of_mem hx
    simp [h i hi])
  have := firstI_bd p l
  omega
theorem firstI_at {α : Type} {p : α → Bool} : ∀ {l : List α} (i : Nat) (hi : i < l.length), p l[i] = true → (∀ j (hj : j < i), p (l[j]'(by omega)) = false) → firstI p l = (i : Nat)
  | [], i, hi, _, _ => by simp at hi
  | x :: l, 0, hi, h, _ => by simp at h; simp [firstI, h]
  | x :: l, i + 1, hi, h, hb => by
    have h0 : p x = false := by simpa using hb 0 (by omega)
    have ih := @firstI_at α p l i (by simpa using hi) (by simpa using h) (fun j hj => by simpa using hb (j + 1) (by omega))
    rw [firstI, if_neg (by simp [h0]), ih, if_neg (by omega)]
    omega
theorem entL_refl : ∀ l : List CV, EntL l l
  | [] => .nil
  | c :: l => .cons (CEnt.refl c) (entL_refl l)
theorem entL_fn {c d : CV} (h : CEnt c d) (l : List CV) : EntL ([c] ++ l) (d :: l) := .cons h (entL_refl l)
theorem CEnt.fn0 {g : FuncId} {f : Nat → CV} : CEnt (.c (.func (.func g) #[] #[])) (.fn g 0 f) := fun al St w v h => ⟨#[], h, rfl, fun i hi => absurd hi (Nat.not_lt_zero i)⟩
theorem firstI_any {α : Type} (p : α → Bool) (l : List α) : decide (0 ≤ firstI p l) = l.any p := by
  have := @firstI_neg _ p l
  by_cases h : firstI p l < 0
  · have h2 := this.1 h
    rw [decide_eq_false (by omega)]
    symm
    rw [List.any_eq_false]
    intro x hx h3
    have := List.all_eq_true.1 h2 x hx
    rw [h3] at this
    exact Bool.noConfusion this
  · have h2 := mt this.2 h
    rw [decide_eq_true (by omega)]
    symm
    rw [List.any_eq_true]
    simpa using h2
theorem all_not_any {α : Type} (p : α → Bool) (l : List α) : (!l.any fun x => !p x) = l.all p := by
  induction l with
  | nil => rfl
  | cons a l ih => simp only [List.any_cons, List.all_cons, Bool.not_or, Bool.not_not, ih]
theorem CEnt.rp {n : Nat} {f g : Nat → CV} (h : ∀ j, j < n → CEnt (f j) (g j)) : CEnt (.rp n f) (.rp n g) := fun al St w v ⟨b, o, h1, h2, h3⟩ =>
  ⟨b, o, h1, h2, fun j hj => by
    obtain ⟨x, hx, hr⟩ := h3 j hj
    exact ⟨x, hx, h j hj al St w x hr⟩⟩
theorem CEnt.fn3 {k : FuncId} {f g : Nat → CV} (h0 : CEnt (f 0) (g 0)) (h1 : CEnt (f 1) (g 1)) (h2 : CEnt (f 2) (g 2)) : CEnt (.fn k 3 f) (.fn k 3 g) := fun al St w v ⟨cs, k1, k2, k3⟩ =>
  ⟨cs, k1, k2, fun i hi => match i, hi with
    | 0, hi => h0 al St w _ (k3 0 hi)
    | 1, hi => h1 al St w _ (k3 1 hi)
    | 2, hi => h2 al St w _ (k3 2 hi)⟩
theorem CEnt.fn1 {k : FuncId} {f g : Nat → CV} (h : CEnt (f 0) (g 0)) : CEnt (.fn k 1 f) (.fn k 1 g) := fun al St w v ⟨cs, h1, h2, h3⟩ =>
  ⟨cs, h1, h2, fun i hi => by
    obtain rfl : i = 0 := by omega
    exact h al St w _ (h3 0 hi)⟩
/-! ### pieces of lists of numbers -/
theorem is_piece (l : List Int) (p q : Nat) (hpq : p ≤ q) (hq : q ≤ l.length) : CEnt (.rs 1 (q - p) fun i j => inF l (p + i)) (isC ((l.take q).drop p)) := by
  refine CEnt.rs (by simp; omega) fun i j hi hj => CEnt.of_eq ?_
  simp [inF, List.getD, List.getElem?_take, show p + i < q by omega]
theorem is_to (l : List Int) (q : Nat) (hq : q ≤ l.length) : CEnt (.rs 1 (q - 0) fun i j => inF l (0 + i)) (isC (l.take q)) := by
  have := is_piece l 0 q (by omega) hq
  simpa using this
theorem is_from (l : List Int) (p : Nat) (hp : p ≤ l.length) : CEnt (.rs 1 (l.length - p) fun i j => inF l (p + i)) (isC (l.drop p)) := by
  have := is_piece l p l.length hp (Nat.le_refl _)
  rwa [List.take_length] at this
/-- a round's end inside a join's first part -/
theorem BLe.look2 {D : List Nat} {b0 b2 : Nat → CV} {env2 : List (Nat × CV)} (h : BLe D b0 b2) (h3 : (env2.all fun x => D.any (Nat.beq x.1)) = true) : BLe D b0 (look env2 b2) := BLe.nest (D2 := []) (env2 := env2) (b2 := b2) h rfl h3
end Am
end Go.Proofs.YtdfjiodkmhpfkaaDoor

/- The abstract walk: the short forms that printed scripts call; what is plain is found by each rule's own tactics. -/
namespace Go.Proofs.YtdfjiodkmhpfkaaDoor
set_option linter.unusedVariables false
open Go.RowKit
namespace Am
section
variable {P : Program} {G : Gh} {ops : Array Oper} {o : Oper} {s : AS} {r : List Oper} {K : AS → Prop} {R : Exit → AS → Prop} {Y : AS → Prop} {x y : Code} {env : List (Nat × CV)} {b0 : Nat → CV} {H : List (Option Nat × Res)}

/-! ### what a slot holds, as it was told -/
def jfz : CV → Option CV
  | .top => some .top
  | .c v => some (.c v)
  | .err k => some (.err k)
  | .agg n f => some (.agg n f)
  | .tup n f => some (.tup n f)
  | .rs k n f => some (.rs k n f)
  | .rp n f => some (.rp n f)
  | .os i g off n k => some (.os i g off n k)
  | .op i g off => some (.op i g off)
  | .fn g n f => some (.fn g n f)
  | .pv p => some (.pv p)
theorem jfz_eq {c v : CV} (h : jfz c = some v) : c = v := by cases c <;> (simp only [jfz, Option.some.injEq] at h; exact h)
def jlookO : List (Nat × CV) → Nat → Option CV
  | [], _ => none
  | (e, v) :: r, d => match Nat.beq e d with | true => some v | false => jlookO r d
theorem jlookO_some {b : Nat → CV} {d : Nat} {v : CV} : ∀ {env : List (Nat × CV)}, jlookO env d = some v → look env b d = v
  | (e, u) :: r, h => by
    unfold jlookO at h; unfold look
    cases hb : Nat.beq e d with
    | true => rw [hb] at h; exact Option.some.inj h
    | false => rw [hb] at h; exact jlookO_some h
theorem jlookO_none {b : Nat → CV} {d : Nat} : ∀ {env : List (Nat × CV)}, jlookO env d = none → look env b d = b d
  | [], _ => rfl
  | (e, u) :: r, h => by
    unfold jlookO at h; unfold look
    cases hb : Nat.beq e d with
    | true => rw [hb] at h; cases h
    | false => rw [hb] at h; exact jlookO_none h
theorem jev_t {d : Nat} {v : CV} (h : jlookO s.env d = some v) : s.eval (.tmp d) = v := jlookO_some h
theorem jev_l {D : List Nat} {e2 : List (Nat × CV)} {b2 : Nat → CV} {d : Nat} {v : CV} (h : jlookO env d = none) (hD : D.any (Nat.beq d) = false) (h2 : jlookO e2 d = some v) : (⟨env, lay D e2 b2, H⟩ : AS).eval (.tmp d) = v := by
  show look env (lay D e2 b2) d = v
  rw [jlookO_none h]
  unfold lay
  rw [hD]
  exact jlookO_some h2
theorem jev_f {x : Operand} {v : CV} (h : jfz (s.eval x) = some v) : s.eval x = v := jfz_eq h
def jflO : List CV → Nat → Option CV
  | [], _ => none
  | x :: _, 0 => some x
  | _ :: r, i + 1 => jflO r i
theorem jflO_eq : ∀ {l : List CV} {i : Nat} {v : CV}, jflO l i = some v → fl l i = v
  | x :: _, 0, v, h => Option.some.inj h
  | _ :: r, i + 1, v, h => jflO_eq (l := r) h

/-! ### types, by the program's table -/
def jslQ (P : Program) (t : TypeId) (m : Nat) : Bool := match P.underlying t with | some (.slice e) => (match (P.info? e).map (·.size) with | some k => Nat.beq k m | none => false) | _ => false
theorem jslQ_ok {t : TypeId} {m : Nat} (h : jslQ P t m = true) : ∃ e, P.underlying t = some (.slice e) ∧ (P.info? e).map (·.size) = some m := by
  unfold jslQ at h
  split at h
  · rename_i e he
    refine ⟨e, he, ?_⟩
    split at h
    · rename_i k hk; rw [hk, Nat.eq_of_beq_eq_true h]
    · cases h
  · cases h
def jslT (P : Program) (t : TypeId) : Bool := match P.underlying t with | some (.slice _) => true | _ => false
theorem jslT_ok {t : TypeId} (h : jslT P t = true) : ∃ e, P.underlying t = some (.slice e) := by
  unfold jslT at h
  split at h
  · rename_i e he; exact ⟨e, he⟩
  · cases h
def jarQ (P : Program) (t : TypeId) (n m : Nat) : Bool := match P.underlying t with | some (.array k e) => (match (P.info? e).map (·.size) with | some q => Nat.beq q m && Nat.beq k n | none => false) | _ => false
theorem jarQ_ok {t : TypeId} {n m : Nat} (h : jarQ P t n m = true) : ∃ e, P.underlying t = some (.array n e) ∧ (P.info? e).map (·.size) = some m := by
  unfold jarQ at h
  split at h
  · rename_i k e he
    split at h
    · rename_i q hq
      rw [Bool.and_eq_true] at h
      exact ⟨e, by rw [he, Nat.eq_of_beq_eq_true h.2], by rw [hq, Nat.eq_of_beq_eq_true h.1]⟩
    · cases h
  · cases h
def jptT (P : Program) (t : TypeId) : Bool := match P.underlying t with | some (.pointer _) => true | _ => false
theorem jptT_ok {t : TypeId} (h : jptT P t = true) : ∃ e, P.underlying t = some (.pointer e) := by
  unfold jptT at h
  split at h
  · rename_i e he; exact ⟨e, he⟩
  · cases h
def jbyT (P : Program) (t : TypeId) : Bool := match P.underlying t with | some (.slice e) => (match P.underlying e with | some (.int .u8) => true | _ => false) | _ => false
theorem jbyT_ok {t : TypeId} (h : jbyT P t = true) : ∃ e, P.underlying t = some (.slice e) ∧ P.underlying e = some (.int .u8) := by
  unfold jbyT at h
  split at h
  · rename_i e he
    split at h
    · rename_i h2; exact ⟨e, he, h2⟩
    · cases h
  · cases h
/-- a field of a struct: where it is, how many cells it has, whether it is a struct or an array -/
def jfdQ (P : Program) (t : TypeId) (i : Nat) : Option (Nat × Nat × Bool) := match P.underlying t with
  | some (.struct fs) => (match fs[i]? with | some fd => (match (P.info? fd.type).map (·.size), P.underlying fd.type with | some m, some _ => some (fd.offset, m, aggB P fd.type) | _, _ => none) | none => none)
  | _ => none
theorem jfdQ_ok {t : TypeId} {i q m : Nat} {b : Bool} (h : jfdQ P t i = some (q, m, b)) : ∃ fs fd d, P.underlying t = some (.struct fs) ∧ fs[i]? = some fd ∧ P.underlying fd.type = some d ∧ aggB P fd.type = b ∧ (P.info? fd.type).map (·.size) = some m ∧ fd.offset = q := by
  unfold jfdQ at h
  split at h
  · rename_i fs h1
    split at h
    · rename_i fd h2
      split at h
      · rename_i k d h3 h4
        simp only [Option.some.injEq, Prod.mk.injEq] at h
        exact ⟨fs, fd, d, h1, h2, h4, h.2.2, by rw [h3, h.2.1], h.1⟩
      · cases h
    · cases h
  · cases h
/-- a type's cells: how many; whether it is a struct or an array -/
def jtyQ (P : Program) (t : TypeId) (m : Nat) (b : Bool) : Bool := match (P.info? t).map (·.size), P.underlying t with | some k, some _ => Nat.beq k m && (aggB P t == b) | _, _ => false
theorem jtyQ_ok {t : TypeId} {m : Nat} {b : Bool} (h : jtyQ P t m b = true) : ∃ d, P.underlying t = some d ∧ aggB P t = b ∧ (P.info? t).map (·.size) = some m := by
  unfold jtyQ at h
  split at h
  · rename_i k d h1 h2
    rw [Bool.and_eq_true, beq_iff_eq] at h
    exact ⟨d, h2, h.2, by rw [h1, Nat.eq_of_beq_eq_true h.1]⟩
  · cases h
def jldQ (P : Program) (t : TypeId) : Bool := match P.underlying t with | some _ => !(aggB P t) | none => false
theorem jldQ_ok {t : TypeId} (h : jldQ P t = true) : ∃ d, P.underlying t = some d ∧ aggB P t = false := by
  unfold jldQ at h
  split at h
  · rename_i d hd; exact ⟨d, hd, by simpa using h⟩
  · cases h

/-! ### reads -/
def jmovO : Op → Option Operand | .move x => some x | .assign x => some x | _ => none
theorem jrm {x : Operand} {v : CV} (ho : jmovO o.op = some x := by exact rfl) (hv : s.eval x = v := by first | exact jev_t rfl | exact jev_l rfl rfl rfl | exact jev_f rfl) : ARd P G o s v := by
  unfold jmovO at ho
  split at ho
  · rename_i z hz; exact rd_move hz (by rw [Option.some.inj ho]; exact hv)
  · rename_i z hz; exact rd_assign hz (by rw [Option.some.inj ho]; exact hv)
  · cases ho
theorem jrpT {z x' y' : Operand} {v : CV} (ho : o.op = .pick z x' y' := by exact rfl) (hz : s.eval z = .c (.bool true) := by exact rfl) (hx : s.eval x' = v := by first | exact jev_t rfl | exact jev_l rfl rfl rfl | exact jev_f rfl) : ARd P G o s v := rd_pickT ho hz hx
theorem jrpF {z x' y' : Operand} {v : CV} (ho : o.op = .pick z x' y' := by exact rfl) (hz : s.eval z = .c (.bool false) := by exact rfl) (hy : s.eval y' = v := by first | exact jev_t rfl | exact jev_l rfl rfl rfl | exact jev_f rfl) : ARd P G o s v := rd_pickF ho hz hy
theorem jrpk {c p q : Bool} {z x' y' : Operand} (ho : o.op = .pick z x' y' := by exact rfl) (hz : s.eval z = .c (.bool c) := by exact rfl) (hx : s.eval x' = .c (.bool p) := by exact rfl) (hy : s.eval y' = .c (.bool q) := by exact rfl) : ARd P G o s (.c (.bool (bif c then p else q))) := rd_pick ho hz hx hy
theorem jrx {x : Operand} {i n : Nat} {f : Nat → CV} {v : CV} (ho : o.op = .extract x i := by exact rfl) (hx : s.eval x = .tup n f := by exact rfl) (hi : Nat.blt i n = true := by exact rfl) (hv : f i = v := by first | exact jflO_eq rfl | exact jfz_eq rfl) : ARd P G o s v := rd_extract ho hx hi hv
def jcmpI (op : BinOp) (a b : Int) : Option Bool := match op with
  | .eql => some (decide (a = b))
  | .neq => some (decide (a ≠ b))
  | .lss => some (decide (a < b))
  | .leq => some (decide (a ≤ b))
  | .gtr => some (decide (b < a))
  | .geq => some (decide (b ≤ a))
  | _ => none
theorem jrc {op : BinOp} {t u : TypeId} {x y : Operand} {k : IntKind} {a b : Int} {z : Bool} (ho : o.op = .binOp op t x y u := by exact rfl) (hx : s.eval x = .c (.int k a) := by exact rfl) (hy : s.eval y = .c (.int k b) := by exact rfl) (hc : jcmpI op a b = some z := by exact rfl) : ARd P G o s (.c (.bool z)) := by
  cases op <;> simp only [jcmpI, Option.some.injEq, reduceCtorEq] at hc
  all_goals subst hc
  · exact rd_eqI ho hx hy
  · exact rd_neI ho hx hy
  · exact rd_lt ho hx hy
  · exact rd_le ho hx hy
  · exact rd_gt ho hx hy
  · exact rd_ge ho hx hy
def jarI (op : BinOp) (a b : Int) : Option Int := match op with
  | .add => some (a + b)
  | .sub => some (a - b)
  | .mul => some (a * b)
  | _ => none
theorem jra {op : BinOp} {t u : TypeId} {x y : Operand} {k : IntKind} {a b z : Int} (ho : o.op = .binOp op t x y u := by exact rfl) (hx : s.eval x = .c (.int k a) := by exact rfl) (hy : s.eval y = .c (.int k b) := by exact rfl) (hc : jarI op a b = some z := by exact rfl) (hS : InR k z := by (show _ ∧ _; (first | omega | decide | (dsimp only at *; omega)))) : ARd P G o s (.c (.int k z)) := by
  cases op <;> simp only [jarI, Option.some.injEq, reduceCtorEq] at hc
  all_goals subst hc
  · exact rd_add ho hx hy (wrap_id hS)
  · exact rd_sub ho hx hy (wrap_id hS)
  · exact rd_mul ho hx hy (wrap_id hS)
theorem jrq {t u : TypeId} {x y : Operand} {k : IntKind} {a b : Int} (ho : o.op = .binOp .quo t x y u := by exact rfl) (hx : s.eval x = .c (.int k a) := by exact rfl) (hy : s.eval y = .c (.int k b) := by exact rfl) (hS : 0 ≤ a := by first | omega | decide | (dsimp only at *; omega)) (hS2 : 1 ≤ b := by first | omega | decide | (dsimp only at *; omega)) (hS3 : InR k (a / b) := by (show _ ∧ _; (first | omega | decide | (dsimp only at *; omega)))) : ARd P G o s (.c (.int k (a / b))) := rd_quo ho hx hy hS hS2 (wrap_id hS3)
theorem jrr {t u : TypeId} {x y : Operand} {k : IntKind} {a b : Int} (ho : o.op = .binOp .rem t x y u := by exact rfl) (hx : s.eval x = .c (.int k a) := by exact rfl) (hy : s.eval y = .c (.int k b) := by exact rfl) (hS : 0 ≤ a := by first | omega | decide | (dsimp only at *; omega)) (hS2 : 1 ≤ b := by first | omega | decide | (dsimp only at *; omega)) : ARd P G o s (.c (.int k (a % b))) := rd_rem ho hx hy hS hS2
/-- a text's bytes -/
def jcmpS (op : BinOp) (a b : List UInt8) : Option Bool := match op with
  | .eql => some (decide (a = b))
  | .neq => some (decide (a ≠ b))
  | .lss => some (Op.bytesLess a b)
  | .gtr => some (!(Op.bytesLess a b || a == b))
  | _ => none
theorem jrcs {op : BinOp} {t u : TypeId} {x y : Operand} {a b : List UInt8} {z : Bool} (ho : o.op = .binOp op t x y u := by exact rfl) (hx : s.eval x = strC a := by exact rfl) (hy : s.eval y = strC b := by exact rfl) (hc : jcmpS op a b = some z := by exact rfl) : ARd P G o s (.c (.bool z)) := by
  cases op <;> simp only [jcmpS, Option.some.injEq, reduceCtorEq] at hc
  all_goals subst hc
  · exact rd_eqL ho hx hy
  · exact rd_neL ho hx hy
  · exact rd_ltL ho hx hy
  · exact rd_gtL ho hx hy
theorem jras {t u : TypeId} {x y : Operand} {a b : List UInt8} (ho : o.op = .binOp .add t x y u := by exact rfl) (hx : s.eval x = strC a := by exact rfl) (hy : s.eval y = strC b := by exact rfl) (hS : a.length + b.length ≤ 9223372036854775807 := by first | omega | decide | (dsimp only at *; omega)) : ARd P G o s (strC (a ++ b)) := rd_addL ho hx hy hS
theorem jrcb {op : BinOp} {t u : TypeId} {x y : Operand} {a b z : Bool} (ho : o.op = .binOp op t x y u := by exact rfl) (hx : s.eval x = .c (.bool a) := by exact rfl) (hy : s.eval y = .c (.bool b) := by exact rfl) (hc : (match op with | .eql => some (a == b) | .neq => some (!(a == b)) | _ => none) = some z := by exact rfl) (hT : P.underlying t = some .bool := by kernel_rfl) : ARd P G o s (.c (.bool z)) := by
  cases op <;> simp only [Option.some.injEq, reduceCtorEq] at hc
  all_goals subst hc
  · exact rd_eqB ho hx hy hT
  · exact rd_neB ho hx hy hT
def jNotV (c : CV) (z : Bool) : Prop := c = .c (.bool (!z))
theorem jnotD {p : Prop} [Decidable p] {c : CV} (h : c = .c (.bool (decide p))) : jNotV c (decide ¬ p) := by unfold jNotV; rw [h]; simp
theorem jnotB {p : Bool} {c : CV} (h : c = .c (.bool p)) : jNotV c (!p) := by unfold jNotV; rw [h, Bool.not_not]
theorem jrn {t : TypeId} {x : Operand} {z : Bool} (ho : o.op = .unOp .not t x := by exact rfl) (hx : jNotV (s.eval x) z := by first | exact jnotD rfl | exact jnotB rfl) : ARd P G o s (.c (.bool z)) := by
  have := rd_not (P := P) (G := G) ho hx
  rwa [Bool.not_not] at this
def jlenV : CV → Option Int
  | .rs _ n _ => some ((n : Nat) : Int)
  | .os _ _ _ n _ => some ((n : Nat) : Int)
  | .c (.slice none 0 0) => some 0
  | _ => none
theorem jrl {x : Operand} {t : TypeId} {z : Int} (ho : o.op = .call ⟨.builtin .len, #[x], #[t]⟩ := by exact rfl) (hx : jlenV (s.eval x) = some z := by exact rfl) (hT : jslT P t = true := by kernel_rfl) : ARd P G o s (.c (.int .i64 z)) := by
  obtain ⟨e, he⟩ := jslT_ok hT
  unfold jlenV at hx
  split at hx
  · rename_i h; cases hx; exact rd_lenR ho h he
  · rename_i h; cases hx; exact rd_lenO ho h he
  · rename_i h; cases hx; exact rd_lenN ho h he
  · cases hx
theorem jrls {x : Operand} {t : TypeId} {a : List UInt8} (ho : o.op = .call ⟨.builtin .len, #[x], #[t]⟩ := by exact rfl) (hx : s.eval x = strC a := by exact rfl) (hT : P.underlying t = some .string := by kernel_rfl) : ARd P G o s (.c (.int .i64 (a.length : Nat))) := rd_lenL ho hx hT
theorem jrf (q m : Nat) {t : TypeId} {x : Operand} {i n : Nat} {f : Nat → CV} {v : CV} (ho : o.op = .field t x i := by exact rfl) (hx : s.eval x = .agg n f := by exact rfl) (hv : f q = v := by first | exact jflO_eq rfl | exact jfz_eq rfl) (hi : Nat.blt q n = true := by exact rfl) (hT : jfdQ P t i = some (q, m, false) := by kernel_rfl) : ARd P G o s v := by
  obtain ⟨fs, fd, d, h1, h2, h3, h4, h5, h6⟩ := jfdQ_ok hT
  subst h6
  exact rd_field ho hx h1 h2 h3 h4 hi hv
theorem jrfA (q m : Nat) {t : TypeId} {x : Operand} {i n : Nat} {f : Nat → CV} (ho : o.op = .field t x i := by exact rfl) (hx : s.eval x = .agg n f := by exact rfl) (hi : Nat.ble (q + m) n = true := by exact rfl) (hT : jfdQ P t i = some (q, m, true) := by kernel_rfl) : ARd P G o s (.agg m fun j => f (q + j)) := by
  obtain ⟨fs, fd, d, h1, h2, h3, h4, h5, h6⟩ := jfdQ_ok hT
  subst h6
  exact rd_fieldA ho hx h1 h2 h3 h4 h5 hi
def jfaV (q : Nat) : CV → Option CV
  | .op j g off => some (.op j g (off + q))
  | .rp n f => some (.rp (n - q) fun j => f (q + j))
  | _ => none
theorem jrfa (q m : Nat) (b : Bool) {t : TypeId} {x : Operand} {i : Nat} {v : CV} (ho : o.op = .fieldAddr t x i := by exact rfl) (hx : jfaV q (s.eval x) = some v := by exact rfl) (hm : Nat.blt 0 m = true := by exact rfl) (hT : jfdQ P t i = some (q, m, b) := by kernel_rfl) : ARd P G o s v := by
  obtain ⟨fs, fd, d, h1, h2, h3, h4, h5, h6⟩ := jfdQ_ok hT
  subst h6
  unfold jfaV at hx
  split at hx
  · rename_i h; cases hx; exact rd_faddrO ho h h1 h2 h5 hm
  · rename_i h; cases hx; exact rd_faddrR ho h h1 h2 h5 hm
  · cases hx
/-- an element's place: the place, how many elements there are, the cells of each -/
def jixV (i : Nat) : CV → Option (CV × Nat × Nat)
  | .rs m n f => some (.rp m (f i), n, m)
  | .os j g off n m => some (match Nat.beq off 0, Nat.beq m 1 with | true, true => .op j g i | _, _ => .op j g (off + i * m), n, m)
  | _ => none
theorem jri {i : Nat} {t : TypeId} {x y : Operand} {k : IntKind} {z : Int} {v : CV} {n m : Nat} (ho : o.op = .indexAddr t x y := by exact rfl) (hy : s.eval y = .c (.int k z) := by exact rfl) (hz : z = (i : Int) := by first | exact rfl | exact natI (by omega)) (hx : jixV i (s.eval x) = some (v, n, m) := by exact rfl) (hS : i < n := by first | omega | decide | (dsimp only at *; omega)) (hm : Nat.blt 0 m = true := by exact rfl) (hT : jslQ P t m = true := by kernel_rfl) : ARd P G o s v := by
  obtain ⟨e, h1, h5⟩ := jslQ_ok hT
  unfold jixV at hx
  split at hx
  · rename_i h; cases hx; exact rd_iaddrR ho h hy h1 h5 hz hS (Nat.le_of_ble_eq_true hm)
  · rename_i j g off n' m' h
    cases hx
    cases h6 : Nat.beq off 0 with
    | false => exact rd_iaddrO ho h hy h1 h5 hz hS
    | true =>
      cases h7 : Nat.beq m 1 with
      | false => exact rd_iaddrO ho h hy h1 h5 hz hS
      | true =>
        have e1 := Nat.eq_of_beq_eq_true h6
        have e2 := Nat.eq_of_beq_eq_true h7
        subst e1 e2
        exact rd_iaddrO1 ho h hy h1 h5 hz hS
  · cases hx
theorem jrix {i : Nat} {t : TypeId} {x y : Operand} {k : IntKind} {z : Int} {a : List UInt8} (ho : o.op = .index t x y := by exact rfl) (hx : s.eval x = strC a := by exact rfl) (hy : s.eval y = .c (.int k z) := by exact rfl) (hz : z = (i : Int) := by first | exact rfl | exact natI (by omega)) (hS : i < a.length := by first | omega | decide | (dsimp only at *; omega)) (hT : P.underlying t = some .string := by kernel_rfl) : ARd P G o s (byF a i) := rd_indexL ho hx hy hT hz hS
def jnilV : CV → Option CV
  | .op i g off => some (.op i g off)
  | .rp n f => some (.rp n f)
  | .fn g n f => some (.fn g n f)
  | _ => none
theorem jrnc {x : Operand} {v : CV} (ho : o.op = .nilCheck x := by exact rfl) (hx : jnilV (s.eval x) = some v := by exact rfl) : ARd P G o s v := by
  unfold jnilV at hx
  split at hx
  · rename_i h; cases hx; exact rd_nilO ho h
  · rename_i h; cases hx; exact rd_nilR ho h
  · rename_i h; cases hx; exact rd_nilF ho h
  · cases hx
theorem jrmf {g : FuncId} {cs : Array Operand} {n : Nat} (ho : o.op = .makeFunc (.func g) #[] cs := by exact rfl) (hn : cs.size = n := by exact rfl) : ARd P G o s (.fn g n (fl (cs.toList.map s.eval))) := rd_makeFunc ho hn
/-- a byte or a number as a number of another kind -/
theorem jrv8 (k' : IntKind) {c : UInt8} {t u : TypeId} {x : Operand} (ho : o.op = .convert t u x := by exact rfl) (hx : s.eval x = .c (.int .u8 ((c.toNat : Nat) : Int)) := by exact rfl) (h1 : P.underlying t = some (.int .u8) := by kernel_rfl) (h2 : P.underlying u = some (.int k') := by kernel_rfl) (hk : wide8 k' = true := by exact rfl) : ARd P G o s (.c (.int k' ((c.toNat : Nat) : Int))) := rd_conv8 ho hx h1 h2 hk
theorem jrv (k k' : IntKind) {a : Int} {t u : TypeId} {x : Operand} (ho : o.op = .convert t u x := by exact rfl) (hx : s.eval x = .c (.int k a) := by exact rfl) (hS : InR k' a := by (show _ ∧ _; (first | omega | decide | (dsimp only at *; omega)))) (h1 : P.underlying t = some (.int k) := by kernel_rfl) (h2 : P.underlying u = some (.int k') := by kernel_rfl) : ARd P G o s (.c (.int k' a)) := rd_convI ho hx h1 h2 a (wrap_id hS)
theorem jrvW (k k' : IntKind) {a z : Int} {t u : TypeId} {x : Operand} (ho : o.op = .convert t u x := by exact rfl) (hx : s.eval x = .c (.int k a) := by exact rfl) (hr : k'.wrap a = z := by exact rfl) (h1 : P.underlying t = some (.int k) := by kernel_rfl) (h2 : P.underlying u = some (.int k') := by kernel_rfl) : ARd P G o s (.c (.int k' z)) := rd_convI ho hx h1 h2 z hr
theorem jrbs {t u : TypeId} {x : Operand} {a : List UInt8} (ho : o.op = .convert t u x := by exact rfl) (hx : s.eval x = bsC a := by exact rfl) (hT : jbyT P t = true := by kernel_rfl) (h3 : P.underlying u = some .string := by kernel_rfl) : ARd P G o s (strC a) := by
  obtain ⟨e, h1, h2⟩ := jbyT_ok hT
  exact rd_convBL ho hx h1 h2 h3
theorem jrbn {t u : TypeId} {x : Operand} (ho : o.op = .convert t u x := by exact rfl) (hx : s.eval x = .c (.slice none 0 0) := by exact rfl) (hT : jbyT P t = true := by kernel_rfl) (h3 : P.underlying u = some .string := by kernel_rfl) : ARd P G o s (.c (.string ⟨#[]⟩)) := by
  obtain ⟨e, h1, h2⟩ := jbyT_ok hT
  exact rd_convBN ho hx h1 h2 h3
theorem jrbo {t u : TypeId} {x : Operand} {i n N : Nat} {g : Option Nat} {L : List UInt8} (ho : o.op = .convert t u x := by exact rfl) (hx : s.eval x = .os i g 0 n 1 := by exact rfl) (hH : Holds s i g N (byF L) := by first | exact .inl rfl | exact .inr rfl) (hn : n = L.length := by first | rfl | simp) (hN : n ≤ N := by first | exact Nat.le_refl _ | simp) (hT : jbyT P t = true := by kernel_rfl) (h3 : P.underlying u = some .string := by kernel_rfl) : ARdO P G o s (strC L) := by
  obtain ⟨e, h1, h2⟩ := jbyT_ok hT
  exact rd_convB1 ho hx hH hn hN h1 h2 h3
/-! slices of bytes, of rows, of own rows -/
theorem jrsf {t : TypeId} {p a : Operand} {z1 : Int} {k1 : IntKind} {l : Nat} {bl : List UInt8} (ho : o.op = .slice t p (some a) none none := by exact rfl) (hx : s.eval p = bsC bl := by exact rfl) (ha : s.eval a = .c (.int k1 z1) := by exact rfl) (hz1 : z1 = (l : Int) := by first | exact rfl | exact natI (by omega)) (hS : l ≤ bl.length := by first | omega | decide | (dsimp only at *; omega)) (hT : jslQ P t 1 = true := by kernel_rfl) : ARd P G o s (bsC (bl.drop l)) := by
  obtain ⟨e, h1, h5⟩ := jslQ_ok hT
  exact rd_sliceB_from ho hx h1 h5 ha hz1 hS
theorem jrst {t : TypeId} {p b : Operand} {z2 : Int} {k2 : IntKind} {v : Nat} {bl : List UInt8} (ho : o.op = .slice t p none (some b) none := by exact rfl) (hx : s.eval p = bsC bl := by exact rfl) (hb : s.eval b = .c (.int k2 z2) := by exact rfl) (hz2 : z2 = (v : Int) := by first | exact rfl | exact natI (by omega)) (hS : v ≤ bl.length := by first | omega | decide | (dsimp only at *; omega)) (hT : jslQ P t 1 = true := by kernel_rfl) : ARd P G o s (bsC (bl.take v)) := by
  obtain ⟨e, h1, h5⟩ := jslQ_ok hT
  exact rd_sliceB_to ho hx h1 h5 hb hz2 hS
theorem jrsb {t : TypeId} {p a b : Operand} {z1 z2 : Int} {k1 k2 : IntKind} {l v : Nat} {bl : List UInt8} (ho : o.op = .slice t p (some a) (some b) none := by exact rfl) (hx : s.eval p = bsC bl := by exact rfl) (ha : s.eval a = .c (.int k1 z1) := by exact rfl) (hz1 : z1 = (l : Int) := by first | exact rfl | exact natI (by omega)) (hb : s.eval b = .c (.int k2 z2) := by exact rfl) (hz2 : z2 = (v : Int) := by first | exact rfl | exact natI (by omega)) (hS : l ≤ v := by first | omega | decide | (dsimp only at *; omega)) (hS2 : v ≤ bl.length := by first | omega | decide | (dsimp only at *; omega)) (hT : jslQ P t 1 = true := by kernel_rfl) : ARd P G o s (bsC ((bl.take v).drop l)) := by
  obtain ⟨e, h1, h5⟩ := jslQ_ok hT
  exact rd_sliceB ho hx h1 h5 ha hz1 hb hz2 hS hS2
theorem jrsr {t : TypeId} {p : Operand} {m n l v : Nat} {f : Nat → Nat → CV} {lo hi : Option Operand} (ho : o.op = .slice t p lo hi none := by exact rfl) (hx : s.eval p = .rs m n f := by exact rfl) (hl : Bd s 0 lo l := by first | exact bd_none _ _ | exact bd_some rfl rfl | exact bd_some rfl (natI (by omega))) (hu : Bd s n hi v := by first | exact bd_none _ _ | exact bd_some rfl rfl | exact bd_some rfl (natI (by omega))) (hS : l ≤ v := by first | omega | decide | (dsimp only at *; omega)) (hS2 : v ≤ n := by first | omega | decide | (dsimp only at *; omega)) (hT : jslQ P t m = true := by kernel_rfl) : ARd P G o s (.rs m (v - l) fun i j => f (l + i) j) := by
  obtain ⟨e, h1, h5⟩ := jslQ_ok hT
  exact rd_sliceR ho hx h1 h5 hl hu hS hS2
theorem jrso {t : TypeId} {p : Operand} {i off m n l v : Nat} {g : Option Nat} {lo hi : Option Operand} (ho : o.op = .slice t p lo hi none := by exact rfl) (hx : s.eval p = .os i g off n m := by exact rfl) (hl : Bd s 0 lo l := by first | exact bd_none _ _ | exact bd_some rfl rfl | exact bd_some rfl (natI (by omega))) (hu : Bd s n hi v := by first | exact bd_none _ _ | exact bd_some rfl rfl | exact bd_some rfl (natI (by omega))) (hS : l ≤ v := by first | omega | decide | (dsimp only at *; omega)) (hS2 : v ≤ n := by first | omega | decide | (dsimp only at *; omega)) (hS3 : l = 0 ∨ l < n := by first | omega | decide | (dsimp only at *; omega)) (hT : jslQ P t m = true := by kernel_rfl) : ARd P G o s (.os i g (off + l * m) (v - l) m) := by
  obtain ⟨e, h1, h5⟩ := jslQ_ok hT
  exact rd_sliceO ho hx h1 h5 hl hu hS hS2 hS3
/-! loads -/
theorem jrdo {t : TypeId} {x : Operand} {i off n : Nat} {g : Option Nat} {f : Nat → CV} {v : CV} (ho : o.op = .load t x := by exact rfl) (hx : s.eval x = .op i g off := by exact rfl) (hH : Holds s i g n f := by first | exact .inl rfl | exact .inr rfl) (hv : f off = v := by first | exact jflO_eq rfl | exact jfz_eq rfl) (hn : off < n := by first | decide | omega | (dsimp only at *; omega)) (hT : jldQ P t = true := by kernel_rfl) : ARdO P G o s v := by
  obtain ⟨d, h1, ha⟩ := jldQ_ok hT
  exact rd_loadO ho hx hH h1 ha hn hv
theorem jrdr {t : TypeId} {x : Operand} {n : Nat} {f : Nat → CV} {v : CV} (ho : o.op = .load t x := by exact rfl) (hx : s.eval x = .rp n f := by exact rfl) (hv : f 0 = v := by first | exact jflO_eq rfl | exact jfz_eq rfl) (hn : 0 < n := by first | decide | omega | (dsimp only at *; omega)) (hT : jldQ P t = true := by kernel_rfl) : ARd P G o s v := by
  obtain ⟨d, h1, ha⟩ := jldQ_ok hT
  exact rd_loadR ho hx h1 ha hn hv
theorem jrdoA (m : Nat) {t : TypeId} {x : Operand} {i off n : Nat} {g : Option Nat} {f : Nat → CV} (ho : o.op = .load t x := by exact rfl) (hx : s.eval x = .op i g off := by exact rfl) (hH : Holds s i g n f := by first | exact .inl rfl | exact .inr rfl) (hn : off + m ≤ n := by first | decide | omega | (dsimp only at *; omega)) (hT : jtyQ P t m true = true := by kernel_rfl) : ARdO P G o s (.agg m fun j => f (off + j)) := by
  obtain ⟨d, h1, ha, h5⟩ := jtyQ_ok hT
  exact rd_loadOA ho hx hH h1 ha h5 hn
theorem jrdrA (m : Nat) {t : TypeId} {x : Operand} {n : Nat} {f : Nat → CV} (ho : o.op = .load t x := by exact rfl) (hx : s.eval x = .rp n f := by exact rfl) (hn : m ≤ n := by first | decide | omega | (dsimp only at *; omega)) (hT : jtyQ P t m true = true := by kernel_rfl) : ARd P G o s (.agg m f) := by
  obtain ⟨d, h1, ha, h5⟩ := jtyQ_ok hT
  exact rd_loadRA ho hx h1 ha h5 hn
theorem jrde (i : Nat) [h0 : HasE G.gs i] {t : TypeId} {g : Nat} (ho : o.op = .load t (.global g) := by exact rfl) (hg : gs[i]? = some g := by exact rfl) (hT : jldQ P t = true := by kernel_rfl) : ARd P G o s (.err (i + 1)) := by
  obtain ⟨d, h1, ha⟩ := jldQ_ok hT
  exact rd_loadE i ho hg h1 ha
theorem jrmi {t : TypeId} {x : Operand} {v : Value} {d : TypeDesc} (hT : P.underlying t = some d) (h2 : ∀ ms, d ≠ .interface ms) (ho : o.op = .makeInterface t x := by exact rfl) (hx : s.eval x = .c v := by exact rfl) : ARd P G o s (.c (.iface t v)) := rd_makeIface ho hx hT h2

/-! ### steps -/
theorem jq {d : Nat} {v : CV} (h : ARd P G o ⟨env, b0, H⟩ v) (hk : ASeq P G ops r ⟨(d, v) :: env, b0, H⟩ K) (hd : o.dst = some d := by exact rfl) (hN : Nat.blt d G.N = true := by exact rfl) (hw : Wanted G ops o ⟨env, b0, H⟩ true := by first | exact wanted_none rfl | exact wanted_is rfl rfl rfl rfl true rfl) : ASeq P G ops (o :: r) ⟨env, b0, H⟩ K := q_rd hw hd hN h hk
theorem jqo {d : Nat} {v : CV} (h : ARdO P G o ⟨env, b0, H⟩ v) (hk : ASeq P G ops r ⟨(d, v) :: env, b0, H⟩ K) (hd : o.dst = some d := by exact rfl) (hN : Nat.blt d G.N = true := by exact rfl) (hw : Wanted G ops o ⟨env, b0, H⟩ true := by first | exact wanted_none rfl | exact wanted_is rfl rfl rfl rfl true rfl) : ASeq P G ops (o :: r) ⟨env, b0, H⟩ K := q_rdO hw hd hN h hk
theorem jqs {d : Nat} (hk : ASeq P G ops r ⟨(d, .c undef) :: env, b0, H⟩ K) (hd : o.dst = some d := by exact rfl) (hN : Nat.blt d G.N = true := by exact rfl) (hw : Wanted G ops o ⟨env, b0, H⟩ false := by first | exact wanted_is rfl rfl rfl rfl false rfl | exact wanted_undef rfl rfl rfl rfl) : ASeq P G ops (o :: r) ⟨env, b0, H⟩ K := q_skip hw hd hN hk
theorem jqs0 (hk : ASeq P G ops r ⟨env, b0, H⟩ K) (hd : o.dst = none := by exact rfl) (hw : Wanted G ops o ⟨env, b0, H⟩ false := by first | exact wanted_is rfl rfl rfl rfl false rfl | exact wanted_undef rfl rfl rfl rfl) : ASeq P G ops (o :: r) ⟨env, b0, H⟩ K := q_skip0 hw hd hk
theorem jqe (h : AEx P G o ⟨env, b0, H⟩ (fun s' => ASeq P G ops r s' K)) (hw : Wanted G ops o ⟨env, b0, H⟩ true := by first | exact wanted_none rfl | exact wanted_is rfl rfl rfl rfl true rfl) : ASeq P G ops (o :: r) ⟨env, b0, H⟩ K := seq_ex hw h
theorem jqm (h : AMd P G o ⟨env, b0, H⟩ (fun s' => ASeq P G ops r s' K)) (hw : Wanted G ops o ⟨env, b0, H⟩ true := by first | exact wanted_none rfl | exact wanted_is rfl rfl rfl rfl true rfl) : ASeq P G ops (o :: r) ⟨env, b0, H⟩ K := seq_md hw h
def jopG : List Oper → Nat → Oper
  | [], _ => default
  | a :: _, 0 => a
  | _ :: l, i + 1 => jopG l i
section
variable {i : Nat} {t : Ord}
theorem jopG_at (h : Nat.blt i ops.size = true) : ops[i]? = some (jopG ops.toList i) := by
  have hlt : i < ops.size := Nat.le_of_ble_eq_true h
  rw [Array.getElem?_eq_getElem hlt]
  have key : ∀ (l : List Oper) (i : Nat) (hi : i < l.length), l[i] = jopG l i := fun l => by
    induction l with
    | nil => intro i hi; simp at hi
    | cons a l ih =>
      intro i hi
      cases i with
      | zero => rfl
      | succ i => exact ih i (by simpa using hi)
  have := key ops.toList i (by simpa using hlt)
  rw [← this, Array.getElem_toList]
theorem joT_rd (hi : Nat.blt i ops.size = true) : opsOfT ops (.rd i t) = .rd (jopG ops.toList i) (opsOfT ops t) := by simp only [opsOfT, jopG_at hi]
theorem joT_one (hi : Nat.blt i ops.size = true) : opsOfT ops (.one i t) = .one (jopG ops.toList i) (opsOfT ops t) := by simp only [opsOfT, jopG_at hi]
theorem jyq {d : Nat} {v : CV} (h : ARd P G (jopG ops.toList i) ⟨env, b0, H⟩ v) (hk : AX P G ops (opsOfT ops t) ⟨(d, v) :: env, b0, H⟩ K) (hd : (jopG ops.toList i).dst = some d := by exact rfl) (hN : Nat.blt d G.N = true := by exact rfl) (hw : Wanted G ops (jopG ops.toList i) ⟨env, b0, H⟩ true := by first | exact wanted_none rfl | exact wanted_is rfl rfl rfl rfl true rfl) (hi : Nat.blt i ops.size = true := by exact rfl) : AX P G ops (opsOfT ops (.rd i t)) ⟨env, b0, H⟩ K := by rw [joT_rd hi]; exact y_rd hw hd hN h hk
theorem jyo {d : Nat} {v : CV} (h : ARdO P G (jopG ops.toList i) ⟨env, b0, H⟩ v) (hk : AX P G ops (opsOfT ops t) ⟨(d, v) :: env, b0, H⟩ K) (hd : (jopG ops.toList i).dst = some d := by exact rfl) (hN : Nat.blt d G.N = true := by exact rfl) (hw : Wanted G ops (jopG ops.toList i) ⟨env, b0, H⟩ true := by first | exact wanted_none rfl | exact wanted_is rfl rfl rfl rfl true rfl) (hi : Nat.blt i ops.size = true := by exact rfl) : AX P G ops (opsOfT ops (.rd i t)) ⟨env, b0, H⟩ K := by rw [joT_rd hi]; exact y_rdO hw hd hN h hk
theorem jy1 {d : Nat} {v : CV} (h : ARd P G (jopG ops.toList i) ⟨env, b0, H⟩ v) (hk : AX P G ops (opsOfT ops t) ⟨(d, v) :: env, b0, H⟩ K) (hd : (jopG ops.toList i).dst = some d := by exact rfl) (hN : Nat.blt d G.N = true := by exact rfl) (hw : Wanted G ops (jopG ops.toList i) ⟨env, b0, H⟩ true := by first | exact wanted_none rfl | exact wanted_is rfl rfl rfl rfl true rfl) (hi : Nat.blt i ops.size = true := by exact rfl) : AX P G ops (opsOfT ops (.one i t)) ⟨env, b0, H⟩ K := by rw [joT_one hi]; exact y_one1 hw hd hN h hk
theorem jy1o {d : Nat} {v : CV} (h : ARdO P G (jopG ops.toList i) ⟨env, b0, H⟩ v) (hk : AX P G ops (opsOfT ops t) ⟨(d, v) :: env, b0, H⟩ K) (hd : (jopG ops.toList i).dst = some d := by exact rfl) (hN : Nat.blt d G.N = true := by exact rfl) (hw : Wanted G ops (jopG ops.toList i) ⟨env, b0, H⟩ true := by first | exact wanted_none rfl | exact wanted_is rfl rfl rfl rfl true rfl) (hi : Nat.blt i ops.size = true := by exact rfl) : AX P G ops (opsOfT ops (.one i t)) ⟨env, b0, H⟩ K := by rw [joT_one hi]; exact y_one1O hw hd hN h hk
theorem jys {d : Nat} (hk : AX P G ops (opsOfT ops t) ⟨(d, .c undef) :: env, b0, H⟩ K) (hd : (jopG ops.toList i).dst = some d := by exact rfl) (hN : Nat.blt d G.N = true := by exact rfl) (hw : Wanted G ops (jopG ops.toList i) ⟨env, b0, H⟩ false := by first | exact wanted_is rfl rfl rfl rfl false rfl | exact wanted_undef rfl rfl rfl rfl) (hi : Nat.blt i ops.size = true := by exact rfl) : AX P G ops (opsOfT ops (.rd i t)) ⟨env, b0, H⟩ K := by rw [joT_rd hi]; exact y_skip hw hd hN hk
theorem jys1 {d : Nat} (hk : AX P G ops (opsOfT ops t) ⟨(d, .c undef) :: env, b0, H⟩ K) (hd : (jopG ops.toList i).dst = some d := by exact rfl) (hN : Nat.blt d G.N = true := by exact rfl) (hw : Wanted G ops (jopG ops.toList i) ⟨env, b0, H⟩ false := by first | exact wanted_is rfl rfl rfl rfl false rfl | exact wanted_undef rfl rfl rfl rfl) (hi : Nat.blt i ops.size = true := by exact rfl) : AX P G ops (opsOfT ops (.one i t)) ⟨env, b0, H⟩ K := by rw [joT_one hi]; exact y_noone hw hd hN hk
theorem jye (h : AEx P G (jopG ops.toList i) ⟨env, b0, H⟩ (fun s' => AX P G ops (opsOfT ops t) s' K)) (hw : Wanted G ops (jopG ops.toList i) ⟨env, b0, H⟩ true := by first | exact wanted_none rfl | exact wanted_is rfl rfl rfl rfl true rfl) (hi : Nat.blt i ops.size = true := by exact rfl) : AX P G ops (opsOfT ops (.one i t)) ⟨env, b0, H⟩ K := by rw [joT_one hi]; exact x_one hw h
theorem jzq {d : Nat} {v : CV} (h : ARd P G (jopG ops.toList i) ⟨env, b0, H⟩ v) (hk : AZ P G ops (opsOfT ops t) ⟨(d, v) :: env, b0, H⟩ K) (hd : (jopG ops.toList i).dst = some d := by exact rfl) (hN : Nat.blt d G.N = true := by exact rfl) (hw : Wanted G ops (jopG ops.toList i) ⟨env, b0, H⟩ true := by first | exact wanted_none rfl | exact wanted_is rfl rfl rfl rfl true rfl) (hi : Nat.blt i ops.size = true := by exact rfl) : AZ P G ops (opsOfT ops (.rd i t)) ⟨env, b0, H⟩ K := by rw [joT_rd hi]; exact zz_rd hw hd hN h hk
theorem jzo {d : Nat} {v : CV} (h : ARdO P G (jopG ops.toList i) ⟨env, b0, H⟩ v) (hk : AZ P G ops (opsOfT ops t) ⟨(d, v) :: env, b0, H⟩ K) (hd : (jopG ops.toList i).dst = some d := by exact rfl) (hN : Nat.blt d G.N = true := by exact rfl) (hw : Wanted G ops (jopG ops.toList i) ⟨env, b0, H⟩ true := by first | exact wanted_none rfl | exact wanted_is rfl rfl rfl rfl true rfl) (hb : ownB ops (jopG ops.toList i) = true := by kernel_rfl) (hi : Nat.blt i ops.size = true := by exact rfl) : AZ P G ops (opsOfT ops (.rd i t)) ⟨env, b0, H⟩ K := by rw [joT_rd hi]; exact zz_rdO hw hd hN hb h hk
theorem jz1 {d : Nat} {v : CV} (h : ARd P G (jopG ops.toList i) ⟨env, b0, H⟩ v) (hk : AZ P G ops (opsOfT ops t) ⟨(d, v) :: env, b0, H⟩ K) (hd : (jopG ops.toList i).dst = some d := by exact rfl) (hN : Nat.blt d G.N = true := by exact rfl) (hw : Wanted G ops (jopG ops.toList i) ⟨env, b0, H⟩ true := by first | exact wanted_none rfl | exact wanted_is rfl rfl rfl rfl true rfl) (hi : Nat.blt i ops.size = true := by exact rfl) : AZ P G ops (opsOfT ops (.one i t)) ⟨env, b0, H⟩ K := by rw [joT_one hi]; exact zz_one1 hw hd hN h hk
theorem jz1o {d : Nat} {v : CV} (h : ARdO P G (jopG ops.toList i) ⟨env, b0, H⟩ v) (hk : AZ P G ops (opsOfT ops t) ⟨(d, v) :: env, b0, H⟩ K) (hd : (jopG ops.toList i).dst = some d := by exact rfl) (hN : Nat.blt d G.N = true := by exact rfl) (hw : Wanted G ops (jopG ops.toList i) ⟨env, b0, H⟩ true := by first | exact wanted_none rfl | exact wanted_is rfl rfl rfl rfl true rfl) (hi : Nat.blt i ops.size = true := by exact rfl) : AZ P G ops (opsOfT ops (.one i t)) ⟨env, b0, H⟩ K := by rw [joT_one hi]; exact zz_one1O hw hd hN h hk
theorem jzs {d : Nat} (hk : AZ P G ops (opsOfT ops t) ⟨(d, .c undef) :: env, b0, H⟩ K) (hd : (jopG ops.toList i).dst = some d := by exact rfl) (hN : Nat.blt d G.N = true := by exact rfl) (hw : Wanted G ops (jopG ops.toList i) ⟨env, b0, H⟩ false := by first | exact wanted_is rfl rfl rfl rfl false rfl | exact wanted_undef rfl rfl rfl rfl) (hi : Nat.blt i ops.size = true := by exact rfl) : AZ P G ops (opsOfT ops (.rd i t)) ⟨env, b0, H⟩ K := by rw [joT_rd hi]; exact zz_skip hw hd hN hk
theorem jzs1 {d : Nat} (hk : AZ P G ops (opsOfT ops t) ⟨(d, .c undef) :: env, b0, H⟩ K) (hd : (jopG ops.toList i).dst = some d := by exact rfl) (hN : Nat.blt d G.N = true := by exact rfl) (hw : Wanted G ops (jopG ops.toList i) ⟨env, b0, H⟩ false := by first | exact wanted_is rfl rfl rfl rfl false rfl | exact wanted_undef rfl rfl rfl rfl) (hi : Nat.blt i ops.size = true := by exact rfl) : AZ P G ops (opsOfT ops (.one i t)) ⟨env, b0, H⟩ K := by rw [joT_one hi]; exact zz_noone hw hd hN hk
theorem jze (h : AEx P G (jopG ops.toList i) ⟨env, b0, H⟩ (fun s' => AZ P G ops (opsOfT ops t) s' K)) (hw : Wanted G ops (jopG ops.toList i) ⟨env, b0, H⟩ true := by first | exact wanted_none rfl | exact wanted_is rfl rfl rfl rfl true rfl) (hi : Nat.blt i ops.size = true := by exact rfl) : AZ P G ops (opsOfT ops (.one i t)) ⟨env, b0, H⟩ K := by rw [joT_one hi]; exact z_ex hw h
theorem jzm (h : AMd P G (jopG ops.toList i) ⟨env, b0, H⟩ (fun s' => AZ P G ops (opsOfT ops t) s' K)) (hw : Wanted G ops (jopG ops.toList i) ⟨env, b0, H⟩ true := by first | exact wanted_none rfl | exact wanted_is rfl rfl rfl rfl true rfl) (hm : isMod (jopG ops.toList i) = true := by exact rfl) (hi : Nat.blt i ops.size = true := by exact rfl) : AZ P G ops (opsOfT ops (.one i t)) ⟨env, b0, H⟩ K := by rw [joT_one hi]; exact z_md hw hm h
theorem jyd (h : K s) : AX P G ops (opsOfT ops .done) s K := x_done h
theorem jzd (h : K s) : AZ P G ops (opsOfT ops .done) s K := z_done h
theorem jytwo {j : Nat} {u : Ord} (h1 : AX P G ops (opsOfT ops (.one i t)) s K) (h2 : AX P G ops (opsOfT ops (.one j u)) s K) (hi : Nat.blt i ops.size = true := by exact rfl) (hj : Nat.blt j ops.size = true := by exact rfl) : AX P G ops (opsOfT ops (.two i t j u)) s K := by
  rw [joT_one hi] at h1
  rw [joT_one hj] at h2
  simp only [opsOfT, jopG_at hi, jopG_at hj]
  exact x_two h1 h2
theorem jztwo {j : Nat} {u : Ord} (h1 : AZ P G ops (opsOfT ops (.one i t)) s K) (h2 : AZ P G ops (opsOfT ops (.one j u)) s K) (hi : Nat.blt i ops.size = true := by exact rfl) (hj : Nat.blt j ops.size = true := by exact rfl) : AZ P G ops (opsOfT ops (.two i t j u)) s K := by
  rw [joT_one hi] at h1
  rw [joT_one hj] at h2
  simp only [opsOfT, jopG_at hi, jopG_at hj]
  exact z_two h1 h2
end
/-! ### regions -/
theorem jcg {id : Nat} (h : ASeq P G ops ops.toList s (R .normal)) (hd : rdB G.rd ops = true := by rfl) : ACode P G (.region id ops false) s R := code_region h hd
theorem jcd {id : Nat} (t : Ord) (h : AX P G ops (opsOfT ops t) s (R .normal)) (hm : P.follows .mixedOrders = true := by kernel_rfl) (hs : Region.noSelect ops = true := by kernel_rfl) (hl : t.len = ops.size := by exact rfl) (hin : t.within ops.size = true := by kernel_rfl) (hB : orderT .any ops t (Array.replicate ops.size false) = true := by kernel_rfl) (hd : rdB G.rd ops = true := by rfl) : ACode P G (.region id ops true) s R := code_draw t hm hs hl hin hB h hd
theorem jcdB {id : Nat} (m : Nat) (t : Ord) (h : AX P G ops (opsOfT ops t) s (fun s' => ASeq P G ops (ops.toList.drop m) s' (R .normal))) (hmix : P.follows .mixedOrders = true := by kernel_rfl) (hs : Region.noSelect ops = true := by kernel_rfl) (hm : Nat.ble m ops.size = true := by exact rfl) (hl : t.len = m := by exact rfl) (hin : t.within ops.size = true := by kernel_rfl) (hc : coverB .any ops m = true := by kernel_rfl)
    (hB : orderB2 .any ops m t (Array.replicate ops.size false) = true := by kernel_rfl) (ht : tailB .any ops (ops.size - m) m (barL m ops.size) = true := by kernel_rfl) (hd : rdB G.rd ops = true := by rfl) (hy : G.yl = false := by rfl) : ACode P G (.region id ops true) s R := code_drawB m t hmix hs hm hl hin hc hB ht h hd hy
theorem jcdC {id : Nat} (m : Nat) (t u : Ord) (h : AX P G ops (opsOfT ops t) s (fun s' => AZ P G ops (opsOfT ops u) s' (R .normal))) (hmix : P.follows .mixedOrders = true := by kernel_rfl) (hs : Region.noSelect ops = true := by kernel_rfl) (hm : Nat.ble m ops.size = true := by exact rfl) (hl : t.len = m := by exact rfl) (hin : t.within ops.size = true := by kernel_rfl) (hc : coverB .any ops m = true := by kernel_rfl)
    (hB : orderB2 .any ops m t (Array.replicate ops.size false) = true := by kernel_rfl) (hul : u.len = ops.size - m := by exact rfl) (huin : u.within ops.size = true := by kernel_rfl) (hu : orderT .any ops u (barL m ops.size) = true := by kernel_rfl) (hd : rdB G.rd ops = true := by rfl) : ACode P G (.region id ops true) s R := code_drawC m t u hmix hs hm hl hin hc hB hul huin hu h hd
theorem jcdZ {id : Nat} (u : Ord) (h : AZ P G ops (opsOfT ops u) s (R .normal)) (hmix : P.follows .mixedOrders = true := by kernel_rfl) (hs : Region.noSelect ops = true := by kernel_rfl) (hul : u.len = ops.size := by exact rfl) (huin : u.within ops.size = true := by kernel_rfl) (hu : orderT .any ops u (Array.replicate ops.size false) = true := by kernel_rfl) (hd : rdB G.rd ops = true := by rfl) : ACode P G (.region id ops true) s R := code_drawZ u hmix hs hul huin hu h hd
/-! ### code -/
theorem jcs (h : ACode P G x s (thenR (fun s' => ACode P G y s' R) R)) : ACode P G (.seq x y) s R := code_seq h
theorem jcr {id : Nat} (h : ASeq P G ops ops.toList s (fun s' => ACode P G y s' R)) (hd : rdB G.rd ops = true := by rfl) : ACode P G (.seq (.region id ops false) y) s R := code_seq (code_region h hd)
theorem jtn (h : Y s) : thenR Y R .normal s := h
theorem jte {i : Nat} (h : R (.exit i) s) : thenR Y R (.exit i) s := h
theorem jtr (h : R .ret s) : thenR Y R .ret s := h
theorem jbn {i : Nat} (h : R .normal s) : blockR i R .normal s := h
theorem jbr {i : Nat} (h : R .ret s) : blockR i R .ret s := h
theorem jbx {i j : Nat} (h : R .normal s) (he : Nat.beq j i = true := by exact rfl) : blockR i R (.exit j) s := block_exit he h
theorem jbx2 {i j : Nat} (h : R (.exit j) s) (he : Nat.beq j i = false := by exact rfl) : blockR i R (.exit j) s := block_exit2 he h
def jCondPN (c : CV) (p n : Prop) : Prop := ∃ t : Bool, c = .c (.bool t) ∧ (t = true → p) ∧ (t = false → n)
theorem jcpD {p : Prop} [Decidable p] {c : CV} (h : c = .c (.bool (decide p))) : jCondPN c p (¬ p) := ⟨_, h, of_decide_eq_true, of_decide_eq_false⟩
theorem jcpB {t : Bool} {c : CV} (h : c = .c (.bool t)) : jCondPN c (t = true) (t = false) := ⟨_, h, id, id⟩
theorem jcc {d : Nat} {p n : Prop} (ht : p → ACode P G x ⟨(d, .c (.bool true)) :: env, b0, H⟩ R) (hf : n → ACode P G y ⟨(d, .c (.bool false)) :: env, b0, H⟩ R) (hl : jCondPN (look env b0 d) p n := by first | exact jcpD rfl | exact jcpB rfl) (hN : Nat.blt d G.N = true := by exact rfl) : ACode P G (.cond (.tmp d) x y) ⟨env, b0, H⟩ R := by
  obtain ⟨t, h1, h2, h3⟩ := hl
  exact code_condS hN h1 (fun e => ht (h2 e)) (fun e => hf (h3 e))
theorem jcT {d : Operand} (h : ACode P G x s R) (hl : s.eval d = .c (.bool true) := by exact rfl) : ACode P G (.cond d x y) s R := code_condT hl h
theorem jcF {d : Operand} (h : ACode P G y s R) (hl : s.eval d = .c (.bool false) := by exact rfl) : ACode P G (.cond d x y) s R := code_condF hl h
theorem jqsp (d : Nat) {p n : Prop} (ht : p → ASeq P G ops r ⟨(d, .c (.bool true)) :: env, b0, H⟩ K) (hf : n → ASeq P G ops r ⟨(d, .c (.bool false)) :: env, b0, H⟩ K) (hl : jCondPN (look env b0 d) p n := by first | exact jcpD rfl | exact jcpB rfl) (hN : Nat.blt d G.N = true := by exact rfl) : ASeq P G ops r ⟨env, b0, H⟩ K := by
  obtain ⟨t, h1, h2, h3⟩ := hl
  exact seq_split hN h1 (fun e => ht (h2 e)) (fun e => hf (h3 e))
theorem jysp {tr : OrdO} (d : Nat) {p n : Prop} (ht : p → AX P G ops tr ⟨(d, .c (.bool true)) :: env, b0, H⟩ K) (hf : n → AX P G ops tr ⟨(d, .c (.bool false)) :: env, b0, H⟩ K) (hl : jCondPN (look env b0 d) p n := by first | exact jcpD rfl | exact jcpB rfl) (hN : Nat.blt d G.N = true := by exact rfl) : AX P G ops tr ⟨env, b0, H⟩ K := by
  obtain ⟨t, h1, h2, h3⟩ := hl
  exact x_split hN h1 (fun e => ht (h2 e)) (fun e => hf (h3 e))
theorem jzsp {tr : OrdO} (d : Nat) {p n : Prop} (ht : p → AZ P G ops tr ⟨(d, .c (.bool true)) :: env, b0, H⟩ K) (hf : n → AZ P G ops tr ⟨(d, .c (.bool false)) :: env, b0, H⟩ K) (hl : jCondPN (look env b0 d) p n := by first | exact jcpD rfl | exact jcpB rfl) (hN : Nat.blt d G.N = true := by exact rfl) : AZ P G ops tr ⟨env, b0, H⟩ K := by
  obtain ⟨t, h1, h2, h3⟩ := hl
  exact z_split hN h1 (fun e => ht (h2 e)) (fun e => hf (h3 e))

/-! ### memory, calls, stores -/
theorem jeal {n : Nat} {t : TypeId} {z : Value} {d : Nat} (hz : (P.info? t).map (·.zero) = some (some z)) (hn : z.cells.size = n) (hK : ∀ g, K ⟨(d, .op H.length g 0) :: env, b0, H ++ [(g, .blk n fun j => .c (z.cells.getD j undef))]⟩) (ho : o.op = .alloc t := by exact rfl) (hd : o.dst = some d := by exact rfl) (hN : Nat.blt d G.N = true := by exact rfl) : AEx P G o ⟨env, b0, H⟩ K := e_alloc ho hz hn hd hN hK
theorem jebx (n : Nat) {t : TypeId} {p : Operand} {c : CV} {l : List CV} {d : Nat} (hK : ∀ g, K ⟨(d, .op H.length g 0) :: env, b0, H ++ [(g, .blk n (fl l))]⟩) (ho : o.op = .box t p := by exact rfl) (hx : (⟨env, b0, H⟩ : AS).eval p = c := by first | exact jev_t rfl | exact jev_l rfl rfl rfl | exact jev_f rfl) (hl : cellsC c = some l := by exact rfl) (hn : l.length = n := by exact rfl) (hd : o.dst = some d := by exact rfl) (hN : Nat.blt d G.N = true := by exact rfl) : AEx P G o ⟨env, b0, H⟩ K := e_box ho hx hl hn hd hN hK
theorem jebl (n m : Nat) {e t : TypeId} {z : Value} {len : Nat} {parts : Array (Nat × Operand)} {l : List CV} {d : Nat} (hz : (P.info? e).map (·.zero) = some (some z)) (hK : ∀ g, K ⟨(d, .os H.length g 0 len m) :: env, b0, H ++ [(g, .blk n (fl l))]⟩) (ho : o.op = .buildSlice t len parts := by exact rfl) (h1 : P.underlying t = some (.slice e) := by kernel_rfl) (h5 : (P.info? e).map (·.size) = some m := by kernel_rfl) (hm : Nat.ble (len * m) 16777216 = true := by exact rfl) (hlen : Nat.ble len 16777216 = true := by exact rfl)
    (hf : fillC (fun i => some (i * m, m)) ((List.range (len * m)).map fun i => .c (z.cells[i % z.cells.size]!)) (parts.toList.map fun p => (p.1, (⟨env, b0, H⟩ : AS).eval p.2)) = some l := by exact rfl) (hn : l.length = n := by exact rfl) (hle : n = len * m := by exact rfl) (hd : o.dst = some d := by exact rfl) (hN : Nat.blt d G.N = true := by exact rfl) : AEx P G o ⟨env, b0, H⟩ K := e_buildSlice ho h1 h5 hz hm hlen hf hn hle hd hN hK
theorem jecv {t u : TypeId} {x : Operand} {a : List UInt8} {d : Nat} (hK : K ⟨(d, bsC a) :: env, b0, H⟩) (ho : o.op = .convert t u x := by exact rfl) (hx : (⟨env, b0, H⟩ : AS).eval x = strC a := by exact rfl) (h1 : P.underlying t = some .string := by kernel_rfl) (hT : jbyT P u = true := by kernel_rfl) (hS : a.length ≤ 9223372036854775807 := by first | omega | decide | (dsimp only at *; omega)) (hd : o.dst = some d := by exact rfl) (hN : Nat.blt d G.N = true := by exact rfl) : AEx P G o ⟨env, b0, H⟩ K := by
  obtain ⟨e, h2, h3⟩ := jbyT_ok hT
  exact e_convLB ho hx h1 h2 h3 hS hd hN hK
theorem jecP {f : FuncId} {xs : Array Operand} {ats : Array TypeId} {args : List CV} {m : CV} {d : Nat} (hA : ACp G.gs P f args m) (hK : K ⟨(d, m) :: env, b0, H⟩) (ho : o.op = .call ⟨.value (.func f), xs, ats⟩ := by exact rfl) (hc : calleeB P f = true := by kernel_rfl) (he : SEL G ⟨env, b0, H⟩ xs.toList args := by (repeat (first | exact .nil | refine .cons (by first | exact se rfl (CEnt.refl _) | exact se rfl CEnt.nil | exact se rfl CEnt.nilB | exact se rfl (CEnt.osI rfl) | exact se rfl CEnt.opI | exact se_nilO rfl | exact se rfl (CEnt.agg2 (CEnt.refl _) (CEnt.refl _)) | exact se rfl (CEnt.agg3 (CEnt.refl _) (CEnt.refl _) (CEnt.refl _)) | exact se rfl (CEnt.agg4 (CEnt.refl _) (CEnt.refl _) (CEnt.refl _) (CEnt.refl _)) | exact se rfl (CEnt.agg5 (CEnt.refl _) (CEnt.refl _) (CEnt.refl _) (CEnt.refl _) (CEnt.refl _)) | exact se rfl (CEnt.agg6 (CEnt.refl _) (CEnt.refl _) (CEnt.refl _) (CEnt.refl _) (CEnt.refl _) (CEnt.refl _)) | exact se_frzB _ rfl rfl rfl (by simp) (fun _ _ => CEnt.refl _)) ?_))) (hd : o.dst = some d := by exact rfl) (hN : Nat.blt d G.N = true := by exact rfl) : AEx P G o ⟨env, b0, H⟩ K := e_callP ho hc hA he hd hN hK
theorem jecP0 {f : FuncId} {xs : Array Operand} {ats : Array TypeId} {args : List CV} {m : CV} (hA : ACp G.gs P f args m) (hK : K ⟨env, b0, H⟩) (ho : o.op = .call ⟨.value (.func f), xs, ats⟩ := by exact rfl) (hc : calleeB P f = true := by kernel_rfl) (he : SEL G ⟨env, b0, H⟩ xs.toList args := by (repeat (first | exact .nil | refine .cons (by first | exact se rfl (CEnt.refl _) | exact se rfl CEnt.nil | exact se rfl CEnt.nilB | exact se rfl (CEnt.osI rfl) | exact se rfl CEnt.opI | exact se_nilO rfl | exact se rfl (CEnt.agg2 (CEnt.refl _) (CEnt.refl _)) | exact se rfl (CEnt.agg3 (CEnt.refl _) (CEnt.refl _) (CEnt.refl _)) | exact se rfl (CEnt.agg4 (CEnt.refl _) (CEnt.refl _) (CEnt.refl _) (CEnt.refl _)) | exact se rfl (CEnt.agg5 (CEnt.refl _) (CEnt.refl _) (CEnt.refl _) (CEnt.refl _) (CEnt.refl _)) | exact se rfl (CEnt.agg6 (CEnt.refl _) (CEnt.refl _) (CEnt.refl _) (CEnt.refl _) (CEnt.refl _) (CEnt.refl _)) | exact se_frzB _ rfl rfl rfl (by simp) (fun _ _ => CEnt.refl _)) ?_))) (hd : o.dst = none := by exact rfl) : AEx P G o ⟨env, b0, H⟩ K := e_callP0 ho hc hA he hd hK
theorem jecS {f : FuncId} {xs : Array Operand} {ats : Array TypeId} {args : List CV} {Q : CV → List (Option Nat × Res) → Prop} {d : Nat} (hA : AC G.gs P f [] args Q) (hK : ∀ r H', Q r H' → K ⟨(d, r) :: env, b0, H ++ H'⟩) (ho : o.op = .call ⟨.value (.func f), xs, ats⟩ := by exact rfl) (hc : calleeB P f = true := by kernel_rfl) (he : SEL G ⟨env, b0, H⟩ xs.toList args := by (repeat (first | exact .nil | refine .cons (by first | exact se rfl (CEnt.refl _) | exact se rfl CEnt.nil | exact se rfl CEnt.nilB | exact se rfl (CEnt.osI rfl) | exact se rfl CEnt.opI | exact se_nilO rfl | exact se rfl (CEnt.agg2 (CEnt.refl _) (CEnt.refl _)) | exact se rfl (CEnt.agg3 (CEnt.refl _) (CEnt.refl _) (CEnt.refl _)) | exact se rfl (CEnt.agg4 (CEnt.refl _) (CEnt.refl _) (CEnt.refl _) (CEnt.refl _)) | exact se rfl (CEnt.agg5 (CEnt.refl _) (CEnt.refl _) (CEnt.refl _) (CEnt.refl _) (CEnt.refl _)) | exact se rfl (CEnt.agg6 (CEnt.refl _) (CEnt.refl _) (CEnt.refl _) (CEnt.refl _) (CEnt.refl _) (CEnt.refl _)) | exact se_frzB _ rfl rfl rfl (by simp) (fun _ _ => CEnt.refl _)) ?_))) (hd : o.dst = some d := by exact rfl) (hN : Nat.blt d G.N = true := by exact rfl) : AEx P G o ⟨env, b0, H⟩ K := e_callS ho hc hA he hd hN hK
theorem jecO {f : FuncId} {xs : Array Operand} {ats : Array TypeId} {args : List CV} {n m N : Nat} {F : Nat → CV} {d : Nat} (hA : AC G.gs P f [] args (OwnQ n m N F)) (hK : ∀ g, K ⟨(d, .os H.length g 0 n m) :: env, b0, H ++ [(g, .blk N F)]⟩) (ho : o.op = .call ⟨.value (.func f), xs, ats⟩ := by exact rfl) (hc : calleeB P f = true := by kernel_rfl) (he : SEL G ⟨env, b0, H⟩ xs.toList args := by (repeat (first | exact .nil | refine .cons (by first | exact se rfl (CEnt.refl _) | exact se rfl CEnt.nil | exact se rfl CEnt.nilB | exact se rfl (CEnt.osI rfl) | exact se rfl CEnt.opI | exact se_nilO rfl | exact se rfl (CEnt.agg2 (CEnt.refl _) (CEnt.refl _)) | exact se rfl (CEnt.agg3 (CEnt.refl _) (CEnt.refl _) (CEnt.refl _)) | exact se rfl (CEnt.agg4 (CEnt.refl _) (CEnt.refl _) (CEnt.refl _) (CEnt.refl _)) | exact se rfl (CEnt.agg5 (CEnt.refl _) (CEnt.refl _) (CEnt.refl _) (CEnt.refl _) (CEnt.refl _)) | exact se rfl (CEnt.agg6 (CEnt.refl _) (CEnt.refl _) (CEnt.refl _) (CEnt.refl _) (CEnt.refl _) (CEnt.refl _)) | exact se_frzB _ rfl rfl rfl (by simp) (fun _ _ => CEnt.refl _)) ?_))) (hd : o.dst = some d := by exact rfl) (hN : Nat.blt d G.N = true := by exact rfl) : AEx P G o ⟨env, b0, H⟩ K := e_callO ho hc hA he hd hN hK
theorem jmcH (i : Nat) {f : FuncId} {xs : Array Operand} {ats : Array TypeId} {args : List CV} {Q : CV → List (Option Nat × Res) → Prop} {d : Nat} {x0 : Option Nat × Res} (hA : AC G.gs P f [x0] args Q) (hK : ∀ r H', Q r H' → ∃ x r', H' = [x] ∧ CEnt r r' ∧ K ⟨(d, r') :: env, b0, H.set i x⟩) (hi : H[i]? = some x0 := by exact rfl) (ho : o.op = .call ⟨.value (.func f), xs, ats⟩ := by exact rfl) (hc : calleeB P f = true := by kernel_rfl) (he : SEL G ⟨env, b0, H⟩ xs.toList args := by (repeat (first | exact .nil | refine .cons (by first | exact se rfl (CEnt.refl _) | exact se rfl CEnt.nil | exact se rfl CEnt.nilB | exact se rfl (CEnt.osI rfl) | exact se rfl CEnt.opI | exact se_nilO rfl | exact se rfl (CEnt.agg2 (CEnt.refl _) (CEnt.refl _)) | exact se rfl (CEnt.agg3 (CEnt.refl _) (CEnt.refl _) (CEnt.refl _)) | exact se rfl (CEnt.agg4 (CEnt.refl _) (CEnt.refl _) (CEnt.refl _) (CEnt.refl _)) | exact se rfl (CEnt.agg5 (CEnt.refl _) (CEnt.refl _) (CEnt.refl _) (CEnt.refl _) (CEnt.refl _)) | exact se rfl (CEnt.agg6 (CEnt.refl _) (CEnt.refl _) (CEnt.refl _) (CEnt.refl _) (CEnt.refl _) (CEnt.refl _)) | exact se_frzB _ rfl rfl rfl (by simp) (fun _ _ => CEnt.refl _)) ?_))) (hd : o.dst = some d := by exact rfl) (hN : Nat.blt d G.N = true := by exact rfl) : AMd P G o ⟨env, b0, H⟩ K := m_callH ho hc hi hA he hd hN hK
theorem jmcH0 (i : Nat) {f : FuncId} {xs : Array Operand} {ats : Array TypeId} {args : List CV} {Q : CV → List (Option Nat × Res) → Prop} {x0 : Option Nat × Res} (hA : AC G.gs P f [x0] args Q) (hK : ∀ r H', Q r H' → ∃ x, H' = [x] ∧ K ⟨env, b0, H.set i x⟩) (hi : H[i]? = some x0 := by exact rfl) (ho : o.op = .call ⟨.value (.func f), xs, ats⟩ := by exact rfl) (hc : calleeB P f = true := by kernel_rfl) (he : SEL G ⟨env, b0, H⟩ xs.toList args := by (repeat (first | exact .nil | refine .cons (by first | exact se rfl (CEnt.refl _) | exact se rfl CEnt.nil | exact se rfl CEnt.nilB | exact se rfl (CEnt.osI rfl) | exact se rfl CEnt.opI | exact se_nilO rfl | exact se rfl (CEnt.agg2 (CEnt.refl _) (CEnt.refl _)) | exact se rfl (CEnt.agg3 (CEnt.refl _) (CEnt.refl _) (CEnt.refl _)) | exact se rfl (CEnt.agg4 (CEnt.refl _) (CEnt.refl _) (CEnt.refl _) (CEnt.refl _)) | exact se rfl (CEnt.agg5 (CEnt.refl _) (CEnt.refl _) (CEnt.refl _) (CEnt.refl _) (CEnt.refl _)) | exact se rfl (CEnt.agg6 (CEnt.refl _) (CEnt.refl _) (CEnt.refl _) (CEnt.refl _) (CEnt.refl _) (CEnt.refl _)) | exact se_frzB _ rfl rfl rfl (by simp) (fun _ _ => CEnt.refl _)) ?_))) (hd : o.dst = none := by exact rfl) : AMd P G o ⟨env, b0, H⟩ K := m_callH0 ho hc hi hA he hd hK
theorem jmcO (i : Nat) {f : FuncId} {xs : Array Operand} {ats : Array TypeId} {args : List CV} {n m N : Nat} {F : Nat → CV} {d : Nat} {x0 : Option Nat × Res} (hA : AC G.gs P f [x0] args (OwnQ n m N F)) (hK : ∀ g, K ⟨(d, .os i g 0 n m) :: env, b0, H.set i (g, .blk N F)⟩) (hi : H[i]? = some x0 := by exact rfl) (ho : o.op = .call ⟨.value (.func f), xs, ats⟩ := by exact rfl) (hc : calleeB P f = true := by kernel_rfl) (he : SEL G ⟨env, b0, H⟩ xs.toList args := by (repeat (first | exact .nil | refine .cons (by first | exact se rfl (CEnt.refl _) | exact se rfl CEnt.nil | exact se rfl CEnt.nilB | exact se rfl (CEnt.osI rfl) | exact se rfl CEnt.opI | exact se_nilO rfl | exact se rfl (CEnt.agg2 (CEnt.refl _) (CEnt.refl _)) | exact se rfl (CEnt.agg3 (CEnt.refl _) (CEnt.refl _) (CEnt.refl _)) | exact se rfl (CEnt.agg4 (CEnt.refl _) (CEnt.refl _) (CEnt.refl _) (CEnt.refl _)) | exact se rfl (CEnt.agg5 (CEnt.refl _) (CEnt.refl _) (CEnt.refl _) (CEnt.refl _) (CEnt.refl _)) | exact se rfl (CEnt.agg6 (CEnt.refl _) (CEnt.refl _) (CEnt.refl _) (CEnt.refl _) (CEnt.refl _) (CEnt.refl _)) | exact se_frzB _ rfl rfl rfl (by simp) (fun _ _ => CEnt.refl _)) ?_))) (hd : o.dst = some d := by exact rfl) (hN : Nat.blt d G.N = true := by exact rfl) : AMd P G o ⟨env, b0, H⟩ K := m_callO ho hc hi hA he hd hN hK
theorem jmst (m : Nat) {t : TypeId} {p q : Operand} {i off n : Nat} {g : Option Nat} {f : Nat → CV} {c : CV} {l : List CV} (hK : K ⟨env, b0, H.set i (g, .blk n (updF f off l))⟩) (ho : o.op = .store t p q := by exact rfl) (hx : (⟨env, b0, H⟩ : AS).eval p = .op i g off := by exact rfl) (hH : H[i]? = some (g, .blk n f) := by exact rfl) (hy : (⟨env, b0, H⟩ : AS).eval q = c := by first | exact jev_t rfl | exact jev_l rfl rfl rfl | exact jev_f rfl) (hl : cellsC c = some l := by exact rfl) (hm : l.length = m := by exact rfl) (h5 : (P.info? t).map (·.size) = some m := by kernel_rfl) (hleaf : l.all leafC = true := by exact rfl) (hn : off + m ≤ n := by first | decide | omega | (dsimp only at *; omega)) (hd : o.dst = none := by exact rfl) : AMd P G o ⟨env, b0, H⟩ K :=
  m_store ho hx hH hy hl h5 hm hleaf hn _ (fun _ _ => CEnt.refl _) hd hK
theorem jmstF (m : Nat) (F : Nat → CV) {t : TypeId} {p q : Operand} {i off n : Nat} {g : Option Nat} {f : Nat → CV} {c : CV} {l : List CV} (hF : ∀ j, j < n → CEnt (updF f off l j) (F j)) (hK : K ⟨env, b0, H.set i (g, .blk n F)⟩) (ho : o.op = .store t p q := by exact rfl) (hx : (⟨env, b0, H⟩ : AS).eval p = .op i g off := by exact rfl) (hH : H[i]? = some (g, .blk n f) := by exact rfl) (hy : (⟨env, b0, H⟩ : AS).eval q = c := by first | exact jev_t rfl | exact jev_l rfl rfl rfl | exact jev_f rfl) (hl : cellsC c = some l := by exact rfl) (hm : l.length = m := by exact rfl) (h5 : (P.info? t).map (·.size) = some m := by kernel_rfl) (hleaf : l.all leafC = true := by exact rfl) (hn : off + m ≤ n := by first | decide | omega | (dsimp only at *; omega)) (hd : o.dst = none := by exact rfl) : AMd P G o ⟨env, b0, H⟩ K :=
  m_store ho hx hH hy hl h5 hm hleaf hn F hF hd hK
/-! ### ends -/
theorem javc {d : Nat} {t : TypeId} {i off n : Nat} {g : Option Nat} {f : Nat → CV} {c : CV} (h : look s.env s.b d = .op i g off := by exact rfl) (hH : Holds s i g n f := by first | exact .inl rfl | exact .inr rfl) (hc : f off = c := by first | exact jflO_eq rfl | exact jfz_eq rfl) (hn : off < n := by first | decide | omega | (dsimp only at *; omega)) (hT : jldQ P t = true := by kernel_rfl) : ARV P G s (.cell d t) c := by
  obtain ⟨ds, h1, ha⟩ := jldQ_ok hT
  exact arv_cell h hH h1 ha hn hc
theorem javA (m : Nat) {d : Nat} {t : TypeId} {i off n : Nat} {g : Option Nat} {f : Nat → CV} (h : look s.env s.b d = .op i g off := by exact rfl) (hH : Holds s i g n f := by first | exact .inl rfl | exact .inr rfl) (hn : off + m ≤ n := by first | decide | omega | (dsimp only at *; omega)) (hT : jtyQ P t m true = true := by kernel_rfl) : ARV P G s (.cell d t) (.agg m fun j => f (off + j)) := by
  obtain ⟨ds, h1, ha, h5⟩ := jtyQ_ok hT
  exact arv_cellA h hH h1 ha h5 hn
theorem javt {t : Nat} {c : CV} (h : s.eval (.tmp t) = c := by first | exact jev_t rfl | exact jev_l rfl rfl rfl | exact jev_f rfl) : ARV P G s (.tmp t) c := arv_tmp h
theorem jrt {fn : Func} {e : Exit} {v m : CV} (hres : ARes P G fn s v := by first | exact res_1 rfl javt | exact res_2 rfl javt javt | exact res_3 rfl javt javt javt | exact res_4 rfl javt javt javt javt | exact res_0 rfl) (hv : CEnt v m := by first | exact CEnt.refl _ | exact CEnt.nil) (he : e = .ret ∨ e = .normal := by first | exact .inl rfl | exact .inr rfl) : bodyR P G fn (fun r H => r = m ∧ H = []) e s := end_val he hres hv
theorem jlend {α : Type} {k : Nat} {φ : α → Prop} {μ : α → Nat} {D : List Nat} {M : α → List (Nat × CV)} {Hp : α → List (Option Nat × Res)} {b1 : Nat → CV} (p' : α) (h1 : φ p') (h2 : μ p' < k) (h5 : EntE s.env s.b (M p') := by (repeat (first | exact EntE.nil | refine EntE.cons (CEnt.refl _) ?_ | refine EntE.cons (CEnt.int (by omega)) ?_))) (h7 : HEnt (s.H.take (Hp p').length) (Hp p') := by (repeat (first | exact HEnt.nil | refine HEnt.same ?_ | refine HEnt.blk rfl (fun j hj => by rcases j with _|_|_|_|_|_|_|_|j <;> first | exact CEnt.refl _ | exact CEnt.int (by omega) | omega) ?_)))
    (h3 : BLe D b1 s.b := by first | exact .refl | exact .nest .refl rfl rfl | exact .nest (.nest .refl rfl rfl) rfl rfl | exact .nest (.nest (.nest .refl rfl rfl) rfl rfl) rfl rfl | (repeat (first | exact .refl | refine .nest ?_ rfl rfl | refine BLe.look2 ?_ rfl))) (h4 : (s.env.all fun x => D.any (Nat.beq x.1)) = true := by exact rfl) (h6 : (Hp p').length ≤ s.H.length := by exact Nat.le_of_ble_eq_true rfl) :
    ∃ p', φ p' ∧ μ p' < k ∧ BLe D b1 s.b ∧ (s.env.all fun x => D.any (Nat.beq x.1)) = true ∧ EntE s.env s.b (M p') ∧ (Hp p').length ≤ s.H.length ∧ HEnt (s.H.take (Hp p').length) (Hp p') := ⟨p', h1, h2, h3, h4, h5, h6, h7⟩
theorem jjend {α : Type} {φ : α → Prop} {D : List Nat} {M : α → List (Nat × CV)} {Hp : α → List (Option Nat × Res)} {b1 : Nat → CV} (p' : α) (h1 : φ p') (h5 : EntE s.env s.b (M p') := by (repeat (first | exact EntE.nil | refine EntE.cons (CEnt.refl _) ?_ | refine EntE.cons (CEnt.int (by omega)) ?_))) (h7 : HEnt (s.H.take (Hp p').length) (Hp p') := by (repeat (first | exact HEnt.nil | refine HEnt.same ?_ | refine HEnt.blk rfl (fun j hj => by rcases j with _|_|_|_|_|_|_|_|j <;> first | exact CEnt.refl _ | exact CEnt.int (by omega) | omega) ?_)))
    (h3 : BLe D b1 s.b := by first | exact .refl | exact .nest .refl rfl rfl | exact .nest (.nest .refl rfl rfl) rfl rfl | exact .nest (.nest (.nest .refl rfl rfl) rfl rfl) rfl rfl | (repeat (first | exact .refl | refine .nest ?_ rfl rfl | refine BLe.look2 ?_ rfl))) (h4 : (s.env.all fun x => D.any (Nat.beq x.1)) = true := by exact rfl) (h6 : (Hp p').length ≤ s.H.length := by exact Nat.le_of_ble_eq_true rfl) :
    ∃ p', φ p' ∧ BLe D b1 s.b ∧ (s.env.all fun x => D.any (Nat.beq x.1)) = true ∧ EntE s.env s.b (M p') ∧ (Hp p').length ≤ s.H.length ∧ HEnt (s.H.take (Hp p').length) (Hp p') := ⟨p', h1, h3, h4, h5, h6, h7⟩
end
section
variable {G : Gh} {o : Oper} {s : AS}
def jerrN : CV → Option Nat
  | .err k => some k
  | .c .nilIface => some 0
  | _ => none
def jerrZ (op : BinOp) (n : Nat) : Option Bool := match op with | .eql => some (decide (n = 0)) | .neq => some (decide (n ≠ 0)) | _ => none
theorem jre {op : BinOp} {x : Operand} {u : TypeId} {n : Nat} {z : Bool} (ho : o.op = .binOp op 27 x (.const .nilIface) u := by exact rfl) (hx : jerrN (s.eval x) = some n := by exact rfl) (hz : jerrZ op n = some z := by exact rfl) : ARd Tryd.prog G o s (.c (.bool z)) := by
  unfold jerrN at hx
  cases op <;> simp only [jerrZ, Option.some.injEq, reduceCtorEq] at hz
  all_goals subst hz
  · split at hx
    · rename_i h; cases hx; exact rd_eqE ho h
    · rename_i h; cases hx; exact rd_eqE0 ho h
    · cases hx
  · split at hx
    · rename_i h; cases hx; exact rd_neE ho h
    · rename_i h; cases hx; exact rd_neE0 ho h
    · cases hx
end
end Am
end Go.Proofs.YtdfjiodkmhpfkaaDoor

/- Chapter 9, plain: labels, subjects, their texts and parts. -/
namespace Go.Proofs.YtdfjiodkmhpfkaaDoor
namespace Am
open Go.RowKit
set_option linter.unusedVariables false

/-! ### labels -/
def lch (c : UInt8) : Bool := (decide (97 ≤ c.toNat) && decide (c.toNat ≤ 122)) || (decide (48 ≤ c.toNat) && decide (c.toNat ≤ 57)) || decide (c.toNat = 45)
def labM (l : List UInt8) : Bool := decide (l ≠ []) && decide (l.length ≤ 24) && decide (l.getD 0 0 ≠ 45) && decide (l.getD (l.length - 1) 0 ≠ 45) && l.all lch
theorem lab_free {l : List UInt8} (h : labM l = true) : (58 : UInt8) ∉ l ∧ (47 : UInt8) ∉ l ∧ l ≠ [] := by
  simp only [labM, Bool.and_eq_true, decide_eq_true_eq, List.all_eq_true] at h
  obtain ⟨⟨⟨⟨h1, _⟩, _⟩, _⟩, h2⟩ := h
  exact ⟨fun hm => by have := h2 _ hm; revert this; decide, fun hm => by have := h2 _ hm; revert this; decide, h1⟩
/-! ### subjects -/
abbrev S3 := Int × List UInt8 × List UInt8
def wordL : List (List UInt8) := [[110, 111, 100, 101], [119, 111, 114, 107, 108, 111, 97, 100], [111, 112, 101, 114, 97, 116, 111, 114], [98, 111, 111, 116], [99, 97]]
def wordM (k : Int) : List UInt8 := if k < 1 then [] else wordL.getD (k - 1).toNat []
def rightS (s : S3) : Bool := decide (1 ≤ s.1) && decide (s.1 ≤ 5) && labM s.2.2 && (if s.1 = 2 then labM s.2.1 else decide (s.2.1 = []))
theorem right_iff (s : S3) : rightS s = true ↔ 1 ≤ s.1 ∧ s.1 ≤ 5 ∧ labM s.2.2 = true ∧ (s.1 = 2 → labM s.2.1 = true) ∧ (s.1 ≠ 2 → s.2.1 = []) := by
  simp only [rightS, Bool.and_eq_true, decide_eq_true_eq]
  by_cases h : s.1 = 2
  · rw [if_pos h]
    exact ⟨fun ⟨⟨⟨a, b⟩, c⟩, d⟩ => ⟨a, b, c, fun _ => d, fun e => absurd h e⟩, fun ⟨a, b, c, d, _⟩ => ⟨⟨⟨a, b⟩, c⟩, d h⟩⟩
  · rw [if_neg h, decide_eq_true_eq]
    exact ⟨fun ⟨⟨⟨a, b⟩, c⟩, d⟩ => ⟨a, b, c, fun e => absurd e h, fun _ => d⟩, fun ⟨a, b, c, _, d⟩ => ⟨⟨⟨a, b⟩, c⟩, d h⟩⟩
theorem kinds {k : Int} (h1 : 1 ≤ k) (h5 : k ≤ 5) : k = 1 ∨ k = 2 ∨ k = 3 ∨ k = 4 ∨ k = 5 := by omega
theorem wordM_nil (k : Int) : wordM k = [] ↔ ¬ (1 ≤ k ∧ k ≤ 5) := by
  constructor
  · intro h hk
    rcases kinds hk.1 hk.2 with rfl | rfl | rfl | rfl | rfl <;> exact absurd h (by decide)
  · intro h
    unfold wordM
    by_cases h1 : k < 1
    · rw [if_pos h1]
    · rw [if_neg h1, List.getD_eq_getElem?_getD, List.getElem?_eq_none (by show 5 ≤ _; omega)]; rfl
theorem word_free {k : Int} (h1 : 1 ≤ k) (h5 : k ≤ 5) : (58 : UInt8) ∉ wordM k := by
  rcases kinds h1 h5 with rfl | rfl | rfl | rfl | rfl <;> decide
theorem word_idx {k : Int} (h1 : 1 ≤ k) (h5 : k ≤ 5) : ((wordL.idxOf (wordM k) : Nat) : Int) + 1 = k ∧ wordM k ∈ wordL := by
  rcases kinds h1 h5 with rfl | rfl | rfl | rfl | rfl <;> decide
/-- what stands before and behind the first byte c; is there one -/
def cutM (c : UInt8) : List UInt8 → List UInt8 × List UInt8 × Bool
  | [] => ([], [], false)
  | x :: l => if x = c then ([], l, true) else (x :: (cutM c l).1, (cutM c l).2.1, (cutM c l).2.2)
theorem cut_at {c : UInt8} : ∀ {p : List UInt8} (r : List UInt8), c ∉ p → cutM c (p ++ c :: r) = (p, r, true)
  | [], r, _ => by simp [cutM]
  | x :: l, r, h => by
    have h1 : x ≠ c := fun e => h (by simp [e])
    have h2 : c ∉ l := fun e => h (by simp [e])
    rw [List.cons_append, cutM, if_neg h1, cut_at r h2]
theorem cut_none {c : UInt8} : ∀ {p : List UInt8}, c ∉ p → cutM c p = (p, [], false)
  | [], _ => rfl
  | x :: l, h => by
    have h1 : x ≠ c := fun e => h (by simp [e])
    have h2 : c ∉ l := fun e => h (by simp [e])
    rw [cutM, if_neg h1, cut_none h2]
def textS (s : S3) : List UInt8 := wordM s.1 ++ 58 :: (if s.2.1 = [] then s.2.2 else s.2.1 ++ 47 :: s.2.2)
/-- the index of a word, from 1 on; 0: it is none -/
def idxW (w : List UInt8) : Int := if w ∈ wordL then (wordL.idxOf w : Nat) + 1 else 0
theorem idxW_bd (w : List UInt8) : 0 ≤ idxW w ∧ idxW w ≤ 5 := by
  unfold idxW
  split
  · rename_i h
    have := List.idxOf_lt_length_iff.2 h
    have e : wordL.length = 5 := rfl
    omega
  · omega
/-- what a text is taken for -/
def guessT (t : List UInt8) : S3 :=
  if (cutM 47 (cutM 58 t).2.1).2.2 = true then (idxW (cutM 58 t).1, (cutM 47 (cutM 58 t).2.1).1, (cutM 47 (cutM 58 t).2.1).2.1) else (idxW (cutM 58 t).1, [], (cutM 58 t).2.1)
theorem guess_text {s : S3} (h : rightS s = true) : guessT (textS s) = s := by
  obtain ⟨h1, h5, hn, h2, hs⟩ := (right_iff s).1 h
  obtain ⟨k, sp, nm⟩ := s
  have e := cut_at (if sp = [] then nm else sp ++ 47 :: nm) (word_free h1 h5)
  have hi := word_idx h1 h5
  unfold guessT textS
  simp only [e]
  have hk : idxW (wordM k) = k := by unfold idxW; rw [if_pos hi.2]; exact hi.1
  by_cases hk2 : k = 2
  · have hl := lab_free (h2 hk2)
    rw [if_neg hl.2.2, cut_at _ hl.2.1, if_pos rfl, hk]
  · have := hs hk2
    simp only at this
    subst this
    rw [if_pos rfl, cut_none (lab_free hn).2.1, if_neg (by simp), hk]
theorem text_inj {s s' : S3} (h : rightS s = true) (h' : rightS s' = true) (he : textS s = textS s') : s = s' := by
  rw [← guess_text h, he, guess_text h']
def zeroS : S3 := (0, [], [])
/-- a text's subject; the error's number -/
def parseT (t : List UInt8) : S3 × Nat := if rightS (guessT t) = true ∧ textS (guessT t) = t then (guessT t, 0) else (zeroS, 9)
theorem parse_textS {s : S3} (h : rightS s = true) : parseT (textS s) = (s, 0) := by
  unfold parseT
  rw [guess_text h, if_pos ⟨h, rfl⟩]
theorem parseT_iff (t : List UInt8) (s : S3) : parseT t = (s, 0) ↔ rightS s = true ∧ textS s = t := by
  constructor
  · intro h
    unfold parseT at h
    split at h
    · rename_i h1
      obtain ⟨rfl, _⟩ := Prod.mk.inj h
      exact h1
    · simp at h
  · rintro ⟨h, rfl⟩
    exact parse_textS h
theorem parseT_no {t : List UInt8} (h : ∀ s, rightS s = true → textS s ≠ t) : parseT t = (zeroS, 9) := by
  unfold parseT
  rw [if_neg (fun h1 => h _ h1.1 h1.2)]
/-- the reference's: a text as a subject of a kind -/
def asKind (t : List UInt8) (k : Int) : S3 :=
  if k = 2 ∧ (cutM 47 (t.drop ((wordM k).length + 1))).2.2 = true then (k, (cutM 47 (t.drop ((wordM k).length + 1))).1, (cutM 47 (t.drop ((wordM k).length + 1))).2.1) else (k, [], t.drop ((wordM k).length + 1))
def isKind (t : List UInt8) (k : Int) : Prop := (wordM k).length + 1 ≤ t.length ∧ t.take ((wordM k).length + 1) = wordM k ++ [58] ∧ rightS (asKind t k) = true ∧ textS (asKind t k) = t
theorem asKind_fst (t : List UInt8) (k : Int) : (asKind t k).1 = k := by unfold asKind; split <;> rfl
theorem isKind_text {s : S3} (h : rightS s = true) : isKind (textS s) s.1 ∧ asKind (textS s) s.1 = s := by
  obtain ⟨h1, h5, hn, h2, hs⟩ := (right_iff s).1 h
  obtain ⟨k, sp, nm⟩ := s
  have hd : (textS (k, sp, nm)).drop ((wordM k).length + 1) = if sp = [] then nm else sp ++ 47 :: nm := by
    unfold textS
    rw [← List.singleton_append (x := (58 : UInt8)), ← List.append_assoc, show (wordM k).length + 1 = (wordM k ++ [58]).length by simp, List.drop_left]
  have e : asKind (textS (k, sp, nm)) k = (k, sp, nm) := by
    unfold asKind
    rw [hd]
    by_cases hk2 : k = 2
    · have hl := lab_free (h2 hk2)
      rw [if_neg hl.2.2, cut_at _ hl.2.1, if_pos ⟨hk2, rfl⟩]
    · have := hs hk2
      simp only at this
      subst this
      rw [if_pos rfl, if_neg (fun h => hk2 h.1)]
  refine ⟨⟨?_, ?_, ?_, ?_⟩, e⟩
  · unfold textS; simp
  · unfold textS
    show (wordM k ++ 58 :: _).take _ = _
    rw [← List.singleton_append (x := (58 : UInt8)), ← List.append_assoc, show (wordM k).length + 1 = (wordM k ++ [58]).length by simp, List.take_left]
  · rw [e]; exact h
  · rw [e]
/-- the first kind as which a text reads -/
theorem kind_parse {t : List UInt8} {k : Int} (h : isKind t k) : parseT t = (asKind t k, 0) := (parseT_iff _ _).2 ⟨h.2.2.1, h.2.2.2⟩
theorem no_kind {t : List UInt8} (h : ∀ k, 1 ≤ k → k ≤ 5 → ¬ isKind t k) : parseT t = (zeroS, 9) := parseT_no fun s hs e => by
  obtain ⟨h1, h5, _⟩ := (right_iff s).1 hs
  exact h s.1 h1 h5 (e ▸ (isKind_text hs).1)

/-! ### parts -/
def oidB : List UInt8 := [49, 46, 51, 46, 57, 57, 57, 57, 46, 49, 46]
def oidK : List UInt8 := oidB ++ [49]
def oidS : List UInt8 := oidB ++ [50]
def oidN : List UInt8 := oidB ++ [51]
abbrev P2 := List UInt8 × List UInt8
def partsS (s : S3) : List P2 := if s.2.1 = [] then [(oidK, wordM s.1), (oidN, s.2.2)] else [(oidK, wordM s.1), (oidS, s.2.1), (oidN, s.2.2)]
/-- what parts make of a subject, part by part -/
def stepP (s : S3) (p : P2) : S3 := if p.1 = oidK then (idxW p.2, s.2.1, s.2.2) else if p.1 = oidS then (s.1, p.2, s.2.2) else if p.1 = oidN then (s.1, s.2.1, p.2) else s
def guessP (l : List P2) : S3 := l.foldl stepP zeroS
theorem guess_parts {s : S3} (h : rightS s = true) : guessP (partsS s) = s := by
  obtain ⟨h1, h5, hn, h2, hs⟩ := (right_iff s).1 h
  obtain ⟨k, sp, nm⟩ := s
  have hk : idxW (wordM k) = k := by
    have hi := word_idx h1 h5
    unfold idxW; rw [if_pos hi.2]; exact hi.1
  have ks : oidS ≠ oidK := by decide
  have kn : oidN ≠ oidK := by decide
  have sn : oidN ≠ oidS := by decide
  unfold partsS
  by_cases he : sp = []
  · subst he
    simp [guessP, stepP, hk, ks, kn, sn, zeroS]
  · simp [guessP, stepP, hk, ks, kn, sn, zeroS, he]
theorem parts_inj {s s' : S3} (h : rightS s = true) (h' : rightS s' = true) (he : partsS s = partsS s') : s = s' := by
  rw [← guess_parts h, he, guess_parts h']
/-- the subject of parts; the error's number -/
def ofP (l : List P2) : S3 × Nat := if rightS (guessP l) = true ∧ partsS (guessP l) = l then (guessP l, 0) else (zeroS, 9)
theorem ofP_iff (l : List P2) (s : S3) : ofP l = (s, 0) ↔ rightS s = true ∧ partsS s = l := by
  constructor
  · intro h
    unfold ofP at h
    split at h
    · rename_i h1
      obtain ⟨rfl, _⟩ := Prod.mk.inj h
      exact h1
    · simp at h
  · rintro ⟨h, rfl⟩
    unfold ofP
    rw [guess_parts h, if_pos ⟨h, rfl⟩]
theorem ofP_no {l : List P2} (h : ∀ s, rightS s = true → partsS s ≠ l) : ofP l = (zeroS, 9) := by
  unfold ofP
  rw [if_neg (fun h1 => h _ h1.1 h1.2)]
/-- the reference's: parts as those of a subject of a kind -/
def asKindP (l : List P2) (k : Int) : S3 := (k, (if k = 2 ∧ 1 < l.length then (l.getD 1 ([], [])).2 else []), (if 0 < l.length then (l.getD (l.length - 1) ([], [])).2 else []))
def isKindP (l : List P2) (k : Int) : Prop := rightS (asKindP l k) = true ∧ partsS (asKindP l k) = l
theorem isKind_parts {s : S3} (h : rightS s = true) : asKindP (partsS s) s.1 = s := by
  obtain ⟨h1, h5, hn, h2, hs⟩ := (right_iff s).1 h
  obtain ⟨k, sp, nm⟩ := s
  unfold partsS asKindP
  by_cases hk2 : k = 2
  · have hl := lab_free (h2 hk2)
    simp only at hl
    subst hk2
    simp [hl.2.2]
  · have := hs hk2
    simp only at this
    subst this
    simp [hk2]
theorem kind_parts {l : List P2} {k : Int} (h : isKindP l k) : ofP l = (asKindP l k, 0) := (ofP_iff _ _).2 h
theorem no_kindP {l : List P2} (h : ∀ k, 1 ≤ k → k ≤ 5 → ¬ isKindP l k) : ofP l = (zeroS, 9) := ofP_no fun s hs e => by
  obtain ⟨h1, h5, _⟩ := (right_iff s).1 hs
  refine h s.1 h1 h5 ?_
  rw [← e]
  unfold isKindP
  rw [isKind_parts hs]
  exact ⟨hs, rfl⟩
theorem parts_ref {s : S3} (h : rightS s = true) : partsS s = if s.1 = 2 then [(oidK, wordM s.1), (oidS, s.2.1), (oidN, s.2.2)] else [(oidK, wordM s.1), (oidN, s.2.2)] := by
  obtain ⟨h1, h5, hn, h2, hs⟩ := (right_iff s).1 h
  unfold partsS
  by_cases hk2 : s.1 = 2
  · rw [if_pos hk2, if_neg (lab_free (h2 hk2)).2.2]
  · rw [if_neg hk2, if_pos (hs hk2)]
theorem text_ref {s : S3} (h : rightS s = true) : textS s = if s.1 = 2 then wordM 2 ++ 58 :: (s.2.1 ++ 47 :: s.2.2) else wordM s.1 ++ 58 :: s.2.2 := by
  obtain ⟨h1, h5, hn, h2, hs⟩ := (right_iff s).1 h
  unfold textS
  by_cases hk2 : s.1 = 2
  · rw [if_pos hk2, if_neg (lab_free (h2 hk2)).2.2, hk2]
  · rw [if_neg hk2, if_pos (hs hk2)]
end Am
end Go.Proofs.YtdfjiodkmhpfkaaDoor

/-
  DERIVED: THE SHELF's CONTRACTS AT THIS DUMP, IN PLAIN WORDS (tools/lay-plain.mjs out of 'TrydShelf.lean', which tools/lay-shelf.mjs wrote): THE SAME DECLARATIONS UNDER THE SAME NAMES: 'import', 'namespace', 'open', 'def', 'theorem' AND NOTHING ELSE: no command of the shelf's: FOR A HAND-IN. Each laying: the table of numbers ('.._ren') and one theorem, a field a fact of the dump's own or the kernel's comparison; each contract: ONE APPLICATION.
-/
namespace Go.Proofs
open Go.Shelf
def Tryd.lays169_ren : Go.Shelf.Ren := ⟨fun | 169 => 102 | n => n, fun | 70 => 144 | 9 => 9 | 0 => 0 | 72 => 146 | 37 => 46 | 127 => 175 | 3 => 3 | 5 => 5 | n => n, fun | n => n⟩
theorem Tryd.lays169 : Go.Proofs.Lays.n169 Tryd.prog Tryd.lays169_ren := {
  mixed := by kernel_rfl
  f169 := Tryd.func102.trans (congrArg some (by kernel_rfl))
  t0 := Tryd.underlying0
  a0 := Tryd.isAgg0
  z0 := Tryd.sizeOf0
  v0 := Tryd.zeroValue0
  t3 := Tryd.underlying3
  a3 := Tryd.isAgg3
  z3 := Tryd.sizeOf3
  v3 := Tryd.zeroValue3
  t9 := Tryd.underlying9
  a9 := Tryd.isAgg9
  z9 := Tryd.sizeOf9
  v9 := Tryd.zeroValue9
  t37 := Tryd.underlying46
  a37 := Tryd.isAgg46
  z37 := Tryd.sizeOf46
  v37 := Tryd.zeroValue46
  t70 := Tryd.underlying144
  a70 := Tryd.isAgg144
  z70 := Tryd.sizeOf144
  v70 := Tryd.zeroValue144
  t72 := Tryd.underlying146
  a72 := Tryd.isAgg146
  z72 := Tryd.sizeOf146
  v72 := Tryd.zeroValue146
  t127 := Tryd.underlying175
  a127 := Tryd.isAgg175
  z127 := Tryd.sizeOf175
  v127 := Tryd.zeroValue175 }
theorem Tryd.Builder_Extra_169 : Builder.Extra Tryd.prog Tryd.lays169_ren := {
  sizeBuilder := by kernel_rfl
  liesBuilder := by kernel_rfl
  t5 := Tryd.underlying5
  a5 := Tryd.isAgg5
  z5 := Tryd.sizeOf5
  v5 := Tryd.zeroValue5
  infoByte := by kernel_rfl
  cellsByte := by kernel_rfl
  sizeByte := by kernel_rfl
  neB5 := by decide }
open Go.RowKit in
/-- (*strings.Builder).String: "String returns the accumulated string.": OF A BUILDER THAT HOLDS AT LEAST ONE BYTE. ✋ THE MODEL FREEZES THOSE BYTES IN THE BUFFER (unsafe.String): a later write INTO them ends the model's run without an answer; a later append BEHIND them goes on. The statement's order of evaluation is drawn: one draw. (LAID: no walk: one application.) -/
theorem Tryd.Builder_String (B b : Nat) (l : List UInt8) (w : World) (h : Lib.IsBuilder 146 5 B b (Lib.byteCells l) w) (h0 : l ≠ []) :
    Calls Tryd.prog 102 #[.pointer (some ⟨b, 0, none⟩)] w fun e w' => e = .returned (.string ⟨l.toArray⟩) ∧ Below B w w' := Any.Builder_String Tryd.lays169 Tryd.Builder_Extra_169 B b l w h h0
open Go.RowKit in
/-- (*strings.Builder).String OF A BUILDER THAT HOLDS NO BYTE: the empty string. (Its buffer is nil, or a row of which it has taken nothing yet; where that row has NO capacity the model lays one new block for unsafe.SliceData's 'some address'.) One draw. (LAID: no walk: one application.) -/
theorem Tryd.Builder_String_empty (B b : Nat) (w : World) (h : Lib.IsBuilder 146 5 B b [] w) (hBw : B ≤ w.heap.size) :
    Calls Tryd.prog 102 #[.pointer (some ⟨b, 0, none⟩)] w fun e w' => e = .returned (.string ⟨#[]⟩) ∧ Below B w w' := Any.Builder_String_empty Tryd.lays169 Tryd.Builder_Extra_169 B b w h hBw
open Go.RowKit in
/-- (*strings.Builder).String: "String returns the accumulated string.": WHATEVER THE BUILDER HOLDS. (LAID: no walk: one application.) -/
theorem Tryd.Builder_String_any (B b : Nat) (l : List UInt8) (w : World) (h : Lib.IsBuilder 146 5 B b (Lib.byteCells l) w) (hBw : B ≤ w.heap.size) :
    Calls Tryd.prog 102 #[.pointer (some ⟨b, 0, none⟩)] w fun e w' => e = .returned (.string ⟨l.toArray⟩) ∧ Below B w w' := Any.Builder_String_any Tryd.lays169 Tryd.Builder_Extra_169 B b l w h hBw
def Tryd.lays241_ren : Go.Shelf.Ren := ⟨fun | 241 => 122 | 277 => 133 | n => n, fun | 70 => 144 | 3 => 3 | 0 => 0 | 72 => 146 | 37 => 46 | 5 => 5 | n => n, fun | n => n⟩
theorem Tryd.lays241 : Go.Proofs.Lays.n241 Tryd.prog Tryd.lays241_ren := {
  mixed := by kernel_rfl
  f241 := Tryd.func122.trans (congrArg some (by kernel_rfl))
  f277 := Tryd.func133.trans (congrArg some (by kernel_rfl))
  t0 := Tryd.underlying0
  a0 := Tryd.isAgg0
  z0 := Tryd.sizeOf0
  v0 := Tryd.zeroValue0
  t3 := Tryd.underlying3
  a3 := Tryd.isAgg3
  z3 := Tryd.sizeOf3
  v3 := Tryd.zeroValue3
  t37 := Tryd.underlying46
  a37 := Tryd.isAgg46
  z37 := Tryd.sizeOf46
  v37 := Tryd.zeroValue46
  t70 := Tryd.underlying144
  a70 := Tryd.isAgg144
  z70 := Tryd.sizeOf144
  v70 := Tryd.zeroValue144
  t72 := Tryd.underlying146
  a72 := Tryd.isAgg146
  z72 := Tryd.sizeOf146
  v72 := Tryd.zeroValue146 }
theorem Tryd.Builder_Extra_241 : Builder.Extra Tryd.prog Tryd.lays241_ren := {
  sizeBuilder := by kernel_rfl
  liesBuilder := by kernel_rfl
  t5 := Tryd.underlying5
  a5 := Tryd.isAgg5
  z5 := Tryd.sizeOf5
  v5 := Tryd.zeroValue5
  infoByte := by kernel_rfl
  cellsByte := by kernel_rfl
  sizeByte := by kernel_rfl
  neB5 := by decide }
open Go.RowKit in
/-- (*strings.Builder).grow (no doc but "grow copies the buffer to a new, larger buffer so that there are at least n bytes of capacity beyond len(b.buf)."): AT A BUILDER WITHOUT A BUFFER: a new row of whatever bytes for its buffer, none of them its own yet. Three draws. (LAID: no walk: one application.) -/
theorem Tryd.Builder_grow_fresh (B b n : Nat) (w : World) (hB : B ≤ b) (hbk : w.heap[b]? = some (.cells #[.pointer (some ⟨b, 0, none⟩), .slice none 0 0] 146 (0, 0))) (hBw : B ≤ w.heap.size) (hn : n ≤ 281474976710656) :
    Calls Tryd.prog 122 #[.pointer (some ⟨b, 0, none⟩), .int .i64 n] w fun e w' => e = .returned (.tuple #[]) ∧ (Lib.BuilderAt 146 5 B b (.pointer (some ⟨b, 0, none⟩)) [] w' ∧ Below B w w') := Any.Builder_grow_fresh Tryd.lays241 Tryd.Builder_Extra_241 B b n w hB hbk hBw hn
def Tryd.lays165_ren : Go.Shelf.Ren := ⟨fun | 165 => 100 | 240 => 121 | 241 => 122 | 276 => 132 | 277 => 133 | n => n, fun | 70 => 144 | 3 => 3 | 0 => 0 | 4 => 4 | 9 => 9 | 20 => 20 | 72 => 146 | 37 => 46 | 164 => 184 | 5 => 5 | n => n, fun | n => n⟩
theorem Tryd.lays165 : Go.Proofs.Lays.n165 Tryd.prog Tryd.lays165_ren := {
  mixed := by kernel_rfl
  f165 := Tryd.func100.trans (congrArg some (by kernel_rfl))
  f240 := Tryd.func121.trans (congrArg some (by kernel_rfl))
  f241 := Tryd.func122.trans (congrArg some (by kernel_rfl))
  f276 := Tryd.func132.trans (congrArg some (by kernel_rfl))
  f277 := Tryd.func133.trans (congrArg some (by kernel_rfl))
  t0 := Tryd.underlying0
  a0 := Tryd.isAgg0
  z0 := Tryd.sizeOf0
  v0 := Tryd.zeroValue0
  t3 := Tryd.underlying3
  a3 := Tryd.isAgg3
  z3 := Tryd.sizeOf3
  v3 := Tryd.zeroValue3
  t4 := Tryd.underlying4
  a4 := Tryd.isAgg4
  z4 := Tryd.sizeOf4
  v4 := Tryd.zeroValue4
  t9 := Tryd.underlying9
  a9 := Tryd.isAgg9
  z9 := Tryd.sizeOf9
  v9 := Tryd.zeroValue9
  t20 := Tryd.underlying20
  a20 := Tryd.isAgg20
  z20 := Tryd.sizeOf20
  v20 := Tryd.zeroValue20
  t37 := Tryd.underlying46
  a37 := Tryd.isAgg46
  z37 := Tryd.sizeOf46
  v37 := Tryd.zeroValue46
  t70 := Tryd.underlying144
  a70 := Tryd.isAgg144
  z70 := Tryd.sizeOf144
  v70 := Tryd.zeroValue144
  t72 := Tryd.underlying146
  a72 := Tryd.isAgg146
  z72 := Tryd.sizeOf146
  v72 := Tryd.zeroValue146
  t164 := Tryd.underlying184
  a164 := Tryd.isAgg184
  z164 := Tryd.sizeOf184
  v164 := Tryd.zeroValue184 }
theorem Tryd.Builder_Extra_165 : Builder.Extra Tryd.prog Tryd.lays165_ren := {
  sizeBuilder := by kernel_rfl
  liesBuilder := by kernel_rfl
  t5 := Tryd.underlying5
  a5 := Tryd.isAgg5
  z5 := Tryd.sizeOf5
  v5 := Tryd.zeroValue5
  infoByte := by kernel_rfl
  cellsByte := by kernel_rfl
  sizeByte := by kernel_rfl
  neB5 := by decide }
open Go.RowKit in
/-- (*strings.Builder).Grow AT A BUILDER THAT HAS NOT BEEN WRITTEN ('var b strings.Builder; b.Grow(n)'): "Grow grows b's capacity, if necessary, to guarantee space for another n bytes.": it holds no byte behind it as before it. (LAID: no walk: one application.) -/
theorem Tryd.Builder_Grow_fresh (B b n : Nat) (w : World) (hB : B ≤ b) (hbk : w.heap[b]? = some (.cells #[.pointer none, .slice none 0 0] 146 (0, 0))) (hBw : B ≤ w.heap.size) (hn : n ≤ 281474976710656) :
    Calls Tryd.prog 100 #[.pointer (some ⟨b, 0, none⟩), .int .i64 n] w fun e w' => e = .returned (.tuple #[]) ∧ (Lib.BuilderAt 146 5 B b (.pointer (some ⟨b, 0, none⟩)) [] w' ∧ Below B w w') := Any.Builder_Grow_fresh Tryd.lays165 Tryd.Builder_Extra_165 B b n w hB hbk hBw hn
def Tryd.lays156_ren : Go.Shelf.Ren := ⟨fun | 156 => 81 | 165 => 100 | 166 => 101 | 169 => 102 | 240 => 121 | 241 => 122 | 276 => 132 | 277 => 133 | n => n, fun | 31 => 32 | 9 => 9 | 3 => 3 | 4 => 4 | 0 => 0 | 20 => 20 | 72 => 146 | 76 => 55 | 70 => 144 | 37 => 46 | 75 => 27 | 127 => 175 | 164 => 184 | 5 => 5 | 80 => 148 | n => n, fun | n => n⟩
theorem Tryd.lays156 : Go.Proofs.Lays.n156 Tryd.prog Tryd.lays156_ren := {
  mixed := by kernel_rfl
  f156 := Tryd.func81.trans (congrArg some (by kernel_rfl))
  f165 := Tryd.func100.trans (congrArg some (by kernel_rfl))
  f166 := Tryd.func101.trans (congrArg some (by kernel_rfl))
  f169 := Tryd.func102.trans (congrArg some (by kernel_rfl))
  f240 := Tryd.func121.trans (congrArg some (by kernel_rfl))
  f241 := Tryd.func122.trans (congrArg some (by kernel_rfl))
  f276 := Tryd.func132.trans (congrArg some (by kernel_rfl))
  f277 := Tryd.func133.trans (congrArg some (by kernel_rfl))
  t0 := Tryd.underlying0
  a0 := Tryd.isAgg0
  z0 := Tryd.sizeOf0
  v0 := Tryd.zeroValue0
  t3 := Tryd.underlying3
  a3 := Tryd.isAgg3
  z3 := Tryd.sizeOf3
  v3 := Tryd.zeroValue3
  t4 := Tryd.underlying4
  a4 := Tryd.isAgg4
  z4 := Tryd.sizeOf4
  v4 := Tryd.zeroValue4
  t9 := Tryd.underlying9
  a9 := Tryd.isAgg9
  z9 := Tryd.sizeOf9
  v9 := Tryd.zeroValue9
  t20 := Tryd.underlying20
  a20 := Tryd.isAgg20
  z20 := Tryd.sizeOf20
  v20 := Tryd.zeroValue20
  t31 := Tryd.underlying32
  a31 := Tryd.isAgg32
  z31 := Tryd.sizeOf32
  v31 := Tryd.zeroValue32
  t37 := Tryd.underlying46
  a37 := Tryd.isAgg46
  z37 := Tryd.sizeOf46
  v37 := Tryd.zeroValue46
  t70 := Tryd.underlying144
  a70 := Tryd.isAgg144
  z70 := Tryd.sizeOf144
  v70 := Tryd.zeroValue144
  t72 := Tryd.underlying146
  a72 := Tryd.isAgg146
  z72 := Tryd.sizeOf146
  v72 := Tryd.zeroValue146
  t75 := Tryd.underlying27
  a75 := Tryd.isAgg27
  z75 := Tryd.sizeOf27
  v75 := Tryd.zeroValue27
  t76 := Tryd.underlying55
  a76 := Tryd.isAgg55
  z76 := Tryd.sizeOf55
  v76 := Tryd.zeroValue55
  t127 := Tryd.underlying175
  a127 := Tryd.isAgg175
  z127 := Tryd.sizeOf175
  v127 := Tryd.zeroValue175
  t164 := Tryd.underlying184
  a164 := Tryd.isAgg184
  z164 := Tryd.sizeOf184
  v164 := Tryd.zeroValue184 }
theorem Tryd.Builder_Extra_156 : Builder.Extra Tryd.prog Tryd.lays156_ren := {
  sizeBuilder := by kernel_rfl
  liesBuilder := by kernel_rfl
  t5 := Tryd.underlying5
  a5 := Tryd.isAgg5
  z5 := Tryd.sizeOf5
  v5 := Tryd.zeroValue5
  infoByte := by kernel_rfl
  cellsByte := by kernel_rfl
  sizeByte := by kernel_rfl
  neB5 := by decide }
open Go.RowKit in
/-- No element: the empty string; the world is as it was. (Whatever the slice's address and capacity: a nil slice too.) (LAID: no walk: one application.) -/
theorem Tryd.strings_Join_none (a : Option Addr) (c : Nat) (sep : ByteArray) (w : World) :
    Calls Tryd.prog 81 #[.slice a 0 c, .string sep] w fun e w' => e = .returned (.string ⟨#[]⟩) ∧ w' = w := Any.strings_Join_none Tryd.lays156 Tryd.Builder_Extra_156 a c sep w
open Go.RowKit in
/-- strings.Join: "Join concatenates the elements of its first argument to create a single string. The separator string sep is placed between elements in the resulting string.": HOWEVER MANY ELEMENTS. Below the heap's end the world is as it was. (LAID: no walk: one application.) -/
theorem Tryd.strings_Join (bk o c : Nat) (xs : List ByteArray) (sep : ByteArray) (w : World) (hcells : ∀ (j : Nat) x, xs[j]? = some x → w.cell? ⟨bk, o + j, none⟩ = some (.string x)) (hbk : bk < w.heap.size) (hN : xs.length ≤ 140737488355328) (hcap : xs.length ≤ c) (hlen : (Lib.join (xs.map (·.data.toList)) sep.data.toList).length ≤ 140737488355328) :
    Calls Tryd.prog 81 #[.slice (some ⟨bk, o, none⟩) xs.length c, .string sep] w fun e w' => e = .returned (.string ⟨(Lib.join (xs.map (·.data.toList)) sep.data.toList).toArray⟩) ∧ Below w.heap.size w w' := Any.strings_Join Tryd.lays156 Tryd.Builder_Extra_156 bk o c xs sep w hcells hbk hN hcap hlen
def Tryd.lays128_ren : Go.Shelf.Ren := ⟨fun | 128 => 105 | n => n, fun | 51 => 162 | 3 => 3 | 4 => 4 | 46 => 51 | 5 => 5 | 9 => 9 | n => n, fun | n => n⟩
theorem Tryd.lays128 : Go.Proofs.Lays.n128 Tryd.prog Tryd.lays128_ren := {
  mixed := by kernel_rfl
  f128 := Tryd.func105.trans (congrArg some (by kernel_rfl))
  t3 := Tryd.underlying3
  a3 := Tryd.isAgg3
  z3 := Tryd.sizeOf3
  v3 := Tryd.zeroValue3
  t4 := Tryd.underlying4
  a4 := Tryd.isAgg4
  z4 := Tryd.sizeOf4
  v4 := Tryd.zeroValue4
  t5 := Tryd.underlying5
  a5 := Tryd.isAgg5
  z5 := Tryd.sizeOf5
  v5 := Tryd.zeroValue5
  t9 := Tryd.underlying9
  a9 := Tryd.isAgg9
  z9 := Tryd.sizeOf9
  v9 := Tryd.zeroValue9
  t46 := Tryd.underlying51
  a46 := Tryd.isAgg51
  z46 := Tryd.sizeOf51
  v46 := Tryd.zeroValue51
  t51 := Tryd.underlying162
  a51 := Tryd.isAgg162
  z51 := Tryd.sizeOf162
  v51 := Tryd.zeroValue162 }
/-- bits.Len32: "Len32 returns the minimum number of bits required to represent x; the result is 0 for x == 0.": IT RETURNS 'Lib.bitLen x'; the world is as it was. ('h0', 'h1': x is a uint32.) (LAID: no walk: one application.) -/
theorem Tryd.bits_Len32 (x : Int) (w : World) (h0 : 0 ≤ x) (h1 : x ≤ 4294967295) :
    Calls Tryd.prog 105 #[.int .u32 x] w fun e w' => e = .returned (.int .i64 (Lib.bitLen x.toNat)) ∧ w' = w := Any.bits_Len32 Tryd.lays128 x w h0 h1
def Tryd.lays125_ren : Go.Shelf.Ren := ⟨fun | 125 => 90 | 128 => 105 | 129 => 106 | n => n, fun | 46 => 51 | 3 => 3 | 51 => 162 | 53 => 64 | 4 => 4 | 5 => 5 | 9 => 9 | n => n, fun | n => n⟩
theorem Tryd.lays125 : Go.Proofs.Lays.n125 Tryd.prog Tryd.lays125_ren := {
  mixed := by kernel_rfl
  f125 := Tryd.func90.trans (congrArg some (by kernel_rfl))
  f128 := Tryd.func105.trans (congrArg some (by kernel_rfl))
  f129 := Tryd.func106.trans (congrArg some (by kernel_rfl))
  t3 := Tryd.underlying3
  a3 := Tryd.isAgg3
  z3 := Tryd.sizeOf3
  v3 := Tryd.zeroValue3
  t4 := Tryd.underlying4
  a4 := Tryd.isAgg4
  z4 := Tryd.sizeOf4
  v4 := Tryd.zeroValue4
  t5 := Tryd.underlying5
  a5 := Tryd.isAgg5
  z5 := Tryd.sizeOf5
  v5 := Tryd.zeroValue5
  t9 := Tryd.underlying9
  a9 := Tryd.isAgg9
  z9 := Tryd.sizeOf9
  v9 := Tryd.zeroValue9
  t46 := Tryd.underlying51
  a46 := Tryd.isAgg51
  z46 := Tryd.sizeOf51
  v46 := Tryd.zeroValue51
  t51 := Tryd.underlying162
  a51 := Tryd.isAgg162
  z51 := Tryd.sizeOf162
  v51 := Tryd.zeroValue162
  t53 := Tryd.underlying64
  a53 := Tryd.isAgg64
  z53 := Tryd.sizeOf64
  v53 := Tryd.zeroValue64 }
/-- bits.Len: "Len returns the minimum number of bits required to represent x; the result is 0 for x == 0.": IT RETURNS 'Lib.bitLen x'; the world is as it was. (A uint has 64 bits in the model.) ITS CALLEE bits.Len64 IS MET BY ITS OWN CONTRACT OFF THE SHELF (lay that first). (LAID: no walk: one application.) -/
theorem Tryd.bits_Len (x : Int) (w : World) (h0 : 0 ≤ x) (h1 : x ≤ 18446744073709551615) :
    Calls Tryd.prog 90 #[.int .u64 x] w fun e w' => e = .returned (.int .i64 (Lib.bitLen x.toNat)) ∧ w' = w := Any.bits_Len Tryd.lays125 x w h0 h1
def Tryd.lays137_ren : Go.Shelf.Ren := ⟨fun | 137 => 68 | 217 => 95 | 266 => 117 | n => n, fun | 9 => 9 | 5 => 5 | 3 => 3 | n => n, fun | n => n⟩
theorem Tryd.lays137 : Go.Proofs.Lays.n137 Tryd.prog Tryd.lays137_ren := {
  mixed := by kernel_rfl
  f137 := Tryd.func68.trans (congrArg some (by kernel_rfl))
  f217 := Tryd.func95.trans (congrArg some (by kernel_rfl))
  f266 := Tryd.func117.trans (congrArg some (by kernel_rfl))
  t3 := Tryd.underlying3
  a3 := Tryd.isAgg3
  z3 := Tryd.sizeOf3
  v3 := Tryd.zeroValue3
  t5 := Tryd.underlying5
  a5 := Tryd.isAgg5
  z5 := Tryd.sizeOf5
  v5 := Tryd.zeroValue5
  t9 := Tryd.underlying9
  a9 := Tryd.isAgg9
  z9 := Tryd.sizeOf9
  v9 := Tryd.zeroValue9 }
open Go.RowKit in
/-- strings.IndexByte: "IndexByte returns the index of the first instance of c in s, or -1 if c is not present in s.": IT RETURNS 'Lib.indexByte s c'; the world is as it was. (LAID: no walk: one application.) -/
theorem Tryd.strings_IndexByte (s : ByteArray) (c : Int) (w : World) :
    Calls Tryd.prog 68 #[.string s, .int .u8 c] w fun e w' => e = .returned (.int .i64 (Lib.indexByte s.data.toList c.toNat.toUInt8)) ∧ w' = w := Any.strings_IndexByte Tryd.lays137 s c w
def Tryd.lays210_ren : Go.Shelf.Ren := ⟨fun | 210 => 94 | 206 => 116 | n => n, fun | 9 => 9 | 4 => 4 | 3 => 3 | n => n, fun | n => n⟩
theorem Tryd.lays210 : Go.Proofs.Lays.n210 Tryd.prog Tryd.lays210_ren := {
  mixed := by kernel_rfl
  f206 := Tryd.func116.trans (congrArg some (by kernel_rfl))
  f210 := Tryd.func94.trans (congrArg some (by kernel_rfl))
  t3 := Tryd.underlying3
  a3 := Tryd.isAgg3
  z3 := Tryd.sizeOf3
  v3 := Tryd.zeroValue3
  t4 := Tryd.underlying4
  a4 := Tryd.isAgg4
  z4 := Tryd.sizeOf4
  v4 := Tryd.zeroValue4
  t9 := Tryd.underlying9
  a9 := Tryd.isAgg9
  z9 := Tryd.sizeOf9
  v9 := Tryd.zeroValue9 }
open Go.RowKit in
/-- internal/stringslite.CutPrefix (what strings.CutPrefix calls). (LAID: no walk: one application.) -/
theorem Tryd.stringslite_CutPrefix (s p : ByteArray) (w : World) :
    Calls Tryd.prog 94 #[.string s, .string p] w fun e w' => e = .returned (.tuple #[.string ⟨(Lib.trimPrefix s.data.toList p.data.toList).toArray⟩, .bool (Lib.hasPrefix s.data.toList p.data.toList)]) ∧ w' = w := Any.stringslite_CutPrefix Tryd.lays210 s p w
def Tryd.lays103_ren : Go.Shelf.Ren := ⟨fun | 103 => 65 | 210 => 94 | 206 => 116 | n => n, fun | 9 => 9 | 4 => 4 | 24 => 38 | 3 => 3 | n => n, fun | n => n⟩
theorem Tryd.lays103 : Go.Proofs.Lays.n103 Tryd.prog Tryd.lays103_ren := {
  mixed := by kernel_rfl
  f103 := Tryd.func65.trans (congrArg some (by kernel_rfl))
  f206 := Tryd.func116.trans (congrArg some (by kernel_rfl))
  f210 := Tryd.func94.trans (congrArg some (by kernel_rfl))
  t3 := Tryd.underlying3
  a3 := Tryd.isAgg3
  z3 := Tryd.sizeOf3
  v3 := Tryd.zeroValue3
  t4 := Tryd.underlying4
  a4 := Tryd.isAgg4
  z4 := Tryd.sizeOf4
  v4 := Tryd.zeroValue4
  t9 := Tryd.underlying9
  a9 := Tryd.isAgg9
  z9 := Tryd.sizeOf9
  v9 := Tryd.zeroValue9
  t24 := Tryd.underlying38
  a24 := Tryd.isAgg38
  z24 := Tryd.sizeOf38
  v24 := Tryd.zeroValue38 }
open Go.RowKit in
/-- strings.CutPrefix: "CutPrefix returns s without the provided leading prefix string and reports whether it found the prefix. If s doesn't start with prefix, CutPrefix returns s, false. If prefix is the empty string, CutPrefix returns s, true.": IT RETURNS '(Lib.trimPrefix s p, Lib.hasPrefix s p)'; the world is as it was. (LAID: no walk: one application.) -/
theorem Tryd.strings_CutPrefix (s p : ByteArray) (w : World) :
    Calls Tryd.prog 65 #[.string s, .string p] w fun e w' => e = .returned (.tuple #[.string ⟨(Lib.trimPrefix s.data.toList p.data.toList).toArray⟩, .bool (Lib.hasPrefix s.data.toList p.data.toList)]) ∧ w' = w := Any.strings_CutPrefix Tryd.lays103 s p w
def Tryd.lays195_ren : Go.Shelf.Ren := ⟨fun | 195 => 128 | n => n, fun | 9 => 9 | 3 => 3 | 0 => 0 | 4 => 4 | n => n, fun | n => n⟩
theorem Tryd.lays195 : Go.Proofs.Lays.n195 Tryd.prog Tryd.lays195_ren := {
  mixed := by kernel_rfl
  f195 := Tryd.func128.trans (congrArg some (by kernel_rfl))
  t0 := Tryd.underlying0
  a0 := Tryd.isAgg0
  z0 := Tryd.sizeOf0
  v0 := Tryd.zeroValue0
  t3 := Tryd.underlying3
  a3 := Tryd.isAgg3
  z3 := Tryd.sizeOf3
  v3 := Tryd.zeroValue3
  t4 := Tryd.underlying4
  a4 := Tryd.isAgg4
  z4 := Tryd.sizeOf4
  v4 := Tryd.zeroValue4
  t9 := Tryd.underlying9
  a9 := Tryd.isAgg9
  z9 := Tryd.sizeOf9
  v9 := Tryd.zeroValue9 }
open Go.RowKit in
/-- unicode/utf8.RuneCountInString: "RuneCountInString is like RuneCount but its input is a string." ("RuneCount returns the number of runes in p. Erroneous and short encodings are treated as single runes of width 1 byte."): EVERY STRING, valid UTF-8 or not: 'Lib.runeCount s' (plain Lean over the model's own 'Utf8.decode'; 'Lib.runeCount_le': at most len(s); 'Lib.runeCount_ascii': on ASCII: len(s)). THE ONE CONDITION: len(s) below 2^63 - 1 (the counter does not wrap): the form's reach pays it. THE WORLD BEHIND THE CALL: ONE BLOCK MORE: the model's iterator over s, at its end: all else as it was. (LAID: no walk: one application.) -/
theorem Tryd.utf8_RuneCountInString (s : ByteArray) (w : World) (hs : s.size < 9223372036854775807) :
    Calls Tryd.prog 128 #[.string s] w fun e w' => e = .returned (.int .i64 (Lib.runeCount s)) ∧ ∃ pos, w' = w.iter s pos := Any.utf8_RuneCountInString Tryd.lays195 s w hs
def Tryd.lays129_ren : Go.Shelf.Ren := ⟨fun | 129 => 106 | n => n, fun | 53 => 64 | 3 => 3 | 4 => 4 | 46 => 51 | 5 => 5 | 9 => 9 | n => n, fun | n => n⟩
theorem Tryd.lays129 : Go.Proofs.Lays.n129 Tryd.prog Tryd.lays129_ren := {
  mixed := by kernel_rfl
  f129 := Tryd.func106.trans (congrArg some (by kernel_rfl))
  t3 := Tryd.underlying3
  a3 := Tryd.isAgg3
  z3 := Tryd.sizeOf3
  v3 := Tryd.zeroValue3
  t4 := Tryd.underlying4
  a4 := Tryd.isAgg4
  z4 := Tryd.sizeOf4
  v4 := Tryd.zeroValue4
  t5 := Tryd.underlying5
  a5 := Tryd.isAgg5
  z5 := Tryd.sizeOf5
  v5 := Tryd.zeroValue5
  t9 := Tryd.underlying9
  a9 := Tryd.isAgg9
  z9 := Tryd.sizeOf9
  v9 := Tryd.zeroValue9
  t46 := Tryd.underlying51
  a46 := Tryd.isAgg51
  z46 := Tryd.sizeOf51
  v46 := Tryd.zeroValue51
  t53 := Tryd.underlying64
  a53 := Tryd.isAgg64
  z53 := Tryd.sizeOf64
  v53 := Tryd.zeroValue64 }
/-- bits.Len64: "Len64 returns the minimum number of bits required to represent x; the result is 0 for x == 0.": IT RETURNS 'Lib.bitLen x'; the world is as it was. ('h0', 'h1': x is a uint64.) (LAID: no walk: one application.) -/
theorem Tryd.bits_Len64 (x : Int) (w : World) (h0 : 0 ≤ x) (h1 : x ≤ 18446744073709551615) :
    Calls Tryd.prog 106 #[.int .u64 x] w fun e w' => e = .returned (.int .i64 (Lib.bitLen x.toNat)) ∧ w' = w := Any.bits_Len64 Tryd.lays129 x w h0 h1
def Tryd.lays217_ren : Go.Shelf.Ren := ⟨fun | 217 => 95 | 266 => 117 | n => n, fun | 9 => 9 | 5 => 5 | 3 => 3 | n => n, fun | n => n⟩
theorem Tryd.lays217 : Go.Proofs.Lays.n217 Tryd.prog Tryd.lays217_ren := {
  mixed := by kernel_rfl
  f217 := Tryd.func95.trans (congrArg some (by kernel_rfl))
  f266 := Tryd.func117.trans (congrArg some (by kernel_rfl))
  t3 := Tryd.underlying3
  a3 := Tryd.isAgg3
  z3 := Tryd.sizeOf3
  v3 := Tryd.zeroValue3
  t5 := Tryd.underlying5
  a5 := Tryd.isAgg5
  z5 := Tryd.sizeOf5
  v5 := Tryd.zeroValue5
  t9 := Tryd.underlying9
  a9 := Tryd.isAgg9
  z9 := Tryd.sizeOf9
  v9 := Tryd.zeroValue9 }
open Go.RowKit Go.Lib in
/-- internal/stringslite.IndexByte (what strings.IndexByte calls): IT RETURNS 'Lib.indexByte s c'; the world is as it was. (LAID: no walk: one application.) -/
theorem Tryd.stringslite_IndexByte (s : ByteArray) (c : Int) (w : World) :
    Calls Tryd.prog 95 #[.string s, .int .u8 c] w fun e w' => e = .returned (.int .i64 (Lib.indexByte s.data.toList c.toNat.toUInt8)) ∧ w' = w := Any.stringslite_IndexByte Tryd.lays217 s c w
def Tryd.lays224_ren : Go.Shelf.Ren := ⟨fun | 224 => 137 | n => n, fun | 3 => 3 | n => n, fun | n => n⟩
theorem Tryd.lays224 : Go.Proofs.Lays.n224 Tryd.prog Tryd.lays224_ren := {
  mixed := by kernel_rfl
  f224 := Tryd.func137.trans (congrArg some (by kernel_rfl))
  t3 := Tryd.underlying3
  a3 := Tryd.isAgg3
  z3 := Tryd.sizeOf3
  v3 := Tryd.zeroValue3 }
open Go.RowKit Go.Lib in
/-- internal/bytealg.Cutover: "Cutover reports the number of failures of IndexByte we should tolerate before switching over to Index. n is the number of bytes processed so far.": on amd64: (n + 16) / 8. (LAID: no walk: one application.) -/
theorem Tryd.bytealg_Cutover (n : Int) (h0 : 0 ≤ n) (h1 : n < 4611686018427387904) (w : World) :
    Calls Tryd.prog 137 #[.int .i64 n] w fun e w' => e = .returned (.int .i64 ((n + 16) / 8)) ∧ w' = w := Any.bytealg_Cutover Tryd.lays224 n h0 h1 w
def Tryd.lays314_ren : Go.Shelf.Ren := ⟨fun | 314 => 139 | n => n, fun | 9 => 9 | 51 => 162 | 3 => 3 | 4 => 4 | 5 => 5 | 46 => 51 | n => n, fun | n => n⟩
theorem Tryd.lays314 : Go.Proofs.Lays.n314 Tryd.prog Tryd.lays314_ren := {
  mixed := by kernel_rfl
  f314 := Tryd.func139.trans (congrArg some (by kernel_rfl))
  t3 := Tryd.underlying3
  a3 := Tryd.isAgg3
  z3 := Tryd.sizeOf3
  v3 := Tryd.zeroValue3
  t4 := Tryd.underlying4
  a4 := Tryd.isAgg4
  z4 := Tryd.sizeOf4
  v4 := Tryd.zeroValue4
  t5 := Tryd.underlying5
  a5 := Tryd.isAgg5
  z5 := Tryd.sizeOf5
  v5 := Tryd.zeroValue5
  t9 := Tryd.underlying9
  a9 := Tryd.isAgg9
  z9 := Tryd.sizeOf9
  v9 := Tryd.zeroValue9
  t46 := Tryd.underlying51
  a46 := Tryd.isAgg51
  z46 := Tryd.sizeOf51
  v46 := Tryd.zeroValue51
  t51 := Tryd.underlying162
  a51 := Tryd.isAgg162
  z51 := Tryd.sizeOf162
  v51 := Tryd.zeroValue162 }
open Go.RowKit Go.Lib in
/-- hashStr: "returns the hash and the appropriate multiplicative factor for use in Rabin-Karp algorithm": THE HASH OF ALL OF sep, AND 16777619 ^ len(sep), both in uint32. (LAID: no walk: one application.) -/
theorem Tryd.bytealg_hashStr (sep : ByteArray) (hs : sep.size < 4294967281) (w : World) :
    Calls Tryd.prog 139 #[.string sep] w fun e w' => e = .returned (.tuple #[.int .u32 (RK.H sep.data.toList % 4294967296), .int .u32 (16777619 ^ sep.size % 4294967296)]) ∧ w' = w := Any.bytealg_hashStr Tryd.lays314 sep hs w
def Tryd.lays267_ren : Go.Shelf.Ren := ⟨fun | 267 => 138 | 314 => 139 | n => n, fun | 9 => 9 | 3 => 3 | 146 => 195 | 51 => 162 | 4 => 4 | 5 => 5 | 46 => 51 | n => n, fun | n => n⟩
theorem Tryd.lays267 : Go.Proofs.Lays.n267 Tryd.prog Tryd.lays267_ren := {
  mixed := by kernel_rfl
  f267 := Tryd.func138.trans (congrArg some (by kernel_rfl))
  f314 := Tryd.func139.trans (congrArg some (by kernel_rfl))
  t3 := Tryd.underlying3
  a3 := Tryd.isAgg3
  z3 := Tryd.sizeOf3
  v3 := Tryd.zeroValue3
  t4 := Tryd.underlying4
  a4 := Tryd.isAgg4
  z4 := Tryd.sizeOf4
  v4 := Tryd.zeroValue4
  t5 := Tryd.underlying5
  a5 := Tryd.isAgg5
  z5 := Tryd.sizeOf5
  v5 := Tryd.zeroValue5
  t9 := Tryd.underlying9
  a9 := Tryd.isAgg9
  z9 := Tryd.sizeOf9
  v9 := Tryd.zeroValue9
  t46 := Tryd.underlying51
  a46 := Tryd.isAgg51
  z46 := Tryd.sizeOf51
  v46 := Tryd.zeroValue51
  t51 := Tryd.underlying162
  a51 := Tryd.isAgg162
  z51 := Tryd.sizeOf162
  v51 := Tryd.zeroValue162
  t146 := Tryd.underlying195
  a146 := Tryd.isAgg195
  z146 := Tryd.sizeOf195
  v146 := Tryd.zeroValue195 }
open Go.RowKit Go.Lib in
theorem Tryd.bytealg_IndexRabinKarp (s sep : ByteArray) (h1 : 1 ≤ sep.size) (h2 : sep.size ≤ s.size) (hs : s.size < 4294967281) (w : World) :
    Calls Tryd.prog 138 #[.string s, .string sep] w fun e w' => e = .returned (.int .i64 (Lib.index s.data.toList sep.data.toList)) ∧ w' = w := Any.bytealg_IndexRabinKarp Tryd.lays267 s sep h1 h2 hs w
def Tryd.lays219_ren : Go.Shelf.Ren := ⟨fun | 219 => 131 | 217 => 95 | 225 => 136 | 224 => 137 | 267 => 138 | 266 => 117 | 314 => 139 | n => n, fun | 9 => 9 | 3 => 3 | 4 => 4 | 5 => 5 | 46 => 51 | 146 => 195 | 51 => 162 | n => n, fun | 1 => 28 | n => n⟩
theorem Tryd.lays219 : Go.Proofs.Lays.n219 Tryd.prog Tryd.lays219_ren := {
  mixed := by kernel_rfl
  f217 := Tryd.func95.trans (congrArg some (by kernel_rfl))
  f219 := Tryd.func131.trans (congrArg some (by kernel_rfl))
  f224 := Tryd.func137.trans (congrArg some (by kernel_rfl))
  f225 := Tryd.func136.trans (congrArg some (by kernel_rfl))
  f266 := Tryd.func117.trans (congrArg some (by kernel_rfl))
  f267 := Tryd.func138.trans (congrArg some (by kernel_rfl))
  f314 := Tryd.func139.trans (congrArg some (by kernel_rfl))
  t3 := Tryd.underlying3
  a3 := Tryd.isAgg3
  z3 := Tryd.sizeOf3
  v3 := Tryd.zeroValue3
  t4 := Tryd.underlying4
  a4 := Tryd.isAgg4
  z4 := Tryd.sizeOf4
  v4 := Tryd.zeroValue4
  t5 := Tryd.underlying5
  a5 := Tryd.isAgg5
  z5 := Tryd.sizeOf5
  v5 := Tryd.zeroValue5
  t9 := Tryd.underlying9
  a9 := Tryd.isAgg9
  z9 := Tryd.sizeOf9
  v9 := Tryd.zeroValue9
  t46 := Tryd.underlying51
  a46 := Tryd.isAgg51
  z46 := Tryd.sizeOf51
  v46 := Tryd.zeroValue51
  t51 := Tryd.underlying162
  a51 := Tryd.isAgg162
  z51 := Tryd.sizeOf162
  v51 := Tryd.zeroValue162
  t146 := Tryd.underlying195
  a146 := Tryd.isAgg195
  z146 := Tryd.sizeOf195
  v146 := Tryd.zeroValue195
  g1 := by kernel_rfl }
open Go.RowKit Go.Lib in
/-- internal/stringslite.Index (what strings.Index calls) AT A substr OF ONE BYTE c: IT RETURNS 'Lib.indexByte s c'; the world is as it was. (LAID: no walk: one application.) -/
theorem Tryd.stringslite_Index_one (s : ByteArray) (c : UInt8) (w : World) :
    Calls Tryd.prog 131 #[.string s, .string ⟨#[c]⟩] w fun e w' => e = .returned (.int .i64 (Lib.indexByte s.data.toList c)) ∧ w' = w := Any.stringslite_Index_one Tryd.lays219 s c w
open Go.RowKit Go.Lib in
/-- internal/stringslite.Index (what strings.Index calls) AT A substr OF WHATEVER LENGTH: IT RETURNS 'Lib.index s substr'; the world is as it was. 'm': what internal/bytealg.MaxLen holds: whatever. (LAID: no walk: one application.) -/
theorem Tryd.stringslite_Index (s sub : ByteArray) (m : Int) (w : World) (hs : s.size < 4294967281) (hm : w.cell? ⟨28, 0, none⟩ = some (.int .i64 m)) :
    Calls Tryd.prog 131 #[.string s, .string sub] w fun e w' => e = .returned (.int .i64 (Lib.index s.data.toList sub.data.toList)) ∧ w' = w := Any.stringslite_Index Tryd.lays219 s sub m w hs hm
def Tryd.lays143_ren : Go.Shelf.Ren := ⟨fun | 143 => 120 | 219 => 131 | 217 => 95 | 225 => 136 | 224 => 137 | 267 => 138 | 266 => 117 | 314 => 139 | n => n, fun | 9 => 9 | 3 => 3 | 4 => 4 | 5 => 5 | 46 => 51 | 146 => 195 | 51 => 162 | n => n, fun | 1 => 28 | n => n⟩
theorem Tryd.lays143 : Go.Proofs.Lays.n143 Tryd.prog Tryd.lays143_ren := {
  mixed := by kernel_rfl
  f143 := Tryd.func120.trans (congrArg some (by kernel_rfl))
  f217 := Tryd.func95.trans (congrArg some (by kernel_rfl))
  f219 := Tryd.func131.trans (congrArg some (by kernel_rfl))
  f224 := Tryd.func137.trans (congrArg some (by kernel_rfl))
  f225 := Tryd.func136.trans (congrArg some (by kernel_rfl))
  f266 := Tryd.func117.trans (congrArg some (by kernel_rfl))
  f267 := Tryd.func138.trans (congrArg some (by kernel_rfl))
  f314 := Tryd.func139.trans (congrArg some (by kernel_rfl))
  t3 := Tryd.underlying3
  a3 := Tryd.isAgg3
  z3 := Tryd.sizeOf3
  v3 := Tryd.zeroValue3
  t4 := Tryd.underlying4
  a4 := Tryd.isAgg4
  z4 := Tryd.sizeOf4
  v4 := Tryd.zeroValue4
  t5 := Tryd.underlying5
  a5 := Tryd.isAgg5
  z5 := Tryd.sizeOf5
  v5 := Tryd.zeroValue5
  t9 := Tryd.underlying9
  a9 := Tryd.isAgg9
  z9 := Tryd.sizeOf9
  v9 := Tryd.zeroValue9
  t46 := Tryd.underlying51
  a46 := Tryd.isAgg51
  z46 := Tryd.sizeOf51
  v46 := Tryd.zeroValue51
  t51 := Tryd.underlying162
  a51 := Tryd.isAgg162
  z51 := Tryd.sizeOf162
  v51 := Tryd.zeroValue162
  t146 := Tryd.underlying195
  a146 := Tryd.isAgg195
  z146 := Tryd.sizeOf195
  v146 := Tryd.zeroValue195
  g1 := by kernel_rfl }
open Go.RowKit Go.Lib in
/-- strings.Index: "Index returns the index of the first instance of substr in s, or -1 if substr is not present in s.": AT A substr OF ONE BYTE c: IT RETURNS 'Lib.indexByte s c'; the world is as it was. (LAID: no walk: one application.) -/
theorem Tryd.strings_Index_one (s : ByteArray) (c : UInt8) (w : World) :
    Calls Tryd.prog 120 #[.string s, .string ⟨#[c]⟩] w fun e w' => e = .returned (.int .i64 (Lib.indexByte s.data.toList c)) ∧ w' = w := Any.strings_Index_one Tryd.lays143 s c w
open Go.RowKit Go.Lib in
/-- strings.Index: "Index returns the index of the first instance of substr in s, or -1 if substr is not present in s.": IT RETURNS 'Lib.index s substr'; the world is as it was. (LAID: no walk: one application.) -/
theorem Tryd.strings_Index (s sub : ByteArray) (m : Int) (w : World) (hs : s.size < 4294967281) (hm : w.cell? ⟨28, 0, none⟩ = some (.int .i64 m)) :
    Calls Tryd.prog 120 #[.string s, .string sub] w fun e w' => e = .returned (.int .i64 (Lib.index s.data.toList sub.data.toList)) ∧ w' = w := Any.strings_Index Tryd.lays143 s sub m w hs hm
def Tryd.lays138_ren : Go.Shelf.Ren := ⟨fun | 138 => 119 | 195 => 128 | 218 => 130 | 143 => 120 | 219 => 131 | 217 => 95 | 225 => 136 | 224 => 137 | 267 => 138 | 266 => 117 | 314 => 139 | n => n, fun | 9 => 9 | 3 => 3 | 4 => 4 | 5 => 5 | 0 => 0 | 46 => 51 | 146 => 195 | 51 => 162 | n => n, fun | 1 => 28 | n => n⟩
theorem Tryd.lays138 : Go.Proofs.Lays.n138 Tryd.prog Tryd.lays138_ren := {
  mixed := by kernel_rfl
  f138 := Tryd.func119.trans (congrArg some (by kernel_rfl))
  f143 := Tryd.func120.trans (congrArg some (by kernel_rfl))
  f195 := Tryd.func128.trans (congrArg some (by kernel_rfl))
  f217 := Tryd.func95.trans (congrArg some (by kernel_rfl))
  f218 := Tryd.func130.trans (congrArg some (by kernel_rfl))
  f219 := Tryd.func131.trans (congrArg some (by kernel_rfl))
  f224 := Tryd.func137.trans (congrArg some (by kernel_rfl))
  f225 := Tryd.func136.trans (congrArg some (by kernel_rfl))
  f266 := Tryd.func117.trans (congrArg some (by kernel_rfl))
  f267 := Tryd.func138.trans (congrArg some (by kernel_rfl))
  f314 := Tryd.func139.trans (congrArg some (by kernel_rfl))
  t0 := Tryd.underlying0
  a0 := Tryd.isAgg0
  z0 := Tryd.sizeOf0
  v0 := Tryd.zeroValue0
  t3 := Tryd.underlying3
  a3 := Tryd.isAgg3
  z3 := Tryd.sizeOf3
  v3 := Tryd.zeroValue3
  t4 := Tryd.underlying4
  a4 := Tryd.isAgg4
  z4 := Tryd.sizeOf4
  v4 := Tryd.zeroValue4
  t5 := Tryd.underlying5
  a5 := Tryd.isAgg5
  z5 := Tryd.sizeOf5
  v5 := Tryd.zeroValue5
  t9 := Tryd.underlying9
  a9 := Tryd.isAgg9
  z9 := Tryd.sizeOf9
  v9 := Tryd.zeroValue9
  t46 := Tryd.underlying51
  a46 := Tryd.isAgg51
  z46 := Tryd.sizeOf51
  v46 := Tryd.zeroValue51
  t51 := Tryd.underlying162
  a51 := Tryd.isAgg162
  z51 := Tryd.sizeOf162
  v51 := Tryd.zeroValue162
  t146 := Tryd.underlying195
  a146 := Tryd.isAgg195
  z146 := Tryd.sizeOf195
  v146 := Tryd.zeroValue195
  g1 := by kernel_rfl }
open Go.RowKit Go.Lib in
/-- strings.Count AT A substr OF ONE BYTE ('hp'): "Count counts the number of non-overlapping instances of substr in s.": IT RETURNS 'Lib.countByte s (that byte)'; the world is as it was. ✋ NO CONTRACT HERE YET at an empty substr (utf8.RuneCountInString) or at a longer one (a loop over strings.Index). (LAID: no walk: one application.) -/
theorem Tryd.strings_Count_one (s : ByteArray) (c : UInt8) (w : World) :
    Calls Tryd.prog 119 #[.string s, .string ⟨#[c]⟩] w fun e w' => e = .returned (.int .i64 (Lib.countByte s.data.toList c)) ∧ w' = w := Any.strings_Count_one Tryd.lays138 s c w
open Go.RowKit Go.Lib in
/-- strings.Count AT A substr OF TWO BYTES OR MORE: "Count counts the number of non-overlapping instances of substr in s.": IT RETURNS 'Lib.count s substr'; the world is as it was. (LAID: no walk: one application.) -/
theorem Tryd.strings_Count (s sub : ByteArray) (m : Int) (w : World) (hs : s.size < 4294967281) (hm : w.cell? ⟨28, 0, none⟩ = some (.int .i64 m)) (h2 : 2 ≤ sub.size) :
    Calls Tryd.prog 119 #[.string s, .string sub] w fun e w' => e = .returned (.int .i64 (Lib.countB s sub)) ∧ w' = w := Any.strings_Count Tryd.lays138 s sub m w hs hm h2
def Tryd.laysM219_ren : Go.Shelf.Ren := ⟨fun | 219 => 131 | 217 => 95 | 225 => 136 | 224 => 137 | 267 => 138 | 266 => 117 | 314 => 139 | n => n, fun | 9 => 9 | 3 => 3 | 4 => 4 | 5 => 5 | 46 => 51 | 146 => 195 | 51 => 162 | n => n, fun | 1 => 28 | n => n⟩
theorem Tryd.laysM219 : Go.Proofs.LaysM.n219 Tryd.prog Tryd.laysM219_ren := {
  mixed := by kernel_rfl
  f217 := Tryd.func95.trans (congrArg some (by kernel_rfl))
  f219 := Tryd.func131.trans (congrArg some (by kernel_rfl))
  f224 := Tryd.func137.trans (congrArg some (by kernel_rfl))
  f225 := Tryd.func136.trans (congrArg some (by kernel_rfl))
  f266 := Tryd.func117.trans (congrArg some (by kernel_rfl))
  f267 := Tryd.func138.trans (congrArg some (by kernel_rfl))
  f314 := Tryd.func139.trans (congrArg some (by kernel_rfl))
  t3 := Tryd.underlying3
  a3 := Tryd.isAgg3
  z3 := Tryd.sizeOf3
  v3 := Tryd.zeroValue3
  t4 := Tryd.underlying4
  a4 := Tryd.isAgg4
  z4 := Tryd.sizeOf4
  v4 := Tryd.zeroValue4
  t5 := Tryd.underlying5
  a5 := Tryd.isAgg5
  z5 := Tryd.sizeOf5
  v5 := Tryd.zeroValue5
  t9 := Tryd.underlying9
  a9 := Tryd.isAgg9
  z9 := Tryd.sizeOf9
  v9 := Tryd.zeroValue9
  t46 := Tryd.underlying51
  a46 := Tryd.isAgg51
  z46 := Tryd.sizeOf51
  v46 := Tryd.zeroValue51
  t51 := Tryd.underlying162
  a51 := Tryd.isAgg162
  z51 := Tryd.sizeOf162
  v51 := Tryd.zeroValue162
  t146 := Tryd.underlying195
  a146 := Tryd.isAgg195
  z146 := Tryd.sizeOf195
  v146 := Tryd.zeroValue195
  g1 := by kernel_rfl
  i3 := by kernel_rfl
  i4 := by kernel_rfl
  i5 := by kernel_rfl
  i9 := by kernel_rfl
  i46 := by kernel_rfl
  i51 := by kernel_rfl
  i146 := by kernel_rfl
  m1 := by kernel_rfl
  s1_3 := fun w h => Go.Proofs.cell_of_shapedOpen_int (zero := #[.int .i64 0]) (t := 3) h (of_decide_eq_true (by kernel_rfl)) (by kernel_rfl) rfl (by kernel_rfl) (by kernel_rfl) Tryd.underlying3 }
open Go.RowKit Go.Lib in
theorem Tryd.stringslite_Index_shaped (s sub : ByteArray) (w : World) (h : w.ShapedOpen Tryd.prog) (hs : s.size < 4294967281) :
    Calls Tryd.prog 131 #[.string s, .string sub] w fun e w' => e = .returned (.int .i64 (Lib.index s.data.toList sub.data.toList)) ∧ w' = w := Any.stringslite_Index_shaped Tryd.laysM219 s sub w h hs
def Tryd.laysM143_ren : Go.Shelf.Ren := ⟨fun | 143 => 120 | 219 => 131 | 217 => 95 | 225 => 136 | 224 => 137 | 267 => 138 | 266 => 117 | 314 => 139 | n => n, fun | 9 => 9 | 3 => 3 | 4 => 4 | 5 => 5 | 46 => 51 | 146 => 195 | 51 => 162 | n => n, fun | 1 => 28 | n => n⟩
theorem Tryd.laysM143 : Go.Proofs.LaysM.n143 Tryd.prog Tryd.laysM143_ren := {
  mixed := by kernel_rfl
  f143 := Tryd.func120.trans (congrArg some (by kernel_rfl))
  f217 := Tryd.func95.trans (congrArg some (by kernel_rfl))
  f219 := Tryd.func131.trans (congrArg some (by kernel_rfl))
  f224 := Tryd.func137.trans (congrArg some (by kernel_rfl))
  f225 := Tryd.func136.trans (congrArg some (by kernel_rfl))
  f266 := Tryd.func117.trans (congrArg some (by kernel_rfl))
  f267 := Tryd.func138.trans (congrArg some (by kernel_rfl))
  f314 := Tryd.func139.trans (congrArg some (by kernel_rfl))
  t3 := Tryd.underlying3
  a3 := Tryd.isAgg3
  z3 := Tryd.sizeOf3
  v3 := Tryd.zeroValue3
  t4 := Tryd.underlying4
  a4 := Tryd.isAgg4
  z4 := Tryd.sizeOf4
  v4 := Tryd.zeroValue4
  t5 := Tryd.underlying5
  a5 := Tryd.isAgg5
  z5 := Tryd.sizeOf5
  v5 := Tryd.zeroValue5
  t9 := Tryd.underlying9
  a9 := Tryd.isAgg9
  z9 := Tryd.sizeOf9
  v9 := Tryd.zeroValue9
  t46 := Tryd.underlying51
  a46 := Tryd.isAgg51
  z46 := Tryd.sizeOf51
  v46 := Tryd.zeroValue51
  t51 := Tryd.underlying162
  a51 := Tryd.isAgg162
  z51 := Tryd.sizeOf162
  v51 := Tryd.zeroValue162
  t146 := Tryd.underlying195
  a146 := Tryd.isAgg195
  z146 := Tryd.sizeOf195
  v146 := Tryd.zeroValue195
  g1 := by kernel_rfl
  i3 := by kernel_rfl
  i4 := by kernel_rfl
  i5 := by kernel_rfl
  i9 := by kernel_rfl
  i46 := by kernel_rfl
  i51 := by kernel_rfl
  i146 := by kernel_rfl
  m1 := by kernel_rfl
  s1_3 := fun w h => Go.Proofs.cell_of_shapedOpen_int (zero := #[.int .i64 0]) (t := 3) h (of_decide_eq_true (by kernel_rfl)) (by kernel_rfl) rfl (by kernel_rfl) (by kernel_rfl) Tryd.underlying3 }
open Go.RowKit Go.Lib in
theorem Tryd.strings_Index_shaped (s sub : ByteArray) (w : World) (h : w.ShapedOpen Tryd.prog) (hs : s.size < 4294967281) :
    Calls Tryd.prog 120 #[.string s, .string sub] w fun e w' => e = .returned (.int .i64 (Lib.index s.data.toList sub.data.toList)) ∧ w' = w := Any.strings_Index_shaped Tryd.laysM143 s sub w h hs
def Tryd.laysM138_ren : Go.Shelf.Ren := ⟨fun | 138 => 119 | 195 => 128 | 218 => 130 | 143 => 120 | 219 => 131 | 217 => 95 | 225 => 136 | 224 => 137 | 267 => 138 | 266 => 117 | 314 => 139 | n => n, fun | 9 => 9 | 3 => 3 | 4 => 4 | 5 => 5 | 0 => 0 | 46 => 51 | 146 => 195 | 51 => 162 | n => n, fun | 1 => 28 | n => n⟩
theorem Tryd.laysM138 : Go.Proofs.LaysM.n138 Tryd.prog Tryd.laysM138_ren := {
  mixed := by kernel_rfl
  f138 := Tryd.func119.trans (congrArg some (by kernel_rfl))
  f143 := Tryd.func120.trans (congrArg some (by kernel_rfl))
  f195 := Tryd.func128.trans (congrArg some (by kernel_rfl))
  f217 := Tryd.func95.trans (congrArg some (by kernel_rfl))
  f218 := Tryd.func130.trans (congrArg some (by kernel_rfl))
  f219 := Tryd.func131.trans (congrArg some (by kernel_rfl))
  f224 := Tryd.func137.trans (congrArg some (by kernel_rfl))
  f225 := Tryd.func136.trans (congrArg some (by kernel_rfl))
  f266 := Tryd.func117.trans (congrArg some (by kernel_rfl))
  f267 := Tryd.func138.trans (congrArg some (by kernel_rfl))
  f314 := Tryd.func139.trans (congrArg some (by kernel_rfl))
  t0 := Tryd.underlying0
  a0 := Tryd.isAgg0
  z0 := Tryd.sizeOf0
  v0 := Tryd.zeroValue0
  t3 := Tryd.underlying3
  a3 := Tryd.isAgg3
  z3 := Tryd.sizeOf3
  v3 := Tryd.zeroValue3
  t4 := Tryd.underlying4
  a4 := Tryd.isAgg4
  z4 := Tryd.sizeOf4
  v4 := Tryd.zeroValue4
  t5 := Tryd.underlying5
  a5 := Tryd.isAgg5
  z5 := Tryd.sizeOf5
  v5 := Tryd.zeroValue5
  t9 := Tryd.underlying9
  a9 := Tryd.isAgg9
  z9 := Tryd.sizeOf9
  v9 := Tryd.zeroValue9
  t46 := Tryd.underlying51
  a46 := Tryd.isAgg51
  z46 := Tryd.sizeOf51
  v46 := Tryd.zeroValue51
  t51 := Tryd.underlying162
  a51 := Tryd.isAgg162
  z51 := Tryd.sizeOf162
  v51 := Tryd.zeroValue162
  t146 := Tryd.underlying195
  a146 := Tryd.isAgg195
  z146 := Tryd.sizeOf195
  v146 := Tryd.zeroValue195
  g1 := by kernel_rfl
  i0 := by kernel_rfl
  i3 := by kernel_rfl
  i4 := by kernel_rfl
  i5 := by kernel_rfl
  i9 := by kernel_rfl
  i46 := by kernel_rfl
  i51 := by kernel_rfl
  i146 := by kernel_rfl
  m1 := by kernel_rfl
  s1_3 := fun w h => Go.Proofs.cell_of_shapedOpen_int (zero := #[.int .i64 0]) (t := 3) h (of_decide_eq_true (by kernel_rfl)) (by kernel_rfl) rfl (by kernel_rfl) (by kernel_rfl) Tryd.underlying3 }
open Go.RowKit Go.Lib in
theorem Tryd.strings_Count_shaped (s sub : ByteArray) (w : World) (h : w.ShapedOpen Tryd.prog) (hs : s.size < 4294967281) (h2 : 2 ≤ sub.size) :
    Calls Tryd.prog 119 #[.string s, .string sub] w fun e w' => e = .returned (.int .i64 (Lib.countB s sub)) ∧ w' = w := Any.strings_Count_shaped Tryd.laysM138 s sub w h hs h2
def Tryd.lays206_ren : Go.Shelf.Ren := ⟨fun | 206 => 116 | n => n, fun | 9 => 9 | 4 => 4 | 3 => 3 | n => n, fun | n => n⟩
theorem Tryd.lays206 : Go.Proofs.Lays.n206 Tryd.prog Tryd.lays206_ren := {
  mixed := by kernel_rfl
  f206 := Tryd.func116.trans (congrArg some (by kernel_rfl))
  t3 := Tryd.underlying3
  a3 := Tryd.isAgg3
  z3 := Tryd.sizeOf3
  v3 := Tryd.zeroValue3
  t4 := Tryd.underlying4
  a4 := Tryd.isAgg4
  z4 := Tryd.sizeOf4
  v4 := Tryd.zeroValue4
  t9 := Tryd.underlying9
  a9 := Tryd.isAgg9
  z9 := Tryd.sizeOf9
  v9 := Tryd.zeroValue9 }
open Go.RowKit Go.Lib in
/-- internal/stringslite.HasPrefix (what strings.HasPrefix calls). (LAID: no walk: one application.) -/
theorem Tryd.stringslite_HasPrefix (s p : ByteArray) (w : World) :
    Calls Tryd.prog 116 #[.string s, .string p] w fun e w' => e = .returned (.bool (Lib.hasPrefix s.data.toList p.data.toList)) ∧ w' = w := Any.stringslite_HasPrefix Tryd.lays206 s p w
open Go.RowKit Go.Lib in
/-- strings.Count at whatever sep that is not empty: the two roads under one statement. (LAID: no walk: one application.) -/
theorem Tryd.strings_Count_any (s sep : ByteArray) (m : Int) (w : World) (hs : s.size < 4294967281) (hm : w.cell? ⟨28, 0, none⟩ = some (.int .i64 m)) (h1 : 1 ≤ sep.size) :
    Calls Tryd.prog 119 #[.string s, .string sep] w fun e w' => e = .returned (.int .i64 (Lib.countB s sep)) ∧ w' = w := Any.strings_Count_any Tryd.lays138 s sep m w hs hm h1
def Tryd.lays221_ren : Go.Shelf.Ren := ⟨fun | 221 => 96 | 268 => 118 | 138 => 119 | 143 => 120 | 195 => 128 | 197 => 129 | 218 => 130 | 219 => 131 | 260 => 135 | 217 => 95 | 225 => 136 | 224 => 137 | 267 => 138 | 266 => 117 | 314 => 139 | n => n, fun | 9 => 9 | 3 => 3 | 31 => 32 | 4 => 4 | 0 => 0 | 105 => 182 | 21 => 21 | 5 => 5 | 46 => 51 | 119 => 191 | 139 => 194 | 138 => 193 | 146 => 195 | 51 => 162 | n => n, fun | 1 => 28 | 3 => 29 | 4 => 30 | n => n⟩
theorem Tryd.lays221 : Go.Proofs.Lays.n221 Tryd.prog Tryd.lays221_ren := {
  mixed := by kernel_rfl
  f138 := Tryd.func119.trans (congrArg some (by kernel_rfl))
  f143 := Tryd.func120.trans (congrArg some (by kernel_rfl))
  f195 := Tryd.func128.trans (congrArg some (by kernel_rfl))
  f197 := Tryd.func129.trans (congrArg some (by kernel_rfl))
  f217 := Tryd.func95.trans (congrArg some (by kernel_rfl))
  f218 := Tryd.func130.trans (congrArg some (by kernel_rfl))
  f219 := Tryd.func131.trans (congrArg some (by kernel_rfl))
  f221 := Tryd.func96.trans (congrArg some (by kernel_rfl))
  f224 := Tryd.func137.trans (congrArg some (by kernel_rfl))
  f225 := Tryd.func136.trans (congrArg some (by kernel_rfl))
  f260 := Tryd.func135.trans (congrArg some (by kernel_rfl))
  f266 := Tryd.func117.trans (congrArg some (by kernel_rfl))
  f267 := Tryd.func138.trans (congrArg some (by kernel_rfl))
  f268 := Tryd.func118.trans (congrArg some (by kernel_rfl))
  f314 := Tryd.func139.trans (congrArg some (by kernel_rfl))
  t0 := Tryd.underlying0
  a0 := Tryd.isAgg0
  z0 := Tryd.sizeOf0
  v0 := Tryd.zeroValue0
  t3 := Tryd.underlying3
  a3 := Tryd.isAgg3
  z3 := Tryd.sizeOf3
  v3 := Tryd.zeroValue3
  t4 := Tryd.underlying4
  a4 := Tryd.isAgg4
  z4 := Tryd.sizeOf4
  v4 := Tryd.zeroValue4
  t5 := Tryd.underlying5
  a5 := Tryd.isAgg5
  z5 := Tryd.sizeOf5
  v5 := Tryd.zeroValue5
  t9 := Tryd.underlying9
  a9 := Tryd.isAgg9
  z9 := Tryd.sizeOf9
  v9 := Tryd.zeroValue9
  t21 := Tryd.underlying21
  a21 := Tryd.isAgg21
  z21 := Tryd.sizeOf21
  v21 := Tryd.zeroValue21
  t31 := Tryd.underlying32
  a31 := Tryd.isAgg32
  z31 := Tryd.sizeOf32
  v31 := Tryd.zeroValue32
  t46 := Tryd.underlying51
  a46 := Tryd.isAgg51
  z46 := Tryd.sizeOf51
  v46 := Tryd.zeroValue51
  t51 := Tryd.underlying162
  a51 := Tryd.isAgg162
  z51 := Tryd.sizeOf162
  v51 := Tryd.zeroValue162
  t105 := Tryd.underlying182
  a105 := Tryd.isAgg182
  z105 := Tryd.sizeOf182
  v105 := Tryd.zeroValue182
  t119 := Tryd.underlying191
  a119 := Tryd.isAgg191
  z119 := Tryd.sizeOf191
  t138 := Tryd.underlying193
  a138 := Tryd.isAgg193
  z138 := Tryd.sizeOf193
  v138 := Tryd.zeroValue193
  t139 := Tryd.underlying194
  a139 := Tryd.isAgg194
  z139 := Tryd.sizeOf194
  v139 := Tryd.zeroValue194
  t146 := Tryd.underlying195
  a146 := Tryd.isAgg195
  z146 := Tryd.sizeOf195
  v146 := Tryd.zeroValue195
  g1 := by kernel_rfl
  g3 := by kernel_rfl
  g4 := by kernel_rfl }
open Go.RowKit Go.Lib in
theorem Tryd.strings_genSplit (s sep : ByteArray) (sv : Nat) (n : Int) (N : Nat) (m : Int) (w : World) (hs : s.size < 4294967281) (hm : w.cell? ⟨28, 0, none⟩ = some (.int .i64 m)) (h1 : 1 ≤ sep.size) (hsv : sv ≤ sep.size) (hn0 : n ≠ 0) (hn63 : n ≤ 9223372036854775807) (hN : (N : Int) = min (if n < 0 then (Lib.countB s sep : Int) + 1 else n) ((s.size : Int) + 1)) :
    Calls Tryd.prog 96 #[.string s, .string sep, .int .i64 sv, .int .i64 n] w fun e w' =>
      e = .returned (.slice (some ⟨w.heap.size, 0, none⟩) (Lib.splitB sep sv (N - 1) s).length N) ∧ w' = w.alloc (.cells (Lib.cellsOf (Lib.splitB sep sv (N - 1) s) N) 9) := Any.strings_genSplit Tryd.lays221 (by kernel_rfl) s sep sv n N m w hs hm h1 hsv hn0 hn63 hN
def Tryd.lays146_ren : Go.Shelf.Ren := ⟨fun | 146 => 70 | 221 => 96 | 268 => 118 | 138 => 119 | 143 => 120 | 195 => 128 | 197 => 129 | 218 => 130 | 219 => 131 | 260 => 135 | 217 => 95 | 225 => 136 | 224 => 137 | 267 => 138 | 266 => 117 | 314 => 139 | n => n, fun | 9 => 9 | 31 => 32 | 3 => 3 | 4 => 4 | 0 => 0 | 105 => 182 | 21 => 21 | 5 => 5 | 46 => 51 | 119 => 191 | 139 => 194 | 138 => 193 | 146 => 195 | 51 => 162 | n => n, fun | 1 => 28 | 3 => 29 | 4 => 30 | n => n⟩
theorem Tryd.lays146 : Go.Proofs.Lays.n146 Tryd.prog Tryd.lays146_ren := {
  mixed := by kernel_rfl
  f138 := Tryd.func119.trans (congrArg some (by kernel_rfl))
  f143 := Tryd.func120.trans (congrArg some (by kernel_rfl))
  f146 := Tryd.func70.trans (congrArg some (by kernel_rfl))
  f195 := Tryd.func128.trans (congrArg some (by kernel_rfl))
  f197 := Tryd.func129.trans (congrArg some (by kernel_rfl))
  f217 := Tryd.func95.trans (congrArg some (by kernel_rfl))
  f218 := Tryd.func130.trans (congrArg some (by kernel_rfl))
  f219 := Tryd.func131.trans (congrArg some (by kernel_rfl))
  f221 := Tryd.func96.trans (congrArg some (by kernel_rfl))
  f224 := Tryd.func137.trans (congrArg some (by kernel_rfl))
  f225 := Tryd.func136.trans (congrArg some (by kernel_rfl))
  f260 := Tryd.func135.trans (congrArg some (by kernel_rfl))
  f266 := Tryd.func117.trans (congrArg some (by kernel_rfl))
  f267 := Tryd.func138.trans (congrArg some (by kernel_rfl))
  f268 := Tryd.func118.trans (congrArg some (by kernel_rfl))
  f314 := Tryd.func139.trans (congrArg some (by kernel_rfl))
  t0 := Tryd.underlying0
  a0 := Tryd.isAgg0
  z0 := Tryd.sizeOf0
  v0 := Tryd.zeroValue0
  t3 := Tryd.underlying3
  a3 := Tryd.isAgg3
  z3 := Tryd.sizeOf3
  v3 := Tryd.zeroValue3
  t4 := Tryd.underlying4
  a4 := Tryd.isAgg4
  z4 := Tryd.sizeOf4
  v4 := Tryd.zeroValue4
  t5 := Tryd.underlying5
  a5 := Tryd.isAgg5
  z5 := Tryd.sizeOf5
  v5 := Tryd.zeroValue5
  t9 := Tryd.underlying9
  a9 := Tryd.isAgg9
  z9 := Tryd.sizeOf9
  v9 := Tryd.zeroValue9
  t21 := Tryd.underlying21
  a21 := Tryd.isAgg21
  z21 := Tryd.sizeOf21
  v21 := Tryd.zeroValue21
  t31 := Tryd.underlying32
  a31 := Tryd.isAgg32
  z31 := Tryd.sizeOf32
  v31 := Tryd.zeroValue32
  t46 := Tryd.underlying51
  a46 := Tryd.isAgg51
  z46 := Tryd.sizeOf51
  v46 := Tryd.zeroValue51
  t51 := Tryd.underlying162
  a51 := Tryd.isAgg162
  z51 := Tryd.sizeOf162
  v51 := Tryd.zeroValue162
  t105 := Tryd.underlying182
  a105 := Tryd.isAgg182
  z105 := Tryd.sizeOf182
  v105 := Tryd.zeroValue182
  t119 := Tryd.underlying191
  a119 := Tryd.isAgg191
  z119 := Tryd.sizeOf191
  t138 := Tryd.underlying193
  a138 := Tryd.isAgg193
  z138 := Tryd.sizeOf193
  v138 := Tryd.zeroValue193
  t139 := Tryd.underlying194
  a139 := Tryd.isAgg194
  z139 := Tryd.sizeOf194
  v139 := Tryd.zeroValue194
  t146 := Tryd.underlying195
  a146 := Tryd.isAgg195
  z146 := Tryd.sizeOf195
  v146 := Tryd.zeroValue195
  g1 := by kernel_rfl
  g3 := by kernel_rfl
  g4 := by kernel_rfl }
open Go.RowKit Go.Lib in
/-- strings.Split. (LAID: no walk: one application.) -/
theorem Tryd.strings_Split (s sep : ByteArray) (m : Int) (w : World) (hs : s.size < 4294967281) (hm : w.cell? ⟨28, 0, none⟩ = some (.int .i64 m)) (h1 : 1 ≤ sep.size) :
    Calls Tryd.prog 70 #[.string s, .string sep] w fun e w' =>
      e = .returned (.slice (some ⟨w.heap.size, 0, none⟩) (Lib.countB s sep + 1) (Lib.countB s sep + 1)) ∧ w' = w.alloc (.cells ((Lib.splitB sep 0 (Lib.countB s sep) s).map Value.string).toArray 9) := Any.strings_Split Tryd.lays146 (by kernel_rfl) s sep m w hs hm h1
def Tryd.laysM146_ren : Go.Shelf.Ren := ⟨fun | 146 => 70 | 221 => 96 | 268 => 118 | 138 => 119 | 143 => 120 | 195 => 128 | 197 => 129 | 218 => 130 | 219 => 131 | 260 => 135 | 217 => 95 | 225 => 136 | 224 => 137 | 267 => 138 | 266 => 117 | 314 => 139 | n => n, fun | 9 => 9 | 31 => 32 | 3 => 3 | 4 => 4 | 0 => 0 | 105 => 182 | 21 => 21 | 5 => 5 | 46 => 51 | 119 => 191 | 139 => 194 | 138 => 193 | 146 => 195 | 51 => 162 | n => n, fun | 1 => 28 | 3 => 29 | 4 => 30 | n => n⟩
theorem Tryd.laysM146 : Go.Proofs.LaysM.n146 Tryd.prog Tryd.laysM146_ren := {
  mixed := by kernel_rfl
  f138 := Tryd.func119.trans (congrArg some (by kernel_rfl))
  f143 := Tryd.func120.trans (congrArg some (by kernel_rfl))
  f146 := Tryd.func70.trans (congrArg some (by kernel_rfl))
  f195 := Tryd.func128.trans (congrArg some (by kernel_rfl))
  f197 := Tryd.func129.trans (congrArg some (by kernel_rfl))
  f217 := Tryd.func95.trans (congrArg some (by kernel_rfl))
  f218 := Tryd.func130.trans (congrArg some (by kernel_rfl))
  f219 := Tryd.func131.trans (congrArg some (by kernel_rfl))
  f221 := Tryd.func96.trans (congrArg some (by kernel_rfl))
  f224 := Tryd.func137.trans (congrArg some (by kernel_rfl))
  f225 := Tryd.func136.trans (congrArg some (by kernel_rfl))
  f260 := Tryd.func135.trans (congrArg some (by kernel_rfl))
  f266 := Tryd.func117.trans (congrArg some (by kernel_rfl))
  f267 := Tryd.func138.trans (congrArg some (by kernel_rfl))
  f268 := Tryd.func118.trans (congrArg some (by kernel_rfl))
  f314 := Tryd.func139.trans (congrArg some (by kernel_rfl))
  t0 := Tryd.underlying0
  a0 := Tryd.isAgg0
  z0 := Tryd.sizeOf0
  v0 := Tryd.zeroValue0
  t3 := Tryd.underlying3
  a3 := Tryd.isAgg3
  z3 := Tryd.sizeOf3
  v3 := Tryd.zeroValue3
  t4 := Tryd.underlying4
  a4 := Tryd.isAgg4
  z4 := Tryd.sizeOf4
  v4 := Tryd.zeroValue4
  t5 := Tryd.underlying5
  a5 := Tryd.isAgg5
  z5 := Tryd.sizeOf5
  v5 := Tryd.zeroValue5
  t9 := Tryd.underlying9
  a9 := Tryd.isAgg9
  z9 := Tryd.sizeOf9
  v9 := Tryd.zeroValue9
  t21 := Tryd.underlying21
  a21 := Tryd.isAgg21
  z21 := Tryd.sizeOf21
  v21 := Tryd.zeroValue21
  t31 := Tryd.underlying32
  a31 := Tryd.isAgg32
  z31 := Tryd.sizeOf32
  v31 := Tryd.zeroValue32
  t46 := Tryd.underlying51
  a46 := Tryd.isAgg51
  z46 := Tryd.sizeOf51
  v46 := Tryd.zeroValue51
  t51 := Tryd.underlying162
  a51 := Tryd.isAgg162
  z51 := Tryd.sizeOf162
  v51 := Tryd.zeroValue162
  t105 := Tryd.underlying182
  a105 := Tryd.isAgg182
  z105 := Tryd.sizeOf182
  v105 := Tryd.zeroValue182
  t119 := Tryd.underlying191
  a119 := Tryd.isAgg191
  z119 := Tryd.sizeOf191
  t138 := Tryd.underlying193
  a138 := Tryd.isAgg193
  z138 := Tryd.sizeOf193
  v138 := Tryd.zeroValue193
  t139 := Tryd.underlying194
  a139 := Tryd.isAgg194
  z139 := Tryd.sizeOf194
  v139 := Tryd.zeroValue194
  t146 := Tryd.underlying195
  a146 := Tryd.isAgg195
  z146 := Tryd.sizeOf195
  v146 := Tryd.zeroValue195
  g1 := by kernel_rfl
  g3 := by kernel_rfl
  g4 := by kernel_rfl
  i0 := by kernel_rfl
  i3 := by kernel_rfl
  i4 := by kernel_rfl
  i5 := by kernel_rfl
  i9 := by kernel_rfl
  i21 := by kernel_rfl
  i31 := by kernel_rfl
  i46 := by kernel_rfl
  i51 := by kernel_rfl
  i105 := by kernel_rfl
  i138 := by kernel_rfl
  i139 := by kernel_rfl
  i146 := by kernel_rfl
  m1 := by kernel_rfl
  s1_3 := fun w h => Go.Proofs.cell_of_shapedOpen_int (zero := #[.int .i64 0]) (t := 3) h (of_decide_eq_true (by kernel_rfl)) (by kernel_rfl) rfl (by kernel_rfl) (by kernel_rfl) Tryd.underlying3
  m3 := by kernel_rfl
  m4 := by kernel_rfl }
open Go.RowKit Go.Lib in
/-- strings.Split, sep not empty. (LAID: no walk: one application.) -/
theorem Tryd.strings_Split_shaped (s sep : ByteArray) (w : World) (h : w.ShapedOpen Tryd.prog) (hs : s.size < 4294967281) (h1 : 1 ≤ sep.size) :
    Calls Tryd.prog 70 #[.string s, .string sep] w fun e w' =>
      e = .returned (.slice (some ⟨w.heap.size, 0, none⟩) (Lib.countB s sep + 1) (Lib.countB s sep + 1)) ∧ w' = w.alloc (.cells ((Lib.splitB sep 0 (Lib.countB s sep) s).map Value.string).toArray 9) := Any.strings_Split_shaped Tryd.laysM146 s sep w h hs h1
def Tryd.lays197_ren : Go.Shelf.Ren := ⟨fun | 197 => 129 | 260 => 135 | n => n, fun | 9 => 9 | 21 => 21 | 3 => 3 | 4 => 4 | 5 => 5 | 105 => 182 | 119 => 191 | 0 => 0 | 46 => 51 | 139 => 194 | 138 => 193 | n => n, fun | 3 => 29 | 4 => 30 | n => n⟩
theorem Tryd.lays197 : Go.Proofs.Lays.n197 Tryd.prog Tryd.lays197_ren := {
  mixed := by kernel_rfl
  f197 := Tryd.func129.trans (congrArg some (by kernel_rfl))
  f260 := Tryd.func135.trans (congrArg some (by kernel_rfl))
  t0 := Tryd.underlying0
  a0 := Tryd.isAgg0
  z0 := Tryd.sizeOf0
  v0 := Tryd.zeroValue0
  t3 := Tryd.underlying3
  a3 := Tryd.isAgg3
  z3 := Tryd.sizeOf3
  v3 := Tryd.zeroValue3
  t4 := Tryd.underlying4
  a4 := Tryd.isAgg4
  z4 := Tryd.sizeOf4
  v4 := Tryd.zeroValue4
  t5 := Tryd.underlying5
  a5 := Tryd.isAgg5
  z5 := Tryd.sizeOf5
  v5 := Tryd.zeroValue5
  t9 := Tryd.underlying9
  a9 := Tryd.isAgg9
  z9 := Tryd.sizeOf9
  v9 := Tryd.zeroValue9
  t21 := Tryd.underlying21
  a21 := Tryd.isAgg21
  z21 := Tryd.sizeOf21
  v21 := Tryd.zeroValue21
  t46 := Tryd.underlying51
  a46 := Tryd.isAgg51
  z46 := Tryd.sizeOf51
  v46 := Tryd.zeroValue51
  t105 := Tryd.underlying182
  a105 := Tryd.isAgg182
  z105 := Tryd.sizeOf182
  v105 := Tryd.zeroValue182
  t119 := Tryd.underlying191
  a119 := Tryd.isAgg191
  z119 := Tryd.sizeOf191
  t138 := Tryd.underlying193
  a138 := Tryd.isAgg193
  z138 := Tryd.sizeOf193
  v138 := Tryd.zeroValue193
  t139 := Tryd.underlying194
  a139 := Tryd.isAgg194
  z139 := Tryd.sizeOf194
  v139 := Tryd.zeroValue194
  g3 := by kernel_rfl
  g4 := by kernel_rfl }
open Go.RowKit Go.Lib in
/-- unicode/utf8.DecodeRuneInString: "DecodeRuneInString is like DecodeRune but its input is a string.": ("DecodeRune unpacks the first UTF-8 encoding in p and returns the rune and its width in bytes."): WHERE s BEGINS WITH AN ASCII BYTE x: (x, 1). (LAID: no walk: one application.) -/
theorem Tryd.utf8_DecodeRuneInString_ascii (s : ByteArray) (x : UInt8) (w : World) (h0 : s.data.toList[0]? = some x) (hx : x.toNat < 128) :
    Calls Tryd.prog 129 #[.string s] w fun e w' => e = .returned (.tuple #[.int .i32 x.toNat, .int .i64 1]) ∧ w' = w := Any.utf8_DecodeRuneInString_ascii Tryd.lays197 s x w h0 hx
open Go.RowKit Go.Lib in
theorem Tryd.utf8_RuneCountInString_ascii (s : ByteArray) (w : World) (hs : s.size < 4294967281) (hascii : ∀ (j : Nat) b, s.data.toList[j]? = some b → b.toNat < 128) :
    Calls Tryd.prog 128 #[.string s] w fun e w' => e = .returned (.int .i64 s.size) ∧ w' = w.iter s s.size := Any.utf8_RuneCountInString_ascii Tryd.lays195 s w hs hascii
def Tryd.lays268_ren : Go.Shelf.Ren := ⟨fun | 268 => 118 | 195 => 128 | 197 => 129 | 260 => 135 | n => n, fun | 9 => 9 | 3 => 3 | 31 => 32 | 4 => 4 | 105 => 182 | 21 => 21 | 0 => 0 | 5 => 5 | 119 => 191 | 46 => 51 | 139 => 194 | 138 => 193 | n => n, fun | 3 => 29 | 4 => 30 | n => n⟩
theorem Tryd.lays268 : Go.Proofs.Lays.n268 Tryd.prog Tryd.lays268_ren := {
  mixed := by kernel_rfl
  f195 := Tryd.func128.trans (congrArg some (by kernel_rfl))
  f197 := Tryd.func129.trans (congrArg some (by kernel_rfl))
  f260 := Tryd.func135.trans (congrArg some (by kernel_rfl))
  f268 := Tryd.func118.trans (congrArg some (by kernel_rfl))
  t0 := Tryd.underlying0
  a0 := Tryd.isAgg0
  z0 := Tryd.sizeOf0
  v0 := Tryd.zeroValue0
  t3 := Tryd.underlying3
  a3 := Tryd.isAgg3
  z3 := Tryd.sizeOf3
  v3 := Tryd.zeroValue3
  t4 := Tryd.underlying4
  a4 := Tryd.isAgg4
  z4 := Tryd.sizeOf4
  v4 := Tryd.zeroValue4
  t5 := Tryd.underlying5
  a5 := Tryd.isAgg5
  z5 := Tryd.sizeOf5
  v5 := Tryd.zeroValue5
  t9 := Tryd.underlying9
  a9 := Tryd.isAgg9
  z9 := Tryd.sizeOf9
  v9 := Tryd.zeroValue9
  t21 := Tryd.underlying21
  a21 := Tryd.isAgg21
  z21 := Tryd.sizeOf21
  v21 := Tryd.zeroValue21
  t31 := Tryd.underlying32
  a31 := Tryd.isAgg32
  z31 := Tryd.sizeOf32
  v31 := Tryd.zeroValue32
  t46 := Tryd.underlying51
  a46 := Tryd.isAgg51
  z46 := Tryd.sizeOf51
  v46 := Tryd.zeroValue51
  t105 := Tryd.underlying182
  a105 := Tryd.isAgg182
  z105 := Tryd.sizeOf182
  v105 := Tryd.zeroValue182
  t119 := Tryd.underlying191
  a119 := Tryd.isAgg191
  z119 := Tryd.sizeOf191
  t138 := Tryd.underlying193
  a138 := Tryd.isAgg193
  z138 := Tryd.sizeOf193
  v138 := Tryd.zeroValue193
  t139 := Tryd.underlying194
  a139 := Tryd.isAgg194
  z139 := Tryd.sizeOf194
  v139 := Tryd.zeroValue194
  g3 := by kernel_rfl
  g4 := by kernel_rfl }
open Go.RowKit Go.Lib in
theorem Tryd.strings_explode_all (s : ByteArray) (n : Int) (w : World) (hn : n < 0) (hs : s.size < 4294967281) (hascii : ∀ (j : Nat) b, s.data.toList[j]? = some b → b.toNat < 128) :
    Calls Tryd.prog 118 #[.string s, .int .i64 n] w fun e w' =>
      e = .returned (.slice (some ⟨(w.iter s s.size).heap.size, 0, none⟩) s.size s.size) ∧ w' = (w.iter s s.size).alloc (.cells ((Lib.charsB s).map Value.string).toArray 9) := Any.strings_explode_all Tryd.lays268 (by kernel_rfl) s n w hn hs hascii
open Go.RowKit Go.Lib in
/-- strings.genSplit at sep == "", n < 0: 'return explode(s, n)'. (LAID: no walk: one application.) -/
theorem Tryd.strings_genSplit_chars (s sep : ByteArray) (sv n : Int) (w : World) (h0 : sep.size = 0) (hn : n < 0) (hs : s.size < 4294967281) (hascii : ∀ (j : Nat) b, s.data.toList[j]? = some b → b.toNat < 128) :
    Calls Tryd.prog 96 #[.string s, .string sep, .int .i64 sv, .int .i64 n] w fun e w' =>
      e = .returned (.slice (some ⟨(w.iter s s.size).heap.size, 0, none⟩) s.size s.size) ∧ w' = (w.iter s s.size).alloc (.cells ((Lib.charsB s).map Value.string).toArray 9) := Any.strings_genSplit_chars Tryd.lays221 (by kernel_rfl) s sep sv n w h0 hn hs hascii
open Go.RowKit Go.Lib in
/-- strings.Split(s, ""), s ASCII: a piece a byte. (LAID: no walk: one application.) -/
theorem Tryd.strings_Split_chars (s sep : ByteArray) (w : World) (h0 : sep.size = 0) (hs : s.size < 4294967281) (hascii : ∀ (j : Nat) b, s.data.toList[j]? = some b → b.toNat < 128) :
    Calls Tryd.prog 70 #[.string s, .string sep] w fun e w' =>
      e = .returned (.slice (some ⟨(w.iter s s.size).heap.size, 0, none⟩) s.size s.size) ∧ w' = (w.iter s s.size).alloc (.cells ((Lib.charsB s).map Value.string).toArray 9) := Any.strings_Split_chars Tryd.lays146 (by kernel_rfl) s sep w h0 hs hascii
def Tryd.lays260_ren : Go.Shelf.Ren := ⟨fun | 260 => 135 | n => n, fun | 9 => 9 | 21 => 21 | 3 => 3 | 4 => 4 | 5 => 5 | 119 => 191 | 0 => 0 | 46 => 51 | 139 => 194 | 138 => 193 | n => n, fun | 3 => 29 | 4 => 30 | n => n⟩
theorem Tryd.lays260 : Go.Proofs.Lays.n260 Tryd.prog Tryd.lays260_ren := {
  mixed := by kernel_rfl
  f260 := Tryd.func135.trans (congrArg some (by kernel_rfl))
  t0 := Tryd.underlying0
  a0 := Tryd.isAgg0
  z0 := Tryd.sizeOf0
  v0 := Tryd.zeroValue0
  t3 := Tryd.underlying3
  a3 := Tryd.isAgg3
  z3 := Tryd.sizeOf3
  v3 := Tryd.zeroValue3
  t4 := Tryd.underlying4
  a4 := Tryd.isAgg4
  z4 := Tryd.sizeOf4
  v4 := Tryd.zeroValue4
  t5 := Tryd.underlying5
  a5 := Tryd.isAgg5
  z5 := Tryd.sizeOf5
  v5 := Tryd.zeroValue5
  t9 := Tryd.underlying9
  a9 := Tryd.isAgg9
  z9 := Tryd.sizeOf9
  v9 := Tryd.zeroValue9
  t21 := Tryd.underlying21
  a21 := Tryd.isAgg21
  z21 := Tryd.sizeOf21
  v21 := Tryd.zeroValue21
  t46 := Tryd.underlying51
  a46 := Tryd.isAgg51
  z46 := Tryd.sizeOf51
  v46 := Tryd.zeroValue51
  t119 := Tryd.underlying191
  a119 := Tryd.isAgg191
  z119 := Tryd.sizeOf191
  t138 := Tryd.underlying193
  a138 := Tryd.isAgg193
  z138 := Tryd.sizeOf193
  v138 := Tryd.zeroValue193
  t139 := Tryd.underlying194
  a139 := Tryd.isAgg194
  z139 := Tryd.sizeOf194
  v139 := Tryd.zeroValue194
  g3 := by kernel_rfl
  g4 := by kernel_rfl }
open Go.RowKit Go.Lib in
theorem Tryd.utf8_decodeRuneInStringSlow (s : ByteArray) (w : World) (hT : Lib.Utf8Tabs 29 30 w) :
    Calls Tryd.prog 135 #[.string s] w fun e w' => e = .returned (.tuple #[.int .i32 (Lib.decodeGo s).1, .int .i64 (Lib.decodeGo s).2]) ∧ Below w.heap.size w w' := Any.utf8_decodeRuneInStringSlow Tryd.lays260 s w hT
open Go.RowKit Go.Lib in
/-- **unicode/utf8.DecodeRuneInString AT EVERY STRING.** (LAID: no walk: one application.) -/
theorem Tryd.utf8_DecodeRuneInString (s : ByteArray) (w : World) (hT : Lib.Utf8Tabs 29 30 w) :
    Calls Tryd.prog 129 #[.string s] w fun e w' => e = .returned (.tuple #[.int .i32 (Lib.decodeGo s).1, .int .i64 (Lib.decodeGo s).2]) ∧ Below w.heap.size w w' := Any.utf8_DecodeRuneInString Tryd.lays197 s w hT
end Go.Proofs

/- Chapter 7: labels. -/
namespace Go.Proofs.YtdfjiodkmhpfkaaDoor
set_option linter.unusedVariables false
namespace Am
open Go.RowKit
set_option maxRecDepth 100000

theorem idxB_ac {gs : List Nat} (a : List UInt8) (c : UInt8) : ACp gs Tryd.prog 68 [strC a, .c (.int .u8 (c.toNat : Nat))] (.c (.int .i64 (Lib.indexByte a c))) :=
  ac_old fun al w St vals hs hv hr => by
    rw [vals2 hv, show vals.getD 0 undef = .string ⟨a.toArray⟩ from hr 0, show vals.getD 1 undef = .int .u8 (c.toNat : Nat) from hr 1]
    exact (Tryd.strings_IndexByte _ _ w).mono (by rintro e w' ⟨rfl, rfl⟩; exact ⟨by simp, Below.refl _ _⟩)
/-! ### labels -/
def letL : List UInt8 := [97, 98, 99, 100, 101, 102, 103, 104, 105, 106, 107, 108, 109, 110, 111, 112, 113, 114, 115, 116, 117, 118, 119, 120, 121, 122, 48, 49, 50, 51, 52, 53, 54, 55, 56, 57]
theorem lch_let (c : UInt8) : (decide (c.toNat = 45) || !decide (Lib.indexByte letL c < 0)) = lch c := by
  have key : ∀ n : Fin 256, (decide ((UInt8.ofNat n.val).toNat = 45) || !decide (Lib.indexByte letL (UInt8.ofNat n.val) < 0)) = lch (UInt8.ofNat n.val) := by decide +kernel
  have := key ⟨c.toNat, c.toNat_lt⟩
  simpa using this
theorem pre_hyp (l : List UInt8) : Lib.hasPrefix l [45] = decide (l ≠ [] ∧ l.getD 0 0 = 45) := by
  cases l with
  | nil => decide
  | cons a l =>
    by_cases h : a = 45
    · subst h; simp [Lib.hasPrefix]
    · have : ¬ (45 : UInt8) = a := fun e => h e.symm
      simp [Lib.hasPrefix, List.isPrefixOf, h, this]
theorem suf_hyp (l : List UInt8) : Lib.hasSuffix l [45] = decide (l ≠ [] ∧ l.getD (l.length - 1) 0 = 45) := by
  by_cases h0 : l = []
  · subst h0; decide
  · obtain ⟨q, c, rfl⟩ : ∃ q c, l = q ++ [c] := ⟨l.dropLast, l.getLast h0, (List.dropLast_concat_getLast h0).symm⟩
    have e : (q ++ [c]).getD ((q ++ [c]).length - 1) 0 = c := by simp [List.getD]
    rw [e]
    unfold Lib.hasSuffix
    rw [Bool.eq_iff_iff, List.isSuffixOf_iff_suffix]
    simp only [decide_eq_true_eq]
    constructor
    · rintro ⟨t, ht⟩
      exact ⟨h0, (by have := congrArg List.getLast? ht; simp at this; exact this.symm)⟩
    · rintro ⟨_, rfl⟩; exact ⟨q, rfl⟩
theorem take_all {l : List UInt8} {i : Nat} (hi : i < l.length) (p : UInt8 → Bool) : (l.take (i + 1)).all p = ((l.take i).all p && p (l.getD i 0)) := by
  rw [List.take_succ_eq_append_getElem hi, List.all_append]
  simp [List.getD, hi]
theorem all_no {l : List UInt8} {i : Nat} (hi : i < l.length) (p : UInt8 → Bool) (h : p (l.getD i 0) = false) : l.all p = false := by
  rw [List.all_eq_false]
  refine ⟨l[i], List.getElem_mem hi, ?_⟩
  have : l.getD i 0 = l[i] := by simp [List.getD, hi]
  rw [← this, h]; exact Bool.noConfusion
theorem lab_eq (l : List UInt8) : labM l = (decide (l ≠ []) && decide (l.length ≤ 24) && !Lib.hasPrefix l [45] && !Lib.hasSuffix l [45] && l.all lch) := by
  unfold labM
  rw [pre_hyp, suf_hyp]
  by_cases h : l = []
  · simp [h]
  · simp [h]
theorem labM_iff {l : List UInt8} : labM l = true ↔ 1 ≤ l.length ∧ l.length ≤ 24 ∧ (l.getD 0 0).toNat ≠ 45 ∧ (l.getD (l.length - 1) 0).toNat ≠ 45 ∧ l.all lch = true := by
  have e : ∀ c : UInt8, c ≠ 45 ↔ c.toNat ≠ 45 := fun c => not_congr (by rw [← UInt8.toNat_inj]; rfl)
  simp only [labM, Bool.and_eq_true, decide_eq_true_eq, e, and_assoc]
  have : l ≠ [] ↔ 1 ≤ l.length := List.length_pos_iff.symm
  rw [this]
end Am
end Go.Proofs.YtdfjiodkmhpfkaaDoor

/- Chapter 9: words, subjects, their texts. -/
namespace Go.Proofs.YtdfjiodkmhpfkaaDoor
set_option linter.unusedVariables false
namespace Am
variable {gs : List Nat} [OkG gs]
open Go.RowKit
set_option maxRecDepth 100000

/-- texts that are read alone -/
def lsC (l : List (List UInt8)) : CV := .rs 1 l.length fun i _ => strC (l.getD i [])
def subjC (s : S3) : CV := .agg 3 (fl [.c (.int .i64 s.1), strC s.2.1, strC s.2.2])
theorem CEnt.strV {a b : List UInt8} {v : CV} (h : a = b) (hv : CEnt v (strC a)) : CEnt v (strC b) := by subst h; exact hv
def wF (j : Nat) : CV := strC (wordL.getD j [])
theorem wF_of (j : Nat) (hj : j < 5) : CEnt (fl [strC [110, 111, 100, 101], strC [119, 111, 114, 107, 108, 111, 97, 100], strC [111, 112, 101, 114, 97, 116, 111, 114], strC [98, 111, 111, 116], strC [99, 97]] j) (wF j) := by
  rcases j with _ | _ | _ | _ | _ | j <;> first | exact CEnt.refl _ | omega
/-- where a text first stands -/
def idxT (l : List (List UInt8)) (x : List UInt8) : Int := if x ∈ l then (l.idxOf x : Nat) else -1
theorem idx_wordL (x : List UInt8) : idxT wordL x + 1 = idxW x := by unfold idxT idxW; split <;> simp
end Am
end Go.Proofs.YtdfjiodkmhpfkaaDoor

/- Chapter 23: grants: tables, ContainsFunc, Clone, DeleteFunc. -/
namespace Go.Proofs.YtdfjiodkmhpfkaaDoor
set_option linter.unusedVariables false
namespace Am
variable {gs : List Nat} [OkG gs]
open Go.RowKit
set_option maxRecDepth 100000

abbrev G5 := Int × Int × Bool × Int × Int
def grF (r : G5) : Nat → CV := fl [.c (.int .i64 r.1), .c (.int .i64 r.2.1), .c (.bool r.2.2.1), .c (.int .i64 r.2.2.2.1), .c (.int .i64 r.2.2.2.2)]
def grC (r : G5) : CV := .agg 5 (grF r)
def g0 : G5 := (0, 0, false, 0, 0)
def gtC (l : List G5) : CV := .rs 5 l.length fun i => grF (l.getD i g0)
theorem code_knowG {P : Program} {G : Gh} {c : Code} {s : AS} {R : Exit → AS → Prop} {φ : Prop} (hφ : ∀ a w, Rel G s a w → φ) (h : φ → ACode P G c s R) : ACode P G c s R := fun a w hr Q hQ => h (hφ a w hr) a w hr Q hQ
theorem know_osG {G : Gh} {s : AS} (d : Nat) {i off n m : Nat} {g : Option Nat} (hl : look s.env s.b d = .os i g off n m) : ∀ a w, Rel G s a w → g = none → n = 0 := fun a w ⟨St, hr⟩ hg => by
  have := evR hr (x := .tmp d) hl
  subst hg
  exact this.1
theorem end_atG {P : Program} {G : Gh} {s : AS} {fn : Func} {Q : CV → List (Option Nat × Res) → Prop} {e : Exit} {v m : CV} (he : e = .ret ∨ e = .normal) (H' : List (Option Nat × Res)) (l : List Nat) (hl : l.Nodup) (hH : pickL s.H l = H') (hres : ARes P G fn s v) (hv : CEnt v m) (hq : Q m H') : bodyR P G fn Q e s :=
  end_own he m H' l hl hH (hres.ent hv) hq
def gtF (l : List G5) : Nat → CV := rowF 5 grF g0 l
theorem leaf_gr (r : G5) {j : Nat} (hj : j < 5) : leafC (grF r j) = true := by
  rcases j with _ | _ | _ | _ | _ | j <;> first | rfl | omega
theorem grow_ent {X : List G5} {j : Nat} {F : Nat → CV} (h : ∀ m, m < 5 → CEnt (F m) (gtF X (j * 5 + m))) : CEnt (.agg 5 F) (grC (X.getD j g0)) :=
  CEnt.agg rfl fun m hm => (h m hm).trans (CEnt.of_eq (rowF_at hm))
theorem gset_row {X : List G5} {i o : Nat} (y : G5) {l : List CV} (ho : o = i * 5) (hi : i < X.length) (hl : l.length = 5) (he : ∀ m, m < 5 → CEnt (fl l m) (grF y m)) :
    ∀ j, j < X.length * 5 → CEnt (updF (gtF X) o l j) (gtF (X.set i y) j) := fun j hj => by
  subst ho
  obtain ⟨q, r, hr, rfl⟩ : ∃ q r, r < 5 ∧ j = q * 5 + r := ⟨j / 5, j % 5, Nat.mod_lt _ (by decide), by omega⟩
  rw [updF_get, hl]
  have e1 : gtF (X.set i y) (q * 5 + r) = grF ((X.set i y).getD q g0) r := rowF_at hr
  have e2 : gtF X (q * 5 + r) = grF (X.getD q g0) r := rowF_at hr
  have hq : q < X.length := by omega
  by_cases h : q = i
  · subst h
    rw [if_pos (by omega), e1, show q * 5 + r - q * 5 = r by omega]
    have : (X.set q y).getD q g0 = y := by simp [List.getD, hq]
    rw [this]
    exact he r hr
  · rw [if_neg (by omega), e1, e2]
    have : (X.set i y).getD q g0 = X.getD q g0 := by simp [List.getD, Ne.symm h]
    rw [this]
    exact CEnt.refl _
theorem gtF_take {X : List G5} {i j : Nat} (hi : i ≤ X.length) (hj : j < i * 5) : gtF X j = gtF (X.take i) j := by
  obtain ⟨q, r, hr, rfl⟩ : ∃ q r, r < 5 ∧ j = q * 5 + r := ⟨j / 5, j % 5, Nat.mod_lt _ (by decide), by omega⟩
  have e1 : gtF X (q * 5 + r) = grF (X.getD q g0) r := rowF_at hr
  have e2 : gtF (X.take i) (q * 5 + r) = grF ((X.take i).getD q g0) r := rowF_at hr
  rw [e1, e2]
  have hq : q < i := by omega
  simp [List.getD, hq]
/-! ### what stays, moved to the front -/
structure GDelI (q : G5 → Bool) (l X : List G5) (i j : Nat) : Prop where
  len : X.length = l.length
  pre : X.take i = (l.take j).filter q
  suf : X.drop j = l.drop j
  lt : i < j
  le : j ≤ l.length
variable {q : G5 → Bool} {l X : List G5} {i j : Nat}
theorem GDelI.at (h : GDelI q l X i j) (hj : j < l.length) : X.getD j g0 = l[j] := by
  have hx : j < X.length := by rw [h.len]; exact hj
  have e := h.suf
  rw [List.drop_eq_getElem_cons hx, List.drop_eq_getElem_cons hj] at e
  have := (List.cons.inj e).1
  simp [List.getD, hx, this]
theorem GDelI.sufS (h : GDelI q l X i j) (hj : j < l.length) : X.drop (j + 1) = l.drop (j + 1) := by
  have e := congrArg (List.drop 1) h.suf
  rw [List.drop_drop, List.drop_drop] at e
  exact e
theorem GDelI.skip (h : GDelI q l X i j) (hj : j < l.length) (hq : q (X.getD j g0) = false) : GDelI q l X i (j + 1) where
  len := h.len
  pre := by
    rw [List.take_succ_eq_append_getElem hj, List.filter_append, ← h.pre]
    rw [h.at hj] at hq
    simp [hq]
  suf := h.sufS hj
  lt := by have := h.lt; omega
  le := hj
theorem GDelI.put (h : GDelI q l X i j) (hj : j < l.length) (hq : q (X.getD j g0) = true) : GDelI q l (X.set i (X.getD j g0)) (i + 1) (j + 1) where
  len := by rw [List.length_set]; exact h.len
  pre := by
    have hi : i < X.length := by have := h.lt; rw [h.len]; omega
    rw [h.at hj] at hq ⊢
    rw [List.take_succ_eq_append_getElem hj, List.filter_append, ← h.pre]
    rw [List.take_succ_eq_append_getElem (by simpa using hi)]
    simp [hq, List.take_set_of_le]
  suf := by
    rw [List.drop_set_of_lt (by have := h.lt; omega)]
    exact h.sufS hj
  lt := by have := h.lt; omega
  le := hj
theorem GDelI.fin (h : GDelI q l X i j) (hj : ¬ j < l.length) : X.take i = l.filter q := by
  rw [h.pre, List.take_of_length_le (by omega)]
theorem gfirstI_is {p : G5 → Bool} : ∀ {l : List G5} {i : Nat}, firstI p l = (i : Nat) → (∀ hi : i < l.length, p l[i] = true) ∧ ∀ j (hj : j < i) (hl : j < l.length), p l[j] = false
  | [], i, h => by simp [firstI] at h
  | x :: l, i, h => by
    rw [firstI] at h
    by_cases hx : p x = true
    · rw [if_pos hx] at h
      obtain rfl : i = 0 := by omega
      exact ⟨fun _ => hx, fun j hj => absurd hj (Nat.not_lt_zero j)⟩
    · rw [if_neg hx] at h
      have hb := firstI_bd p l
      by_cases hn : firstI p l < 0
      · rw [if_pos hn] at h; omega
      · rw [if_neg hn] at h
        obtain ⟨k, rfl⟩ : ∃ k, i = k + 1 := ⟨i - 1, by omega⟩
        obtain ⟨h1, h2⟩ := @gfirstI_is p l k (by omega)
        refine ⟨fun hi => ?_, fun j hj hl => ?_⟩
        · simpa using h1 (by simpa using hi)
        · rcases j with _ | j
          · simpa using hx
          · simpa using h2 j (by omega) (by simpa using hl)
theorem GDelI.init {p : G5 → Bool} (h0 : ¬ firstI p l = -1) : ∃ i : Nat, firstI p l = (i : Nat) ∧ i < l.length ∧ GDelI (fun r => !p r) l l i (i + 1) := by
  have hb := firstI_bd p l
  obtain ⟨i, hi⟩ : ∃ i : Nat, firstI p l = (i : Nat) := ⟨(firstI p l).toNat, by omega⟩
  have hlt : i < l.length := by omega
  refine ⟨i, hi, hlt, rfl, ?_, rfl, Nat.lt_succ_self i, hlt⟩
  obtain ⟨h1, h2⟩ := gfirstI_is hi
  rw [List.take_succ_eq_append_getElem hlt, List.filter_append]
  have e1 : (l.take i).filter (fun r => !p r) = l.take i := by
    rw [List.filter_eq_self]
    intro x hx
    obtain ⟨j, hj, rfl⟩ := List.getElem_of_mem hx
    have hj' : j < i := by have := List.length_take_le i l; omega
    rw [List.getElem_take, h2 j hj' (by omega)]; rfl
  rw [e1]
  simp [h1 hlt]
theorem gdel_none {p : G5 → Bool} (h0 : firstI p l = -1) : l.filter (fun r => !p r) = l := by
  rw [List.filter_eq_self]
  intro x hx
  exact List.all_eq_true.1 (firstI_neg.1 (show firstI p l < 0 by omega)) x hx
end Am
end Go.Proofs.YtdfjiodkmhpfkaaDoor

/- Chapter 23: grants and policies: right; the closures; the sieve; the greatest. -/
namespace Go.Proofs.YtdfjiodkmhpfkaaDoor
set_option linter.unusedVariables false
namespace Am
variable {gs : List Nat} [OkG gs]
open Go.RowKit
set_option maxRecDepth 100000

def grOk (g : G5) : Bool := decide (1 ≤ g.1) && decide (g.1 ≤ 5) && decide (1 ≤ g.2.1) && decide (g.2.1 < 5) && decide (1 ≤ g.2.2.2.1) && decide (g.2.2.2.1 ≤ 15) && decide (1 ≤ g.2.2.2.2) && decide (g.2.2.2.2 ≤ 253402300799)
def polOk (l : List G5) : Bool := decide (l.length ≤ 32) && l.all grOk
/-- a request: whose, key, usages, duration, other names -/
abbrev Q5 := S3 × List UInt8 × Int × Int × List (List UInt8)
def reqF (q : Q5) : Nat → CV := fl [.c (.int .i64 q.1.1), strC q.1.2.1, strC q.1.2.2, strC q.2.1, .c (.int .i64 q.2.2.1), .c (.int .i64 q.2.2.2.1), lsC q.2.2.2.2]
def reqC (q : Q5) : CV := .agg 7 (reqF q)
def sF3 (s : S3) : Nat → CV := fl [.c (.int .i64 s.1), strC s.2.1, strC s.2.2]
def sameQ (w : S3) (q : Q5) : Bool := (decide (w.1 = 4) && decide (q.1.1 = 1) && decide (w.2.2 = q.1.2.2)) || decide (w = q.1)
/-! ### the closures -/
theorem fn_box {f : FuncId} {n : Nat} {fv : Nat → CV} : ∀ j, j < 1 → CEnt (fl [CV.fn f n fv] (0 + j)) (CV.fn f n fv) := fun j hj => by
  obtain rfl : j = 0 := by omega
  exact CEnt.refl _
end Am
end Go.Proofs.YtdfjiodkmhpfkaaDoor

/- Chapter 23: what passes by usages; the sieve; the greatest. -/
namespace Go.Proofs.YtdfjiodkmhpfkaaDoor
set_option linter.unusedVariables false
namespace Am
variable {gs : List Nat} [OkG gs]
open Go.RowKit
set_option maxRecDepth 100000

section
variable {P : Program} {G : Gh} {s : AS} {o : Oper} {x y : Operand} {t u : TypeId} {k : IntKind} {a b : Int}
theorem rd_andNot (ho : o.op = .binOp .andNot t x y u) (hx : s.eval x = .c (.int k a)) (hy : s.eval y = .c (.int k b)) : ARd P G o s (.c (.int k (k.wrap (BitVec.ofInt k.bits a &&& ~~~ BitVec.ofInt k.bits b).toNat))) :=
  rd_bin ho hx hy fun W => by simp [binS, eqGuard, binOp, Op.intBits]
theorem end_pack {fn : Func} {Q : CV → List (Option Nat × Res) → Prop} {e : Exit} {γ : Type} {gd : γ → Nat} {E : γ → List (Option Nat × Res)} (he : e = .ret ∨ e = .normal) (v : CV) (z : γ) (l : List Nat) (hl : l.Nodup) (hH : pickL s.H l = E z ++ []) (hres : ARes P G fn s v) (hq : Q v [objE (gd z) gd E]) : bodyR P G fn Q e s := by
  have h : ∃ r H', ARes P G fn s r ∧ Q r H' ∧ ∀ St a w, RelSt G St s a w → HRel G.al St w G.w0.heap.size G.F0 H' := ⟨v, _, hres, hq, fun _ _ _ hr => (hr.hp.pick l hl hH).pack z⟩
  rcases he with rfl | rfl <;> exact h
end
/-- the bits of a that b lacks -/
def lackB (a b : Int) : Int := IntKind.i64.wrap (BitVec.ofInt 64 a &&& ~~~ BitVec.ofInt 64 b).toNat
/-! ### the sieve -/
def sE (l : List G5) (k : Nat) (z : Nat × Option Nat) : List (Option Nat × Res) := [(some z.1, .blk 2 (fl [.os 1 z.2 0 l.length 5, .err k])), (z.2, .blk (l.length * 5) (gtF l))]
def sieveO (n : Nat) (l : List G5) (k : Nat) : Option Nat × Res := objE n (fun z : Nat × Option Nat => z.1) (sE l k)
def keepS (p : G5 → Bool) (e : Nat) (l : List G5) (k : Nat) : List G5 × Nat := if k ≠ 0 then (l, k) else (l.filter p, if l.filter p = [] then e else 0)
theorem keepS_bad {p : G5 → Bool} {e : Nat} {l : List G5} {k : Nat} (h : k ≠ 0) : keepS p e l k = (l, k) := if_pos h
theorem keepS_good {p : G5 → Bool} {e : Nat} {l : List G5} {k : Nat} (h : k = 0) : keepS p e l k = (l.filter p, if l.filter p = [] then e else 0) := if_neg (by omega)
theorem nn_filter {p : G5 → Bool} (l : List G5) : (l.filter fun r => !!p r) = l.filter p := by
  congr 1; funext r; simp
end Am
end Go.Proofs.YtdfjiodkmhpfkaaDoor

/- Chapter 23: the greatest; who asks for itself; the plane's policy. -/
namespace Go.Proofs.YtdfjiodkmhpfkaaDoor
set_option linter.unusedVariables false
namespace Am
variable {gs : List Nat} [OkG gs]
open Go.RowKit
set_option maxRecDepth 100000

def maxG (m : G5) : List G5 → G5
  | [] => m
  | a :: t => maxG (if m.2.2.2.2 < a.2.2.2.2 then a else m) t
theorem maxG_step {l : List G5} {i : Nat} (m : G5) (h : i < l.length) : maxG m (l.drop i) = maxG (if m.2.2.2.2 < (l.getD i g0).2.2.2.2 then l.getD i g0 else m) (l.drop (i + 1)) := by
  rw [List.drop_eq_getElem_cons h, maxG]
  simp [List.getD, h]
theorem gt_at {l : List G5} {i : Nat} (h : i < l.length) : l.getD i g0 ∈ l := by simp [List.getD, h]
def defL : List G5 := [(4, 1, true, 10, 86400), (1, 1, true, 10, 86400), (1, 2, false, 11, 3600), (3, 1, false, 15, 604800), (3, 2, false, 15, 604800), (3, 3, false, 15, 604800)]
end Am
end Go.Proofs.YtdfjiodkmhpfkaaDoor

/- Slices of the library on slices of bytes: Grow at nil, Concat. -/
namespace Go.Proofs.YtdfjiodkmhpfkaaDoor
set_option linter.unusedVariables false
namespace Am
variable {gs : List Nat} [OkG gs]
open Go.RowKit
set_option maxRecDepth 100000

theorem grow8_ac {gs : List Nat} (n : Nat) (hn : n ≤ 100000000000) : AC gs Tryd.prog 93 [] [.c (.slice none 0 0), .c (.int .i64 (n : Nat))] (OwnQ 0 1 0 fun _ => .top) := by
  refine ac_of 27 Tryd.func93 rfl rfl rfl (fun al w0 F0 St0 => ?_)
  refine jcr ?_
  refine jq jrm ?_
  refine seq_nil ?_
  refine jcs ?_
  refine jcr ?_
  refine jq jrm ?_
  refine jq jrc ?_
  refine seq_nil ?_
  refine jcc (fun h423 => ?_) fun h423 => ?_
  · exfalso; omega
  refine code_skip (jtn ?_)
  refine jcs ?_
  refine jcr ?_
  refine jq jrm ?_
  refine jq jrm ?_
  refine jq (rd_capN rfl rfl Tryd.underlying46) ?_
  refine jq jrm ?_
  refine jq jrl ?_
  refine jq jra ?_
  refine jq jra ?_
  refine jq jrm ?_
  refine seq_nil ?_
  refine jcr ?_
  refine jq jrm ?_
  refine jq jrc ?_
  refine seq_nil ?_
  refine jcc (fun h426 => ?_) fun h426 => ?_
  rotate_left
  · refine code_skip (jtn ?_)
    first | refine code_ent (own_nil 0 1 (fun _ => .top) rfl) ?_ | skip
    refine jcr ?_
    refine jq jrm ?_
    refine jq jrm ?_
    refine seq_nil ?_
    refine code_ret ?_
    exact end_O 0 (.inl rfl) (res_1 rfl (arv_tmp rfl)) rfl rfl (Nat.le_refl _) (fun _ => rfl) (fun j hj => absurd hj (Nat.not_lt_zero j))
  refine jcg ?_
  refine jq jrm ?_
  refine jq jrm ?_
  refine jq (rd_capN rfl rfl Tryd.underlying46) ?_
  refine jq (rd_sliceN rfl rfl Tryd.underlying46 sz5 (bd_none _ _) (bd_some rfl (show _ = ((0 : Nat) : Int) by first | omega | (simp only [List.length_append, List.length_cons, List.length_nil]; omega))) (by (first | omega | decide | (dsimp only at *; omega))) (by (first | omega | decide | (dsimp only at *; omega)))) ?_
  refine jq jrm ?_
  refine jqe (e_appZ (F := fun _ => .top) rfl rfl rfl (show _ = ((n : Nat) : Int) by first | omega | (simp only [List.length_append, List.length_cons, List.length_nil]; omega)) (by (first | omega | decide | (dsimp only at *; omega))) Tryd.underlying46 Tryd.underlying3 sz5 (by decide) zr5 by5 (by (first | omega | decide | (dsimp only at *; omega))) (by (first | omega | decide | (dsimp only at *; omega))) rfl rfl rfl (fun p1 => ?_))
  refine jq jrm ?_
  refine jq jrl ?_
  first | refine jq (jrst (hz2 := (show _ = ((0 : Nat) : Int) by first | omega | (simp only [List.length_append, List.length_cons, List.length_nil]; omega)))) ?_ | refine jq (jrsr (hl := (bd_none _ _)) (hu := (bd_some rfl (show _ = ((0 : Nat) : Int) by first | omega | (simp only [List.length_append, List.length_cons, List.length_nil]; omega))))) ?_ | refine jq (jrso (hl := (bd_none _ _)) (hu := (bd_some rfl (show _ = ((0 : Nat) : Int) by first | omega | (simp only [List.length_append, List.length_cons, List.length_nil]; omega))))) ?_
  refine jq jrm ?_
  refine seq_nil ?_
  refine jtn ?_
  first | refine code_ent (own_nil 0 1 (fun _ => .top) rfl) ?_ | skip
  refine jcr ?_
  refine jq jrm ?_
  refine jq jrm ?_
  refine seq_nil ?_
  refine code_ret ?_
  exact end_O 0 (.inl rfl) (res_1 rfl (arv_tmp rfl)) rfl rfl (Nat.le_refl _) (fun _ => rfl) (fun j hj => absurd hj (Nat.not_lt_zero j))
theorem concat8_ac {gs : List Nat} (ls : List (List UInt8)) (h : sumL ls ≤ 10000000000) (hl : ls.length ≤ 1000000) : ACp gs Tryd.prog 59 [lbC ls] (bsC ls.flatten) := by
  refine ac_of 36 Tryd.func59 rfl rfl rfl (fun al w0 F0 St0 => ?_)
  refine jcr ?_
  refine jq jrm ?_
  refine seq_nil ?_
  refine jcr ?_
  refine jq jrm ?_
  refine seq_nil ?_
  refine jcs ?_
  refine jcr ?_
  refine jq jrm ?_
  refine jq jrl ?_
  refine jq jrm ?_
  refine seq_nil ?_
  refine code_block ?_
  refine l_loop (α := Nat) [3, 5, 11, 12, 13, 14, 15, 16, 17, 18, 19, 20, 21, 22] (fun i => [(3, .c (.int .i64 (sumL (ls.take i) : Nat))), (11, .c (.int .i64 (i : Nat)))]) (fun _ => []) (fun i => i ≤ ls.length) (fun i => ls.length - i) (0) ?_ (fun _ => rfl) ?_ ?_ ?_
  · exact Nat.zero_le _
  · exact .cons (CEnt.refl _) (.cons (CEnt.refl _) .nil)
  · (repeat (first | exact HEnt.nil | refine HEnt.same ?_ | refine HEnt.blk rfl (fun j hj => by rcases j with _|_|_|_|_|_|_|_|j <;> first | exact CEnt.refl _ | exact CEnt.int (by omega) | omega) ?_))
  · rintro i (hi : i ≤ ls.length)
    refine jcr ?_
    refine jq jrc ?_
    refine seq_nil ?_
    refine jcs ?_
    refine jcc (fun h493 => ?_) fun h493 => ?_
    · refine code_skip (jtn ?_)
      refine jcs ?_
      refine code_block ?_
      refine jcr ?_
      refine jq jri ?_
      first | refine jqo jrdo ?_ | refine jq jrdr ?_
      refine jq jrm ?_
      refine seq_nil ?_
      have hs1 := sumL_take (ls := ls) (i := i) (by omega)
      have hs2 := sumL_le ls (i + 1)
      refine jcr ?_
      refine jq jrm ?_
      refine jq jrm ?_
      refine jq jrl ?_
      refine jq jra ?_
      refine jq jrm ?_
      refine seq_nil ?_
      refine jcr ?_
      refine jq jrm ?_
      refine jq jrc ?_
      refine seq_nil ?_
      refine jcc (fun h495 => ?_) fun h495 => ?_
      · exfalso; omega
      refine code_skip (jbn (jtn ?_))
      refine jcg ?_
      refine jq jra ?_
      refine jq jrm ?_
      refine seq_nil ?_
      refine jtn ?_
      refine jlend (i + 1) ?_ ?_ (h5 := ?_)
      · show i + 1 ≤ ls.length; omega
      · omega
      · exact .cons (CEnt.int (by rw [sumL_take (by omega)]; omega)) (.cons (CEnt.int (by omega)) .nil)
    refine code_exit (jte (jte (jbx (jtn ?_))))
    have hs3 := sumL_le ls i
    refine jcr ?_
    refine jq jrm ?_
    refine jqe (jecO (grow8_ac (sumL (ls.take i)) (by omega)) (fun p1 => ?_))
    refine jq jrm ?_
    refine seq_nil ?_
    refine jcs ?_
    refine jcr ?_
    refine jq jrm ?_
    refine jq jrl ?_
    refine jq jrm ?_
    refine seq_nil ?_
    refine code_block ?_
    refine l_loop (α := Nat × Option Nat) [6, 8, 27, 28, 29, 30, 31, 32, 33, 34] (fun (j, g) => [(6, .os 0 g 0 ((ls.take j).flatten).length 1), (27, .c (.int .i64 (j : Nat)))]) (fun (j, g) => [(g, .blk ((ls.take j).flatten).length (byF (ls.take j).flatten))]) (fun j => j.1 ≤ ls.length) (fun j => ls.length - j.1) ((0, p1)) ?_ (fun _ => rfl) ?_ ?_ ?_
    · exact Nat.zero_le _
    · exact .cons (CEnt.refl _) (.cons (CEnt.refl _) .nil)
    · exact .blk rfl (fun j hj => absurd hj (Nat.not_lt_zero j)) .nil
    · rintro ⟨j, g'⟩ (hj : j ≤ ls.length)
      refine jcr ?_
      refine jq jrc ?_
      refine seq_nil ?_
      refine jcs ?_
      refine jcc (fun h503 => ?_) fun h503 => ?_
      rotate_left
      · refine code_exit (jte (jte (jbx (jtn ?_))))
        refine jcr ?_
        refine jq jrm ?_
        refine jq jrm ?_
        refine seq_nil ?_
        refine code_ent (freeze 0 rfl) ?_
        refine code_ent (thawB 2 ((ls.take j).flatten) rfl rfl (by first | rfl | simp) rfl) ?_
        refine code_ret (jrt (hv := ?_))
        refine CEnt.bs ?_
        rw [List.take_of_length_le (by omega)]
      refine code_skip (jtn ?_)
      refine jcs ?_
      refine code_block ?_
      refine jcr ?_
      refine jq jri ?_
      first | refine jqo jrdo ?_ | refine jq jrdr ?_
      refine jq jrm ?_
      refine seq_nil ?_
      have hf1 := sumL_take (ls := ls) (i := j) (by omega)
      have hf2 := sumL_le ls (j + 1)
      have hf3 := flat_len (ls.take j)
      refine jcg ?_
      refine jq jrm ?_
      refine jq jrm ?_
      first | refine jqm (m_appendB rfl rfl rfl (Nat.le_refl _) (fun _ _ => CEnt.refl _) (src_rs rfl) rfl (fun j hj => by simp only [Nat.div_one]; exact CEnt.refl _) Tryd.underlying46 nu46 sz5 zr5 by5 rfl (by first | omega | (simp; done) | (simp; omega) | (simp at *; omega)) (fun j hj => rfl) rfl rfl (fun p2 => ?_)) | refine jqm (m_appendB rfl rfl rfl (Nat.le_refl _) (fun _ _ => CEnt.refl _) (src_str rfl) rfl (fun j hj => CEnt.refl _) Tryd.underlying46 nu46 sz5 zr5 by5 rfl (by first | omega | (simp; done) | (simp; omega) | (simp at *; omega)) (fun j hj => rfl) rfl rfl (fun p2 => ?_)) | refine jqm (m_appendB rfl rfl rfl (Nat.le_refl _) (fun _ _ => CEnt.refl _) (src_os rfl (.inl rfl) (by omega)) rfl (fun j hj => by rw [Nat.zero_add]; exact CEnt.refl _) Tryd.underlying46 nu46 sz5 zr5 by5 rfl (by first | omega | (simp; done) | (simp; omega) | (simp at *; omega)) (fun j hj => rfl) rfl rfl (fun p2 => ?_))
      refine jq jrm ?_
      refine seq_nil ?_
      refine jbn (jtn ?_)
      refine jcg ?_
      refine jq jra ?_
      refine jq jrm ?_
      refine seq_nil ?_
      refine jtn ?_
      refine jlend ((j + 1, p2)) ?_ ?_ (h5 := ?_) (h7 := ?_)
      · show j + 1 ≤ ls.length; omega
      · show ls.length - (j + 1) < ls.length - j; omega
      · simp only [flat_take (show j < ls.length by omega)]
        exact .cons (CEnt.refl _) (.cons (CEnt.int (by omega)) .nil)
      · simp only [flat_take (show j < ls.length by omega)]
        exact .same .nil
end Am
end Go.Proofs.YtdfjiodkmhpfkaaDoor

/- Chapter 23: keys' numbers; rows of texts in order; requests. -/
namespace Go.Proofs.YtdfjiodkmhpfkaaDoor
set_option linter.unusedVariables false
namespace Am
variable {gs : List Nat} [OkG gs]
open Go.RowKit
set_option maxRecDepth 100000

/-! ### keys' numbers -/
def hexL : List UInt8 := [48, 49, 50, 51, 52, 53, 54, 55, 56, 57, 97, 98, 99, 100, 101, 102]
def hexOk (l : List UInt8) : Bool := decide (l.length = 32) && l.all fun c => decide (0 ≤ Lib.indexByte hexL c)
theorem hex_bad {l : List UInt8} {i : Nat} (hi : i < l.length) (h : Lib.indexByte hexL (l.getD i 0) < 0) : hexOk l = false := by
  cases e : hexOk l with
  | false => rfl
  | true =>
    simp only [hexOk, Bool.and_eq_true, List.all_eq_true, decide_eq_true_eq] at e
    have := e.2 (l.getD i 0) (by simp [List.getD, hi])
    omega
theorem hexB_bd (c : UInt8) : Lib.indexByte hexL c < 16 := by
  unfold Lib.indexByte hexL
  simp only [Lib.indexByte]
  repeat (first | omega | split)
def shl4 (c : UInt8) : Int := IntKind.u8.wrap (((c.toNat : Nat) : Int) * 2 ^ (4 : Int).toNat)
def orB (a b : Int) : Int := IntKind.u8.wrap (BitVec.ofInt (IntKind.bits .u8) a ||| BitVec.ofInt (IntKind.bits .u8) b).toNat
def mixB (c : UInt8) (n : Int) : UInt8 := UInt8.ofNat (orB (shl4 c) n).toNat
theorem mixB_int (c : UInt8) (n : Int) : orB (shl4 c) n = ((mixB c n).toNat : Nat) := by
  have h : 0 ≤ orB (shl4 c) n ∧ orB (shl4 c) n < 256 := by unfold orB; rw [IntKind.wrap_u8]; omega
  unfold mixB
  rw [UInt8.toNat_ofNat']
  omega
theorem zero_cell (j : Nat) : (Value.int .u8 0).cells[j % (Value.int .u8 0).cells.size]! = .int .u8 0 := by
  have : j % (Value.int .u8 0).cells.size = 0 := Nat.mod_one j
  rw [this]; rfl
theorem zero16 (j : Nat) : CEnt (.c (.int .u8 0)) (byF (List.replicate 16 0) j) := CEnt.of_eq (by
  have : (List.replicate 16 (0 : UInt8)).getD j 0 = 0 := by rw [List.getD_eq_getElem?_getD, List.getElem?_replicate]; split <;> rfl
  unfold byF
  rw [this]; rfl)
theorem upd_byte {X : List UInt8} {o : Nat} {c : UInt8} {z : Int} (hz : z = (c.toNat : Nat)) (ho : o < X.length) (j : Nat) : CEnt (updF (byF X) o (List.map CV.c (Value.int .u8 z).cells.toList) j) (byF (X.set o c) j) := by
  rw [updF_get, show (List.map CV.c (Value.int .u8 z).cells.toList).length = 1 from rfl]
  by_cases e : j = o
  · subst e
    rw [if_pos (by omega), Nat.sub_self]
    have : (X.set j c).getD j 0 = c := by simp [List.getD, ho]
    unfold byF
    rw [this, ← hz]
    exact CEnt.refl _
  · rw [if_neg (by omega)]
    refine CEnt.of_eq ?_
    unfold byF
    simp [List.getD, List.getElem?_set, Ne.symm e]
end Am
end Go.Proofs.YtdfjiodkmhpfkaaDoor

/- Chapter 38, plain: numbers and bytes as words. -/
namespace Go.Proofs.YtdfjiodkmhpfkaaDoor
set_option linter.unusedVariables false
namespace Am
set_option maxRecDepth 100000

def hx (n : Nat) : UInt8 := if n < 10 then UInt8.ofNat (48 + n) else UInt8.ofNat (87 + n)
def hv (c : UInt8) : Nat := (Lib.indexByte hexL c).toNat
def isHx (c : UInt8) : Bool := decide (0 ≤ Lib.indexByte hexL c)
theorem hx_all : ∀ n : Fin 16, (isHx (hx n.val) = true ∧ hv (hx n.val) = n.val) := by decide +kernel
theorem hx_hv {n : Nat} (h : n < 16) : isHx (hx n) = true ∧ hv (hx n) = n := hx_all ⟨n, h⟩
theorem hv_all : ∀ n : Fin 256, isHx (UInt8.ofNat n.val) = true → hv (UInt8.ofNat n.val) < 16 ∧ hx (hv (UInt8.ofNat n.val)) = UInt8.ofNat n.val := by decide +kernel
theorem hv_hx {c : UInt8} (h : isHx c = true) : hv c < 16 ∧ hx (hv c) = c := by
  have h2 := hv_all ⟨c.toNat, c.toNat_lt⟩
  have e : UInt8.ofNat (⟨c.toNat, c.toNat_lt⟩ : Fin 256).val = c := UInt8.ofNat_toNat
  rw [e] at h2
  exact h2 h
/-- a byte's two figures -/
def hx2 (c : UInt8) : List UInt8 := [hx (c.toNat / 16), hx (c.toNat % 16)]
def flatX (b : List UInt8) : List UInt8 := (b.map hx2).flatten
def hexE (b : List UInt8) : List UInt8 := if b = [] then [46] else flatX b
theorem flatX_len (b : List UInt8) : (flatX b).length = 2 * b.length := by
  induction b with
  | nil => rfl
  | cons c b ih => show (hx2 c ++ flatX b).length = _; rw [List.length_append, ih]; simp [hx2]; omega
theorem flatX_snoc (b : List UInt8) (c : UInt8) : flatX (b ++ [c]) = flatX b ++ [hx (c.toNat / 16), hx (c.toNat % 16)] := by
  simp [flatX, hx2]
theorem flatX_hex (b : List UInt8) : (flatX b).all isHx = true := by
  induction b with
  | nil => rfl
  | cons c b ih =>
    show (hx2 c ++ flatX b).all isHx = true
    have := c.toNat_lt
    rw [List.all_append, ih, Bool.and_true]
    simp only [hx2, List.all_cons, List.all_nil, (hx_hv (show c.toNat / 16 < 16 by omega)).1, (hx_hv (show c.toNat % 16 < 16 by omega)).1, Bool.and_true]
def bx (a b : UInt8) : UInt8 := UInt8.ofNat (16 * hv a + hv b)
def hexB : List UInt8 → List UInt8
  | a :: b :: r => bx a b :: hexB r
  | _ => []
theorem hexB_len : ∀ s : List UInt8, (hexB s).length = s.length / 2
  | [] => rfl
  | [_] => by simp [hexB]
  | a :: b :: r => by
    show (hexB r).length + 1 = _
    rw [hexB_len r]
    simp only [List.length_cons]
    omega
theorem hexB_get : ∀ (s : List UInt8) (j : Nat), j < s.length / 2 → (hexB s).getD j 0 = bx (s.getD (2 * j) 0) (s.getD (2 * j + 1) 0)
  | [], j, h => absurd h (Nat.not_lt_zero j)
  | [_], j, h => by simp at h
  | a :: b :: r, 0, h => rfl
  | a :: b :: r, j + 1, h => by
    show (hexB r).getD j 0 = _
    rw [hexB_get r j (by simp only [List.length_cons] at h; omega)]
    have e1 : 2 * (j + 1) = 2 * j + 1 + 1 := by omega
    rw [e1]
    rfl
theorem hexB_flat : ∀ b : List UInt8, hexB (flatX b) = b
  | [] => rfl
  | c :: b => by
    show bx (hx (c.toNat / 16)) (hx (c.toNat % 16)) :: hexB (flatX b) = _
    have := c.toNat_lt
    rw [hexB_flat b]
    unfold bx
    rw [(hx_hv (show c.toNat / 16 < 16 by omega)).2, (hx_hv (show c.toNat % 16 < 16 by omega)).2, show 16 * (c.toNat / 16) + c.toNat % 16 = c.toNat by omega, UInt8.ofNat_toNat]
theorem flat_hexB : ∀ s : List UInt8, s.length % 2 = 0 → s.all isHx = true → flatX (hexB s) = s
  | [], _, _ => rfl
  | [_], h, _ => by simp at h
  | a :: b :: r, h, h2 => by
    simp only [List.all_cons, Bool.and_eq_true] at h2
    obtain ⟨ha, hb, hr⟩ := h2
    obtain ⟨a1, a2⟩ := hv_hx ha
    obtain ⟨b1, b2⟩ := hv_hx hb
    show hx2 (bx a b) ++ flatX (hexB r) = _
    rw [flat_hexB r (by simp only [List.length_cons] at h; omega) hr]
    unfold hx2 bx
    rw [UInt8.toNat_ofNat', show (16 * hv a + hv b) % 2 ^ 8 / 16 = hv a by omega, show (16 * hv a + hv b) % 2 ^ 8 % 16 = hv b by omega, a2, b2]
    rfl
def hexD (s : List UInt8) : List UInt8 × Nat :=
  if s = [46] then ([], 0) else if s.length = 0 ∨ s.length % 2 = 1 ∨ s.all isHx = false then ([], 4) else if 16384 < s.length then ([], 3) else (hexB s, 0)
theorem hexD_E {b : List UInt8} (h : b.length ≤ 8192) : hexD (hexE b) = (b, 0) := by
  unfold hexE
  by_cases hb : b = []
  · rw [if_pos hb, hb]; rfl
  · rw [if_neg hb]
    have hl := flatX_len b
    have hp : 0 < b.length := List.length_pos_iff.2 hb
    unfold hexD
    rw [if_neg (fun e => by rw [e] at hl; simp at hl; omega), if_neg (by rw [flatX_hex]; rintro (h | h | h) <;> first | omega | cases h), if_neg (by omega), hexB_flat]
theorem hexE_D {s x : List UInt8} (h : hexD s = (x, 0)) : hexE x = s ∧ x.length ≤ 8192 := by
  unfold hexD at h
  by_cases h1 : s = [46]
  · rw [if_pos h1] at h; injection h with h _; subst h; exact ⟨h1.symm, by simp⟩
  · rw [if_neg h1] at h
    by_cases h2 : s.length = 0 ∨ s.length % 2 = 1 ∨ s.all isHx = false
    · rw [if_pos h2] at h; injection h with _ h; cases h
    · rw [if_neg h2] at h
      by_cases h3 : 16384 < s.length
      · rw [if_pos h3] at h; injection h with _ h; cases h
      · rw [if_neg h3] at h
        injection h with h _
        have hl := hexB_len s
        have hh : s.all isHx = true := by cases e : s.all isHx with | true => rfl | false => exact absurd (.inr (.inr e)) h2
        have hlen : s.length ≠ 0 ∧ s.length % 2 ≠ 1 := ⟨fun e => h2 (.inl e), fun e => h2 (.inr (.inl e))⟩
        subst h
        unfold hexE
        rw [if_neg (fun e => by rw [e] at hl; simp at hl; omega)]
        exact ⟨flat_hexB s (by omega) hh, by omega⟩
/-! ### numbers -/
def numE (n : Int) : List UInt8 := if 0 ≤ n then dec n.toNat else 45 :: dec (-n).toNat
def numD (s : List UInt8) : Int × Nat :=
  if s.getD 0 0 = 45 then (if (figM (s.drop 1)).2 ≠ 0 ∨ (figM (s.drop 1)).1 = 0 then (0, 4) else (-((figM (s.drop 1)).1 : Int), 0)) else (((figM s).1 : Int), (figM s).2)
theorem fig_head {l : List UInt8} (h : l.all isFig = true) : l.getD 0 0 ≠ 45 := by
  cases l with
  | nil => decide
  | cons c l =>
    intro e
    have e2 : c = 45 := e
    subst e2
    simp [isFig] at h
theorem numD_E {n : Int} (h1 : -1000000000000000000 < n) (h2 : n < 1000000000000000000) : numD (numE n) = (n, 0) := by
  unfold numE
  by_cases hn : 0 ≤ n
  · rw [if_pos hn]
    unfold numD
    rw [if_neg (fig_head (dec_figs _)), figM_dec (by omega)]
    simp only [Prod.mk.injEq, and_true]
    omega
  · rw [if_neg hn]
    unfold numD
    rw [if_pos (show (45 :: dec (-n).toNat).getD 0 0 = 45 from rfl), show (45 :: dec (-n).toNat).drop 1 = dec (-n).toNat from rfl, figM_dec (by omega), if_neg (by rintro (h | h) <;> simp at h <;> omega)]
    simp only [Prod.mk.injEq, and_true]
    omega
theorem numE_D {s : List UInt8} {n : Int} (h : numD s = (n, 0)) : numE n = s ∧ -1000000000000000000 < n ∧ n < 1000000000000000000 := by
  have hbd : ∀ l : List UInt8, (figM l).2 = 0 → (figM l).1 < 1000000000000000000 := fun l hl => by
    have e := figM_ref l
    by_cases c : 1 ≤ l.length ∧ l.length ≤ 18 ∧ l.all isFig = true ∧ dec (valD l) = l
    · rw [if_pos c] at e; rw [e]; exact valD_lt18 c.2.2.1 c.2.1
    · rw [if_neg c] at e; rw [e] at hl; cases hl
  unfold numD at h
  by_cases h0 : s.getD 0 0 = 45
  · rw [if_pos h0] at h
    by_cases hb : (figM (s.drop 1)).2 ≠ 0 ∨ (figM (s.drop 1)).1 = 0
    · rw [if_pos hb] at h; injection h with _ h; cases h
    · rw [if_neg hb] at h
      injection h with h _
      have e2 : (figM (s.drop 1)).2 = 0 := Classical.byContradiction fun e => hb (.inl e)
      have e3 : (figM (s.drop 1)).1 ≠ 0 := fun e => hb (.inr e)
      have := hbd _ e2
      refine ⟨?_, by omega, by omega⟩
      unfold numE
      rw [if_neg (by omega), show (-n).toNat = (figM (s.drop 1)).1 by omega, figM_back e2]
      cases s with
      | nil => exact absurd h0 (by decide)
      | cons c s => rw [show (c :: s).getD 0 0 = c from rfl] at h0; rw [h0]; rfl
  · rw [if_neg h0] at h
    injection h with h e2
    have := hbd _ e2
    refine ⟨?_, by omega, by omega⟩
    unfold numE
    rw [if_pos (by omega), show n.toNat = (figM s).1 by omega, figM_back e2]
theorem numE_inj {a b : Int} (h : numE a = numE b) : a = b := by
  unfold numE at h
  by_cases ha : 0 ≤ a
  · rw [if_pos ha] at h
    by_cases hb : 0 ≤ b
    · rw [if_pos hb] at h
      have := congrArg valD h
      rw [dec_val, dec_val] at this; omega
    · rw [if_neg hb] at h
      exact absurd (by rw [h]; rfl) (fig_head (dec_figs a.toNat))
  · rw [if_neg ha] at h
    by_cases hb : 0 ≤ b
    · rw [if_pos hb] at h
      exact absurd (by rw [← h]; rfl) (fig_head (dec_figs b.toNat))
    · rw [if_neg hb] at h
      injection h with _ h
      have := congrArg valD h
      rw [dec_val, dec_val] at this; omega
theorem numD_back {n m : Int} (h : numD (numE n) = (m, 0)) : m = n := numE_inj (numE_D h).1
end Am
end Go.Proofs.YtdfjiodkmhpfkaaDoor
