
/- The abstract walk, seventh part: slices of slices and texts, lengths, function values, texts and bytes, make, more lemmas on what entails what. -/
import Derived.Test.YtoliiompofonlaaDoorAm6
namespace Go.Proofs.YtoliiompofonlaaDoor
set_option linter.unusedVariables false
open Go.RowKit
namespace Am
section
variable {P : Program} {G : Gh} {ops : Array Oper} {o : Oper} {s : AS} {K : AS → Prop} {t u : TypeId} {x y : Operand} {k : IntKind}

/-! ### lengths -/
theorem exec_len {ats : Array TypeId} (ho : o.op = .call ⟨.builtin .len, #[x], ats⟩) {a : Act} {v : Value} {w : World} (h : (Builtin.len_ ats o.type #[a.eval x]).run P w = .ok v w) : (execOp a.eval o).run P w = .ok (.value v) w := by
  simp [execOp, ho, resolve, invoke, builtin, h]
theorem rd_lenR {e : TypeId} {m n : Nat} {f : Nat → Nat → CV} (ho : o.op = .call ⟨.builtin .len, #[x], #[t]⟩) (hx : s.eval x = .rs m n f) (h1 : P.underlying t = some (.slice e)) : ARd P G o s (.c (.int .i64 (n : Nat))) := fun St a w h => by
  obtain ⟨ao, cap, e0, _⟩ := evR h hx
  exact ⟨_, fun W _ => exec_len ho (v := .int .i64 (n : Nat)) (by rw [e0]; simp [Builtin.len_, underlying, h1, goInt]), rfl⟩
theorem rd_lenO {e : TypeId} {i off m n : Nat} {g : Option Nat} (ho : o.op = .call ⟨.builtin .len, #[x], #[t]⟩) (hx : s.eval x = .os i g off n m) (h1 : P.underlying t = some (.slice e)) : ARd P G o s (.c (.int .i64 (n : Nat))) := fun St a w h => by
  obtain ⟨ao, cap, e0⟩ : ∃ ao cap, a.eval x = .slice ao n cap := by
    have he := evR h hx
    cases g with
    | none => exact ⟨none, 0, by rw [he.2, he.1]⟩
    | some b => obtain ⟨cap, e0, _⟩ := he; exact ⟨_, cap, e0⟩
  exact ⟨_, fun W _ => exec_len ho (v := .int .i64 (n : Nat)) (by rw [e0]; simp [Builtin.len_, underlying, h1, goInt]), rfl⟩
theorem rd_lenS {l : ByteArray} (ho : o.op = .call ⟨.builtin .len, #[x], #[t]⟩) (hx : s.eval x = .c (.string l)) (h1 : P.underlying t = some .string) : ARd P G o s (.c (.int .i64 (l.size : Nat))) := fun St a w h =>
  ⟨_, fun W _ => exec_len ho (v := .int .i64 (l.size : Nat)) (by rw [evC h hx]; simp [Builtin.len_, underlying, h1, goInt]), rfl⟩
theorem rd_lenN {e : TypeId} (ho : o.op = .call ⟨.builtin .len, #[x], #[t]⟩) (hx : s.eval x = .c (.slice none 0 0)) (h1 : P.underlying t = some (.slice e)) : ARd P G o s (.c (.int .i64 0)) := fun St a w h =>
  ⟨_, fun W _ => exec_len ho (v := .int .i64 0) (by rw [evC h hx]; simp [Builtin.len_, underlying, h1, goInt]), rfl⟩

theorem rd_max2 {p q : Int} {ats : Array TypeId} (ho : o.op = .call ⟨.builtin .max, #[x, y], ats⟩) (hx : s.eval x = .c (.int k p)) (hy : s.eval y = .c (.int k q)) : ARd P G o s (.c (.int k (max p q))) := fun St a w h =>
  ⟨_, fun W _ => by
    have e : max p q = if q > p then q else p := by split <;> omega
    simp [execOp, ho, resolve, invoke, builtin, evC h hx, evC h hy, Builtin.max_, Builtin.max2]
    rw [e], rfl⟩
theorem rd_min2 {p q : Int} {ats : Array TypeId} (ho : o.op = .call ⟨.builtin .min, #[x, y], ats⟩) (hx : s.eval x = .c (.int k p)) (hy : s.eval y = .c (.int k q)) : ARd P G o s (.c (.int k (min p q))) := fun St a w h =>
  ⟨_, fun W _ => by
    have e : min p q = if q < p then q else p := by split <;> omega
    simp [execOp, ho, resolve, invoke, builtin, evC h hx, evC h hy, Builtin.min_, Builtin.min2]
    rw [e], rfl⟩

/-! ### slices of slices and texts -/
/-- the bound of a slice expression: none, or a number -/
def Bd (s : AS) (d : Nat) : Option Operand → Nat → Prop
  | none, n => n = d
  | some x, n => ∃ (k : IntKind) (z : Int), s.eval x = .c (.int k z) ∧ z = (n : Int)
theorem bd_none (s : AS) (d : Nat) : Bd s d none d := rfl
theorem bd_some {d n : Nat} {z : Int} (hx : s.eval x = .c (.int k z)) (hz : z = (n : Int)) : Bd s d (some x) n := ⟨k, z, hx, hz⟩

theorem run_bounds {St : Nat → Prop} {a : Act} {w : World} (h : RelSt G St s a w) {lo hi : Option Operand} {l u n cap : Nat} (h1 : Bd s 0 lo l) (h2 : Bd s n hi u) (hlu : l ≤ u) (hu : u ≤ n) (hn : n ≤ cap) (is : Bool) (W : World) :
    (Instr.sliceBounds is n cap (lo.map a.eval) (hi.map a.eval) none).run P W = .ok (l, u, cap) W := by
  have hb : ∀ (x : Operand) (k : IntKind) (z : Int) (m y : Nat) (code : BoundsCode), s.eval x = .c (.int k z) → z = (m : Int) → m ≤ y → (Instr.sliceBound (a.eval x) y code).run P W = .ok m W := fun x k z m y code hx hz hm => by
    rw [evC h hx, hz]
    simp [Instr.sliceBound, asIntOf, hm]
  cases lo with
  | none =>
    have h1 : l = 0 := h1
    subst h1
    cases hi with
    | none => have h2 : u = n := h2; subst h2; simp [Instr.sliceBounds]
    | some y => obtain ⟨k, z, hy, hz⟩ := h2; simp [Instr.sliceBounds, hb y k z u cap _ hy hz (by omega)]
  | some x =>
    obtain ⟨k1, z1, hx, hz1⟩ := h1
    cases hi with
    | none => have h2 : u = n := h2; subst h2; simp [Instr.sliceBounds, hb x k1 z1 l u _ hx hz1 hlu]
    | some y => obtain ⟨k, z, hy, hz⟩ := h2; simp [Instr.sliceBounds, hb y k z u cap _ hy hz (by omega), hb x k1 z1 l u _ hx hz1 hlu]

theorem exec_slice {lo hi : Option Operand} (ho : o.op = .slice t x lo hi none) {a : Act} {v : Value} {w : World} (h : (Instr.sliceAt t (a.eval x) (lo.map a.eval) (hi.map a.eval) none).run P w = .ok v w) : (execOp a.eval o).run P w = .ok (.value v) w := by
  simp only [execOp, ho]
  exact vOk h

theorem rd_sliceR {e : TypeId} {m n l v : Nat} {f : Nat → Nat → CV} {lo hi : Option Operand} (ho : o.op = .slice t x lo hi none) (hx : s.eval x = .rs m n f) (h1 : P.underlying t = some (.slice e)) (h5 : (P.info? e).map (·.size) = some m)
    (hl : Bd s 0 lo l) (hu : Bd s n hi v) (hlv : l ≤ v) (hvn : v ≤ n) : ARd P G o s (.rs m (v - l) fun i j => f (l + i) j) := fun St a w h => by
  obtain ⟨info, hi', hs⟩ := Option.map_eq_some_iff.1 h5
  obtain ⟨ao, cap, e0, h2, h3, h4, h6⟩ := evR h hx
  refine ⟨.slice (if cap = l then ao else ao.map (·.add (l * m))) (v - l) (cap - l), fun W _ => exec_slice ho ?_, _, _, rfl, by omega, by omega, fun hn => ?_, fun ad had hn => ?_⟩
  · rw [e0]
    simp [Instr.sliceAt, Instr.slice, underlying, h1, run_bounds h hl hu hlv hvn h2, sizeOf, typeInfo, hi', hs]
  · split at hn
    · have := h4 hn; omega
    · have : ao = none := by simpa using hn
      have := h4 this; omega
  · have hne : ¬ cap = l := by omega
    rw [if_neg hne] at had
    obtain ⟨ad0, rfl, rfl⟩ := Option.map_eq_some_iff.1 had
    obtain ⟨h7, h8, h9⟩ := h6 ad0 rfl (by omega)
    obtain ⟨b, q, sp⟩ := ad0
    simp only at h7 h8 h9
    subst h7
    rw [addr_add]
    refine ⟨rfl, h8, fun i j hi2 hj => ?_⟩
    obtain ⟨vv, hv, hr⟩ := h9 (l + i) j (by omega) hj
    refine ⟨vv, ?_, hr⟩
    rw [← hv, Nat.add_mul]
    congr 2
    simp only
    omega
/-- a slice of a slice of its own: the whole of it from its beginning -/
theorem rd_sliceO {e : TypeId} {i off m n l v : Nat} {g : Option Nat} {lo hi : Option Operand} (ho : o.op = .slice t x lo hi none) (hx : s.eval x = .os i g off n m) (h1 : P.underlying t = some (.slice e)) (h5 : (P.info? e).map (·.size) = some m)
    (hl : Bd s 0 lo l) (hu : Bd s n hi v) (hlv : l ≤ v) (hvn : v ≤ n) (hln : l = 0 ∨ l < n) : ARd P G o s (.os i g (off + l * m) (v - l) m) := fun St a w h => by
  obtain ⟨info, hi', hs⟩ := Option.map_eq_some_iff.1 h5
  have he := evR h hx
  cases g with
  | none =>
    obtain ⟨h2, h3⟩ := he
    subst h2
    have hl0 : l = 0 := by omega
    have hv0 : v = 0 := by omega
    subst hl0 hv0
    refine ⟨.slice none 0 0, fun W _ => exec_slice ho ?_, rfl, rfl⟩
    rw [h3]
    simp [Instr.sliceAt, Instr.slice, underlying, h1, run_bounds h hl hu hlv hvn (Nat.le_refl _), sizeOf, typeInfo, hi', hs]
  | some b =>
    obtain ⟨cap, e0, h2, h3, cur, ty, z, h4, h6⟩ := he
    refine ⟨.slice (some ⟨b, off + l * m, none⟩) (v - l) (cap - l), fun W _ => exec_slice ho ?_, cap - l, rfl, by omega, by omega, cur, ty, z, h4, ?_⟩
    · rw [e0]
      have e1 : (if cap = l then some (⟨b, off, none⟩ : Addr) else some (Addr.add ⟨b, off, none⟩ (l * m))) = some ⟨b, off + l * m, none⟩ := by
        split
        · have : l = 0 := by omega
          subst this
          simp
        · rw [addr_add]
      simp [Instr.sliceAt, Instr.slice, underlying, h1, run_bounds h hl hu hlv hvn h2, sizeOf, typeInfo, hi', hs]
      exact e1
    · have : l * m + (cap - l) * m = cap * m := by rw [← Nat.add_mul]; congr 1; omega
      omega
/-- a slice of an array of its own -/
theorem rd_sliceA {e : TypeId} {i off m n l v : Nat} {g : Option Nat} {lo hi : Option Operand} {N : Nat} {f : Nat → CV} (ho : o.op = .slice t x lo hi none) (hx : s.eval x = .op i g off) (hH : Holds s i g N f) (hN : off + n * m ≤ N) (h1 : P.underlying t = some (.array n e)) (h5 : (P.info? e).map (·.size) = some m)
    (hl : Bd s 0 lo l) (hu : Bd s n hi v) (hlv : l ≤ v) (hvn : v ≤ n) (hln : l < n) (hb : Nat.ble n 9223372036854775807 = true) : ARd P G o s (.os i g (off + l * m) (v - l) m) := fun St a w h => by
  obtain ⟨info, hi', hs⟩ := Option.map_eq_some_iff.1 h5
  obtain ⟨b, rfl, e0⟩ := evR h hx
  have hb := Nat.le_of_ble_eq_true hb
  obtain ⟨_, cur, ty, z, hh, hle, _⟩ := holdCells h hH
  refine ⟨.slice (some ⟨b, off + l * m, none⟩) (v - l) (n - l), fun W _ => exec_slice ho ?_, n - l, rfl, by omega, by omega, cur, ty, z, hh, ?_⟩
  · rw [e0]
    simp [Instr.sliceAt, underlying, h1, Instr.sureAddr, run_bounds h hl hu hlv hvn (Nat.le_refl _), sizeOf, typeInfo, hi', hs, addr_add, show ¬ n = l by omega]
  · have : l * m + (n - l) * m = n * m := by rw [← Nat.add_mul]; congr 1; omega
    omega
theorem rd_sliceS {b : ByteArray} {l v : Nat} {lo hi : Option Operand} (ho : o.op = .slice t x lo hi none) (hx : s.eval x = .c (.string b)) (h1 : P.underlying t = some .string)
    (hl : Bd s 0 lo l) (hu : Bd s b.size hi v) (hlv : l ≤ v) (hvn : v ≤ b.size) : ARd P G o s (.c (.string (b.extract l v))) := fun St a w h =>
  ⟨_, fun W _ => exec_slice ho (by rw [evC h hx]; simp [Instr.sliceAt, Instr.slice, underlying, h1, run_bounds h hl hu hlv hvn (Nat.le_refl _)]), rfl⟩

/-- bytes: a piece of a list -/
theorem bs_piece (l : List UInt8) (p q : Nat) (hpq : p ≤ q) (hq : q ≤ l.length) : CEnt (.rs 1 (q - p) fun i _ => byF l (p + i)) (bsC ((l.take q).drop p)) := by
  refine CEnt.rs (by simp; omega) fun i j hi hj => CEnt.of_eq ?_
  simp [byF, List.getD, List.getElem?_take, show p + i < q by omega]
theorem bs_from (l : List UInt8) (p : Nat) (hp : p ≤ l.length) : CEnt (.rs 1 (l.length - p) fun i _ => byF l (p + i)) (bsC (l.drop p)) := by
  refine CEnt.rs (by simp) fun i j hi hj => CEnt.of_eq ?_
  simp [byF, List.getD]
theorem bs_to (l : List UInt8) (q : Nat) (hq : q ≤ l.length) : CEnt (.rs 1 (q - 0) fun i _ => byF l (0 + i)) (bsC (l.take q)) := by
  have := bs_piece l 0 q (by omega) hq
  simpa using this

/-! ### function values, interfaces -/
theorem rd_makeFunc {g : FuncId} {cs : Array Operand} {n : Nat} (ho : o.op = .makeFunc (.func g) #[] cs) (hn : cs.size = n) : ARd P G o s (.fn g n (fl (cs.toList.map s.eval))) := fun St a w h =>
  ⟨.func (.func g) #[] (cs.map a.eval), fun W _ => by simp only [execOp, ho]; exact vOk (by simp [Instr.makeFunc]), _, rfl, by simp [hn], fun i hi => by
    rw [fl_get]
    simp [List.getD, show i < cs.size by omega]
    exact h.eval _⟩
theorem rd_makeIface {d : TypeDesc} {v : Value} (ho : o.op = .makeInterface t x) (hx : s.eval x = .c v) (h1 : P.underlying t = some d) (h2 : ∀ ms, d ≠ .interface ms) : ARd P G o s (.c (.iface t v)) := fun St a w h =>
  ⟨_, fun W _ => by
    simp only [execOp, ho, evC h hx]
    refine vOk ?_
    cases d <;> first | (simp [Instr.makeInterface, underlying, h1]; done) | exact absurd rfl (h2 _), rfl⟩

/-! ### texts to bytes -/
theorem RelSt.freshRS {St : Nat → Prop} {a : Act} {w w' : World} (h : RelSt G St s a w) (hb : Below w.heap.size w w') {g : Nat} (hg : w.heap.size ≤ g) (hlt : g < w'.heap.size) : RelSt G (fun b => St b ∨ b = g) s a w' := by
  have h1 := h.ext hb
  have he : Evo St w' w' := ⟨fun _ _ _ _ _ h => h, fun b cur t z h => ⟨cur, z, h, rfl⟩⟩
  have hs : ∀ b, St b → St b ∨ b = g := fun _ h => .inl h
  obtain ⟨fp0, hp0⟩ := h.hp
  refine ⟨h1.df.grow hs, h1.sz, fun d => RepC.evo he hs _ _ (h1.env d), h1.un, fun b hb => .inl (h1.s1 b hb), fun b hb => ?_, fun b hb => ?_, ?_, h1.sn, fun g hg => .inl (h1.sg.1 g hg), fun x hx => .inl (h1.sg.2 x hx)⟩
  · rcases hb with hb | rfl
    · exact h1.s2 b hb
    · exact .inr (.inl (Nat.le_trans h.un.size hg))
  · rcases hb with hb | rfl
    · exact h1.s3 b hb
    · exact hlt
  · have he2 := Evo.of_below hb h.s3
    refine ⟨fp0, fun i q r hi => Res.rep_evo he2 hs (fun b hF => hb.block b (hp0.own i b hF).1) (hp0.rep i q r hi), hp0.dis, fun i b hF => ?_, hp0.out⟩
    obtain ⟨h2, h3, h4⟩ := hp0.own i b hF
    exact ⟨Nat.lt_of_lt_of_le h2 hb.size, fun h => h.elim h3 (fun e => by omega), h4⟩

theorem ex_convSB {e : TypeId} {l : ByteArray} (ho : o.op = .convert t u x) (hx : s.eval x = .c (.string l)) (h1 : P.underlying t = some .string) (h2 : P.underlying u = some (.slice e)) (h3 : P.underlying e = some (.int .u8)) (hl : l.size ≤ 9223372036854775807) (hd : dstOk G o = true)
    (hK : K (s.with o.dst (bsC l.data.toList) s.H)) : AEx P G o s K := fun St a w hr Q => by
  have hlen : l.data.size = l.size := rfl
  let cap := grownCap w l.size 0 e
  have hgc : l.size ≤ cap ∧ cap ≤ 9223372036854775807 := by
    have hlt := Nat.mod_lt (w.tape w.drawn (.appendCap l.size 0 e)) (show 0 < 2 ^ 63 - l.size by omega)
    simp only [cap, grownCap, Question.cut]
    omega
  let cs : Array Value := (l.data.map fun b => .int .u8 (b.toNat : Nat)) ++ Array.replicate (cap - l.size) (.int .u8 0)
  have hcs : cs.size = cap := by simp [cs, hlen]; omega
  let w1 := w.drew.alloc (.cells cs e)
  have hw1 : w1.heap[w.heap.size]? = some (.cells cs e (0, 0)) := heap_alloc_new w.drew _
  let w2 := w1.freeze { block := w.heap.size, off := cs.size } 1
  have hb1 : Below w.heap.size w w1 := below_drewAlloc w _
  have hw2 : w2.heap[w.heap.size]? = some (.cells cs e (cs.size, cs.size + 1)) := by
    simp only [w2, World.freeze]
    rw [if_neg (by decide)]
    simp only [Array.getElem?_modify, hw1, if_true, Option.map_some]
    simp
  have hb2 : Below w.heap.size w w2 := by
    refine ⟨?_, ?_, ?_, ?_, fun k hk => ?_⟩
    · simp only [w2, World.freeze]; rw [if_neg (by decide)]; exact hb1.os
    · simp only [w2, World.freeze]; rw [if_neg (by decide)]; exact hb1.tape
    · simp only [w2, World.freeze]; rw [if_neg (by decide)]; exact hb1.output
    · simp only [w2, World.freeze]; rw [if_neg (by decide)]; simp; exact hb1.size
    · simp only [w2, World.freeze]
      rw [if_neg (by decide)]
      simp only [Array.getElem?_modify]
      rw [if_neg (by omega)]
      exact hb1.block k hk
  have hrun : (execOp a.eval o).run P w = .ok (.value (.slice (some ⟨w.heap.size, 0, none⟩) l.size cap)) w2 := by
    simp only [execOp, ho, evC hr hx]
    refine vOk ?_
    have hch : (choose (.appendCap l.size 0 e)).run P w = .ok cap w.drew := by simp [Question.forced, grownCap, cap]
    have hsh : w1.shape? w.heap.size = some (e, cs.size) := by simp [World.shape?, hw1]
    simp only [convert, underlying, Sem.run_bind, run_program, Result.andThen_ok, h1, h2, h3, Sem.run_pure, Conv.stringToBytes, hch, newRow, run_newObj, World.size_drew, World.alloc_eq]
    simp only [markStringish, Sem.run_bind, run_shape]
    show ((Result.ok (w1.shape? w.heap.size) w1).andThen _).andThen _ = _
    rw [hsh]
    rfl
  unfold Oper.wp
  rw [hrun]
  refine ⟨hb2, fun b => St b ∨ b = w.heap.size, fun _ h => .inl h, _, hK, ?_⟩
  have h4 := (hr.freshRS hb2 (Nat.le_refl _) (Array.getElem?_eq_some_iff.1 hw2).1).put (dst := o.dst) (v := bsC l.data.toList) (x := .slice (some ⟨w.heap.size, 0, none⟩) l.size cap) (dst_of hd) ⟨_, cap, by simp; rfl, by simp [hlen]; exact hgc.1, hgc.2, (fun h => by cases h), fun ad had _ => by
    have := Option.some.inj had
    subst this
    refine ⟨rfl, .inr rfl, fun i j hi hj => ?_⟩
    have hi : i < l.data.size := by simpa using hi
    refine ⟨.int .u8 (l.data[i].toNat : Nat), ?_, ?_⟩
    · show w2.cell? ⟨w.heap.size, 0 + (i * 1 + j), none⟩ = _
      rw [cell_of_row w2 w.heap.size _ cs e _ hw2, show 0 + (i * 1 + j) = i by omega]
      have e9 : l.data[i]? = some l.data[i] := Array.getElem?_eq_getElem hi
      have hi2 : i < l.size := hi
      simp [cs, Array.getElem?_append, hi2, e9]
    · have e9 : l.data[i]? = some l.data[i] := Array.getElem?_eq_getElem hi
      simp [byF, List.getD, e9]
      rfl⟩
  cases ho : o.dst with
  | none => rw [ho] at h4; exact h4
  | some d => rw [ho] at h4; exact h4
end
end Am
end Go.Proofs.YtoliiompofonlaaDoor
