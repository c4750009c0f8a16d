
/- The abstract walk, third part: operations that only read. -/
import Derived.Test.YtoliiompofonlaaDoorAm2
namespace Go.Proofs.YtoliiompofonlaaDoor
set_option linter.unusedVariables false
open Go.RowKit
namespace Am
section
variable {P : Program} {G : Gh} {ops : Array Oper} {o : Oper} {s : AS}

theorem evC {St : Nat → Prop} {a : Act} {w : World} (h : RelSt G St s a w) {x : Operand} {v : Value} (hx : s.eval x = .c v) : a.eval x = v := by
  have := h.eval x
  rw [hx] at this
  exact this
theorem evR {St : Nat → Prop} {a : Act} {w : World} (h : RelSt G St s a w) {x : Operand} {c : CV} (hx : s.eval x = c) : RepC G.al St w c (a.eval x) := hx ▸ h.eval x
theorem vOk {x : Sem Value} {v : Value} {W W' : World} (h : x.run P W = .ok v W') : (do pure (Next.value (← x)) : Sem Next).run P W = .ok (.value v) W' := by
  simp [h]

theorem rd_move {x : Operand} {v : CV} (ho : o.op = .move x) (hv : s.eval x = v) : ARd P G o s v := fun _ a _ h => ⟨a.eval x, fun W _ => BigFrame.run_move x ho W, evR h hv⟩
theorem rd_assign {x : Operand} {v : CV} (ho : o.op = .assign x) (hv : s.eval x = v) : ARd P G o s v := fun _ a _ h => ⟨a.eval x, fun W _ => BigFrame.run_assign x ho W, evR h hv⟩

/-! ### operators -/
def binS (op : BinOp) (t : TypeId) (x y : Operand) (p q : Value) : Sem Value := do eqGuard op t x y p q; binOp op t p q
theorem rd_bin {op : BinOp} {t u : TypeId} {x y : Operand} {p q v : Value} (ho : o.op = .binOp op t x y u) (hx : s.eval x = .c p) (hy : s.eval y = .c q)
    (hr : ∀ W, (binS op t x y p q).run P W = .ok v W) : ARd P G o s (.c v) := fun _ a _ h =>
  ⟨v, fun W _ => by simp only [execOp, ho, evC h hx, evC h hy]; exact vOk (hr W), rfl⟩

variable {t u : TypeId} {x y : Operand} {k : IntKind} {a b : Int}
theorem rd_add (ho : o.op = .binOp .add t x y u) (hx : s.eval x = .c (.int k a)) (hy : s.eval y = .c (.int k b)) (hr : k.wrap (a + b) = a + b) : ARd P G o s (.c (.int k (a + b))) :=
  rd_bin ho hx hy fun W => by simp [binS, eqGuard, binOp, Op.intArith, hr]
theorem rd_sub (ho : o.op = .binOp .sub t x y u) (hx : s.eval x = .c (.int k a)) (hy : s.eval y = .c (.int k b)) (hr : k.wrap (a - b) = a - b) : ARd P G o s (.c (.int k (a - b))) :=
  rd_bin ho hx hy fun W => by simp [binS, eqGuard, binOp, Op.intArith, hr]
theorem rd_mul (ho : o.op = .binOp .mul t x y u) (hx : s.eval x = .c (.int k a)) (hy : s.eval y = .c (.int k b)) (hr : k.wrap (a * b) = a * b) : ARd P G o s (.c (.int k (a * b))) :=
  rd_bin ho hx hy fun W => by simp [binS, eqGuard, binOp, Op.intArith, hr]
theorem rd_addW (ho : o.op = .binOp .add t x y u) (hx : s.eval x = .c (.int k a)) (hy : s.eval y = .c (.int k b)) (z : Int) (hr : k.wrap (a + b) = z) : ARd P G o s (.c (.int k z)) :=
  rd_bin ho hx hy fun W => by simp [binS, eqGuard, binOp, Op.intArith, hr]
theorem rd_subW (ho : o.op = .binOp .sub t x y u) (hx : s.eval x = .c (.int k a)) (hy : s.eval y = .c (.int k b)) (z : Int) (hr : k.wrap (a - b) = z) : ARd P G o s (.c (.int k z)) :=
  rd_bin ho hx hy fun W => by simp [binS, eqGuard, binOp, Op.intArith, hr]
theorem rd_mulW (ho : o.op = .binOp .mul t x y u) (hx : s.eval x = .c (.int k a)) (hy : s.eval y = .c (.int k b)) (z : Int) (hr : k.wrap (a * b) = z) : ARd P G o s (.c (.int k z)) :=
  rd_bin ho hx hy fun W => by simp [binS, eqGuard, binOp, Op.intArith, hr]
theorem rd_quo (ho : o.op = .binOp .quo t x y u) (hx : s.eval x = .c (.int k a)) (hy : s.eval y = .c (.int k b)) (h0 : 0 ≤ a) (h1 : 1 ≤ b) (hr : k.wrap (a / b) = a / b) : ARd P G o s (.c (.int k (a / b))) :=
  rd_bin ho hx hy fun W => by simp [binS, eqGuard, binOp, Op.intDiv, show ¬ b = 0 by omega, Int.tdiv_eq_ediv_of_nonneg h0, hr]
theorem rd_rem (ho : o.op = .binOp .rem t x y u) (hx : s.eval x = .c (.int k a)) (hy : s.eval y = .c (.int k b)) (h0 : 0 ≤ a) (h1 : 1 ≤ b) : ARd P G o s (.c (.int k (a % b))) :=
  rd_bin ho hx hy fun W => by simp [binS, eqGuard, binOp, Op.intDiv, show ¬ b = 0 by omega, Int.tmod_eq_emod_of_nonneg h0]
theorem rd_quoT (ho : o.op = .binOp .quo t x y u) (hx : s.eval x = .c (.int k a)) (hy : s.eval y = .c (.int k b)) (h1 : b ≠ 0) (z : Int) (hr : k.wrap (a.tdiv b) = z) : ARd P G o s (.c (.int k z)) :=
  rd_bin ho hx hy fun W => by simp [binS, eqGuard, binOp, Op.intDiv, h1, hr]
theorem rd_remT (ho : o.op = .binOp .rem t x y u) (hx : s.eval x = .c (.int k a)) (hy : s.eval y = .c (.int k b)) (h1 : b ≠ 0) : ARd P G o s (.c (.int k (a.tmod b))) :=
  rd_bin ho hx hy fun W => by simp [binS, eqGuard, binOp, Op.intDiv, h1]
theorem rd_and (ho : o.op = .binOp .and t x y u) (hx : s.eval x = .c (.int k a)) (hy : s.eval y = .c (.int k b)) (z : Int) (hr : k.wrap (BitVec.ofInt k.bits a &&& BitVec.ofInt k.bits b).toNat = z) : ARd P G o s (.c (.int k z)) :=
  rd_bin ho hx hy fun W => by simp [binS, eqGuard, binOp, Op.intBits, ← hr]
theorem rd_or (ho : o.op = .binOp .or t x y u) (hx : s.eval x = .c (.int k a)) (hy : s.eval y = .c (.int k b)) (z : Int) (hr : k.wrap (BitVec.ofInt k.bits a ||| BitVec.ofInt k.bits b).toNat = z) : ARd P G o s (.c (.int k z)) :=
  rd_bin ho hx hy fun W => by simp [binS, eqGuard, binOp, Op.intBits, ← hr]
theorem rd_xor (ho : o.op = .binOp .xor t x y u) (hx : s.eval x = .c (.int k a)) (hy : s.eval y = .c (.int k b)) (z : Int) (hr : k.wrap (BitVec.ofInt k.bits a ^^^ BitVec.ofInt k.bits b).toNat = z) : ARd P G o s (.c (.int k z)) :=
  rd_bin ho hx hy fun W => by simp [binS, eqGuard, binOp, Op.intBits, ← hr]
theorem rd_shl {k' : IntKind} (ho : o.op = .binOp .shl t x y u) (hx : s.eval x = .c (.int k a)) (hy : s.eval y = .c (.int k' b)) (h0 : 0 ≤ b) (z : Int) (hr : k.wrap (a * 2 ^ (min b.toNat k.bits)) = z) : ARd P G o s (.c (.int k z)) :=
  rd_bin ho hx hy fun W => by simp [binS, eqGuard, binOp, Op.shift, show ¬ b < 0 by omega, ← hr]
theorem rd_shr {k' : IntKind} (ho : o.op = .binOp .shr t x y u) (hx : s.eval x = .c (.int k a)) (hy : s.eval y = .c (.int k' b)) (h0 : 0 ≤ b) (z : Int) (hr : a.fdiv (2 ^ (min b.toNat k.bits)) = z) : ARd P G o s (.c (.int k z)) :=
  rd_bin ho hx hy fun W => by simp [binS, eqGuard, binOp, Op.shift, show ¬ b < 0 by omega, ← hr]

theorem beqD {α : Type} [BEq α] [LawfulBEq α] [DecidableEq α] (a b : α) : (a == b) = decide (a = b) := by
  by_cases h : a = b
  · subst h; simp
  · simp [h]
theorem eqG_int (op : BinOp) (t : TypeId) (x y : Operand) (k k' : IntKind) (a b : Int) (W : World) : (eqGuard op t x y (.int k a) (.int k' b)).run P W = .ok () W := by
  unfold eqGuard
  split <;> simp
theorem rd_eqI (ho : o.op = .binOp .eql t x y u) (hx : s.eval x = .c (.int k a)) (hy : s.eval y = .c (.int k b)) : ARd P G o s (.c (.bool (decide (a = b)))) :=
  rd_bin ho hx hy fun W => by simp [binS, eqG_int, binOp, Op.intCmp]; exact beqD ..
theorem rd_neI (ho : o.op = .binOp .neq t x y u) (hx : s.eval x = .c (.int k a)) (hy : s.eval y = .c (.int k b)) : ARd P G o s (.c (.bool (decide (a ≠ b)))) :=
  rd_bin ho hx hy fun W => by simp [binS, eqG_int, binOp, Op.intCmp, bne, beqD]
theorem rd_lt (ho : o.op = .binOp .lss t x y u) (hx : s.eval x = .c (.int k a)) (hy : s.eval y = .c (.int k b)) : ARd P G o s (.c (.bool (decide (a < b)))) :=
  rd_bin ho hx hy fun W => by simp [binS, eqG_int, binOp, Op.intCmp]
theorem rd_le (ho : o.op = .binOp .leq t x y u) (hx : s.eval x = .c (.int k a)) (hy : s.eval y = .c (.int k b)) : ARd P G o s (.c (.bool (decide (a ≤ b)))) :=
  rd_bin ho hx hy fun W => by simp [binS, eqG_int, binOp, Op.intCmp]
theorem rd_gt (ho : o.op = .binOp .gtr t x y u) (hx : s.eval x = .c (.int k a)) (hy : s.eval y = .c (.int k b)) : ARd P G o s (.c (.bool (decide (b < a)))) :=
  rd_bin ho hx hy fun W => by simp [binS, eqG_int, binOp, Op.intCmp]
theorem rd_ge (ho : o.op = .binOp .geq t x y u) (hx : s.eval x = .c (.int k a)) (hy : s.eval y = .c (.int k b)) : ARd P G o s (.c (.bool (decide (b ≤ a)))) :=
  rd_bin ho hx hy fun W => by simp [binS, eqG_int, binOp, Op.intCmp]
/-- numbers that are the same in other words -/
theorem ARd.int {z z' : Int} (h : ARd P G o s (.c (.int k z))) (e : z = z') : ARd P G o s (.c (.int k z')) := e ▸ h
theorem ARd.bool {z z' : Bool} (h : ARd P G o s (.c (.bool z))) (e : z = z') : ARd P G o s (.c (.bool z')) := e ▸ h
theorem ARd.ent {v v' : CV} (h : ARd P G o s v) (e : CEnt v v') : ARd P G o s v' := fun St a w hr => by
  obtain ⟨x, h1, h2⟩ := h St a w hr
  exact ⟨x, h1, e _ _ _ _ h2⟩

theorem eqG_bool (op : BinOp) (t : TypeId) (x y : Operand) (a b : Bool) (W : World) : (eqGuard op t x y (.bool a) (.bool b)).run P W = .ok () W := by
  unfold eqGuard
  split <;> simp
theorem rd_eqB {a b : Bool} (ho : o.op = .binOp .eql t x y u) (hx : s.eval x = .c (.bool a)) (hy : s.eval y = .c (.bool b)) (ht : P.underlying t = some .bool) : ARd P G o s (.c (.bool (a == b))) :=
  rd_bin ho hx hy fun W => by unfold binS; simp only [Sem.run_bind, eqG_bool, Result.andThen_ok]; first | exact run_eql_bool W t a b ht | exact run_neq_bool W t a b ht
theorem rd_neB {a b : Bool} (ho : o.op = .binOp .neq t x y u) (hx : s.eval x = .c (.bool a)) (hy : s.eval y = .c (.bool b)) (ht : P.underlying t = some .bool) : ARd P G o s (.c (.bool (!(a == b)))) :=
  rd_bin ho hx hy fun W => by unfold binS; simp only [Sem.run_bind, eqG_bool, Result.andThen_ok]; first | exact run_eql_bool W t a b ht | exact run_neq_bool W t a b ht

theorem eqG_str (op : BinOp) (t : TypeId) (x y : Operand) (a b : ByteArray) (W : World) : (eqGuard op t x y (.string a) (.string b)).run P W = .ok () W := by
  unfold eqGuard
  split <;> simp
theorem toList_inj {a b : ByteArray} : (a.toList = b.toList) ↔ a = b := by
  constructor
  · intro h
    rw [Go.ByteArray.toList_eq, Go.ByteArray.toList_eq] at h
    cases a; cases b
    simp at h
    rw [h]
  · rintro rfl; rfl
theorem rd_eqS {a b : ByteArray} (ho : o.op = .binOp .eql t x y u) (hx : s.eval x = .c (.string a)) (hy : s.eval y = .c (.string b)) : ARd P G o s (.c (.bool (decide (a = b)))) :=
  rd_bin ho hx hy fun W => by simp [binS, eqG_str, binOp, Op.stringOp, beqD, toList_inj]
theorem rd_neS {a b : ByteArray} (ho : o.op = .binOp .neq t x y u) (hx : s.eval x = .c (.string a)) (hy : s.eval y = .c (.string b)) : ARd P G o s (.c (.bool (decide (a ≠ b)))) :=
  rd_bin ho hx hy fun W => by simp [binS, eqG_str, binOp, Op.stringOp, beqD, toList_inj]
theorem rd_ltS {a b : ByteArray} (ho : o.op = .binOp .lss t x y u) (hx : s.eval x = .c (.string a)) (hy : s.eval y = .c (.string b)) : ARd P G o s (.c (.bool (Op.bytesLess a.toList b.toList))) :=
  rd_bin ho hx hy fun W => by simp [binS, eqG_str, binOp, Op.stringOp]
theorem rd_gtS {a b : ByteArray} (ho : o.op = .binOp .gtr t x y u) (hx : s.eval x = .c (.string a)) (hy : s.eval y = .c (.string b)) : ARd P G o s (.c (.bool (!(Op.bytesLess a.toList b.toList || a.toList == b.toList)))) :=
  rd_bin ho hx hy fun W => by simp [binS, eqG_str, binOp, Op.stringOp]
theorem rd_addS {a b : ByteArray} (ho : o.op = .binOp .add t x y u) (hx : s.eval x = .c (.string a)) (hy : s.eval y = .c (.string b)) (hl : a.size + b.size ≤ 9223372036854775807) : ARd P G o s (.c (.string (a ++ b))) :=
  rd_bin ho hx hy fun W => by
    have : ¬ ((a.size + b.size : Nat) : Int) > IntKind.i64.max := by simp [IntKind.max, IntKind.bits, IntKind.signed]; omega
    unfold binS
    simp only [Sem.run_bind, eqG_str, Result.andThen_ok, binOp, Op.stringOp, if_neg this]
    rfl

/-- an error against nil -/
theorem rd_eqE {n : Nat} (ho : o.op = .binOp .eql 32 x (.const .nilIface) u) (hx : s.eval x = .err n) : ARd Tryd.prog G o s (.c (.bool (decide (n = 0)))) := fun St a w h =>
  ⟨_, fun W _ => by
    have e : a.eval x = ev G.al n := evR h hx
    simp only [execOp, ho, e]
    refine vOk ?_
    show (do eqGuard .eql _ _ _ (ev G.al n) .nilIface; binOp .eql _ (ev G.al n) .nilIface : Sem Value).run _ W = _
    rw [eqGuard_ev_nil]
    exact run_eql_ev_nil G.al n W, rfl⟩
theorem rd_neE {n : Nat} (ho : o.op = .binOp .neq 32 x (.const .nilIface) u) (hx : s.eval x = .err n) : ARd Tryd.prog G o s (.c (.bool (decide (n ≠ 0)))) := fun St a w h =>
  ⟨_, fun W _ => by
    have e : a.eval x = ev G.al n := evR h hx
    simp only [execOp, ho, e]
    refine vOk ?_
    show (do eqGuard .neq _ _ _ (ev G.al n) .nilIface; binOp .neq _ (ev G.al n) .nilIface : Sem Value).run _ W = _
    rw [eqGuard_ev_nil]
    have := run_neq_ev_nil G.al n W
    rw [← decide_not] at this
    exact this, rfl⟩


theorem rd_not {p : Bool} (ho : o.op = .unOp .not t x) (hx : s.eval x = .c (.bool p)) : ARd P G o s (.c (.bool (!p))) := fun _ _ _ h =>
  ⟨_, fun W _ => by simp only [execOp, ho, evC h hx]; exact vOk (by simp [Op.unary]), rfl⟩
theorem rd_neg (ho : o.op = .unOp .neg t x) (hx : s.eval x = .c (.int k a)) (z : Int) (hr : k.wrap (0 - a) = z) : ARd P G o s (.c (.int k z)) := fun _ _ _ h =>
  ⟨_, fun W _ => by simp only [execOp, ho, evC h hx]; exact vOk (v := .int k z) (by rw [← hr]; simp [Op.unary, Op.intArith]), rfl⟩

/-! ### conversions -/
theorem rd_convI {k' : IntKind} {d : TypeDesc} (ho : o.op = .convert t u x) (hx : s.eval x = .c (.int k a)) (h1 : P.underlying t = some d) (h2 : P.underlying u = some (.int k')) (z : Int) (hr : k'.wrap a = z) : ARd P G o s (.c (.int k' z)) := fun _ _ _ h =>
  ⟨_, fun W _ => by simp only [execOp, ho, evC h hx]; exact vOk (v := .int k' z) (by rw [← hr]; simp [convert, underlying, h1, h2, Conv.intToInt]), rfl⟩

/-! ### typed content -/
/-- bytes -/
def byF (l : List UInt8) (i : Nat) : CV := .c (.int .u8 ((l.getD i 0).toNat : Nat))
/-- a slice that reads as the bytes l -/
def bsC (l : List UInt8) : CV := .rs 1 l.length fun i _ => byF l i

theorem bs_of_rep {al : List Addr} {St : Nat → Prop} {w : World} {l : List UInt8} {v : Value} (h : RepC al St w (bsC l) v) : Bs w v l := by
  obtain ⟨ao, cap, h1, h2, h3, h4, h5⟩ := h
  refine ⟨ao, cap, h1, h2, h3, h4, fun x hx => ⟨fun h => (h5 x hx h).1, fun i hi => ?_⟩⟩
  obtain ⟨h6, h7, h8⟩ := h5 x hx (by omega)
  obtain ⟨v, hv, hr⟩ := h8 i 0 hi (by omega)
  rw [Nat.mul_one, Nat.add_zero] at hv
  rw [hv]
  exact congrArg some hr

theorem rep_bs_keep {al : List Addr} {St : Nat → Prop} {w W : World} {l : List UInt8} {v : Value} (h : RepC al St w (bsC l) v) (hW : KeepS St w W) : RepC al St W (bsC l) v := by
  obtain ⟨ao, cap, h1, h2, h3, h4, h5⟩ := h
  refine ⟨ao, cap, h1, h2, h3, h4, fun a ha hn => ?_⟩
  obtain ⟨h6, h7, h8⟩ := h5 a ha hn
  refine ⟨h6, h7, fun i j hi hj => ?_⟩
  obtain ⟨v, hv, hr⟩ := h8 i j hi hj
  exact ⟨v, (cell_of_block (hW _ h7) _).trans hv, hr⟩
theorem rd_convBS {e : TypeId} {l : List UInt8} (ho : o.op = .convert t u x) (hx : s.eval x = bsC l) (h1 : P.underlying t = some (.slice e)) (h2 : P.underlying e = some (.int .u8)) (h3 : P.underlying u = some .string) : ARd P G o s (.c (.string ⟨l.toArray⟩)) := fun St a w h => by
  have hr := evR h hx
  refine ⟨_, fun W hW => ?_, rfl⟩
  have hb := bs_of_rep (rep_bs_keep hr hW)
  obtain ⟨ao, cap, e0, _⟩ := id hb
  simp only [execOp, ho, e0]
  rw [e0] at hb
  exact vOk (run_string_bs hb _ _ _ h1 h2 h3)

/-! ### tuples, structs -/
theorem rd_extract {n i : Nat} {f : Nat → CV} {v : CV} (ho : o.op = .extract x i) (hx : s.eval x = .tup n f) (hi : Nat.blt i n = true) (hv : f i = v) : ARd P G o s v := fun St a w h => by
  obtain ⟨cs, e, hn, hf⟩ := evR h hx
  have hlt : i < n := Nat.le_of_ble_eq_true hi
  refine ⟨cs.getD i undef, fun W _ => ?_, hv ▸ hf i hlt⟩
  simp only [execOp, ho, e]
  refine vOk ?_
  have : i < cs.size := by omega
  simp [Instr.extract, this]

def aggB (P : Program) (t : TypeId) : Bool := match P.underlying t with | some (.struct _) | some (.array _ _) => true | _ => false
theorem run_isAgg {d : TypeDesc} (h : P.underlying t = some d) (W : World) : (isAgg t).run P W = .ok (aggB P t) W := by
  unfold isAgg aggB
  simp only [Sem.run_bind, underlying, run_program, Result.andThen_ok, h]
  cases d <;> simp

theorem rd_field {fs : Array Field} {fd : Field} {d : TypeDesc} {n i : Nat} {f : Nat → CV} {v : CV} (ho : o.op = .field t x i) (hx : s.eval x = .agg n f) (h1 : P.underlying t = some (.struct fs)) (h2 : fs[i]? = some fd)
    (h3 : P.underlying fd.type = some d) (h4 : aggB P fd.type = false) (hi : Nat.blt fd.offset n = true) (hv : f fd.offset = v) : ARd P G o s v := fun St a w h => by
  obtain ⟨cs, e, hn, hf⟩ := evR h hx
  have hlt : fd.offset < n := Nat.le_of_ble_eq_true hi
  refine ⟨cs.getD fd.offset undef, fun W _ => ?_, hv ▸ hf _ hlt⟩
  simp only [execOp, ho, e]
  refine vOk ?_
  have : fd.offset < cs.size := by omega
  simp [Instr.field, underlying, h1, h2, asAgg, part, run_isAgg h3, h4, this]
theorem rd_fieldA {fs : Array Field} {fd : Field} {d : TypeDesc} {n i m : Nat} {f : Nat → CV} (ho : o.op = .field t x i) (hx : s.eval x = .agg n f) (h1 : P.underlying t = some (.struct fs)) (h2 : fs[i]? = some fd)
    (h3 : P.underlying fd.type = some d) (h4 : aggB P fd.type = true) (h5 : (P.info? fd.type).map (·.size) = some m) (hi : Nat.ble (fd.offset + m) n = true) : ARd P G o s (.agg m fun j => f (fd.offset + j)) := fun St a w h => by
  obtain ⟨info, h5i, h6⟩ := Option.map_eq_some_iff.1 h5
  obtain ⟨cs, e, hn, hf⟩ := evR h hx
  have hle : fd.offset + m ≤ n := Nat.le_of_ble_eq_true hi
  refine ⟨.agg (cs.extract fd.offset (fd.offset + m)), fun W _ => ?_, _, rfl, by simp; omega, fun j hj => ?_⟩
  · simp only [execOp, ho, e]
    refine vOk ?_
    simp [Instr.field, underlying, h1, h2, asAgg, part, run_isAgg h3, h4, sizeOf, typeInfo, h5i, h6]
  · have := hf (fd.offset + j) (by omega)
    have e2 : (cs.extract fd.offset (fd.offset + m)).getD j undef = cs.getD (fd.offset + j) undef := by
      have h7 : fd.offset + j < cs.size := by omega
      have h8 : j < (cs.extract fd.offset (fd.offset + m)).size := by simp; omega
      simp [h7, Array.getElem?_extract, show j < min (fd.offset + m) cs.size - fd.offset by omega]
    rw [e2]
    exact this

/-! ### addresses -/
theorem run_fieldPlace {fd : Field} {info : TypeInfo} {b q : Nat} (h5 : P.info? fd.type = some info) (h6 : info.size ≠ 0) (W : World) : (fieldPlace ⟨b, q, none⟩ fd).run P W = .ok ⟨b, q + fd.offset, none⟩ W := by
  simp [fieldPlace, sizeOf, typeInfo, h5, h6, Addr.add_lit]
theorem rd_faddrR {fs : Array Field} {fd : Field} {n i m : Nat} {f : Nat → CV} (ho : o.op = .fieldAddr t x i) (hx : s.eval x = .rp n f) (h1 : P.underlying t = some (.struct fs)) (h2 : fs[i]? = some fd)
    (h5 : (P.info? fd.type).map (·.size) = some m) (h6 : Nat.blt 0 m = true) : ARd P G o s (.rp (n - fd.offset) fun j => f (fd.offset + j)) := fun St a w h => by
  obtain ⟨info, h5i, h7⟩ := Option.map_eq_some_iff.1 h5
  subst h7
  clear h5
  obtain ⟨b, q, e, hb, hf⟩ := evR h hx
  refine ⟨.pointer (some ⟨b, q + fd.offset, none⟩), fun W _ => ?_, b, q + fd.offset, rfl, hb, fun j hj => ?_⟩
  · simp only [execOp, ho, e]
    refine vOk ?_
    simp [Instr.fieldAt, underlying, h1, h2, Instr.sureAddr, run_fieldPlace h5i (show info.size ≠ 0 by have := Nat.le_of_ble_eq_true h6; omega)]
  · rw [Nat.add_assoc]; exact hf _ (by omega)
theorem rd_faddrO {fs : Array Field} {fd : Field} {i j off m : Nat} {g : Option Nat} (ho : o.op = .fieldAddr t x i) (hx : s.eval x = .op j g off) (h1 : P.underlying t = some (.struct fs)) (h2 : fs[i]? = some fd)
    (h5 : (P.info? fd.type).map (·.size) = some m) (h6 : Nat.blt 0 m = true) : ARd P G o s (.op j g (off + fd.offset)) := fun St a w h => by
  obtain ⟨info, h5i, h7⟩ := Option.map_eq_some_iff.1 h5
  subst h7
  clear h5
  obtain ⟨b, rfl, e⟩ := evR h hx
  refine ⟨.pointer (some ⟨b, off + fd.offset, none⟩), fun W _ => ?_, b, rfl, rfl⟩
  simp only [execOp, ho, e]
  refine vOk ?_
  simp [Instr.fieldAt, underlying, h1, h2, Instr.sureAddr, run_fieldPlace h5i (show info.size ≠ 0 by have := Nat.le_of_ble_eq_true h6; omega)]

theorem addr_add (b q m : Nat) : Addr.add ⟨b, q, none⟩ m = ⟨b, q + m, none⟩ := Addr.add_lit b q m
theorem rd_iaddrR {e : TypeId} {n m i : Nat} {f : Nat → Nat → CV} {z : Int} (ho : o.op = .indexAddr t x y) (hx : s.eval x = .rs m n f) (hy : s.eval y = .c (.int k z)) (h1 : P.underlying t = some (.slice e))
    (h5 : (P.info? e).map (·.size) = some m) (hz : z = (i : Int)) (hi : i < n) (hm : 0 < m) : ARd P G o s (.rp m (f i)) := fun St a w h => by
  obtain ⟨info, h5i, h6⟩ := Option.map_eq_some_iff.1 h5
  obtain ⟨ao, cap, e0, h2, h3, h4, h7⟩ := evR h hx
  have ey : a.eval y = .int k z := evC h hy
  cases ao with
  | none => have := h4 rfl; omega
  | some ad =>
    obtain ⟨b, q, sp⟩ := ad
    obtain ⟨h8, h9, h10⟩ := h7 _ rfl (by omega)
    simp only at h8 h9
    subst h8
    refine ⟨.pointer (some ⟨b, q + i * m, none⟩), fun W _ => ?_, b, q + i * m, rfl, h9, fun j hj => ?_⟩
    · simp only [execOp, ho, e0, ey]
      refine vOk ?_
      subst hz
      simp [Instr.indexAt, asIntOf, underlying, h1, sizeOf, typeInfo, h5i, h6, hi, addr_add]
    · obtain ⟨v, hv, hr⟩ := h10 i j hi hj
      exact ⟨v, by rw [Nat.add_assoc]; exact hv, hr⟩
theorem rd_iaddrO {e : TypeId} {j off n m i : Nat} {g : Option Nat} {z : Int} (ho : o.op = .indexAddr t x y) (hx : s.eval x = .os j g off n m) (hy : s.eval y = .c (.int k z)) (h1 : P.underlying t = some (.slice e))
    (h5 : (P.info? e).map (·.size) = some m) (hz : z = (i : Int)) (hi : i < n) : ARd P G o s (.op j g (off + i * m)) := fun St a w h => by
  obtain ⟨info, h5i, h6⟩ := Option.map_eq_some_iff.1 h5
  obtain ⟨b, rfl, cap, e0⟩ : ∃ b, g = some b ∧ ∃ cap, a.eval x = .slice (some ⟨b, off, none⟩) n cap := by
    have he := evR h hx
    cases g with
    | none => have := he.1; omega
    | some b => obtain ⟨cap, e0, _⟩ := he; exact ⟨b, rfl, cap, e0⟩
  have ey : a.eval y = .int k z := evC h hy
  refine ⟨.pointer (some ⟨b, off + i * m, none⟩), fun W _ => ?_, b, rfl, rfl⟩
  simp only [execOp, ho, e0, ey]
  refine vOk ?_
  subst hz
  simp [Instr.indexAt, asIntOf, underlying, h1, sizeOf, typeInfo, h5i, h6, hi, addr_add]
/-- an element of an array that lies in a block of the call's own -/
theorem rd_iaddrA {e : TypeId} {j off n m i : Nat} {g : Option Nat} {z : Int} (ho : o.op = .indexAddr t x y) (hx : s.eval x = .op j g off) (hy : s.eval y = .c (.int k z)) (h1 : P.underlying t = some (.array n e))
    (h5 : (P.info? e).map (·.size) = some m) (hz : z = (i : Int)) (hi : i < n) : ARd P G o s (.op j g (off + i * m)) := fun St a w h => by
  obtain ⟨info, h5i, h6⟩ := Option.map_eq_some_iff.1 h5
  obtain ⟨b, rfl, e0⟩ := evR h hx
  have ey : a.eval y = .int k z := evC h hy
  refine ⟨.pointer (some ⟨b, off + i * m, none⟩), fun W _ => ?_, b, rfl, rfl⟩
  simp only [execOp, ho, e0, ey]
  refine vOk ?_
  subst hz
  simp [Instr.indexAt, asIntOf, underlying, h1, sizeOf, typeInfo, h5i, h6, hi, addr_add, Instr.sureAddr]
theorem rd_iaddrAR {e : TypeId} {n m i q : Nat} {f : Nat → CV} {z : Int} (ho : o.op = .indexAddr t x y) (hx : s.eval x = .rp q f) (hy : s.eval y = .c (.int k z)) (h1 : P.underlying t = some (.array n e))
    (h5 : (P.info? e).map (·.size) = some m) (hz : z = (i : Int)) (hi : i < n) : ARd P G o s (.rp (q - i * m) fun j => f (i * m + j)) := fun St a w h => by
  obtain ⟨info, h5i, h6⟩ := Option.map_eq_some_iff.1 h5
  obtain ⟨b, p, e0, hb, hf⟩ := evR h hx
  have ey : a.eval y = .int k z := evC h hy
  refine ⟨.pointer (some ⟨b, p + i * m, none⟩), fun W _ => ?_, b, p + i * m, rfl, hb, fun j hj => by rw [Nat.add_assoc]; exact hf _ (by omega)⟩
  simp only [execOp, ho, e0, ey]
  refine vOk ?_
  subst hz
  simp [Instr.indexAt, asIntOf, underlying, h1, sizeOf, typeInfo, h5i, h6, hi, addr_add, Instr.sureAddr]

/-- a byte of a text -/
theorem rd_indexS {l : ByteArray} {i : Nat} {z : Int} (ho : o.op = .index t x y) (hx : s.eval x = .c (.string l)) (hy : s.eval y = .c (.int k z)) (h1 : P.underlying t = some .string) (hz : z = (i : Int)) (hi : i < l.size) : ARd P G o s (byF l.data.toList i) := fun St a w h => by
  refine ⟨.int .u8 ((l.data.toList.getD i 0).toNat : Nat), fun W _ => ?_, rfl⟩
  simp only [execOp, ho, evC h hx, evC h hy]
  refine vOk ?_
  subst hz
  have hi' : i < l.data.size := hi
  have e : l[i]? = some l.data[i] := by
    rw [getElem?_pos l i hi]; rfl
  simp [Instr.index, asIntOf, underlying, h1, e, List.getD]
  rw [Array.getElem?_eq_getElem hi']
  rfl

/-! ### loads -/
theorem run_loadVar1 {d : TypeDesc} (h : P.underlying t = some d) (ha : aggB P t = false) {w : World} {p : Addr} {v : Value} (hc : w.cell? p = some v) : (loadVar t p).run P w = .ok v w := by
  simp [loadVar, run_isAgg h, ha, hc]
theorem run_loadVarA {d : TypeDesc} {info : TypeInfo} (h : P.underlying t = some d) (ha : aggB P t = true) (h5 : P.info? t = some info) {w : World} {b q : Nat} {g : Nat → Value} (hc : ∀ j, j < info.size → w.cell? ⟨b, q + j, none⟩ = some (g j)) :
    (loadVar t ⟨b, q, none⟩).run P w = .ok (.agg ((List.range info.size).map g).toArray) w := by
  have := run_loadCells (P := P) (w := w) ⟨b, q, none⟩ info.size g (fun j hj => by rw [addr_add]; exact hc j hj)
  simp [loadVar, run_isAgg h, ha, sizeOf, typeInfo, h5, this]

theorem exec_load (ho : o.op = .load t x) {a : Act} {W : World} {p : Addr} {v : Value} (hp : a.eval x = .pointer (some p)) (hl : (loadVar t p).run P W = .ok v W) : (execOp a.eval o).run P W = .ok (.value v) W := by
  simp only [execOp, ho, hp]
  exact vOk (by simp [Instr.loadAt, Instr.sureAddr, hl])

theorem rd_loadR {d : TypeDesc} {n : Nat} {f : Nat → CV} {v : CV} (ho : o.op = .load t x) (hx : s.eval x = .rp n f) (h1 : P.underlying t = some d) (ha : aggB P t = false) (hn : 0 < n) (hv : f 0 = v) : ARd P G o s v := fun St a w h => by
  obtain ⟨b, q, e, hb, hf⟩ := evR h hx
  obtain ⟨u, hu, hr⟩ := hf 0 hn
  refine ⟨u, fun W hW => exec_load ho e (run_loadVar1 h1 ha ?_), hv ▸ hr⟩
  exact (cell_of_block (hW b hb) q).trans hu
theorem choose_cells {p : Nat → Value → Prop} {n : Nat} (h : ∀ j, j < n → ∃ v, p j v) : ∃ g : Nat → Value, ∀ j, j < n → p j (g j) := by
  classical
  exact ⟨fun j => if hj : j < n then (h j hj).choose else undef, fun j hj => by simp only [dif_pos hj]; exact (h j hj).choose_spec⟩
theorem rd_loadRA {d : TypeDesc} {n m : Nat} {f : Nat → CV} (ho : o.op = .load t x) (hx : s.eval x = .rp n f) (h1 : P.underlying t = some d) (ha : aggB P t = true) (h5 : (P.info? t).map (·.size) = some m) (hn : m ≤ n) : ARd P G o s (.agg m f) := fun St a w h => by
  obtain ⟨info, h5i, h6⟩ := Option.map_eq_some_iff.1 h5
  obtain ⟨b, q, e, hb, hf⟩ := evR h hx
  obtain ⟨g, hg⟩ := choose_cells (fun j (hj : j < n) => hf j hj)
  subst h6
  refine ⟨_, fun W hW => exec_load ho e (run_loadVarA h1 ha h5i (g := g) fun j hj => ?_), _, rfl, by simp, fun i hi => ?_⟩
  · exact (cell_of_block (hW b hb) _).trans (hg j (by omega)).1
  · simp [hi]; exact (hg i (by omega)).2

theorem blkCells {St : Nat → Prop} {a : Act} {w : World} (h : RelSt G St s a w) {i g n : Nat} {f : Nat → CV} (hH : s.H[i]? = some (some g, .blk n f)) :
    g < w.heap.size ∧ ∃ cur t z, w.heap[g]? = some (.cells cur t z) ∧ n ≤ cur.size ∧ ∀ j, j < n → RepC G.al St w (f j) (cur.getD j undef) := by
  obtain ⟨fp, hp⟩ := h.hp
  obtain ⟨h0, cur, t, h1, h2, h4⟩ := hp.rep i (some g) _ hH
  exact ⟨(hp.own i g ((h0 g).2 rfl)).1, cur, t, _, h1, h2, h4⟩
theorem frzCells {St : Nat → Prop} {a : Act} {w : World} (h : RelSt G St s a w) {i g n : Nat} {f : Nat → CV} (hH : s.H[i]? = some (some g, .frz n f)) :
    g < w.heap.size ∧ ∃ cur t z, w.heap[g]? = some (.cells cur t z) ∧ n ≤ cur.size ∧ ∀ j, j < n → RepC G.al St w (f j) (cur.getD j undef) := by
  obtain ⟨fp, hp⟩ := h.hp
  obtain ⟨h0, hg, h1⟩ := hp.rep i (some g) _ hH
  exact ⟨h.s3 g hg, h1⟩
/-- the cells of a block of its own, written still or not -/
def Holds (s : AS) (i : Nat) (g : Option Nat) (n : Nat) (f : Nat → CV) : Prop := s.H[i]? = some (g, .blk n f) ∨ s.H[i]? = some (g, .frz n f)
theorem holdCells {St : Nat → Prop} {a : Act} {w : World} (h : RelSt G St s a w) {i g n : Nat} {f : Nat → CV} (hH : Holds s i (some g) n f) :
    g < w.heap.size ∧ ∃ cur t z, w.heap[g]? = some (.cells cur t z) ∧ n ≤ cur.size ∧ ∀ j, j < n → RepC G.al St w (f j) (cur.getD j undef) := by
  rcases hH with hH | hH
  · exact blkCells h hH
  · exact frzCells h hH
theorem rd_loadO {d : TypeDesc} {i off n : Nat} {g : Option Nat} {f : Nat → CV} {v : CV} (ho : o.op = .load t x) (hx : s.eval x = .op i g off) (hH : Holds s i g n f) (h1 : P.underlying t = some d) (ha : aggB P t = false) (hn : off < n) (hv : f off = v) : ARdO P G o s v := fun St a w h => by
  obtain ⟨b, rfl, e⟩ := evR h hx
  obtain ⟨hg, cur, ty, z, hh, hle, hc⟩ := holdCells h hH
  have hlt : off < cur.size := by omega
  have hcell : w.cell? ⟨b, off, none⟩ = some (cur.getD off undef) := by
    rw [cell_of_row w b off cur ty z hh]; simp [hlt]
  refine ⟨_, fun W hW => exec_load ho e (run_loadVar1 h1 ha ?_), hv ▸ hc off hn⟩
  exact (cell_of_block (hW.block b hg) off).trans hcell
theorem rd_loadOA {d : TypeDesc} {i off n m : Nat} {g : Option Nat} {f : Nat → CV} (ho : o.op = .load t x) (hx : s.eval x = .op i g off) (hH : Holds s i g n f) (h1 : P.underlying t = some d) (ha : aggB P t = true) (h5 : (P.info? t).map (·.size) = some m) (hn : off + m ≤ n) : ARdO P G o s (.agg m fun j => f (off + j)) := fun St a w h => by
  obtain ⟨info, h5i, h6⟩ := Option.map_eq_some_iff.1 h5
  obtain ⟨b, rfl, e⟩ := evR h hx
  obtain ⟨hg, cur, ty, z, hh, hle, hc⟩ := holdCells h hH
  subst h6
  refine ⟨_, fun W hW => exec_load ho e (run_loadVarA h1 ha h5i (g := fun j => cur.getD (off + j) undef) fun j hj => ?_), _, rfl, by simp, fun j hj => ?_⟩
  · have hlt : off + j < cur.size := by omega
    have hcell : w.cell? ⟨b, off + j, none⟩ = some (cur.getD (off + j) undef) := by
      rw [cell_of_row w b (off + j) cur ty z hh]; simp [hlt]
    exact (cell_of_block (hW.block b hg) _).trans hcell
  · have := hc (off + j) (by omega)
    simp [hj] at this ⊢
    exact this
/-- an error's variable -/
theorem rd_loadE (i : Nat) [h0 : HasE G.gs i] {d : TypeDesc} {g : Nat} (ho : o.op = .load t (.global g)) (hg : gs[i]? = some g) (h1 : P.underlying t = some d) (ha : aggB P t = false) : ARd P G o s (.err (i + 1)) := fun St a w h => by
  have hl := h0.lt g hg
  have hg : (errG G.gs)[i]? = some g := by rw [h0.eq]; exact hg
  have hc := h.sn.var i g hg hl
  refine ⟨_, fun W hW => exec_load ho (p := ⟨g, 0, none⟩) rfl (run_loadVar1 h1 ha ?_), rfl⟩
  exact (cell_of_block (hW g (h.sg.1 g hl)) 0).trans hc

theorem rd_nilO {i off : Nat} {g : Option Nat} (ho : o.op = .nilCheck x) (hx : s.eval x = .op i g off) : ARd P G o s (.op i g off) := fun St a w h => by
  obtain ⟨b, rfl, e⟩ := evR h hx
  exact ⟨_, fun W _ => by simp only [execOp, ho, e]; rfl, b, rfl, rfl⟩
theorem rd_nilR {n : Nat} {f : Nat → CV} (ho : o.op = .nilCheck x) (hx : s.eval x = .rp n f) : ARd P G o s (.rp n f) := fun St a w h => by
  obtain ⟨b, q, e, hb, hf⟩ := evR h hx
  exact ⟨_, fun W _ => by simp only [execOp, ho, e]; rfl, b, q, rfl, hb, hf⟩
theorem rd_nilF {n : Nat} {g : FuncId} {f : Nat → CV} (ho : o.op = .nilCheck x) (hx : s.eval x = .fn g n f) : ARd P G o s (.fn g n f) := fun St a w h => by
  obtain ⟨cs, e, hn, hf⟩ := evR h hx
  exact ⟨_, fun W _ => by simp only [execOp, ho, e]; rfl, cs, rfl, hn, hf⟩

/-- a bool by a bool -/
theorem rd_pick {c p q : Bool} {z x' y' : Operand} (ho : o.op = .pick z x' y') (hz : s.eval z = .c (.bool c)) (hx : s.eval x' = .c (.bool p)) (hy : s.eval y' = .c (.bool q)) : ARd P G o s (.c (.bool (bif c then p else q))) := fun St a w h =>
  ⟨_, fun W _ => by simp only [execOp, ho, evC h hz, evC h hx, evC h hy]; cases c <;> simp [asBool], rfl⟩
theorem rd_pickT {z x' y' : Operand} {v : CV} (ho : o.op = .pick z x' y') (hz : s.eval z = .c (.bool true)) (hx : s.eval x' = v) : ARd P G o s v := fun St a w h =>
  ⟨a.eval x', fun W _ => by simp only [execOp, ho, evC h hz]; simp [asBool], evR h hx⟩
theorem rd_pickF {z x' y' : Operand} {v : CV} (ho : o.op = .pick z x' y') (hz : s.eval z = .c (.bool false)) (hy : s.eval y' = v) : ARd P G o s v := fun St a w h =>
  ⟨a.eval y', fun W _ => by simp only [execOp, ho, evC h hz]; simp [asBool], evR h hy⟩
end
end Am
end Go.Proofs.YtoliiompofonlaaDoor
