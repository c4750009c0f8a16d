
/- The abstract walk: texts as lists of bytes. -/
import Derived.Test.YtoliiompofonlaaDoorAmD
namespace Go.Proofs.YtoliiompofonlaaDoor
set_option linter.unusedVariables false
open Go.RowKit
namespace Am
/-- a text whose bytes are l -/
def strC (l : List UInt8) : CV := .c (.string ⟨l.toArray⟩)
theorem ba_inj {a b : List UInt8} : ((⟨a.toArray⟩ : ByteArray) = ⟨b.toArray⟩) ↔ a = b := by
  constructor
  · intro h
    have := congrArg (fun x : ByteArray => x.data.toList) h
    simpa using this
  · rintro rfl; rfl
theorem ba_list (s : ByteArray) : ∃ l : List UInt8, s = ⟨l.toArray⟩ := ⟨s.data.toList, by cases s; simp⟩
theorem ba_toList (a : List UInt8) : (⟨a.toArray⟩ : ByteArray).toList = a := by rw [Go.ByteArray.toList_eq]
theorem ba_app (l r : List UInt8) : (⟨l.toArray⟩ ++ ⟨r.toArray⟩ : ByteArray) = ⟨(l ++ r).toArray⟩ := by
  apply ByteArray.ext
  simp
theorem ba_ext (l : List UInt8) (i j : Nat) : (⟨l.toArray⟩ : ByteArray).extract i j = ⟨((l.take j).drop i).toArray⟩ := by
  apply ByteArray.ext
  simp [List.drop_take]
section
variable {P : Program} {G : Gh} {ops : Array Oper} {o : Oper} {s : AS} {r : List Oper} {K : AS → Prop} {t u : TypeId} {x y : Operand} {env : List (Nat × CV)} {b0 : Nat → CV} {H : List (Option Nat × Res)} {k : IntKind} {a b : List UInt8}
theorem rd_eqL (ho : o.op = .binOp .eql t x y u) (hx : s.eval x = strC a) (hy : s.eval y = strC b) : ARd P G o s (.c (.bool (decide (a = b)))) := by
  have := rd_eqS (P := P) (G := G) ho hx hy
  rwa [show decide ((⟨a.toArray⟩ : ByteArray) = ⟨b.toArray⟩) = decide (a = b) from decide_eq_decide.2 ba_inj] at this
theorem rd_neL (ho : o.op = .binOp .neq t x y u) (hx : s.eval x = strC a) (hy : s.eval y = strC b) : ARd P G o s (.c (.bool (decide (a ≠ b)))) := by
  have := rd_neS (P := P) (G := G) ho hx hy
  rwa [show decide ((⟨a.toArray⟩ : ByteArray) ≠ ⟨b.toArray⟩) = decide (a ≠ b) from decide_eq_decide.2 (not_congr ba_inj)] at this
theorem rd_ltL (ho : o.op = .binOp .lss t x y u) (hx : s.eval x = strC a) (hy : s.eval y = strC b) : ARd P G o s (.c (.bool (Op.bytesLess a b))) := by
  have := rd_ltS (P := P) (G := G) ho hx hy
  rwa [ba_toList, ba_toList] at this
theorem rd_gtL (ho : o.op = .binOp .gtr t x y u) (hx : s.eval x = strC a) (hy : s.eval y = strC b) : ARd P G o s (.c (.bool (!(Op.bytesLess a b || a == b)))) := by
  have := rd_gtS (P := P) (G := G) ho hx hy
  rwa [ba_toList, ba_toList] at this
theorem rd_addL (ho : o.op = .binOp .add t x y u) (hx : s.eval x = strC a) (hy : s.eval y = strC b) (hl : a.length + b.length ≤ 9223372036854775807) : ARd P G o s (strC (a ++ b)) := by
  have := rd_addS (P := P) (G := G) ho hx hy hl
  rwa [ba_app] at this
theorem rd_indexL {i : Nat} {z : Int} (ho : o.op = .index t x y) (hx : s.eval x = strC a) (hy : s.eval y = .c (.int k z)) (h1 : P.underlying t = some .string) (hz : z = (i : Int)) (hi : i < a.length) : ARd P G o s (byF a i) :=
  rd_indexS (l := ⟨a.toArray⟩) ho hx hy h1 hz hi
theorem rd_lenL (ho : o.op = .call ⟨.builtin .len, #[x], #[t]⟩) (hx : s.eval x = strC a) (h1 : P.underlying t = some .string) : ARd P G o s (.c (.int .i64 (a.length : Nat))) := rd_lenS ho hx h1
theorem rd_sliceL {l v : Nat} {lo hi : Option Operand} (ho : o.op = .slice t x lo hi none) (hx : s.eval x = strC a) (h1 : P.underlying t = some .string)
    (hl : Bd s 0 lo l) (hu : Bd s a.length hi v) (hlv : l ≤ v) (hvn : v ≤ a.length) : ARd P G o s (strC ((a.take v).drop l)) := by
  have := rd_sliceS (P := P) (G := G) (b := ⟨a.toArray⟩) ho hx h1 hl hu hlv hvn
  rwa [ba_ext] at this
theorem rd_sliceLF {l : Nat} {lo : Operand} {z : Int} (ho : o.op = .slice t x (some lo) none none) (hx : s.eval x = strC a) (h1 : P.underlying t = some .string) (hl : s.eval lo = .c (.int .i64 z)) (hz : z = (l : Int)) (hvn : l ≤ a.length) : ARd P G o s (strC (a.drop l)) := by
  have := rd_sliceL (P := P) (G := G) ho hx h1 (bd_some hl hz) (bd_none _ _) hvn (Nat.le_refl _)
  rwa [List.take_length] at this
theorem rd_sliceLT {v : Nat} {hi : Operand} {z : Int} (ho : o.op = .slice t x none (some hi) none) (hx : s.eval x = strC a) (h1 : P.underlying t = some .string) (hl : s.eval hi = .c (.int .i64 z)) (hz : z = (v : Int)) (hvn : v ≤ a.length) : ARd P G o s (strC (a.take v)) := by
  have := rd_sliceL (P := P) (G := G) ho hx h1 (bd_none _ _) (bd_some hl hz) (Nat.zero_le _) hvn
  rwa [List.drop_zero] at this
theorem rd_convBL {e : TypeId} (ho : o.op = .convert t u x) (hx : s.eval x = bsC a) (h1 : P.underlying t = some (.slice e)) (h2 : P.underlying e = some (.int .u8)) (h3 : P.underlying u = some .string) : ARd P G o s (strC a) := rd_convBS ho hx h1 h2 h3
theorem e_convLB {e : TypeId} {d : Nat} (ho : o.op = .convert t u x) (hx : (⟨env, b0, H⟩ : AS).eval x = strC a) (h1 : P.underlying t = some .string) (h2 : P.underlying u = some (.slice e)) (h3 : P.underlying e = some (.int .u8)) (hl : a.length ≤ 9223372036854775807) (hd : o.dst = some d) (hN : Nat.blt d G.N = true)
    (hK : K ⟨(d, bsC a) :: env, b0, H⟩) : AEx P G o ⟨env, b0, H⟩ K := by
  refine e_convSB ho hx h1 h2 h3 hl hd hN ?_
  simpa using hK
end
theorem CEnt.errN {m n : Nat} (h : n = m) : CEnt (.err m) (.err n) := by subst h; exact CEnt.refl _
theorem CEnt.strL {a b : List UInt8} (h : a = b) : CEnt (strC a) (strC b) := by subst h; exact CEnt.refl _
end Am
end Go.Proofs.YtoliiompofonlaaDoor
