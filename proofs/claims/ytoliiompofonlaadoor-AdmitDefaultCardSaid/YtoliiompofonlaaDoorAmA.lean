
/- The abstract walk, more small facts. -/
import Derived.Test.YtoliiompofonlaaDoorTy
namespace Go.Proofs.YtoliiompofonlaaDoor
set_option linter.unusedVariables false
open Go.RowKit
namespace Am
theorem updF_one (f : Nat → CV) (off : Nat) (x : CV) (j : Nat) : updF f off [x] j = if j = off then x else f j := by
  rw [updF_get]
  by_cases h : j = off
  · subst h; rw [if_pos (by simp), if_pos rfl, Nat.sub_self]; rfl
  · rw [if_neg (by simp; omega), if_neg h]
section
variable {P : Program} {G : Gh} {ops : Array Oper} {o : Oper} {s : AS} {r : List Oper} {K : AS → Prop} {t u : TypeId} {x y : Operand} {env : List (Nat × CV)} {b0 : Nat → CV} {H : List (Option Nat × Res)}

/-- how long a slice that is handed in may be -/
theorem ac_len {gs : List Nat} {P : Program} {f : FuncId} {H : List (Option Nat × Res)} {args : List CV} {Q : CV → List (Option Nat × Res) → Prop} (j : Nat) {k n : Nat} {F : Nat → Nat → CV} (hj : fl args j = .rs k n F) (h : n ≤ 9223372036854775807 → AC gs P f H args Q) : AC gs P f H args Q := fun al w St F0 vals he hs hv => by
  have h1 := hv j
  rw [hj] at h1
  obtain ⟨ao, cap, _, h2, h3, _⟩ := id h1
  exact h (by omega) al w St F0 vals he hs hv
theorem CEnt.nilS' {n k : Nat} {f : Nat → Nat → CV} (h : n = 0) : CEnt (.c (.slice none 0 0)) (.rs k n f) := by subst h; exact CEnt.nilS k f
theorem fl_by {cs : List CV} {l2 : List UInt8} (h : EntL cs (l2.map fun c => .c (.int .u8 (c.toNat : Nat)))) : ∀ j, j < l2.length → CEnt (fl cs j) (byF l2 j) := fun j hj => by
  have := hh_bytes h j hj
  rwa [Nat.zero_add] at this
/-! ### slices against nil -/
theorem eqG_slice (op : BinOp) (t : TypeId) (x y : Operand) (a b : Option Addr) (n c n' c' : Nat) (W : World) : (eqGuard op t x y (.slice a n c) (.slice b n' c')).run P W = .ok () W := by
  unfold eqGuard
  split <;> simp
theorem run_slice_nil {e : TypeId} (ht : P.underlying t = some (.slice e)) (a : Option Addr) (n c : Nat) (W : World) : (Op.equal t (.slice a n c) (.slice none 0 0)).run P W = .ok a.isNone W := by
  show (Op.equalIn 10000 t (.slice a n c) (.slice none 0 0)).run P W = _
  rw [show (10000 : Nat) = 9999 + 1 from rfl, Op.equalIn]
  cases a <;> simp only [underlying, Sem.run_bind, run_program, Result.andThen_ok, ht, Sem.run_pure] <;> rfl
theorem exec_eqSnil {e : TypeId} (ho : o.op = .binOp .eql t x y u) {a : Act} {ao : Option Addr} {n c : Nat} (hx : a.eval x = .slice ao n c) (hy : a.eval y = .slice none 0 0) (ht : P.underlying t = some (.slice e)) (W : World) : (execOp a.eval o).run P W = .ok (.value (.bool ao.isNone)) W := by
  simp only [execOp, ho, hx, hy]
  refine vOk ?_
  simp [eqG_slice, binOp, run_slice_nil ht]
theorem rd_eqSC {e : TypeId} (ho : o.op = .binOp .eql t x y u) (hx : s.eval x = .c (.slice none 0 0)) (hy : s.eval y = .c (.slice none 0 0)) (ht : P.underlying t = some (.slice e)) : ARd P G o s (.c (.bool true)) := fun St a w h =>
  ⟨_, fun W _ => exec_eqSnil ho (evC h hx) (evC h hy) ht W, rfl⟩
theorem rd_eqSO {e : TypeId} {i off n k : Nat} {g : Option Nat} (ho : o.op = .binOp .eql t x y u) (hx : s.eval x = .os i g off n k) (hy : s.eval y = .c (.slice none 0 0)) (ht : P.underlying t = some (.slice e)) : ARd P G o s (.c (.bool g.isNone)) := fun St a w h => by
  have he := evR h hx
  cases g with
  | none => exact ⟨_, fun W _ => exec_eqSnil ho he.2 (evC h hy) ht W, rfl⟩
  | some b => obtain ⟨cap, e0, _⟩ := he; exact ⟨_, fun W _ => exec_eqSnil ho e0 (evC h hy) ht W, rfl⟩
/-- is it nil? both may be -/
theorem seq_eqNil {e : TypeId} {k n d : Nat} {f : Nat → Nat → CV} (hw : Wanted G ops o ⟨env, b0, H⟩ true) (ho : o.op = .binOp .eql t x y u) (hx : (⟨env, b0, H⟩ : AS).eval x = .rs k n f) (hy : (⟨env, b0, H⟩ : AS).eval y = .c (.slice none 0 0)) (ht : P.underlying t = some (.slice e)) (hd : o.dst = some d) (hN : Nat.blt d G.N = true)
    (h1 : n = 0 → ASeq P G ops r ⟨(d, .c (.bool true)) :: env, b0, H⟩ K) (h2 : ASeq P G ops r ⟨(d, .c (.bool false)) :: env, b0, H⟩ K) : ASeq P G ops (o :: r) ⟨env, b0, H⟩ K := fun a w ⟨St, hr⟩ Q hQ => by
  unfold wpSeq
  rw [if_pos (hw St a w hr)]
  obtain ⟨ao, cap, e0, h3, h4, h5, h6⟩ := evR hr hx
  refine .inl ?_
  unfold Oper.wp
  rw [exec_eqSnil ho e0 (evC hr hy) ht w]
  have put : ∀ b : Bool, RelSt G St ⟨(d, .c (.bool b)) :: env, b0, H⟩ (a.put o.dst (.bool b)) w := fun b => by
    have := hr.put (dst := o.dst) (v := .c (.bool b)) (x := .bool b) (dst_of (dst_s hd hN)) rfl
    rwa [hd] at this ⊢
  cases ao with
  | none => exact h1 (by have := h5 rfl; omega) _ _ ⟨St, put true⟩ Q hQ
  | some ad => exact h2 _ _ ⟨St, put false⟩ Q hQ

/-! ### own bytes from a literal, written no more -/
theorem thawBL (d : Nat) {i n N : Nat} {g : Option Nat} {cs : List CV} (l : List UInt8) (hl : look s.env s.b d = .os i g 0 n 1) (hH : s.H[i]? = some (g, .frz N (fl cs))) (hn : n = l.length) (hN : Nat.ble n N = true) (he : EntL cs (l.map fun c => .c (.int .u8 (c.toNat : Nat)))) :
    EntS G s ⟨(d, bsC l) :: s.env, s.b, s.H⟩ := by
  subst hn
  have hN := Nat.le_of_ble_eq_true hN
  exact thaw d (fun a _ => byF l a) hl hH (by omega) (fun a b ha hb => by
    have := hh_bytes he a ha
    rwa [show 0 + (a * 1 + b) = 0 + a by omega])
theorem thawIL (d : Nat) {i n N : Nat} {g : Option Nat} {F : Nat → CV} (l : List Int) (hl : look s.env s.b d = .os i g 0 n 1) (hH : s.H[i]? = some (g, .frz N F)) (hn : n = l.length) (hN : Nat.ble n N = true) (he : ∀ j, j < l.length → CEnt (F j) (inF l j)) :
    EntS G s ⟨(d, isC l) :: s.env, s.b, s.H⟩ := by
  subst hn
  have hN := Nat.le_of_ble_eq_true hN
  exact thaw d (fun a _ => inF l a) hl hH (by omega) (fun a b ha hb => by
    have := he a ha
    rwa [show 0 + (a * 1 + b) = a by omega])
/-- a byte as a wider number -/
def wide8 : IntKind → Bool | .i8 => false | _ => true
theorem wide8_wrap {k : IntKind} (h : wide8 k = true) {z : Int} (h0 : 0 ≤ z) (h1 : z < 256) : k.wrap z = z := by
  cases k <;> first | (simp [wide8] at h; done) | (refine wrap_id ?_; show _ ∧ _; omega)
theorem rd_conv8 {c : UInt8} {k' : IntKind} {d : TypeDesc} (ho : o.op = .convert t u x) (hx : s.eval x = .c (.int .u8 ((c.toNat : Nat) : Int))) (h1 : P.underlying t = some d) (h2 : P.underlying u = some (.int k')) (hk : wide8 k' = true) : ARd P G o s (.c (.int k' ((c.toNat : Nat) : Int))) :=
  rd_convI ho hx h1 h2 _ (wide8_wrap hk (by omega) (by have := c.toNat_lt; omega))
/-- make([]T, n, c) -/
theorem e_make {e : TypeId} {z : Value} {n c k by_ d : Nat} {kn kc : IntKind} {zn zc : Int} {F : Nat → CV} (ho : o.op = .makeSlice t x y) (hx : (⟨env, b0, H⟩ : AS).eval x = .c (.int kn zn)) (hy : (⟨env, b0, H⟩ : AS).eval y = .c (.int kc zc)) (hn : zn = (n : Int)) (hc : zc = (c : Int)) (hnc : n ≤ c) (h1 : P.underlying t = some (.slice e)) (h5 : (P.info? e).map (·.size) = some k) (hz : (P.info? e).map (·.zero) = some (some z)) (hby : (P.info? e).map (·.bytes) = some by_)
    (h48 : c * by_ ≤ 140737488355328) (h63 : c ≤ 9223372036854775807) (hF : ∀ j, j < n * k → CEnt (.c (z.cells[j % z.cells.size]!)) (F j)) (hd : o.dst = some d) (hN : Nat.blt d G.N = true)
    (hK : ∀ g, K ⟨(d, .os H.length g 0 n k) :: env, b0, H ++ [(g, .blk (n * k) F)]⟩) : AEx P G o ⟨env, b0, H⟩ K :=
  AEx.new (dst_s hd hN) (fun g => .os H.length g 0 n k) (fun St a w hr => by
    obtain ⟨info, hi, h6⟩ := Option.map_eq_some_iff.1 h5
    obtain ⟨info', hi', hz⟩ := Option.map_eq_some_iff.1 hz
    obtain rfl := Option.some.inj (hi.symm.trans hi')
    obtain ⟨info', hi', hby⟩ := Option.map_eq_some_iff.1 hby
    obtain rfl := Option.some.inj (hi.symm.trans hi')
    subst hn hc
    have hb' : (info.bytes : Int) * (c : Int) ≤ 281474976710656 := by
      have h : ((info.bytes * c : Nat) : Int) ≤ 281474976710656 := by rw [Nat.mul_comm, hby]; omega
      rwa [Int.natCast_mul] at h
    have hr' := run_make (P := P) w t e info z h1 hi hz kn kc n c (by omega) (by omega) hb' (by omega)
    simp only [Int.toNat_natCast] at hr'
    have hsz : (madeCells z.cells (c * info.size)).size = c * k := by rw [h6]; simp [madeCells]
    refine ⟨w.alloc (.cells (madeCells z.cells (c * info.size)) e), w.heap.size, _, e, .slice (some ⟨w.heap.size, 0, none⟩) n c, ?_, below_alloc w _, Nat.le_refl _, heap_alloc_new w _, ?_, fun j hj => ?_, c, rfl, hnc, h63, _, e, (0, 0), heap_alloc_new w _, ?_⟩
    · simp only [execOp, ho, evC hr hx, evC hr hy]
      exact vOk hr'
    · rw [hsz]; exact Nat.mul_le_mul_right _ hnc
    · refine hF j hj _ _ _ _ ?_
      have hj2 : j < c * k := Nat.lt_of_lt_of_le hj (Nat.mul_le_mul_right _ hnc)
      show _ = _
      rw [h6]
      simp [madeCells, hj2]
    · rw [hsz]; omega) (fun g => by rw [with_some hd]; exact hK g)
end
end Am
end Go.Proofs.YtoliiompofonlaaDoor
