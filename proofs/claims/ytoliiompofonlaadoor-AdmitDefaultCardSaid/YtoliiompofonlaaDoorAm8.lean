
/- The abstract walk, eighth part: what the printed scripts call by name. -/
import Derived.Test.YtoliiompofonlaaDoorAm7
namespace Go.Proofs.YtoliiompofonlaaDoor
set_option linter.unusedVariables false
open Go.RowKit
namespace Am
section
variable {P : Program} {G : Gh} {ops : Array Oper} {o : Oper} {s : AS} {r : List Oper} {K : AS → Prop} {R : Exit → AS → Prop} {Y : AS → Prop} {x y : Code}

/-! ### the ways out of code -/
theorem then_norm (h : Y s) : thenR Y R .normal s := h
theorem then_exit {i : Nat} (h : R (.exit i) s) : thenR Y R (.exit i) s := h
theorem then_ret (h : R .ret s) : thenR Y R .ret s := h
theorem block_norm {i : Nat} (h : R .normal s) : blockR i R .normal s := h
theorem block_exit {i j : Nat} (he : Nat.beq j i = true) (h : R .normal s) : blockR i R (.exit j) s := by
  show match Nat.beq j i with | true => R .normal s | false => R (.exit j) s
  rw [he]; exact h
theorem block_exit2 {i j : Nat} (he : Nat.beq j i = false) (h : R (.exit j) s) : blockR i R (.exit j) s := by
  show match Nat.beq j i with | true => R .normal s | false => R (.exit j) s
  rw [he]; exact h
theorem block_ret {i : Nat} (h : R .ret s) : blockR i R .ret s := h

theorem code_condD {d : Operand} {p : Prop} [Decidable p] (hl : s.eval d = .c (.bool (decide p))) (ht : p → ACode P G x s R) (hf : ¬ p → ACode P G y s R) : ACode P G (.cond d x y) s R :=
  code_cond hl (fun h => ht (of_decide_eq_true h)) (fun h => hf (of_decide_eq_false h))
theorem code_condT {d : Operand} (hl : s.eval d = .c (.bool true)) (ht : ACode P G x s R) : ACode P G (.cond d x y) s R := code_cond hl (fun _ => ht) (fun h => by cases h)
theorem code_condF {d : Operand} (hl : s.eval d = .c (.bool false)) (hf : ACode P G y s R) : ACode P G (.cond d x y) s R := code_cond hl (fun h => by cases h) (fun _ => hf)

/-! ### the steps, with the state written out -/
variable {env : List (Nat × CV)} {b0 : Nat → CV} {H : List (Option Nat × Res)}
theorem q_rd {d : Nat} {v : CV} (hw : Wanted G ops o ⟨env, b0, H⟩ true) (hd : o.dst = some d) (hN : Nat.blt d G.N = true) (h : ARd P G o ⟨env, b0, H⟩ v) (hk : ASeq P G ops r ⟨(d, v) :: env, b0, H⟩ K) : ASeq P G ops (o :: r) ⟨env, b0, H⟩ K :=
  seq_rd hw (by simp only [dstOk, hd]; exact hN) h (by simp only [AS.put, hd]; exact hk)
theorem q_rdO {d : Nat} {v : CV} (hw : Wanted G ops o ⟨env, b0, H⟩ true) (hd : o.dst = some d) (hN : Nat.blt d G.N = true) (h : ARdO P G o ⟨env, b0, H⟩ v) (hk : ASeq P G ops r ⟨(d, v) :: env, b0, H⟩ K) : ASeq P G ops (o :: r) ⟨env, b0, H⟩ K :=
  seq_rdO hw (by simp only [dstOk, hd]; exact hN) h (by simp only [AS.put, hd]; exact hk)
theorem q_skip {d : Nat} (hw : Wanted G ops o ⟨env, b0, H⟩ false) (hd : o.dst = some d) (hN : Nat.blt d G.N = true) (hk : ASeq P G ops r ⟨(d, .c undef) :: env, b0, H⟩ K) : ASeq P G ops (o :: r) ⟨env, b0, H⟩ K :=
  seq_skip hw (by simp only [dstOk, hd]; exact hN) (by simp only [AS.put, hd]; exact hk)
theorem q_skip0 (hw : Wanted G ops o ⟨env, b0, H⟩ false) (hd : o.dst = none) (hk : ASeq P G ops r ⟨env, b0, H⟩ K) : ASeq P G ops (o :: r) ⟨env, b0, H⟩ K :=
  seq_skip hw (by simp only [dstOk, hd]) (by simp only [AS.put, hd]; exact hk)
theorem y_rd {d : Nat} {v : CV} {tr : OrdO} (hw : Wanted G ops o ⟨env, b0, H⟩ true) (hd : o.dst = some d) (hN : Nat.blt d G.N = true) (h : ARd P G o ⟨env, b0, H⟩ v) (hk : AX P G ops tr ⟨(d, v) :: env, b0, H⟩ K) : AX P G ops (.rd o tr) ⟨env, b0, H⟩ K :=
  x_rd hw (by simp only [dstOk, hd]; exact hN) h (by simp only [AS.put, hd]; exact hk)
theorem y_rdO {d : Nat} {v : CV} {tr : OrdO} (hw : Wanted G ops o ⟨env, b0, H⟩ true) (hd : o.dst = some d) (hN : Nat.blt d G.N = true) (h : ARdO P G o ⟨env, b0, H⟩ v) (hk : AX P G ops tr ⟨(d, v) :: env, b0, H⟩ K) : AX P G ops (.rd o tr) ⟨env, b0, H⟩ K :=
  x_rdO hw (by simp only [dstOk, hd]; exact hN) h (by simp only [AS.put, hd]; exact hk)
theorem zz_rd {d : Nat} {v : CV} {tr : OrdO} (hw : Wanted G ops o ⟨env, b0, H⟩ true) (hd : o.dst = some d) (hN : Nat.blt d G.N = true) (h : ARd P G o ⟨env, b0, H⟩ v) (hk : AZ P G ops tr ⟨(d, v) :: env, b0, H⟩ K) : AZ P G ops (.rd o tr) ⟨env, b0, H⟩ K :=
  z_rd hw (by simp only [dstOk, hd]; exact hN) h (by simp only [AS.put, hd]; exact hk)
theorem zz_one1 {d : Nat} {v : CV} {tr : OrdO} (hw : Wanted G ops o ⟨env, b0, H⟩ true) (hd : o.dst = some d) (hN : Nat.blt d G.N = true) (h : ARd P G o ⟨env, b0, H⟩ v) (hk : AZ P G ops tr ⟨(d, v) :: env, b0, H⟩ K) : AZ P G ops (.one o tr) ⟨env, b0, H⟩ K :=
  z_one1 hw (by simp only [dstOk, hd]; exact hN) h (by simp only [AS.put, hd]; exact hk)
theorem zz_one1O {d : Nat} {v : CV} {tr : OrdO} (hw : Wanted G ops o ⟨env, b0, H⟩ true) (hd : o.dst = some d) (hN : Nat.blt d G.N = true) (h : ARdO P G o ⟨env, b0, H⟩ v) (hk : AZ P G ops tr ⟨(d, v) :: env, b0, H⟩ K) : AZ P G ops (.one o tr) ⟨env, b0, H⟩ K :=
  z_one1O hw (by simp only [dstOk, hd]; exact hN) h (by simp only [AS.put, hd]; exact hk)
theorem zz_rdO {d : Nat} {v : CV} {tr : OrdO} (hw : Wanted G ops o ⟨env, b0, H⟩ true) (hd : o.dst = some d) (hN : Nat.blt d G.N = true) (hb : ownB ops o = true) (h : ARdO P G o ⟨env, b0, H⟩ v) (hk : AZ P G ops tr ⟨(d, v) :: env, b0, H⟩ K) : AZ P G ops (.rd o tr) ⟨env, b0, H⟩ K :=
  z_rdO hw (by simp only [dstOk, hd]; exact hN) hb h (by simp only [AS.put, hd]; exact hk)
theorem zz_noone {d : Nat} {tr : OrdO} (hw : Wanted G ops o ⟨env, b0, H⟩ false) (hd : o.dst = some d) (hN : Nat.blt d G.N = true) (hk : AZ P G ops tr ⟨(d, .c undef) :: env, b0, H⟩ K) : AZ P G ops (.one o tr) ⟨env, b0, H⟩ K :=
  z_noone hw (by simp only [dstOk, hd]; exact hN) (by simp only [AS.put, hd]; exact hk)
theorem zz_skip {d : Nat} {tr : OrdO} (hw : Wanted G ops o ⟨env, b0, H⟩ false) (hd : o.dst = some d) (hN : Nat.blt d G.N = true) (hk : AZ P G ops tr ⟨(d, .c undef) :: env, b0, H⟩ K) : AZ P G ops (.rd o tr) ⟨env, b0, H⟩ K :=
  z_skip hw (by simp only [dstOk, hd]; exact hN) (by simp only [AS.put, hd]; exact hk)
theorem y_skip {d : Nat} {tr : OrdO} (hw : Wanted G ops o ⟨env, b0, H⟩ false) (hd : o.dst = some d) (hN : Nat.blt d G.N = true) (hk : AX P G ops tr ⟨(d, .c undef) :: env, b0, H⟩ K) : AX P G ops (.rd o tr) ⟨env, b0, H⟩ K :=
  x_skip hw (by simp only [dstOk, hd]; exact hN) (by simp only [AS.put, hd]; exact hk)
theorem y_noone {d : Nat} {tr : OrdO} (hw : Wanted G ops o ⟨env, b0, H⟩ false) (hd : o.dst = some d) (hN : Nat.blt d G.N = true) (hk : AX P G ops tr ⟨(d, .c undef) :: env, b0, H⟩ K) : AX P G ops (.one o tr) ⟨env, b0, H⟩ K :=
  x_noone hw (by simp only [dstOk, hd]; exact hN) (by simp only [AS.put, hd]; exact hk)

/-! ### guards -/
theorem wanted_undef {j d : Nat} {b : Bool} (h : o.guard = some (j, b)) (hd : (ops[j]?).bind (·.dst) = some d) (hN : Nat.blt d G.N = true) (hl : look s.env s.b d = .c undef) : Wanted G ops o s false := fun St a w hr => by
  have hlt : d < a.tmps.size := by rw [hr.sz]; exact Nat.le_of_ble_eq_true hN
  have he := hr.env d
  rw [hl] at he
  have he : a.tmps.getD d undef = undef := he
  have hg : a.tmps[d]? = some undef := by
    rw [Array.getElem?_eq_getElem hlt]
    congr 1
    simpa [hlt] using he
  simp only [Region.wanted, h, yielded, hd, Option.bind_some, hg]
  cases b <;> rfl
theorem put_lit {d : Nat} {t : Bool} (hN : Nat.blt d G.N = true) (hl : look s.env s.b d = .c (.bool t)) {b : Bool} (e : t = b) : EntS G s ⟨(d, .c (.bool b)) :: s.env, s.b, s.H⟩ :=
  EntS.put hN fun St a w hr => by
    have := hr.env d
    rw [hl, e] at this
    exact this
theorem code_condS {d : Nat} {t : Bool} (hN : Nat.blt d G.N = true) (hl : look s.env s.b d = .c (.bool t)) (ht : t = true → ACode P G x ⟨(d, .c (.bool true)) :: s.env, s.b, s.H⟩ R) (hf : t = false → ACode P G y ⟨(d, .c (.bool false)) :: s.env, s.b, s.H⟩ R) : ACode P G (.cond (.tmp d) x y) s R :=
  code_cond (t := t) hl (fun e => code_ent (put_lit hN hl e) (ht e)) (fun e => code_ent (put_lit hN hl e) (hf e))
theorem code_condSD {d : Nat} {p : Prop} [Decidable p] (hN : Nat.blt d G.N = true) (hl : look s.env s.b d = .c (.bool (decide p))) (ht : p → ACode P G x ⟨(d, .c (.bool true)) :: s.env, s.b, s.H⟩ R) (hf : ¬ p → ACode P G y ⟨(d, .c (.bool false)) :: s.env, s.b, s.H⟩ R) : ACode P G (.cond (.tmp d) x y) s R :=
  code_condS hN hl (fun h => ht (of_decide_eq_true h)) (fun h => hf (of_decide_eq_false h))
theorem seq_split {d : Nat} {t : Bool} (hN : Nat.blt d G.N = true) (hl : look s.env s.b d = .c (.bool t)) (ht : t = true → ASeq P G ops r ⟨(d, .c (.bool true)) :: s.env, s.b, s.H⟩ K) (hf : t = false → ASeq P G ops r ⟨(d, .c (.bool false)) :: s.env, s.b, s.H⟩ K) : ASeq P G ops r s K := by
  cases e : t with
  | true => exact seq_ent (put_lit hN hl e) (ht e)
  | false => exact seq_ent (put_lit hN hl e) (hf e)
theorem seq_splitD {d : Nat} {p : Prop} [Decidable p] (hN : Nat.blt d G.N = true) (hl : look s.env s.b d = .c (.bool (decide p))) (ht : p → ASeq P G ops r ⟨(d, .c (.bool true)) :: s.env, s.b, s.H⟩ K) (hf : ¬ p → ASeq P G ops r ⟨(d, .c (.bool false)) :: s.env, s.b, s.H⟩ K) : ASeq P G ops r s K :=
  seq_split hN hl (fun h => ht (of_decide_eq_true h)) (fun h => hf (of_decide_eq_false h))
theorem z_split {d : Nat} {t : Bool} {tr : OrdO} (hN : Nat.blt d G.N = true) (hl : look s.env s.b d = .c (.bool t)) (ht : t = true → AZ P G ops tr ⟨(d, .c (.bool true)) :: s.env, s.b, s.H⟩ K) (hf : t = false → AZ P G ops tr ⟨(d, .c (.bool false)) :: s.env, s.b, s.H⟩ K) : AZ P G ops tr s K := by
  cases e : t with
  | true => exact z_ent (put_lit hN hl e) (ht e)
  | false => exact z_ent (put_lit hN hl e) (hf e)
theorem z_splitD {d : Nat} {p : Prop} [Decidable p] {tr : OrdO} (hN : Nat.blt d G.N = true) (hl : look s.env s.b d = .c (.bool (decide p))) (ht : p → AZ P G ops tr ⟨(d, .c (.bool true)) :: s.env, s.b, s.H⟩ K) (hf : ¬ p → AZ P G ops tr ⟨(d, .c (.bool false)) :: s.env, s.b, s.H⟩ K) : AZ P G ops tr s K :=
  z_split hN hl (fun h => ht (of_decide_eq_true h)) (fun h => hf (of_decide_eq_false h))
theorem x_split {d : Nat} {t : Bool} {tr : OrdO} (hN : Nat.blt d G.N = true) (hl : look s.env s.b d = .c (.bool t)) (ht : t = true → AX P G ops tr ⟨(d, .c (.bool true)) :: s.env, s.b, s.H⟩ K) (hf : t = false → AX P G ops tr ⟨(d, .c (.bool false)) :: s.env, s.b, s.H⟩ K) : AX P G ops tr s K := by
  cases e : t with
  | true => exact x_ent (put_lit hN hl e) (ht e)
  | false => exact x_ent (put_lit hN hl e) (hf e)
theorem x_splitD {d : Nat} {p : Prop} [Decidable p] {tr : OrdO} (hN : Nat.blt d G.N = true) (hl : look s.env s.b d = .c (.bool (decide p))) (ht : p → AX P G ops tr ⟨(d, .c (.bool true)) :: s.env, s.b, s.H⟩ K) (hf : ¬ p → AX P G ops tr ⟨(d, .c (.bool false)) :: s.env, s.b, s.H⟩ K) : AX P G ops tr s K :=
  x_split hN hl (fun h => ht (of_decide_eq_true h)) (fun h => hf (of_decide_eq_false h))

/-- an operation that only reads, where it stands among those that make memory -/
theorem x_one1O {t : OrdO} {v : CV} (hw : Wanted G ops o s true) (hd : dstOk G o = true) (h : ARdO P G o s v) (hk : AX P G ops t (s.put o.dst v) K) : AX P G ops (.one o t) s K :=
  x_one hw fun St a w hr Q => by
    obtain ⟨x, hx, hv⟩ := h St a w hr
    unfold Oper.wp
    rw [hx w (Below.refl _ _)]
    exact ⟨Below.refl _ _, St, fun _ h => h, _, hk, hr.put (dst_of hd) hv⟩

theorem y_one1O {d : Nat} {t : OrdO} {v : CV} (hw : Wanted G ops o ⟨env, b0, H⟩ true) (hd : o.dst = some d) (hN : Nat.blt d G.N = true) (h : ARdO P G o ⟨env, b0, H⟩ v) (hk : AX P G ops t ⟨(d, v) :: env, b0, H⟩ K) : AX P G ops (.one o t) ⟨env, b0, H⟩ K :=
  x_one1O hw (by simp only [dstOk, hd]; exact hN) h (by simp only [AS.put, hd]; exact hk)

theorem y_one1 {d : Nat} {t : OrdO} {v : CV} (hw : Wanted G ops o ⟨env, b0, H⟩ true) (hd : o.dst = some d) (hN : Nat.blt d G.N = true) (h : ARd P G o ⟨env, b0, H⟩ v) (hk : AX P G ops t ⟨(d, v) :: env, b0, H⟩ K) : AX P G ops (.one o t) ⟨env, b0, H⟩ K := y_one1O hw hd hN h.own hk

/-! ### numbers -/
def InR : IntKind → Int → Prop
  | .i64, z => -9223372036854775808 ≤ z ∧ z ≤ 9223372036854775807
  | .u64, z => 0 ≤ z ∧ z ≤ 18446744073709551615
  | .i32, z => -2147483648 ≤ z ∧ z ≤ 2147483647
  | .u32, z => 0 ≤ z ∧ z ≤ 4294967295
  | .i16, z => -32768 ≤ z ∧ z ≤ 32767
  | .u16, z => 0 ≤ z ∧ z ≤ 65535
  | .i8, z => -128 ≤ z ∧ z ≤ 127
  | .u8, z => 0 ≤ z ∧ z ≤ 255
theorem wrap_id {k : IntKind} {z : Int} (h : InR k z) : k.wrap z = z := by
  cases k <;> simp only [InR] at h <;> simp [IntKind.wrap, IntKind.bits, IntKind.signed] <;> omega
theorem natI {z : Int} (h : 0 ≤ z) : z = (z.toNat : Int) := by omega

/-! ### what entails what -/
theorem CEnt.int {k : IntKind} {a b : Int} (h : a = b) : CEnt (.c (.int k a)) (.c (.int k b)) := h ▸ CEnt.refl _
theorem CEnt.bool {a b : Bool} (h : a = b) : CEnt (.c (.bool a)) (.c (.bool b)) := h ▸ CEnt.refl _
theorem CEnt.str {a b : ByteArray} (h : a = b) : CEnt (.c (.string a)) (.c (.string b)) := h ▸ CEnt.refl _
theorem CEnt.err {a b : Nat} (h : a = b) : CEnt (.err a) (.err b) := h ▸ CEnt.refl _
theorem CEnt.bs {a b : List UInt8} (h : a = b) : CEnt (bsC a) (bsC b) := h ▸ CEnt.refl _
theorem CEnt.nilB : CEnt (.c (.slice none 0 0)) (bsC []) := CEnt.nilS _ _
theorem CEnt.tup2 {a b c d : CV} (h1 : CEnt a c) (h2 : CEnt b d) : CEnt (.tup 2 (fl [a, b])) (.tup 2 (fl [c, d])) :=
  CEnt.tup rfl fun i hi => match i, hi with | 0, _ => h1 | 1, _ => h2
theorem CEnt.tup3 {a b c d e f : CV} (h1 : CEnt a d) (h2 : CEnt b e) (h3 : CEnt c f) : CEnt (.tup 3 (fl [a, b, c])) (.tup 3 (fl [d, e, f])) :=
  CEnt.tup rfl fun i hi => match i, hi with | 0, _ => h1 | 1, _ => h2 | 2, _ => h3
theorem CEnt.tup4 {a b c d a' b' c' d' : CV} (h1 : CEnt a a') (h2 : CEnt b b') (h3 : CEnt c c') (h4 : CEnt d d') : CEnt (.tup 4 (fl [a, b, c, d])) (.tup 4 (fl [a', b', c', d'])) :=
  CEnt.tup rfl fun i hi => match i, hi with | 0, _ => h1 | 1, _ => h2 | 2, _ => h3 | 3, _ => h4
/-- structs, field by field -/
theorem CEnt.aggL {n m : Nat} {f g : Nat → CV} {l k : List CV} (hn : n = m) (hl : Nat.ble n l.length = true) (hf : ∀ i, i < n → f i = fl l i) (hg : ∀ i, i < n → g i = fl k i) (h : EntL l k) : CEnt (.agg n f) (.agg m g) :=
  CEnt.agg hn fun i hi => by rw [hf i hi, hg i hi]; exact entL_get h i

/-! ### arguments -/
def SE (G : Gh) (s : AS) (x : Operand) (c : CV) : Prop := ∀ St a w, RelSt G St s a w → RepC G.al St w c (a.eval x)
theorem se {x : Operand} {c0 c : CV} (hx : s.eval x = c0) (h : CEnt c0 c) : SE G s x c := fun St a w hr => h _ _ _ _ (evR hr hx)
theorem se_refl (x : Operand) : SE G s x (s.eval x) := fun St a w hr => hr.eval x
theorem se_frz {x : Operand} {i off n m N : Nat} {g : Option Nat} {F : Nat → CV} (hx : s.eval x = .os i g off n m) (hH : s.H[i]? = some (g, .frz N F)) (hN : off + n * m ≤ N) (f : Nat → Nat → CV) (hf : ∀ a b, a < n → b < m → CEnt (F (off + (a * m + b))) (f a b)) : SE G s x (.rs m n f) := fun St a w hr => by
  have he := evR hr hx
  cases g with
  | none =>
    obtain ⟨h1, h2⟩ := he
    subst h1
    exact ⟨none, 0, h2, Nat.le_refl _, by decide, fun _ => rfl, fun _ h => by cases h⟩
  | some g =>
    obtain ⟨cap, h1, h2, h3, _⟩ := he
    obtain ⟨fp, hp⟩ := hr.hp
    obtain ⟨_, hg, cur, t, z, hh, hle, hc⟩ := hp.rep i (some g) _ hH
    refine ⟨_, cap, h1, h2, h3, (fun h => by cases h), fun ad ha _ => ?_⟩
    cases ha
    refine ⟨rfl, hg, fun p q hp' hq => ?_⟩
    have hb : p * m + q < n * m := by
      have : p * m + m ≤ n * m := by rw [← Nat.succ_mul]; exact Nat.mul_le_mul_right _ hp'
      omega
    have hlt : off + (p * m + q) < cur.size := by omega
    refine ⟨cur.getD (off + (p * m + q)) undef, ?_, hf p q hp' hq _ _ _ _ (hc _ (by omega))⟩
    show w.cell? ⟨g, off + (p * m + q), none⟩ = _
    rw [cell_of_row w g _ cur t z hh]; simp [hlt]
theorem se_frzB {x : Operand} {i off n N : Nat} {g : Option Nat} {F : Nat → CV} (l : List UInt8) (hx : s.eval x = .os i g off n 1) (hH : s.H[i]? = some (g, .frz N F)) (hn : n = l.length) (hN : off + n ≤ N) (hf : ∀ a, a < n → CEnt (F (off + a)) (byF l a)) : SE G s x (bsC l) := by
  subst hn
  refine se_frz hx hH (by omega) _ fun a b ha hb => ?_
  rw [show off + (a * 1 + b) = off + a by omega]
  exact hf a ha
theorem se_frzP {x : Operand} {i off m N : Nat} {g : Option Nat} {F : Nat → CV} (hx : s.eval x = .op i g off) (hH : s.H[i]? = some (g, .frz N F)) (hN : off + m ≤ N) (f : Nat → CV) (hf : ∀ j, j < m → CEnt (F (off + j)) (f j)) : SE G s x (.rp m f) := fun St a w hr => by
  obtain ⟨b, rfl, he⟩ := evR hr hx
  obtain ⟨fp, hp⟩ := hr.hp
  obtain ⟨_, hg, cur, t, z, hh, hle, hc⟩ := hp.rep i (some b) _ hH
  refine ⟨b, off, he, hg, fun j hj => ?_⟩
  have hlt : off + j < cur.size := by omega
  refine ⟨cur.getD (off + j) undef, ?_, hf j hj _ _ _ _ (hc _ (by omega))⟩
  rw [cell_of_row w b _ cur t z hh]; simp [hlt]

inductive SEL (G : Gh) (s : AS) : List Operand → List CV → Prop where
  | nil : SEL G s [] []
  | cons {x : Operand} {c : CV} {l : List Operand} {m : List CV} (h : SE G s x c) (t : SEL G s l m) : SEL G s (x :: l) (c :: m)
theorem sel_len {l : List Operand} {m : List CV} (h : SEL G s l m) : l.length = m.length := by
  induction h with
  | nil => rfl
  | cons _ _ ih => simp [ih]
theorem sel_get {l : List Operand} {m : List CV} (h : SEL G s l m) {St : Nat → Prop} {a : Act} {w : World} (hr : RelSt G St s a w) : ∀ i (hi : i < l.length), RepC G.al St w (fl m i) (a.eval l[i]) := by
  induction h with
  | nil => intro i hi; simp at hi
  | cons h1 _ ih =>
    intro i hi
    cases i with
    | zero => exact h1 St a w hr
    | succ i => exact ih i (by simpa using hi)

/-- the contract of a call whose result is known -/
def ACp (gs : List Nat) (P : Program) (f : FuncId) (args : List CV) (m : CV) : Prop := AC gs P f [] args fun r H => r = m ∧ H = []

theorem args_se {xs : Array Operand} {args : List CV} (he : SEL G s xs.toList args) {St : Nat → Prop} {a : Act} {w : World} (h : RelSt G St s a w) : (xs.map a.eval).size = args.length ∧ ∀ i, RepC G.al St w (fl args i) ((xs.map a.eval).getD i undef) := by
  have hl := sel_len he
  simp at hl
  refine ⟨by simp [hl], fun i => ?_⟩
  by_cases hi : i < xs.size
  · have := sel_get he h i (by simpa using hi)
    simpa [hi] using this
  · rw [fl_none args i (by omega)]
    trivial
/-- a call by its contract -/
theorem ex_callS {f : FuncId} {xs : Array Operand} {ats : Array TypeId} {args : List CV} {Q : CV → List (Option Nat × Res) → Prop} (ho : o.op = .call ⟨.value (.func f), xs, ats⟩) (hc : calleeB P f = true) (hA : AC G.gs P f [] args Q) (he : SEL G s xs.toList args) (hd : dstOk G o = true)
    (hK : ∀ r H', Q r H' → K (s.with o.dst r (s.H ++ H'))) : AEx P G o s K := fun St a w hr Q' => by
  unfold Oper.wp
  rw [exec_call ho hc]
  obtain ⟨h1, h2⟩ := args_se he hr
  refine (hA G.al w St _ _ (entry0 hr) h1 h2).mono ?_
  rintro e w' ⟨v, r, H', St', rfl, hq, hv, hu, h3, h4, h5, h6⟩
  refine ⟨hu.below, St', h3, _, hK r H' hq, ?_⟩
  have := (hr.after hu h3 h4 h5 h6).put (dst := o.dst) (dst_of hd) hv
  cases ho : o.dst with
  | none => rw [ho] at this; exact this
  | some d => rw [ho] at this; exact this
theorem ex_callP {f : FuncId} {xs : Array Operand} {ats : Array TypeId} {args : List CV} {m : CV} (ho : o.op = .call ⟨.value (.func f), xs, ats⟩) (hc : calleeB P f = true) (hA : ACp G.gs P f args m) (he : SEL G s xs.toList args) (hd : dstOk G o = true)
    (hK : K (s.with o.dst m (s.H ++ []))) : AEx P G o s K := ex_callS ho hc hA he hd (by rintro _ _ ⟨rfl, rfl⟩; exact hK)

/-! ### results -/
def ARV (P : Program) (G : Gh) (s : AS) (rv : ResultVar) (c : CV) : Prop := ∀ St a w, RelSt G St s a w → ∃ v, (match rv with | .tmp t => pure (a.tmps.getD t undef) | .cell d t => do loadVar t (← asAddr (a.tmps.getD d undef)) : Sem Value).run P w = .ok v w ∧ RepC G.al St w c v
theorem arv_tmp {t : Nat} {c : CV} (h : look s.env s.b t = c) : ARV P G s (.tmp t) c := fun St a w hr => ⟨_, rfl, h ▸ hr.env t⟩
theorem arv_cell {d : Nat} {t : TypeId} {i off n : Nat} {g : Option Nat} {f : Nat → CV} {c : CV} {ds : TypeDesc} (h : look s.env s.b d = .op i g off) (hH : Holds s i g n f) (h1 : P.underlying t = some ds) (ha : aggB P t = false) (hn : off < n) (hc : f off = c) : ARV P G s (.cell d t) c := fun St a w hr => by
  have he := hr.env d
  rw [h] at he
  obtain ⟨b, rfl, he⟩ := he
  obtain ⟨hg, cur, ty, z, hh, hle, hcell⟩ := holdCells hr hH
  have hlt : off < cur.size := by omega
  have hcc : w.cell? ⟨b, off, none⟩ = some (cur.getD off undef) := by
    rw [cell_of_row w b off cur ty z hh]; simp [hlt]
  refine ⟨_, ?_, hc ▸ hcell off hn⟩
  simp only [he, asAddr, Sem.run_bind, Sem.run_pure, Result.andThen_ok]
  exact run_loadVar1 h1 ha hcc
theorem arv_cellA {d : Nat} {t : TypeId} {i off n m : Nat} {g : Option Nat} {f : Nat → CV} {ds : TypeDesc} (h : look s.env s.b d = .op i g off) (hH : Holds s i g n f) (h1 : P.underlying t = some ds) (ha : aggB P t = true) (h5 : (P.info? t).map (·.size) = some m) (hn : off + m ≤ n) : ARV P G s (.cell d t) (.agg m fun j => f (off + j)) := fun St a w hr => by
  obtain ⟨info, h5i, h6⟩ := Option.map_eq_some_iff.1 h5
  have he := hr.env d
  rw [h] at he
  obtain ⟨b, rfl, he⟩ := he
  obtain ⟨hg, cur, ty, z, hh, hle, hcell⟩ := holdCells hr hH
  subst h6
  have hrun := run_loadVarA h1 ha h5i (w := w) (b := b) (q := off) (g := fun j => cur.getD (off + j) undef) (fun j hj => by
    have hlt : off + j < cur.size := by omega
    rw [cell_of_row w b (off + j) cur ty z hh]; simp [hlt])
  refine ⟨.agg ((List.range info.size).map fun j => cur.getD (off + j) undef).toArray, ?_, _, rfl, by simp, fun j hj => ?_⟩
  · simp only [he, asAddr, Sem.run_bind, Sem.run_pure, Result.andThen_ok]
    exact hrun
  · have := hcell (off + j) (by omega)
    simp [hj] at this ⊢
    exact this
theorem run_mapM1 {α β : Type} (f : α → Sem β) {a1 : α} {b1 : β} {w : World} (h1 : (f a1).run P w = .ok b1 w) : ((#[a1] : Array α).mapM f).run P w = .ok #[b1] w := by
  simp [h1]
theorem run_mapM2 {α β : Type} (f : α → Sem β) {a1 a2 : α} {b1 b2 : β} {w : World} (h1 : (f a1).run P w = .ok b1 w) (h2 : (f a2).run P w = .ok b2 w) : ((#[a1, a2] : Array α).mapM f).run P w = .ok #[b1, b2] w := by
  simp [h1, h2]
theorem run_mapM3 {α β : Type} (f : α → Sem β) {a1 a2 a3 : α} {b1 b2 b3 : β} {w : World} (h1 : (f a1).run P w = .ok b1 w) (h2 : (f a2).run P w = .ok b2 w) (h3 : (f a3).run P w = .ok b3 w) : ((#[a1, a2, a3] : Array α).mapM f).run P w = .ok #[b1, b2, b3] w := by
  simp [h1, h2, h3]
theorem run_mapM4 {α β : Type} (f : α → Sem β) {a1 a2 a3 a4 : α} {b1 b2 b3 b4 : β} {w : World} (h1 : (f a1).run P w = .ok b1 w) (h2 : (f a2).run P w = .ok b2 w) (h3 : (f a3).run P w = .ok b3 w) (h4 : (f a4).run P w = .ok b4 w) : ((#[a1, a2, a3, a4] : Array α).mapM f).run P w = .ok #[b1, b2, b3, b4] w := by
  simp [h1, h2, h3, h4]
theorem run_res {fn : Func} {tmps : Array Value} {vs : Array Value} {w : World} (h : (fn.results.mapM fun | .tmp t => pure (tmps.getD t undef) | .cell a t => do loadVar t (← asAddr (tmps.getD a undef)) : Sem (Array Value)).run P w = .ok vs w) : (results fn tmps).run P w = .ok (if h : vs.size = 1 then vs[0] else .tuple vs) w := by
  unfold results
  rw [Sem.run_bind]
  have h' := h
  refine (congrArg (fun r => Result.andThen r _) h').trans ?_
  rfl
theorem res_1 {fn : Func} {r1 : ResultVar} {v : CV} (h : fn.results = #[r1]) (h1 : ARV P G s r1 v) : ARes P G fn s v := fun St a w hr => by
  obtain ⟨x1, e1, q1⟩ := h1 St a w hr
  exact ⟨x1, run_res (vs := #[x1]) (by rw [h]; exact run_mapM1 _ e1), q1⟩
theorem res_2 {fn : Func} {r1 r2 : ResultVar} {v1 v2 : CV} (h : fn.results = #[r1, r2]) (h1 : ARV P G s r1 v1) (h2 : ARV P G s r2 v2) : ARes P G fn s (.tup 2 (fl [v1, v2])) := fun St a w hr => by
  obtain ⟨x1, e1, q1⟩ := h1 St a w hr
  obtain ⟨x2, e2, q2⟩ := h2 St a w hr
  exact ⟨.tuple #[x1, x2], run_res (vs := #[x1, x2]) (by rw [h]; exact run_mapM2 _ e1 e2), _, rfl, rfl, fun i hi => match i, hi with | 0, _ => q1 | 1, _ => q2⟩
theorem res_3 {fn : Func} {r1 r2 r3 : ResultVar} {v1 v2 v3 : CV} (h : fn.results = #[r1, r2, r3]) (h1 : ARV P G s r1 v1) (h2 : ARV P G s r2 v2) (h3 : ARV P G s r3 v3) : ARes P G fn s (.tup 3 (fl [v1, v2, v3])) := fun St a w hr => by
  obtain ⟨x1, e1, q1⟩ := h1 St a w hr
  obtain ⟨x2, e2, q2⟩ := h2 St a w hr
  obtain ⟨x3, e3, q3⟩ := h3 St a w hr
  exact ⟨.tuple #[x1, x2, x3], run_res (vs := #[x1, x2, x3]) (by rw [h]; exact run_mapM3 _ e1 e2 e3), _, rfl, rfl, fun i hi => match i, hi with | 0, _ => q1 | 1, _ => q2 | 2, _ => q3⟩
theorem res_4 {fn : Func} {r1 r2 r3 r4 : ResultVar} {v1 v2 v3 v4 : CV} (h : fn.results = #[r1, r2, r3, r4]) (h1 : ARV P G s r1 v1) (h2 : ARV P G s r2 v2) (h3 : ARV P G s r3 v3) (h4 : ARV P G s r4 v4) : ARes P G fn s (.tup 4 (fl [v1, v2, v3, v4])) := fun St a w hr => by
  obtain ⟨x1, e1, q1⟩ := h1 St a w hr
  obtain ⟨x2, e2, q2⟩ := h2 St a w hr
  obtain ⟨x3, e3, q3⟩ := h3 St a w hr
  obtain ⟨x4, e4, q4⟩ := h4 St a w hr
  exact ⟨.tuple #[x1, x2, x3, x4], run_res (vs := #[x1, x2, x3, x4]) (by rw [h]; exact run_mapM4 _ e1 e2 e3 e4), _, rfl, rfl, fun i hi => match i, hi with | 0, _ => q1 | 1, _ => q2 | 2, _ => q3 | 3, _ => q4⟩
theorem res_0 {fn : Func} (h : fn.results = #[]) : ARes P G fn s (.c (.tuple #[])) := fun St a w hr => ⟨.tuple #[], by simp [results, h], rfl⟩

/-- the end of a walk whose result is known -/
theorem end_val {fn : Func} {e : Exit} {v m : CV} (he : e = .ret ∨ e = .normal) (hres : ARes P G fn s v) (hv : CEnt v m) : bodyR P G fn (fun r H => r = m ∧ H = []) e s := end_pure he m (hres.ent hv) ⟨rfl, rfl⟩
/-- the end of a walk whose result is one of some -/
theorem end_any {fn : Func} {e : Exit} {v m : CV} {Q : CV → List (Option Nat × Res) → Prop} (he : e = .ret ∨ e = .normal) (hres : ARes P G fn s v) (hv : CEnt v m) (hq : Q m []) : bodyR P G fn Q e s := end_pure he m (hres.ent hv) hq

/-! ### more operations that read -/
theorem rd_notD {t : TypeId} {x : Operand} {p : Prop} [Decidable p] (ho : o.op = .unOp .not t x) (hx : s.eval x = .c (.bool (decide p))) : ARd P G o s (.c (.bool (decide (¬ p)))) := (rd_not ho hx).bool (by simp)
variable {t u : TypeId} {p q : Operand} {k : IntKind}
theorem rd_convSS {l : ByteArray} (ho : o.op = .convert t u p) (hx : s.eval p = .c (.string l)) (h1 : P.underlying t = some .string) (h2 : P.underlying u = some .string) : ARd P G o s (.c (.string l)) := fun _ _ _ h =>
  ⟨_, fun W _ => by simp only [execOp, ho, evC h hx]; exact vOk (v := .string l) (by simp [convert, underlying, h1, h2]), rfl⟩
theorem rd_convBN {e : TypeId} (ho : o.op = .convert t u p) (hx : s.eval p = .c (.slice none 0 0)) (h1 : P.underlying t = some (.slice e)) (h2 : P.underlying e = some (.int .u8)) (h3 : P.underlying u = some .string) : ARd P G o s (.c (.string ⟨#[]⟩)) := fun St a w h => by
  refine ⟨_, fun W _ => ?_, rfl⟩
  simp only [execOp, ho, evC h hx]
  exact vOk (run_string_bs (Bs.nil W) _ _ _ h1 h2 h3)
theorem bs_of_os {St : Nat → Prop} {a : Act} {w : World} (h : RelSt G St s a w) {x : Operand} {i off n N : Nat} {g : Option Nat} {F : Nat → CV} {l : List UInt8} (hx : s.eval x = .os i g off n 1) (hH : Holds s i g N F) (hn : n = l.length) (hN : off + n ≤ N) (hf : ∀ a, a < n → CEnt (F (off + a)) (byF l a)) : Bs w (a.eval x) l := by
  subst hn
  have he := evR h hx
  cases g with
  | none =>
    obtain ⟨h1, h2⟩ := he
    rw [h2, List.eq_nil_of_length_eq_zero h1]
    exact Bs.nil w
  | some g =>
    obtain ⟨cap, h1, h2, h3, _⟩ := he
    rw [h1]
    obtain ⟨hg, cur, ty, z, hh, hle, hcell⟩ := holdCells h hH
    refine Bs.of_cells h2 h3 fun j hj => ?_
    have hlt : off + j < cur.size := by omega
    rw [cell_of_row w g _ cur ty z hh]
    have := hf j hj _ _ _ _ (hcell (off + j) (by omega))
    have e : cur.getD (off + j) undef = .int .u8 ((l.getD j 0).toNat : Nat) := this
    rw [← e]
    simp [hlt]
theorem rd_convBO {e : TypeId} {i off n N : Nat} {g : Option Nat} {F : Nat → CV} (l : List UInt8) (ho : o.op = .convert t u p) (hx : s.eval p = .os i g off n 1) (hH : Holds s i g N F) (hn : n = l.length) (hN : off + n ≤ N) (hf : ∀ a, a < n → CEnt (F (off + a)) (byF l a))
    (h1 : P.underlying t = some (.slice e)) (h2 : P.underlying e = some (.int .u8)) (h3 : P.underlying u = some .string) : ARdO P G o s (.c (.string ⟨l.toArray⟩)) := fun St a w h => by
  refine ⟨_, fun W hW => ?_, rfl⟩
  have hb := (bs_of_os h hx hH hn hN hf).below hW
  obtain ⟨ao, cap, e0, _⟩ := id hb
  simp only [execOp, ho, e0]
  rw [e0] at hb
  exact vOk (run_string_bs hb _ _ _ h1 h2 h3)

theorem rd_sliceB {e : TypeId} {a b : Operand} {z1 z2 : Int} {k1 k2 : IntKind} {l v : Nat} {bl : List UInt8} (ho : o.op = .slice t p (some a) (some b) none) (hx : s.eval p = bsC bl) (h1 : P.underlying t = some (.slice e)) (h5 : (P.info? e).map (·.size) = some 1)
    (ha : s.eval a = .c (.int k1 z1)) (hz1 : z1 = (l : Int)) (hb : s.eval b = .c (.int k2 z2)) (hz2 : z2 = (v : Int)) (hlv : l ≤ v) (hvn : v ≤ bl.length) : ARd P G o s (bsC ((bl.take v).drop l)) :=
  (rd_sliceR ho hx h1 h5 (bd_some ha hz1) (bd_some hb hz2) hlv hvn).ent (bs_piece bl l v hlv hvn)
theorem rd_sliceB_from {e : TypeId} {a : Operand} {z1 : Int} {k1 : IntKind} {l : Nat} {bl : List UInt8} (ho : o.op = .slice t p (some a) none none) (hx : s.eval p = bsC bl) (h1 : P.underlying t = some (.slice e)) (h5 : (P.info? e).map (·.size) = some 1)
    (ha : s.eval a = .c (.int k1 z1)) (hz1 : z1 = (l : Int)) (hlv : l ≤ bl.length) : ARd P G o s (bsC (bl.drop l)) :=
  (rd_sliceR ho hx h1 h5 (bd_some ha hz1) (bd_none _ _) hlv (Nat.le_refl _)).ent (bs_from bl l hlv)
theorem rd_sliceB_to {e : TypeId} {b : Operand} {z2 : Int} {k2 : IntKind} {v : Nat} {bl : List UInt8} (ho : o.op = .slice t p none (some b) none) (hx : s.eval p = bsC bl) (h1 : P.underlying t = some (.slice e)) (h5 : (P.info? e).map (·.size) = some 1)
    (hb : s.eval b = .c (.int k2 z2)) (hz2 : z2 = (v : Int)) (hvn : v ≤ bl.length) : ARd P G o s (bsC (bl.take v)) :=
  (rd_sliceR ho hx h1 h5 (bd_none _ _) (bd_some hb hz2) (Nat.zero_le _) hvn).ent (bs_to bl v hvn)

/-- nil against nil -/
theorem rd_eqE0 (ho : o.op = .binOp .eql 32 p (.const .nilIface) u) (hx : s.eval p = .c .nilIface) : ARd Tryd.prog G o s (.c (.bool (decide ((0 : Nat) = 0)))) := fun St a w h => by
  have hs : a.eval p = ev G.al 0 := (evC h hx).trans (ev_zero _).symm
  refine ⟨.bool (decide ((0 : Nat) = 0)), fun W _ => ?_, rfl⟩
  simp only [execOp, ho, hs]
  refine vOk ?_
  show (do eqGuard .eql _ _ _ (ev G.al 0) .nilIface; binOp .eql _ (ev G.al 0) .nilIface : Sem Value).run _ W = _
  rw [eqGuard_ev_nil]
  exact run_eql_ev_nil G.al 0 W
theorem rd_neE0 (ho : o.op = .binOp .neq 32 p (.const .nilIface) u) (hx : s.eval p = .c .nilIface) : ARd Tryd.prog G o s (.c (.bool (decide ((0 : Nat) ≠ 0)))) := fun St a w h => by
  have hs : a.eval p = ev G.al 0 := (evC h hx).trans (ev_zero _).symm
  refine ⟨.bool (decide ((0 : Nat) ≠ 0)), fun W _ => ?_, rfl⟩
  simp only [execOp, ho, hs]
  refine vOk ?_
  show (do eqGuard .neq _ _ _ (ev G.al 0) .nilIface; binOp .neq _ (ev G.al 0) .nilIface : Sem Value).run _ W = _
  rw [eqGuard_ev_nil]
  have := run_neq_ev_nil G.al 0 W
  rw [← decide_not] at this
  exact this
/-- a pointer against nil -/
theorem eqG_ptr (op : BinOp) (t : TypeId) (x y : Operand) (a b : Option Addr) (W : World) : (eqGuard op t x y (.pointer a) (.pointer b)).run P W = .ok () W := by
  unfold eqGuard
  split <;> simp
theorem run_ptr_nil {e : TypeId} (ht : P.underlying t = some (.pointer e)) (a : Addr) (W : World) : (Op.equal t (.pointer (some a)) (.pointer none)).run P W = .ok false W := by
  show (Op.equalIn 10000 t (.pointer (some a)) (.pointer none)).run P W = _
  rw [show (10000 : Nat) = 9999 + 1 from rfl, Op.equalIn]
  simp only [underlying, Sem.run_bind, run_program, Result.andThen_ok, ht, Sem.run_pure]
theorem rd_eqP {e : TypeId} {i off : Nat} {g : Option Nat} (ho : o.op = .binOp .eql t p q u) (hx : s.eval p = .op i g off) (hy : s.eval q = .c (.pointer none)) (ht : P.underlying t = some (.pointer e)) : ARd P G o s (.c (.bool false)) := fun St a w h => by
  obtain ⟨b, rfl, e0⟩ := evR h hx
  refine ⟨_, fun W _ => ?_, rfl⟩
  simp only [execOp, ho, e0, evC h hy]
  refine vOk ?_
  simp [eqG_ptr, binOp, run_ptr_nil ht]
theorem rd_neP {e : TypeId} {i off : Nat} {g : Option Nat} (ho : o.op = .binOp .neq t p q u) (hx : s.eval p = .op i g off) (hy : s.eval q = .c (.pointer none)) (ht : P.underlying t = some (.pointer e)) : ARd P G o s (.c (.bool true)) := fun St a w h => by
  obtain ⟨b, rfl, e0⟩ := evR h hx
  refine ⟨_, fun W _ => ?_, rfl⟩
  simp only [execOp, ho, e0, evC h hy]
  refine vOk ?_
  simp [eqG_ptr, binOp, run_ptr_nil ht]
theorem rd_eqPR {e : TypeId} {n : Nat} {f : Nat → CV} (ho : o.op = .binOp .eql t p q u) (hx : s.eval p = .rp n f) (hy : s.eval q = .c (.pointer none)) (ht : P.underlying t = some (.pointer e)) : ARd P G o s (.c (.bool false)) := fun St a w h => by
  obtain ⟨b, z, e0, _⟩ := evR h hx
  refine ⟨_, fun W _ => ?_, rfl⟩
  simp only [execOp, ho, e0, evC h hy]
  refine vOk ?_
  simp [eqG_ptr, binOp, run_ptr_nil ht]
theorem rd_nePR {e : TypeId} {n : Nat} {f : Nat → CV} (ho : o.op = .binOp .neq t p q u) (hx : s.eval p = .rp n f) (hy : s.eval q = .c (.pointer none)) (ht : P.underlying t = some (.pointer e)) : ARd P G o s (.c (.bool true)) := fun St a w h => by
  obtain ⟨b, z, e0, _⟩ := evR h hx
  refine ⟨_, fun W _ => ?_, rfl⟩
  simp only [execOp, ho, e0, evC h hy]
  refine vOk ?_
  simp [eqG_ptr, binOp, run_ptr_nil ht]

/-! ### rows of one kind -/
/-- cell j of a row of things: each has k cells -/
def rowF {α : Type} (k : Nat) (e : α → Nat → CV) (d : α) (l : List α) (j : Nat) : CV := e (l.getD (j / k) d) (j % k)
theorem rowF_at {α : Type} {k : Nat} {e : α → Nat → CV} {d : α} {l : List α} {i j : Nat} (hj : j < k) : rowF k e d l (i * k + j) = e (l.getD i d) j := by
  unfold rowF
  rw [Nat.mul_comm i k, Nat.mul_add_div (by omega), Nat.div_eq_of_lt hj, Nat.add_zero, Nat.mul_add_mod, Nat.mod_eq_of_lt hj]
theorem appF_row {α : Type} {k : Nat} {e : α → Nat → CV} {d : α} {l l2 : List α} {h : Nat → CV} (hh : ∀ j, j < l2.length * k → CEnt (h j) (rowF k e d l2 j)) : ∀ j, j < (l.length + l2.length) * k → CEnt (appF (l.length * k) (rowF k e d l) h j) (rowF k e d (l ++ l2) j) := fun j hj => by
  unfold appF
  rcases Nat.eq_zero_or_pos k with h0 | h0
  · subst h0; simp at hj
  by_cases h1 : j < l.length * k
  · rw [if_pos h1]
    refine CEnt.of_eq ?_
    have h2 : j / k < l.length := Nat.div_lt_of_lt_mul (by rw [Nat.mul_comm]; exact h1)
    simp only [rowF, List.getD_eq_getElem?_getD, List.getElem?_append_left h2]
  · rw [if_neg h1]
    rw [Nat.add_mul] at hj
    obtain ⟨q, rfl⟩ : ∃ q, j = l.length * k + q := ⟨j - l.length * k, by omega⟩
    rw [Nat.add_sub_cancel_left]
    refine CEnt.trans (hh q (by omega)) (CEnt.of_eq ?_)
    unfold rowF
    rw [Nat.mul_comm l.length k, Nat.mul_add_div h0, Nat.mul_add_mod, List.getD_eq_getElem?_getD, List.getD_eq_getElem?_getD, List.getElem?_append_right (Nat.le_add_right _ _), Nat.add_sub_cancel_left]
theorem byF_append {l l2 : List UInt8} {h : Nat → CV} (hh : ∀ j, j < l2.length → CEnt (h j) (byF l2 j)) : ∀ j, j < (l.length + l2.length) * 1 → CEnt (appF (l.length * 1) (byF l) h j) (byF (l ++ l2) j) := fun j hj => by
  unfold appF
  by_cases h1 : j < l.length * 1
  · rw [if_pos h1]
    refine CEnt.of_eq ?_
    simp only [byF, List.getD_eq_getElem?_getD, List.getElem?_append_left (show j < l.length by omega)]
  · rw [if_neg h1]
    refine CEnt.trans (hh _ (by omega)) (CEnt.of_eq ?_)
    simp only [byF, List.getD_eq_getElem?_getD, List.getElem?_append_right (show l.length ≤ j by omega), Nat.mul_one]

/-- append of bytes to bytes of its own -/
theorem md_appendB {e : TypeId} {z : Value} {i N : Nat} {g : Option Nat} {f h : Nat → CV} {l l2 : List UInt8} {m : Nat} (ho : o.op = .call ⟨.builtin .append, #[p, q], #[t, u]⟩) (hx : s.eval p = .os i g 0 l.length 1) (hH : s.H[i]? = some (g, .blk N f)) (hN : l.length ≤ N) (hf : ∀ j, j < l.length → CEnt (f j) (byF l j))
    (hsrc : ASrc P G s q 1 m h) (hm : m = l2.length) (hh : ∀ j, j < l2.length → CEnt (h j) (byF l2 j)) (h1 : P.underlying t = some (.slice e)) (hu : notInt P u = true) (h5 : (P.info? e).map (·.size) = some 1) (hz : (P.info? e).map (·.zero) = some (some z)) (hby : (P.info? e).map (·.bytes) = some 1) (hzk : z.cells.size = 1)
    (h63 : l.length + l2.length ≤ 140737488355328) (hleaf : ∀ j, j < m * 1 → leafC (h j) = true) (hd : dstOk G o = true)
    (hK : ∀ g', K (s.with o.dst (.os i g' 0 (l ++ l2).length 1) (s.H.set i (g', .blk (l ++ l2).length (byF (l ++ l2)))))) : AMd P G o s K := by
  subst hm
  refine md_append ho hx hH (by omega) hsrc h1 hu h5 hz hby (by omega) (by omega) hzk (byF (l ++ l2)) (fun j hj => ?_) hleaf hd (fun g' => ?_)
  · refine CEnt.trans ?_ (byF_append hh j hj)
    unfold appF
    split
    · exact hf j (by omega)
    · exact CEnt.refl _
  · have := hK g'
    rw [List.length_append] at this
    rw [Nat.mul_one]
    exact this

/-! ### operations that make or write memory, the state written out -/
variable {env : List (Nat × CV)} {b0 : Nat → CV} {H : List (Option Nat × Res)}
theorem with_some {d : Nat} {v : CV} {H' : List (Option Nat × Res)} (hd : o.dst = some d) : (⟨env, b0, H⟩ : AS).with o.dst v H' = ⟨(d, v) :: env, b0, H'⟩ := by simp only [AS.with, AS.put, hd]
theorem with_none {v : CV} {H' : List (Option Nat × Res)} (hd : o.dst = none) : (⟨env, b0, H⟩ : AS).with o.dst v H' = ⟨env, b0, H'⟩ := by simp only [AS.with, AS.put, hd]
theorem dst_s {d : Nat} (hd : o.dst = some d) (hN : Nat.blt d G.N = true) : dstOk G o = true := by simp only [dstOk, hd]; exact hN
theorem dst_n (hd : o.dst = none) : dstOk G o = true := by simp only [dstOk, hd]

theorem e_alloc {z : Value} {n d : Nat} (ho : o.op = .alloc t) (hz : (P.info? t).map (·.zero) = some (some z)) (hn : z.cells.size = n) (hd : o.dst = some d) (hN : Nat.blt d G.N = true)
    (hK : ∀ g, K ⟨(d, .op H.length g 0) :: env, b0, H ++ [(g, .blk n fun j => .c (z.cells.getD j undef))]⟩) : AEx P G o ⟨env, b0, H⟩ K :=
  ex_alloc ho hz hn (dst_s hd hN) fun g => by rw [with_some hd]; exact hK g
theorem e_box {n d : Nat} {c : CV} {l : List CV} (ho : o.op = .box t p) (hx : (⟨env, b0, H⟩ : AS).eval p = c) (hl : cellsC c = some l) (hn : l.length = n) (hd : o.dst = some d) (hN : Nat.blt d G.N = true)
    (hK : ∀ g, K ⟨(d, .op H.length g 0) :: env, b0, H ++ [(g, .blk n (fl l))]⟩) : AEx P G o ⟨env, b0, H⟩ K :=
  ex_box ho hx hl hn (dst_s hd hN) fun g => by rw [with_some hd]; exact hK g
theorem e_buildSlice {e : TypeId} {z : Value} {len m : Nat} {parts : Array (Nat × Operand)} {l : List CV} {n d : Nat} (ho : o.op = .buildSlice t len parts) (h1 : P.underlying t = some (.slice e)) (h5 : (P.info? e).map (·.size) = some m) (hz : (P.info? e).map (·.zero) = some (some z))
    (hm : Nat.ble (len * m) 16777216 = true) (hlen : Nat.ble len 16777216 = true) (hf : fillC (fun i => some (i * m, m)) ((List.range (len * m)).map fun i => .c (z.cells[i % z.cells.size]!)) (parts.toList.map fun p => (p.1, (⟨env, b0, H⟩ : AS).eval p.2)) = some l) (hn : l.length = n) (hle : n = len * m) (hd : o.dst = some d) (hN : Nat.blt d G.N = true)
    (hK : ∀ g, K ⟨(d, .os H.length g 0 len m) :: env, b0, H ++ [(g, .blk n (fl l))]⟩) : AEx P G o ⟨env, b0, H⟩ K :=
  ex_buildSlice ho h1 h5 hz hm hlen hf hn hle (dst_s hd hN) fun g => by rw [with_some hd]; exact hK g
theorem e_convSB {e : TypeId} {l : ByteArray} {d : Nat} (ho : o.op = .convert t u p) (hx : (⟨env, b0, H⟩ : AS).eval p = .c (.string l)) (h1 : P.underlying t = some .string) (h2 : P.underlying u = some (.slice e)) (h3 : P.underlying e = some (.int .u8)) (hl : l.size ≤ 9223372036854775807) (hd : o.dst = some d) (hN : Nat.blt d G.N = true)
    (hK : K ⟨(d, bsC l.data.toList) :: env, b0, H⟩) : AEx P G o ⟨env, b0, H⟩ K :=
  ex_convSB ho hx h1 h2 h3 hl (dst_s hd hN) (by rw [with_some hd]; exact hK)
theorem e_callP {f : FuncId} {xs : Array Operand} {ats : Array TypeId} {args : List CV} {m : CV} {d : Nat} (ho : o.op = .call ⟨.value (.func f), xs, ats⟩) (hc : calleeB P f = true) (hA : ACp G.gs P f args m) (he : SEL G ⟨env, b0, H⟩ xs.toList args) (hd : o.dst = some d) (hN : Nat.blt d G.N = true)
    (hK : K ⟨(d, m) :: env, b0, H⟩) : AEx P G o ⟨env, b0, H⟩ K := ex_callP ho hc hA he (dst_s hd hN) (by rw [with_some hd, List.append_nil]; exact hK)
theorem e_callP0 {f : FuncId} {xs : Array Operand} {ats : Array TypeId} {args : List CV} {m : CV} (ho : o.op = .call ⟨.value (.func f), xs, ats⟩) (hc : calleeB P f = true) (hA : ACp G.gs P f args m) (he : SEL G ⟨env, b0, H⟩ xs.toList args) (hd : o.dst = none)
    (hK : K ⟨env, b0, H⟩) : AEx P G o ⟨env, b0, H⟩ K := ex_callP ho hc hA he (dst_n hd) (by rw [with_none hd, List.append_nil]; exact hK)
theorem e_callS {f : FuncId} {xs : Array Operand} {ats : Array TypeId} {args : List CV} {Q : CV → List (Option Nat × Res) → Prop} {d : Nat} (ho : o.op = .call ⟨.value (.func f), xs, ats⟩) (hc : calleeB P f = true) (hA : AC G.gs P f [] args Q) (he : SEL G ⟨env, b0, H⟩ xs.toList args) (hd : o.dst = some d) (hN : Nat.blt d G.N = true)
    (hK : ∀ r H', Q r H' → K ⟨(d, r) :: env, b0, H ++ H'⟩) : AEx P G o ⟨env, b0, H⟩ K := ex_callS ho hc hA he (dst_s hd hN) (fun r H' hq => by rw [with_some hd]; exact hK r H' hq)
theorem e_callV {f : FuncId} {v : Operand} {n d : Nat} {fv : Nat → CV} {xs : Array Operand} {ats : Array TypeId} {args : List CV} {Q : CV → List (Option Nat × Res) → Prop} (ho : o.op = .call ⟨.value v, xs, ats⟩) (hv : (⟨env, b0, H⟩ : AS).eval v = .fn f n fv) (hc : calleeB P f = true) (hA : AC G.gs P f [] args Q) (he : EntL (xs.toList.map (⟨env, b0, H⟩ : AS).eval ++ (List.range n).map fv) args) (hd : o.dst = some d) (hN : Nat.blt d G.N = true)
    (hK : ∀ r H', Q r H' → K ⟨(d, r) :: env, b0, H ++ H'⟩) : AEx P G o ⟨env, b0, H⟩ K := ex_callv ho hv hc he hA (dst_s hd hN) (fun r H' hq => by rw [with_some hd]; exact hK r H' hq)
theorem m_store {i off n m : Nat} {g : Option Nat} {f : Nat → CV} {c : CV} {l : List CV} (ho : o.op = .store t p q) (hx : (⟨env, b0, H⟩ : AS).eval p = .op i g off) (hH : H[i]? = some (g, .blk n f)) (hy : (⟨env, b0, H⟩ : AS).eval q = c) (hl : cellsC c = some l) (h5 : (P.info? t).map (·.size) = some m) (hm : l.length = m) (hleaf : l.all leafC = true) (hn : off + m ≤ n)
    (F : Nat → CV) (hF : ∀ j, j < n → CEnt (updF f off l j) (F j)) (hd : o.dst = none) (hK : K ⟨env, b0, H.set i (g, .blk n F)⟩) : AMd P G o ⟨env, b0, H⟩ K :=
  md_store ho hx hH hy hl h5 hm hleaf hn F hF (dst_n hd) (by rw [with_none hd]; exact hK)
theorem m_append {e : TypeId} {z : Value} {i n m k N by_ n' N' d : Nat} {g : Option Nat} {f h : Nat → CV} (ho : o.op = .call ⟨.builtin .append, #[p, q], #[t, u]⟩) (hx : (⟨env, b0, H⟩ : AS).eval p = .os i g 0 n k) (hH : H[i]? = some (g, .blk N f)) (hN : n * k ≤ N)
    (hsrc : ASrc P G ⟨env, b0, H⟩ q k m h) (h1 : P.underlying t = some (.slice e)) (hu : notInt P u = true) (h5 : (P.info? e).map (·.size) = some k) (hz : (P.info? e).map (·.zero) = some (some z)) (hby : (P.info? e).map (·.bytes) = some by_)
    (h63 : n + m ≤ 9223372036854775807) (h48 : (n + m) * by_ ≤ 140737488355328) (hzk : z.cells.size = k)
    (F : Nat → CV) (hF : ∀ j, j < (n + m) * k → CEnt (appF (n * k) f h j) (F j)) (hleaf : ∀ j, j < m * k → leafC (h j) = true) (hd : o.dst = some d) (hdN : Nat.blt d G.N = true) (hn' : n + m = n') (hN' : (n + m) * k = N')
    (hK : ∀ g', K ⟨(d, .os i g' 0 n' k) :: env, b0, H.set i (g', .blk N' F)⟩) : AMd P G o ⟨env, b0, H⟩ K :=
  md_append ho hx hH hN hsrc h1 hu h5 hz hby h63 h48 hzk F hF hleaf (dst_s hd hdN) fun g' => by subst hn'; subst hN'; rw [with_some hd]; exact hK g'
theorem m_appendB {e : TypeId} {z : Value} {i N d : Nat} {g : Option Nat} {f h : Nat → CV} {l l2 : List UInt8} {m : Nat} (ho : o.op = .call ⟨.builtin .append, #[p, q], #[t, u]⟩) (hx : (⟨env, b0, H⟩ : AS).eval p = .os i g 0 l.length 1) (hH : H[i]? = some (g, .blk N f)) (hN : l.length ≤ N) (hf : ∀ j, j < l.length → CEnt (f j) (byF l j))
    (hsrc : ASrc P G ⟨env, b0, H⟩ q 1 m h) (hm : m = l2.length) (hh : ∀ j, j < l2.length → CEnt (h j) (byF l2 j)) (h1 : P.underlying t = some (.slice e)) (hu : notInt P u = true) (h5 : (P.info? e).map (·.size) = some 1) (hz : (P.info? e).map (·.zero) = some (some z)) (hby : (P.info? e).map (·.bytes) = some 1) (hzk : z.cells.size = 1)
    (h63 : l.length + l2.length ≤ 140737488355328) (hleaf : ∀ j, j < m * 1 → leafC (h j) = true) (hd : o.dst = some d) (hdN : Nat.blt d G.N = true)
    (hK : ∀ g', K ⟨(d, .os i g' 0 (l ++ l2).length 1) :: env, b0, H.set i (g', .blk (l ++ l2).length (byF (l ++ l2)))⟩) : AMd P G o ⟨env, b0, H⟩ K :=
  md_appendB ho hx hH hN hf hsrc hm hh h1 hu h5 hz hby hzk h63 hleaf (dst_s hd hdN) fun g' => by rw [with_some hd]; exact hK g'
theorem l_loop {c : Code} {α : Type} (D : List Nat) (M : α → List (Nat × CV)) (Hp : α → List (Option Nat × Res)) (φ : α → Prop) (μ : α → Nat) (p0 : α) (h0 : φ p0) (hM : ∀ p, ((M p).all fun x => D.any (Nat.beq x.1)) = true) (he : EntE env b0 (M p0)) (hH : HEnt H (Hp p0))
    (hr : ∀ p, φ p → ACode P G c ⟨M p, lay D env b0, Hp p⟩ (thenR (fun s' => ∃ p', φ p' ∧ μ p' < μ p ∧ BLe D (lay D env b0) s'.b ∧ (s'.env.all fun x => D.any (Nat.beq x.1)) = true ∧ EntE s'.env s'.b (M p') ∧ (Hp p').length ≤ s'.H.length ∧ HEnt (s'.H.take (Hp p').length) (Hp p')) R)) : ACode P G (.loop c) ⟨env, b0, H⟩ R :=
  code_loopD (s := ⟨env, b0, H⟩) D M Hp φ μ p0 h0 hM he hH hr
end
end Am
end Go.Proofs.YtoliiompofonlaaDoor
