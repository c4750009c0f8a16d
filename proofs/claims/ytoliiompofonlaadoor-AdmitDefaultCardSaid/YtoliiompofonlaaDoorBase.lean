
/- The base of every text of this seat: byte slices that read as a list, errors by their numbers, worlds that only grow. -/
import Derived.Test.YtoliiompofonlaaDoorChecked
import Derived.WalkKit
import Derived.WalkLawsBesides
import Derived.WalkSpells
import Derived.Outline
import Derived.Handy
import Derived.Deep.QuietTactic
import Derived.Deep.Draws
import Derived.BigQuiet
import Derived.Lib.Hide
import Derived.LaidEql
import Derived.Laws.IdiomStrings
import Derived.WideLaws
import Derived.Shelf.Unicode.DecodeSlow
namespace Go.Proofs.YtoliiompofonlaaDoor
set_option linter.unusedVariables false
open Go.RowKit

/-! ### worlds -/
theorem below_drewN {B : Nat} {a w : World} (h : Below B a w) (n : Nat) : Below B a (w.drewN n) := ⟨h.os, h.tape, h.output, h.size, h.block⟩
/-- two calls, one behind the other -/
theorem below_then {a b c : World} (h : Below a.heap.size a b) (k : Below b.heap.size b c) : Below a.heap.size a c := h.trans (k.mono h.size)
theorem below_cell {a b : World} (h : Below a.heap.size a b) {p : Addr} {v : Value} (hc : a.cell? p = some v) : b.cell? p = some v :=
  (h.cell (World.block_lt_of_cell? a p hc)).trans hc

/-- an operation whose run is known -/
theorem wpList_value {P : Program} {ops : Array Oper} {Q : Exit → Act → World → Prop} {rest : List Oper} {o : Oper} {a : Act} {w : World} (v : Value) (w' : World)
    (hg : o.guard = none) (hr : (execOp a.eval o).run P w = .ok (.value v) w') (hK : wpList P ops Q rest (a.put o.dst v) w') : wpList P ops Q (o :: rest) a w :=
  wpList_plain hg fun K hk => by
    unfold Oper.wp
    rw [hr]
    exact hk _ _ hK

/-! ### byte slices -/
/-- v is a slice whose bytes are l. -/
def Bs (w : World) (v : Value) (l : List UInt8) : Prop :=
  ∃ ao cap, v = .slice ao l.length cap ∧ l.length ≤ cap ∧ cap ≤ 9223372036854775807 ∧ (ao = none → cap = 0) ∧
    ∀ x, ao = some x → (0 < l.length → x.spot = none) ∧ ∀ i, i < l.length → w.cell? ⟨x.block, x.off + i, none⟩ = some (.int .u8 (l.getD i 0).toNat)

theorem Bs.below {a b : World} {v : Value} {l : List UInt8} (h : Bs a v l) (k : Below a.heap.size a b) : Bs b v l := by
  obtain ⟨ao, cap, rfl, h1, h2, h3, h4⟩ := h
  exact ⟨ao, cap, rfl, h1, h2, h3, fun x hx => ⟨(h4 x hx).1, fun i hi => below_cell k ((h4 x hx).2 i hi)⟩⟩

theorem Bs.cons {w : World} {v : Value} {l : List UInt8} (h : Bs w v l) (hl : 0 < l.length) :
    ∃ b o cap, v = .slice (some ⟨b, o, none⟩) l.length cap ∧ l.length ≤ cap ∧ cap ≤ 9223372036854775807 ∧ ∀ i, i < l.length → w.cell? ⟨b, o + i, none⟩ = some (.int .u8 (l.getD i 0).toNat) := by
  obtain ⟨ao, cap, rfl, h1, h2, h3, h4⟩ := h
  cases ao with
  | none => have := h3 rfl; omega
  | some x =>
    obtain ⟨b, o, sp⟩ := x
    obtain ⟨hs, hc⟩ := h4 _ rfl
    have hs := hs hl
    simp only at hs
    subst hs
    exact ⟨b, o, cap, rfl, h1, by omega, hc⟩

theorem Bs.len {w : World} {ao : Option Addr} {n cap : Nat} {l : List UInt8} (h : Bs w (.slice ao n cap) l) : n = l.length := by
  obtain ⟨_, _, e, _⟩ := h
  injection e

theorem Bs.nil (w : World) : Bs w (.slice none 0 0) [] := ⟨none, 0, rfl, by simp, by simp, fun _ => rfl, fun x h => by cases h⟩

theorem Bs.of_cells {w : World} {b o cap : Nat} {l : List UInt8} (h1 : l.length ≤ cap) (h2 : cap ≤ 9223372036854775807)
    (h : ∀ i, i < l.length → w.cell? ⟨b, o + i, none⟩ = some (.int .u8 (l.getD i 0).toNat)) : Bs w (.slice (some ⟨b, o, none⟩) l.length cap) l :=
  ⟨_, cap, rfl, h1, h2, by simp, fun x hx => by cases hx; exact ⟨fun _ => rfl, h⟩⟩

/-- what a call owns reads as bytes -/
theorem Bs.of_own {w : World} {base : Nat} {e : TypeId} {v : Value} {n : Nat} {l : List UInt8} (h : w.ownsRow base e 1 v n (l.map fun c => .int .u8 c.toNat)) : Bs w v l := by
  obtain ⟨hn, h2⟩ := h
  simp only [List.length_map, Nat.mul_one] at hn
  subst hn
  rcases h2 with ⟨rfl, h0⟩ | ⟨g, cap, cur, rfl, hg, hh, hle, hm, hcs, ht⟩
  · have : l = [] := List.eq_nil_of_length_eq_zero h0
    subst this
    exact Bs.nil w
  · refine Bs.of_cells hle (by unfold maxLen at hm; omega) fun i hi => ?_
    rw [Nat.zero_add, cell_of_row w g i cur e (0, 0) hh]
    have : (cur.toList.take (l.length * 1))[i]? = (l.map fun c => Value.int .u8 c.toNat)[i]? := by rw [ht]
    rw [List.getElem?_take, if_pos (by omega)] at this
    simpa [hi, List.getD] using this

/-- a piece of a slice -/
theorem Bs.piece {w : World} {ao : Option Addr} {n cap : Nat} {l : List UInt8} (h : Bs w (.slice ao n cap) l) (lo hi : Nat) (h1 : lo ≤ hi) (h2 : hi ≤ n) :
    Bs w (.slice (if cap = lo then ao else ao.map (·.add lo)) (hi - lo) (cap - lo)) ((l.take hi).drop lo) := by
  obtain ⟨ao', cap', e, h3, h4, h5, h6⟩ := h
  injection e with e1 e2 e3
  subst e1 e2 e3
  have hlen : ((l.take hi).drop lo).length = hi - lo := by simp; omega
  refine ⟨_, _, by rw [hlen], by rw [hlen]; omega, by omega, ?_, ?_⟩
  · intro hn
    split at hn
    · omega
    · have : ao = none := by simpa using hn
      have := h5 this
      omega
  · intro x hx
    split at hx
    · have hz : hi - lo = 0 := by omega
      exact ⟨fun h => by rw [hlen] at h; omega, fun i hi' => by rw [hlen] at hi'; omega⟩
    · obtain ⟨y, rfl, rfl⟩ := Option.map_eq_some_iff.1 hx
      obtain ⟨hs, hc⟩ := h6 y rfl
      obtain ⟨b, o, sp⟩ := y
      by_cases hz : hi - lo = 0
      · exact ⟨fun h => by rw [hlen] at h; omega, fun i hi' => by rw [hlen] at hi'; omega⟩
      have hs := hs (by omega)
      simp only at hs
      subst hs
      rw [Addr.add_lit]
      refine ⟨fun _ => rfl, fun i hi' => ?_⟩
      rw [hlen] at hi'
      show w.cell? ⟨b, o + lo + i, none⟩ = _
      rw [Nat.add_assoc, hc (lo + i) (by omega)]
      simp [List.getD, List.getElem?_take, show lo + i < hi by omega]

theorem Bs.from {w : World} {ao : Option Addr} {n cap : Nat} {l : List UInt8} (h : Bs w (.slice ao n cap) l) (lo : Nat) (h2 : lo ≤ n) :
    Bs w (.slice (if cap = lo then ao else ao.map (·.add lo)) (n - lo) (cap - lo)) (l.drop lo) := by
  have := h.piece lo n h2 (Nat.le_refl _)
  have e : l.take n = l := by rw [h.len, List.take_length]
  rwa [e] at this

/-- string(b) -/
theorem run_string_bs {P : Program} {w : World} {ao : Option Addr} {n cap : Nat} {l : List UInt8} (h : Bs w (.slice ao n cap) l) (src dst e : TypeId)
    (hs : P.underlying src = some (.slice e)) (he : P.underlying e = some (.int .u8)) (hd : P.underlying dst = some .string) :
    (convert src dst (.slice ao n cap)).run P w = .ok (.string ⟨l.toArray⟩) w := by
  obtain ⟨ao', cap', e0, h3, h4, h5, h6⟩ := h
  injection e0 with e1 e2 e3
  subst e1 e2 e3
  cases ao with
  | none =>
    have := h5 rfl
    have hl : l = [] := List.eq_nil_of_length_eq_zero (by omega)
    subst hl
    rw [run_convert_bytes_string w src dst e none _ cap hs he hd]
    rfl
  | some x =>
    obtain ⟨b, o, sp⟩ := x
    obtain ⟨hsp, hc⟩ := h6 _ rfl
    exact run_convert_bytes_back w src dst e ⟨b, o, sp⟩ cap l hs he hd fun j hj => by
      have hsp := hsp (by omega)
      simp only at hsp
      subst hsp
      rw [Addr.add_lit, hc j hj]
      simp [List.getD, hj]

/-! ### errors by their numbers -/
/-- the error of number k (0: nil), where the sentinels lie at the addresses 'as' -/
def ev (al : List Addr) (k : Nat) : Value := if k = 0 then .nilIface else .iface 235 (.pointer al[k - 1]?)

/-- the tables of unicode/utf8, where the seat has them -/
def tabA : Nat := 29
def tabB : Nat := 30
/-- a list of variables, without the tables -/
def errG (gs : List Nat) : List Nat := gs.filter fun g => !(Nat.beq g tabA || Nat.beq g tabB)
/-- the variables that are listed: those in the list with a great number are not -/
def lst (gs : List Nat) : List Nat := gs.filter fun g => Nat.blt g 1000000000
theorem lst_mem {gs : List Nat} {g : Nat} : g ∈ lst gs ↔ g ∈ gs ∧ g < 1000000000 := by simp [lst]
/-- the package-level variables of the errors gs hold the pointers al, no two of them the same; the tables in gs hold what their texts lay -/
structure SentL (w : World) (gs : List Nat) (al : List Addr) : Prop where
  len : al.length = (errG gs).length
  nd : ∀ (i j g g' : Nat), (errG gs)[i]? = some g → g ∈ lst gs → (errG gs)[j]? = some g' → g' ∈ lst gs → al[i]? = al[j]? → i = j
  var : ∀ i g, (errG gs)[i]? = some g → g ∈ lst gs → w.cell? ⟨g, 0, none⟩ = some (ev al (i + 1))
  row : ∀ a ∈ al, ∃ c t, w.heap[a.block]? = some (.cells c t (0, 0))
  tab : tabA ∈ lst gs → tabB ∈ lst gs → Lib.Utf8Tabs tabA tabB w
  lt : ∀ g ∈ lst gs, g < w.heap.size
theorem errG_mem {gs : List Nat} {i g : Nat} (h : (errG gs)[i]? = some g) : g ∈ gs := (List.mem_filter.1 (List.mem_of_getElem? h)).1

theorem tabs_keep {w w' : World} {g3 g4 : Nat} (h : Lib.Utf8Tabs g3 g4 w) (h1 : ∀ o, w'.cell? ⟨g3, o, none⟩ = w.cell? ⟨g3, o, none⟩) (h2 : ∀ o, w'.cell? ⟨g4, o, none⟩ = w.cell? ⟨g4, o, none⟩) : Lib.Utf8Tabs g3 g4 w' :=
  ⟨fun c hc => (h1 c).trans (h.1 c hc), fun i hi => ⟨(h2 _).trans (h.2 i hi).1, (h2 _).trans (h.2 i hi).2⟩⟩
theorem SentL.below {a b : World} {gs : List Nat} {al : List Addr} (h : SentL a gs al) (k : Below a.heap.size a b) : SentL b gs al :=
  ⟨h.len, h.nd, fun i g hi hl => below_cell k (h.var i g hi hl), fun x hx => by
    obtain ⟨c, t, hc⟩ := h.row x hx
    exact ⟨c, t, by rw [k.block x.block (Array.getElem?_eq_some_iff.1 hc).1]; exact hc⟩, fun h1 h2 => Utf8Tabs_below (h.tab h1 h2) k, fun g hg => Nat.lt_of_lt_of_le (h.lt g hg) k.size⟩

/-- the numbers of the errors' variables, by DOC.md's table -/
def gs : List Nat := [5, 6, 7, 2, 8, 9, 10, 11, 1, 12, 13, 14, 15, 16, 4, 17, 18, 19, 20, 21, 22, 3, 23, 0, 24, 25, 26, 27]
/-- the errors' variables, and the tables -/
def gsT : List Nat := gs ++ [tabA, tabB]
/-- a list of variables whose errors are all of them -/
class OkG (l : List Nat) : Prop where
  eq : errG l = gs
instance okG : OkG gs := ⟨by decide⟩
instance okT : OkG gsT := ⟨by decide⟩
abbrev Sent (w : World) (al : List Addr) : Prop := SentL w gs al
/-- error k + 1 is listed -/
class HasE (l : List Nat) (k : Nat) : Prop where
  eq : (errG l)[k]? = gs[k]?
  lt : ∀ g, gs[k]? = some g → g ∈ lst l
theorem hasE_of {l : List Nat} [h : OkG l] (k : Nat) (hk : (gs[k]?).any (fun g => Nat.blt g 1000000000) = true) : HasE l k := ⟨by rw [OkG.eq], fun g hg => by
  rw [hg] at hk
  refine lst_mem.2 ⟨?_, Nat.le_of_ble_eq_true hk⟩
  have h1 : g ∈ errG l := by rw [OkG.eq]; exact List.mem_of_getElem? hg
  exact (List.mem_filter.1 h1).1⟩
instance hasE0 {l : List Nat} [OkG l] : HasE l 0 := hasE_of 0 (by decide)
instance hasE1 {l : List Nat} [OkG l] : HasE l 1 := hasE_of 1 (by decide)
instance hasE2 {l : List Nat} [OkG l] : HasE l 2 := hasE_of 2 (by decide)
instance hasE3 {l : List Nat} [OkG l] : HasE l 3 := hasE_of 3 (by decide)
instance hasE4 {l : List Nat} [OkG l] : HasE l 4 := hasE_of 4 (by decide)
instance hasE5 {l : List Nat} [OkG l] : HasE l 5 := hasE_of 5 (by decide)
instance hasE6 {l : List Nat} [OkG l] : HasE l 6 := hasE_of 6 (by decide)
instance hasE7 {l : List Nat} [OkG l] : HasE l 7 := hasE_of 7 (by decide)
instance hasE8 {l : List Nat} [OkG l] : HasE l 8 := hasE_of 8 (by decide)
instance hasE9 {l : List Nat} [OkG l] : HasE l 9 := hasE_of 9 (by decide)
instance hasE10 {l : List Nat} [OkG l] : HasE l 10 := hasE_of 10 (by decide)
instance hasE11 {l : List Nat} [OkG l] : HasE l 11 := hasE_of 11 (by decide)
instance hasE12 {l : List Nat} [OkG l] : HasE l 12 := hasE_of 12 (by decide)
instance hasE13 {l : List Nat} [OkG l] : HasE l 13 := hasE_of 13 (by decide)
instance hasE14 {l : List Nat} [OkG l] : HasE l 14 := hasE_of 14 (by decide)
instance hasE15 {l : List Nat} [OkG l] : HasE l 15 := hasE_of 15 (by decide)
instance hasE16 {l : List Nat} [OkG l] : HasE l 16 := hasE_of 16 (by decide)
instance hasE17 {l : List Nat} [OkG l] : HasE l 17 := hasE_of 17 (by decide)
instance hasE18 {l : List Nat} [OkG l] : HasE l 18 := hasE_of 18 (by decide)
instance hasE19 {l : List Nat} [OkG l] : HasE l 19 := hasE_of 19 (by decide)
instance hasE20 {l : List Nat} [OkG l] : HasE l 20 := hasE_of 20 (by decide)
instance hasE21 {l : List Nat} [OkG l] : HasE l 21 := hasE_of 21 (by decide)
instance hasE22 {l : List Nat} [OkG l] : HasE l 22 := hasE_of 22 (by decide)
instance hasE23 {l : List Nat} [OkG l] : HasE l 23 := hasE_of 23 (by decide)
instance hasE24 {l : List Nat} [OkG l] : HasE l 24 := hasE_of 24 (by decide)
instance hasE25 {l : List Nat} [OkG l] : HasE l 25 := hasE_of 25 (by decide)
instance hasE26 {l : List Nat} [OkG l] : HasE l 26 := hasE_of 26 (by decide)
instance hasE27 {l : List Nat} [OkG l] : HasE l 27 := hasE_of 27 (by decide)
/-- a list that has errors 1 and 4 -/
class Ok2 (l : List Nat) : Prop where
  h0 : HasE l 0
  h3 : HasE l 3
instance ok2_0 {l : List Nat} [h : Ok2 l] : HasE l 0 := h.h0
instance ok2_3 {l : List Nat} [h : Ok2 l] : HasE l 3 := h.h3
instance ok2_all {l : List Nat} [OkG l] : Ok2 l := ⟨inferInstance, inferInstance⟩
theorem gs_sub {l : List Nat} [OkG l] : ∀ g ∈ gs, g ∈ l := fun g hg => by
  rw [← OkG.eq (l := l)] at hg
  exact (List.mem_filter.1 hg).1
theorem lst_sub {l : List Nat} [OkG l] {g : Nat} (h : g ∈ lst gs) : g ∈ lst l := lst_mem.2 ⟨gs_sub g (lst_mem.1 h).1, (lst_mem.1 h).2⟩
theorem SentL.std {w : World} {l : List Nat} {al : List Addr} [OkG l] (h : SentL w l al) : Sent w al where
  len := h.len.trans (by rw [OkG.eq, OkG.eq])
  nd := fun i j g g' hi hl hj hl' e => h.nd i j g g' (by rw [OkG.eq] at hi ⊢; exact hi) (lst_sub hl) (by rw [OkG.eq] at hj ⊢; exact hj) (lst_sub hl') e
  var := fun i g hi hl => h.var i g (by rw [OkG.eq] at hi ⊢; exact hi) (lst_sub hl)
  row := h.row
  tab := fun h1 h2 => h.tab (lst_sub h1) (lst_sub h2)
  lt := fun g hg => h.lt g (lst_sub hg)

theorem ev_zero (al : List Addr) : ev al 0 = .nilIface := rfl

@[go_sem] theorem eqGuard_ev_nil (op : BinOp) (t : TypeId) (x : Operand) (c : Value) (al : List Addr) (k : Nat) : eqGuard op t x (.const c) (ev al k) .nilIface = pure () := by
  unfold ev
  split
  · exact eqGuard_nil_constR op t x c
  · exact eqGuard_at_iface op t x _ _ _ _
theorem errorIface : Tryd.prog.underlying 32 = some (.interface (Tryd.prog.methodsAt 32)) := by kernel_rfl
@[go_sem] theorem run_eql_ev_nil (al : List Addr) (k : Nat) (w : World) : (binOp .eql 32 (ev al k) .nilIface).run Tryd.prog w = .ok (.bool (decide (k = 0))) w := by
  unfold ev
  split
  · subst k
    exact run_eql_nil_nil w _ errorIface
  · rename_i hk
    simp only [hk, decide_false]
    exact run_eql_held_nil w _ _ _ errorIface
@[go_sem] theorem run_neq_ev_nil (al : List Addr) (k : Nat) (w : World) : (binOp .neq 32 (ev al k) .nilIface).run Tryd.prog w = .ok (.bool (!decide (k = 0))) w := by
  unfold ev
  split
  · subst k
    exact run_neq_nil_nil w _ errorIface
  · rename_i hk
    simp only [hk, decide_false]
    exact run_neq_held_nil w _ _ _ errorIface
/-! ### the ends of walks -/
theorem ret1 {a a' : Value} (h1 : a = a') : Ending.returned a = .returned a' := by rw [h1]
theorem ret2 {a b a' b' : Value} (h1 : a = a') (h2 : b = b') : Ending.returned (.tuple #[a, b]) = .returned (.tuple #[a', b']) := by rw [h1, h2]
theorem ret3 {a b c a' b' c' : Value} (h1 : a = a') (h2 : b = b') (h3 : c = c') : Ending.returned (.tuple #[a, b, c]) = .returned (.tuple #[a', b', c']) := by rw [h1, h2, h3]
theorem bool_eq {p q : Bool} (h : p = q) : Value.bool p = .bool q := by rw [h]
theorem int_eq {k : IntKind} {p q : Int} (h : p = q) : Value.int k p = .int k q := by rw [h]
end Go.Proofs.YtoliiompofonlaaDoor
