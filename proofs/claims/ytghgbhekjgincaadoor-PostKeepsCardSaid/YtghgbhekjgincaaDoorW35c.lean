
/- The walks of chapter 35's law: alive. -/
import Derived.Test.YtghgbhekjgincaaDoorW35b
import Derived.Test.YtghgbhekjgincaaDoorBase
namespace Go.Proofs.YtghgbhekjgincaaDoor
open Go.Conc Go.RowKit

/-- a box with its channel, both beyond base -/
structure Box35 (base : Nat) (w : World) (g c room s r : Nat) (buf : Array Value) (lost : Int) : Prop where
  c0 : w.cell? ⟨g, 0, none⟩ = some (.chan (some c))
  c1 : w.cell? ⟨g, 1, none⟩ = some (.int .i64 lost)
  fz : w.frozen? ⟨g, 1, none⟩ = false
  ch : w.heap[c]? = some (.chan room buf false s r false)
  ne : g ≠ c
  bg : base ≤ g
  bc : base ≤ c

theorem Box35.new (w : World) (n : Nat) : Box35 w.heap.size ((w.alloc (.chan n #[] false 0 0 false)).alloc (.cells #[.chan (some w.heap.size), .int .i64 0] 128)) (w.heap.size + 1) w.heap.size n 0 0 #[] 0 where
  c0 := by simp
  c1 := by simp
  fz := by simp
  ch := by
    rw [Below.heap_alloc _ _ _ (by simp)]
    exact heap_alloc_new w _
  ne := by omega
  bg := by omega
  bc := by omega
theorem Box35.setChan {base : Nat} {w : World} {g c room s r s' r' : Nat} {buf buf' : Array Value} {lost : Int} (h : Box35 base w g c room s r buf lost) :
    Box35 base (w.setChan c room buf' false s' r' false) g c room s' r' buf' lost where
  c0 := (cell_setChan h.ne).trans h.c0
  c1 := (cell_setChan h.ne).trans h.c1
  fz := (frozen_setChan h.ne).trans h.fz
  ch := heap_setChan w c room buf' false s' r' false (Array.getElem?_eq_some_iff.1 h.ch).1
  ne := h.ne
  bg := h.bg
  bc := h.bc
theorem only_heap35 {w : World} {p : Addr} {v : Value} {c : Nat} (h : p.block ≠ c) : (w.setCell p v).heap[c]? = w.heap[c]? := by
  simp only [World.setCell]
  rw [Array.getElem?_modify, if_neg h]
theorem Box35.lostUp {base : Nat} {w : World} {g c room s r : Nat} {buf : Array Value} {lost : Int} (h : Box35 base w g c room s r buf lost) (n : Int) :
    Box35 base (w.setCell ⟨g, 1, none⟩ (.int .i64 n)) g c room s r buf n where
  c0 := (World.cell?_setCell_other _ _ _ _ (by simp)).trans h.c0
  c1 := World.cell?_setCell_same _ _ _ h.c1
  fz := by have := h.fz; simp [this]
  ch := by rw [← h.ch]; exact only_heap35 (fun e => h.ne e)
  ne := h.ne
  bg := h.bg
  bc := h.bc
theorem below_chan {base : Nat} {a w : World} {g c room s r s' r' : Nat} {buf buf' : Array Value} {lost : Int} (hb : Below base a w) (h : Box35 base w g c room s r buf lost) : Below base a (w.setChan c room buf' false s' r' false) :=
  below_setChan hb h.bc _ _ _ _ _ _
theorem below_lost {base : Nat} {a w : World} {g c room s r : Nat} {buf : Array Value} {lost : Int} (hb : Below base a w) (h : Box35 base w g c room s r buf lost) (v : Value) : Below base a (w.setCell ⟨g, 1, none⟩ v) :=
  hb.setCell h.bg v

set_option maxRecDepth 100000 in
set_option maxHeartbeats 400000 in
theorem alive35_any (w : World) : Calls Tryd.prog 14 #[] w fun e w' => e = .returned (.bool true) ∧ Below w.heap.size w w' := by
  have HN := Lib.hid (new35_any (w := w) 1 (by decide) (by decide))
  have H0 := Lib.hid (Box35.new w 1)
  obtain ⟨W0, hW⟩ : ∃ W0, W0 = ((w.alloc (.chan 1 #[] false 0 0 false)).alloc (.cells #[.chan (some w.heap.size), .int .i64 0] 128)) := ⟨_, rfl⟩
  have HB : Hid (Below w.heap.size w W0) := by rw [hW]; exact ((Below.refl _ _).alloc (Nat.le_refl _) _).alloc (by simp) _
  rw [← hW] at HN H0
  clear hW
  go_enter Tryd.func14, Tryd.ntmps14
  go_wp2_with fail
  refine (HN.out).mono ?_
  rintro e w1 ⟨rfl, rfl⟩
  go_wp2_with fail
  refine (Put35_room 5 H0.out.c0 H0.out.ch (by decide)).mono ?_
  rintro e w2 ⟨rfl, hw2⟩
  have H2 : Hid (Box35 w.heap.size w2 (w.heap.size + 1) w.heap.size 1 1 0 #[.int .i64 5] 0) := by rw [hw2]; exact H0.out.setChan
  have HB2 : Hid (Below w.heap.size w w2) := by rw [hw2]; exact below_chan HB.out H0.out
  clear hw2
  go_wp2_with fail
  refine (Put35_full 6 0 H2.out.c0 H2.out.c1 H2.out.fz (by decide) (by decide) H2.out.ch (by decide)).mono ?_
  rintro e w3 ⟨rfl, hw3⟩
  have H3 : Hid (Box35 w.heap.size w3 (w.heap.size + 1) w.heap.size 1 1 0 #[.int .i64 5] 1) := by rw [hw3]; exact H2.out.lostUp _
  have HB3 : Hid (Below w.heap.size w w3) := by rw [hw3]; exact below_lost HB2.out H2.out _
  clear hw3
  go_wp2_with fail
  refine (lost35_any H3.out.c1).mono ?_
  rintro e w4 ⟨rfl, rfl⟩
  go_wp2_with fail
  refine (len35_any H3.out.c0 H3.out.ch).mono ?_
  rintro e w5 ⟨rfl, rfl⟩
  go_wp2
  go_ret
  exact ⟨rfl, HB3.out⟩
end Go.Proofs.YtghgbhekjgincaaDoor
