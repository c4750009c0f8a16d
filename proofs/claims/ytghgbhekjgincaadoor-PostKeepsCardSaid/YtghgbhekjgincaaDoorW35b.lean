
/- The walks of chapter 35 (post) at boxes of ints: New, Len, Lost, Put, Drop. -/
import Derived.Test.YtghgbhekjgincaaDoorW35
import Derived.Test.YtghgbhekjgincaaDoorErr
import Derived.Conc.LoneSelectN
namespace Go.Proofs.YtghgbhekjgincaaDoor
open Go.Conc Go.RowKit

set_option maxHeartbeats 400000 in
theorem lost35_any {w : World} {g : Nat} {n : Int} (h1 : w.cell? ⟨g, 1, none⟩ = some (.int .i64 n)) :
    Calls Tryd.prog 21 #[.pointer (some ⟨g, 0, none⟩)] w fun e w' => e = .returned (.int .i64 n) ∧ w' = w := by
  go_enter Tryd.func21, Tryd.ntmps21
  go_wp2
  go_ret
  exact ⟨rfl, rfl⟩
set_option maxHeartbeats 400000 in
theorem len35_any {w : World} {g c cap s r : Nat} {buf : Array Value} (h0 : w.cell? ⟨g, 0, none⟩ = some (.chan (some c))) (hc : w.heap[c]? = some (.chan cap buf false s r false))  :
    Calls Tryd.prog 20 #[.pointer (some ⟨g, 0, none⟩)] w fun e w' => e = .returned (.int .i64 buf.size) ∧ w' = w := by
  have hl := run_len_chan (P := Tryd.prog) 126 3 Tryd.underlying126 hc
  simp only [goInt] at hl
  go_enter Tryd.func20, Tryd.ntmps20
  go_wp2
  go_ret
  exact ⟨rfl, rfl⟩
set_option maxHeartbeats 400000 in
theorem new35_any {w : World} (n : Nat) (h : 1 ≤ n) (h2 : n ≤ 16) :
    Calls Tryd.prog 16 #[.int .i64 n] w fun e w' => e = .returned (.tuple #[.pointer (some ⟨w.heap.size + 1, 0, none⟩), .nilIface]) ∧ w' = (w.alloc (.chan n #[] false 0 0 false)).alloc (.cells #[.chan (some w.heap.size), .int .i64 0] 128) := by
  obtain ⟨i, hi, hb⟩ : ∃ i, Tryd.prog.info? 3 = some i ∧ i.bytes = 8 := by
    have h : (Tryd.prog.info? 3).map (·.bytes) = some 8 := by kernel_rfl
    exact Option.map_eq_some_iff.1 h
  have hm := run_makeChan (P := Tryd.prog) (w := w) Tryd.underlying126 hi .i64 n (by omega) (by rw [hb]; omega)
  have t1 : decide ((n : Int) < 1) = false := by simp; omega
  have t2 : decide ((16 : Int) < n) = false := by simp; omega
  clear h h2
  go_enter Tryd.func16, Tryd.ntmps16
  go_wp2
  go_ret2
  exact ⟨rfl, rfl⟩

theorem cell_setChan {w : World} {c cap s r : Nat} {buf : Array Value} {cl tm : Bool} {p : Addr} (h : p.block ≠ c) : (w.setChan c cap buf cl s r tm).cell? p = w.cell? p := by
  simp [World.cell?, World.setChan, Array.getElem?_setIfInBounds_ne (Ne.symm h)]
theorem frozen_setChan {w : World} {c cap s r : Nat} {buf : Array Value} {cl tm : Bool} {p : Addr} (h : p.block ≠ c) : (w.setChan c cap buf cl s r tm).frozen? p = w.frozen? p := by
  simp [World.frozen?, World.setChan, Array.getElem?_setIfInBounds_ne (Ne.symm h)]

set_option maxHeartbeats 400000 in
theorem Put35_room {w : World} {g c cap s r : Nat} {buf : Array Value} (x : Int) (h0 : w.cell? ⟨g, 0, none⟩ = some (.chan (some c))) (hc : w.heap[c]? = some (.chan cap buf false s r false)) (hr : buf.size < cap) :
    Calls Tryd.prog 17 #[.pointer (some ⟨g, 0, none⟩), .int .i64 x] w fun e w' => e = .returned (.bool true) ∧ w' = w.setChan c cap (buf.push (.int .i64 x)) false (s + 1) r false := by
  have H := Lib.hid (put35_room x h0 hc hr)
  clear hr
  go_enter Tryd.func17, Tryd.ntmps17
  go_wp2_with (go_at_call 83; refine (H.out).mono ?_; rintro e w1 ⟨rfl, rfl⟩)
  go_ret
  exact ⟨rfl, rfl⟩
set_option maxHeartbeats 400000 in
theorem Put35_full {w : World} {g c cap s r : Nat} {buf : Array Value} (x n : Int) (h0 : w.cell? ⟨g, 0, none⟩ = some (.chan (some c))) (h1 : w.cell? ⟨g, 1, none⟩ = some (.int .i64 n)) (hf : w.frozen? ⟨g, 1, none⟩ = false) (hn : -9223372036854775808 ≤ n) (hn2 : n < 9223372036854775807)
    (hc : w.heap[c]? = some (.chan cap buf false s r false)) (hr : cap ≤ buf.size) :
    Calls Tryd.prog 17 #[.pointer (some ⟨g, 0, none⟩), .int .i64 x] w fun e w' => e = .returned (.bool false) ∧ w' = w.setCell ⟨g, 1, none⟩ (.int .i64 (n + 1)) := by
  have H := Lib.hid (put35_full x h0 hc hr)
  clear hr
  go_enter Tryd.func17, Tryd.ntmps17
  go_wp2_with (go_at_call 83; refine (H.out).mono ?_; rintro e w1 ⟨rfl, rfl⟩)
  go_ret
  exact ⟨rfl, rfl⟩
set_option maxHeartbeats 400000 in
theorem Drop35_none {w : World} {g c cap s r : Nat} (h0 : w.cell? ⟨g, 0, none⟩ = some (.chan (some c))) (hc : w.heap[c]? = some (.chan cap #[] false s r false)) :
    Calls Tryd.prog 19 #[.pointer (some ⟨g, 0, none⟩)] w fun e w' => e = .returned (.bool false) ∧ w' = w := by
  have H := Lib.hid (take35_none h0 hc)
  go_enter Tryd.func19, Tryd.ntmps19
  go_wp2_with (go_at_call 18; refine (H.out).mono ?_; rintro e w1 ⟨rfl, rfl⟩)
  go_ret
  exact ⟨rfl, rfl⟩
set_option maxHeartbeats 400000 in
theorem Drop35_some {w : World} {g c cap s r : Nat} {buf : Array Value} (x n : Int) (h0 : w.cell? ⟨g, 0, none⟩ = some (.chan (some c))) (h1 : w.cell? ⟨g, 1, none⟩ = some (.int .i64 n)) (hf : w.frozen? ⟨g, 1, none⟩ = false) (hn : -9223372036854775808 ≤ n) (hn2 : n < 9223372036854775807)
    (hc : w.heap[c]? = some (.chan cap buf false s r false)) (hr : 0 < buf.size) (hx : buf.getD 0 undef = .int .i64 x) (hg : g ≠ c) :
    Calls Tryd.prog 19 #[.pointer (some ⟨g, 0, none⟩)] w fun e w' => e = .returned (.bool true) ∧ w' = (w.setChan c cap (buf.extract 1 buf.size) false s (r + 1) false).setCell ⟨g, 1, none⟩ (.int .i64 (n + 1)) := by
  have H := Lib.hid (take35_some x h0 hc hr hx)
  have k1 := (cell_setChan (w := w) (cap := cap) (s := s) (r := r + 1) (buf := buf.extract 1 buf.size) (cl := false) (tm := false) (p := ⟨g, 1, none⟩) hg).trans h1
  have k2 := (frozen_setChan (w := w) (cap := cap) (s := s) (r := r + 1) (buf := buf.extract 1 buf.size) (cl := false) (tm := false) (p := ⟨g, 1, none⟩) hg).trans hf
  obtain ⟨W, hW⟩ : ∃ W, W = w.setChan c cap (buf.extract 1 buf.size) false s (r + 1) false := ⟨_, rfl⟩
  rw [← hW] at H k1 k2 ⊢
  clear hr hx h0 h1 hf hc hW hg
  go_enter Tryd.func19, Tryd.ntmps19
  go_wp2_with (go_at_call 18; refine (H.out).mono ?_; rintro e w1 ⟨rfl, rfl⟩)
  go_ret
  exact ⟨rfl, rfl⟩
end Go.Proofs.YtghgbhekjgincaaDoor
