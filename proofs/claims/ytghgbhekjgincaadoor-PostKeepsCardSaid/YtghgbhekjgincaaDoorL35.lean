
/- The walk of the statement PostKeeps. -/
import Derived.Test.YtghgbhekjgincaaDoorW35d
namespace Go.Proofs.YtghgbhekjgincaaDoor
open Go.Conc Go.RowKit

def ints (xs : List Int) : Array Value := (xs.map fun x => Value.int .i64 x).toArray
/-- what holds of the boxes' books at a round -/
structure Books (P T L lost : Int) (xs : List Int) (R : Nat) (i : Nat) : Prop where
  sum : P = T + xs.length + lost
  asc : xs.Pairwise (· < ·)
  above : ∀ x ∈ xs, L < x ∧ x < P
  last : L < P
  low : -1 ≤ L
  t0 : 0 ≤ T
  l0 : 0 ≤ lost
  top : P ≤ i
  room : xs.length ≤ R
theorem Books.start (R : Nat) : Books 0 0 (-1) 0 [] R 0 := ⟨by simp, List.Pairwise.nil, by simp, by omega, by omega, by omega, by omega, by simp, by simp⟩
theorem Books.putRoom {P T L lost : Int} {xs : List Int} {R i : Nat} (h : Books P T L lost xs R i) (hr : xs.length < R) : Books (P + 1) T L lost (xs ++ [P]) R (i + 1) where
  sum := by have := h.sum; simp; omega
  asc := by
    rw [List.pairwise_append]
    exact ⟨h.asc, by simp, fun a ha b hb => by simp at hb; subst hb; exact (h.above a ha).2⟩
  above := fun x hx => by
    rcases List.mem_append.1 hx with hx | hx
    · have := h.above x hx; omega
    · simp at hx; subst hx; have := h.last; omega
  last := by have := h.last; omega
  low := h.low
  t0 := h.t0
  l0 := h.l0
  top := by have := h.top; omega
  room := by simp; omega
theorem Books.putFull {P T L lost : Int} {xs : List Int} {R i : Nat} (h : Books P T L lost xs R i) : Books (P + 1) T L (lost + 1) xs R (i + 1) where
  sum := by have := h.sum; omega
  asc := h.asc
  above := fun x hx => by have := h.above x hx; omega
  last := by have := h.last; omega
  low := h.low
  t0 := h.t0
  l0 := by have := h.l0; omega
  top := by have := h.top; omega
  room := h.room
theorem Books.idle {P T L lost : Int} {xs : List Int} {R i : Nat} (h : Books P T L lost xs R i) : Books P T L lost xs R (i + 1) :=
  ⟨h.sum, h.asc, h.above, h.last, h.low, h.t0, h.l0, by have := h.top; omega, h.room⟩
theorem Books.take {P T L lost x : Int} {xs : List Int} {R i : Nat} (h : Books P T L lost (x :: xs) R i) : L < x ∧ Books P (T + 1) x lost xs R (i + 1) := by
  have h1 := h.above x (List.mem_cons_self ..)
  refine ⟨h1.1, ?_, (List.pairwise_cons.1 h.asc).2, fun y hy => ⟨(List.pairwise_cons.1 h.asc).1 y hy, (h.above y (List.mem_cons_of_mem _ hy)).2⟩, h1.2, by have := h.low; omega, by have := h.t0; omega, h.l0, by have := h.top; omega, by have := h.room; simp at this; omega⟩
  have := h.sum; simp at this; omega
theorem Books.drop {P T L lost x : Int} {xs : List Int} {R i : Nat} (h : Books P T L lost (x :: xs) R i) : Books P T L (lost + 1) xs R (i + 1) := by
  refine ⟨?_, (List.pairwise_cons.1 h.asc).2, fun y hy => h.above y (List.mem_cons_of_mem _ hy), h.last, h.low, h.t0, by have := h.l0; omega, by have := h.top; omega, by have := h.room; simp at this; omega⟩
  have := h.sum; simp at this; omega
theorem Books.of_eq {P P' T T' L lost : Int} {xs : List Int} {R i : Nat} (h : Books P T L lost xs R i) (e1 : P' = P) (e2 : T' = T) : Books P' T' L lost xs R i := by subst e1 e2; exact h
theorem Books.tmax {P T L lost : Int} {xs : List Int} {R i : Nat} (h : Books P T L lost xs R i) : T ≤ i := by
  have := h.sum; have := h.top; have := h.l0; omega
theorem Books.lmax {P T L lost : Int} {xs : List Int} {R i : Nat} (h : Books P T L lost xs R i) : lost ≤ i := by
  have := h.sum; have := h.top; have := h.t0; omega
theorem ints_push (xs : List Int) (x : Int) : (ints xs).push (.int .i64 x) = ints (xs ++ [x]) := by simp [ints]
theorem ints_size (xs : List Int) : (ints xs).size = xs.length := by simp [ints]
theorem ints_head (x : Int) (xs : List Int) : (ints (x :: xs)).getD 0 undef = .int .i64 x := by simp [ints]
theorem ints_tail (x : Int) (xs : List Int) : (ints (x :: xs)).extract 1 (ints (x :: xs)).size = ints xs := by
  simp only [ints, List.map_cons]
  simp
  exact List.take_of_length_le (by simp)

theorem Box35.alloc {base : Nat} {w : World} {g c room s r : Nat} {buf : Array Value} {lost : Int} (h : Box35 base w g c room s r buf lost) (o : Obj) : Box35 base (w.alloc o) g c room s r buf lost := by
  have k := (Below.refl w.heap.size w).alloc (Nat.le_refl _) o
  refine ⟨below_cell k h.c0, below_cell k h.c1, ?_, ?_, h.ne, h.bg, h.bc⟩
  · have hlt := World.block_lt_of_cell? w _ h.c1
    have hf := h.fz
    unfold World.frozen? at hf ⊢
    rw [show (w.alloc o).heap[(⟨g, 1, none⟩ : Addr).block]? = w.heap[(⟨g, 1, none⟩ : Addr).block]? from k.block g hlt]
    exact hf
  · exact (k.block c (Array.getElem?_eq_some_iff.1 h.ch).1).trans h.ch
theorem len35_ints {base : Nat} {w : World} {g c room s r : Nat} {xs : List Int} {lost : Int} (h : Box35 base w g c room s r (ints xs) lost) :
    Calls Tryd.prog 20 #[.pointer (some ⟨g, 0, none⟩)] w fun e w' => e = .returned (.int .i64 xs.length) ∧ w' = w := by
  rw [← ints_size xs]
  exact len35_any h.c0 h.ch

set_option maxRecDepth 100000 in
set_option maxHeartbeats 1000000 in
theorem postKeeps_walk {w : World} {v : Value} {l : List Act35} (room : Int) (hr1 : -9223372036854775808 ≤ room) (hr2 : room ≤ 9223372036854775807) (h : Acts w v l) :
    Calls Tryd.prog 3 #[.int .i64 room, v] w fun e w' => e = .returned (.bool true) ∧ Below w.heap.size w w' := by
  have HA := Lib.hid h
  clear h
  obtain ⟨m, hw, hm⟩ : ∃ m : Int, IntKind.u64.wrap room = m ∧ 0 ≤ m := ⟨_, rfl, by rw [IntKind.wrap_u64]; omega⟩
  have hm2 : m ≤ 18446744073709551615 := by rw [← hw, IntKind.wrap_u64]; omega
  obtain ⟨R, hR⟩ : ∃ R : Nat, (1 + m % 16) = (R : Int) := ⟨(1 + m % 16).toNat, by omega⟩
  have HR : Hid (1 ≤ R ∧ R ≤ 16) := by show _ ∧ _; omega
  have HB0 : Hid (Below w.heap.size w w) := Below.refl _ _
  go_enter Tryd.func3, Tryd.ntmps3
  go_wp2_with fail
  refine (alive35_any w).mono ?_
  rintro e w1 ⟨rfl, hB1⟩
  have HB1 := Lib.hid (below_then HB0.out hB1)
  have HP1 := Lib.hid hB1
  clear hB1
  go_wp2_with fail
  refine (long35_any (HA.out.below HB1.out)).mono ?_
  rintro e w2 ⟨rfl, hB⟩
  have HB2 := Lib.hid (below_then HB1.out hB)
  clear hB
  cases hlong : longM l with
  | true =>
    go_wp2_with fail
    go_ret
    exact ⟨rfl, HB2.out⟩
  | false =>
    go_wp2_with fail
    refine (new35_any R HR.out.1 HR.out.2).mono ?_
    rintro e w3 ⟨rfl, hw3⟩
    have H3 : Hid (Box35 w2.heap.size w3 (w2.heap.size + 1) w2.heap.size R 0 0 #[] 0) := by rw [hw3]; exact Box35.new w2 R
    have HB3 : Hid (Below w2.heap.size w2 w3) := by rw [hw3]; exact ((Below.refl _ _).alloc (Nat.le_refl _) _).alloc (by simp) _
    clear hw3
    have b60 : Hid (l.length ≤ 60) := by
      show l.length ≤ 60
      simp only [longM, Bool.or_eq_false_iff, decide_eq_false_iff_not] at hlong
      omega
    clear hlong hR hw hm hm2
    generalize hg : w2.heap.size + 1 = g at *
    clear hg
    rcases HA.out with ⟨rfl, ao, cap, rfl⟩ | ⟨ag, o, cap, rfl, h1, h2⟩
    · go_wp2
      go_rounds 1
      go_ret
      exact ⟨rfl, below_then HB2.out HB3.out⟩
    · have H2 := Lib.hid h2
      clear h2 h1
      go_wp2
      go_loopw [7, 8, 9, 32] (fun p t q j wr => ∃ (i : Nat) (P T L lost : Int) (xs : List Int) (s r : Nat), j = .int .i64 i ∧ p = .int .i64 P ∧ t = .int .i64 T ∧ q = .int .i64 L ∧ i ≤ l.length ∧ Books P T L lost xs R i ∧ Box35 w2.heap.size wr g w2.heap.size R s r (ints xs) lost ∧ Below w2.heap.size w2 wr)
        (fun _ _ _ j _ => l.length - (intOf j).toNat)
      case atStart => exact ⟨0, 0, 0, -1, 0, [], 0, 0, rfl, rfl, rfl, rfl, by omega, Books.start R, H3.out, HB3.out⟩
      case round =>
        obtain ⟨i, P, T, L, lost, xs, s, r, rfl, rfl, rfl, rfl, hi, hk, hx, hB⟩ := hrel
        have HK := Lib.hid hk
        have HX := Lib.hid hx
        have HB := Lib.hid hB
        clear hk hx
        by_cases hlt : i = l.length
        · subst hlt
          go_wp2
          go_ret
          exact ⟨rfl, below_then HB2.out HB.out⟩
        · have hi' : (i : Int) < l.length := by omega
          have hl : i < l.length := by omega
          obtain ⟨a, ha⟩ : ∃ a, l[i]? = some a := ⟨_, List.getElem?_eq_getElem hl⟩
          obtain ⟨c0, c1, c2⟩ := H2.out i a ha
          have d0 := below_cell (below_then HB2.out HB.out) c0
          have d1 := below_cell (below_then HB2.out HB.out) c1
          have d2 := below_cell (below_then HB2.out HB.out) c2
          clear c0 c1 c2
          by_cases h1 : a.k = 1
          · rw [h1] at d0
            cases xs with
            | nil =>
              go_wp2_with fail
              refine (take35_none (HX.out.alloc _).c0 (HX.out.alloc _).ch).mono ?_
              rintro e w5 ⟨rfl, hw5⟩
              have HX5 : Hid (Box35 w2.heap.size w5 g w2.heap.size R s r (ints []) lost) := by rw [hw5]; exact HX.out.alloc _
              have HB5 : Hid (Below w2.heap.size w2 w5) := by rw [hw5]; exact HB.out.alloc HB.out.size _
              have HK5 := Lib.hid HK.out.idle
              clear hw5
              have f0 := HK5.out.t0
              have f1 := HK5.out.l0
              have f2 := HK5.out.top
              have f4 := HK5.out.room
              have f5 := HR.out.2
              have f6 := b60.out
              have f8 := HK5.out.tmax
              have f9 := HK5.out.lmax
              have F3 := Lib.hid HK5.out.sum
              go_wp2_with fail
              refine (len35_ints HX5.out).mono ?_
              rintro e w6 ⟨rfl, rfl⟩
              go_wp2_with fail
              refine (lost35_any HX5.out.c1).mono ?_
              rintro e w7 ⟨rfl, rfl⟩
              go_wp2_with fail
              refine (len35_ints HX5.out).mono ?_
              rintro e w8 ⟨rfl, rfl⟩
              have f7 := b60.out
              go_wp2
              go_roundw
              case rel => exact ⟨i + 1, _, _, _, _, _, _, _, by go_num, rfl, rfl, rfl, by omega, HK5.out.of_eq (by have := F3.out; (try simp at this); omega) (by omega), HX5.out, HB5.out⟩
              case measure => simp [intOf]; omega
              all_goals (exfalso; have := F3.out; (try simp at this); omega)
            | cons x xs =>
              have hxl := HK.out.take.1
              have tx : decide (x ≤ L) = false := by simp; omega
              have HK5 := Lib.hid HK.out.take.2
              have b1 := HK5.out.tmax
              have b2 := HK5.out.t0
              go_wp2_with fail
              refine (take35_some x (HX.out.alloc _).c0 (HX.out.alloc _).ch (by simp [ints]) (ints_head x xs)).mono ?_
              rintro e w5 ⟨rfl, hw5⟩
              have HX5 : Hid (Box35 w2.heap.size w5 g w2.heap.size R s (r + 1) (ints xs) lost) := by
                rw [hw5, ints_tail]; exact (HX.out.alloc _).setChan
              have HB5 : Hid (Below w2.heap.size w2 w5) := by rw [hw5]; exact below_chan (HB.out.alloc HB.out.size _) (HX.out.alloc _)
              clear hw5
              have f0 := HK5.out.t0
              have f1 := HK5.out.l0
              have f2 := HK5.out.top
              have f4 := HK5.out.room
              have f5 := HR.out.2
              have f6 := b60.out
              have f8 := HK5.out.tmax
              have f9 := HK5.out.lmax
              have F3 := Lib.hid HK5.out.sum
              go_wp2_with fail
              refine (len35_ints HX5.out).mono ?_
              rintro e w6 ⟨rfl, rfl⟩
              go_wp2_with fail
              refine (lost35_any HX5.out.c1).mono ?_
              rintro e w7 ⟨rfl, rfl⟩
              go_wp2_with fail
              refine (len35_ints HX5.out).mono ?_
              rintro e w8 ⟨rfl, rfl⟩
              have f7 := b60.out
              go_wp2
              go_roundw
              case rel => exact ⟨i + 1, _, _, _, _, _, _, _, by go_num, rfl, rfl, rfl, by omega, HK5.out.of_eq (by have := F3.out; (try simp at this); omega) (by omega), HX5.out, HB5.out⟩
              case measure => simp [intOf]; omega
              all_goals (exfalso; have := F3.out; (try simp at this); omega)
          · by_cases hput : a.k = 0 ∨ a.k = 3 ∨ a.k = 4 ∨ a.k = 5 ∨ a.k = 6
            · have p1 := HK.out.top
              have p2 := HK.out.last
              have p3 := HK.out.low
              have p4 := b60.out
              have l1 := HK.out.l0
              have l2 := HK.out.lmax
              by_cases hfull : xs.length < R
              · have HK5 := Lib.hid (HK.out.putRoom hfull)
                have HF := Lib.hid hfull
                have p7 : (xs.length : Int) + 1 ≤ 16 := by have := HR.out.2; omega
                have p9 : (xs.length : Int) + 1 ≤ R := by omega
                have p8 : T ≤ 61 := by have := HK.out.tmax; omega
                clear hfull
                rcases hput with hq | hq | hq | hq | hq <;> (
                  rw [hq] at d0
                  go_wp2_with fail
                  refine (Put35_room P (HX.out.alloc _).c0 (HX.out.alloc _).ch (by rw [ints_size]; exact HF.out)).mono ?_
                  rintro e w5 ⟨rfl, hw5⟩
                  have HX5 : Hid (Box35 w2.heap.size w5 g w2.heap.size R (s + 1) r (ints (xs ++ [P])) lost) := by
                    rw [hw5, ← ints_push]; exact (HX.out.alloc _).setChan
                  have HB5 : Hid (Below w2.heap.size w2 w5) := by rw [hw5]; exact below_chan (HB.out.alloc HB.out.size _) (HX.out.alloc _)
                  clear hw5
                  have f0 := HK5.out.t0
                  have f1 := HK5.out.l0
                  have f2 := HK5.out.top
                  have f4 := HK5.out.room
                  have f5 := HR.out.2
                  have f6 := b60.out
                  have f8 := HK5.out.tmax
                  have f9 := HK5.out.lmax
                  have F3 := Lib.hid HK5.out.sum
                  go_wp2_with fail
                  refine (len35_ints HX5.out).mono ?_
                  rintro e w6 ⟨rfl, rfl⟩
                  go_wp2_with fail
                  refine (lost35_any HX5.out.c1).mono ?_
                  rintro e w7 ⟨rfl, rfl⟩
                  go_wp2_with fail
                  refine (len35_ints HX5.out).mono ?_
                  rintro e w8 ⟨rfl, rfl⟩
                  have f7 := b60.out
                  go_wp2
                  go_roundw
                  case rel => exact ⟨i + 1, _, _, _, _, _, _, _, by go_num, rfl, rfl, rfl, by omega, HK5.out.of_eq (by have := F3.out; (try simp at this); omega) (by omega), HX5.out, HB5.out⟩
                  case measure => simp [intOf]; omega
                  all_goals (exfalso; have := F3.out; (try simp at this); omega)
                  )
              · have HK5 := Lib.hid HK.out.putFull
                have HF := Lib.hid hfull
                clear hfull
                rcases hput with hq | hq | hq | hq | hq <;> (
                  rw [hq] at d0
                  go_wp2_with fail
                  refine (Put35_full P lost (HX.out.alloc _).c0 (HX.out.alloc _).c1 (HX.out.alloc _).fz (by omega) (by omega) (HX.out.alloc _).ch (by rw [ints_size]; exact Nat.le_of_not_lt HF.out)).mono ?_
                  rintro e w5 ⟨rfl, hw5⟩
                  have HX5 : Hid (Box35 w2.heap.size w5 g w2.heap.size R s r (ints xs) (lost + 1)) := by
                    rw [hw5]; exact (HX.out.alloc _).lostUp _
                  have HB5 : Hid (Below w2.heap.size w2 w5) := by rw [hw5]; exact below_lost (HB.out.alloc HB.out.size _) (HX.out.alloc _) _
                  clear hw5
                  have f0 := HK5.out.t0
                  have f1 := HK5.out.l0
                  have f2 := HK5.out.top
                  have f4 := HK5.out.room
                  have f5 := HR.out.2
                  have f6 := b60.out
                  have f8 := HK5.out.tmax
                  have f9 := HK5.out.lmax
                  have F3 := Lib.hid HK5.out.sum
                  go_wp2_with fail
                  refine (len35_ints HX5.out).mono ?_
                  rintro e w6 ⟨rfl, rfl⟩
                  go_wp2_with fail
                  refine (lost35_any HX5.out.c1).mono ?_
                  rintro e w7 ⟨rfl, rfl⟩
                  go_wp2_with fail
                  refine (len35_ints HX5.out).mono ?_
                  rintro e w8 ⟨rfl, rfl⟩
                  have f7 := b60.out
                  go_wp2
                  go_roundw
                  case rel => exact ⟨i + 1, _, _, _, _, _, _, _, by go_num, rfl, rfl, rfl, by omega, HK5.out.of_eq (by have := F3.out; (try simp at this); omega) (by omega), HX5.out, HB5.out⟩
                  case measure => simp [intOf]; omega
                  all_goals (exfalso; have := F3.out; (try simp at this); omega)
                  )
            · have q0 : (a.k == 0) = false := by simp; omega
              have q1 : (a.k == 1) = false := by simp; omega
              have q3 : (a.k == 3) = false := by simp; omega
              have q4 : (a.k == 4) = false := by simp; omega
              have q5 : (a.k == 5) = false := by simp; omega
              have q6 : (a.k == 6) = false := by simp; omega
              have l1 := HK.out.l0
              have l2 := HK.out.lmax
              have p4 := b60.out
              clear hput h1
              generalize a.k = k at *
              cases xs with
              | nil =>
                have HK5 := Lib.hid HK.out.idle
                go_wp2_with fail
                refine (Drop35_none (HX.out.alloc _).c0 (HX.out.alloc _).ch).mono ?_
                rintro e w5 ⟨rfl, hw5⟩
                have HX5 : Hid (Box35 w2.heap.size w5 g w2.heap.size R s r (ints []) lost) := by rw [hw5]; exact HX.out.alloc _
                have HB5 : Hid (Below w2.heap.size w2 w5) := by rw [hw5]; exact HB.out.alloc HB.out.size _
                clear hw5
                have f0 := HK5.out.t0
                have f1 := HK5.out.l0
                have f2 := HK5.out.top
                have f4 := HK5.out.room
                have f5 := HR.out.2
                have f6 := b60.out
                have f8 := HK5.out.tmax
                have f9 := HK5.out.lmax
                have F3 := Lib.hid HK5.out.sum
                go_wp2_with fail
                refine (len35_ints HX5.out).mono ?_
                rintro e w6 ⟨rfl, rfl⟩
                go_wp2_with fail
                refine (lost35_any HX5.out.c1).mono ?_
                rintro e w7 ⟨rfl, rfl⟩
                go_wp2_with fail
                refine (len35_ints HX5.out).mono ?_
                rintro e w8 ⟨rfl, rfl⟩
                have f7 := b60.out
                go_wp2
                go_roundw
                case rel => exact ⟨i + 1, _, _, _, _, _, _, _, by go_num, rfl, rfl, rfl, by omega, HK5.out.of_eq (by have := F3.out; (try simp at this); omega) (by omega), HX5.out, HB5.out⟩
                case measure => simp [intOf]; omega
                all_goals (exfalso; have := F3.out; (try simp at this); omega)
              | cons x xs =>
                have HK5 := Lib.hid HK.out.drop
                go_wp2_with fail
                refine (Drop35_some x lost (HX.out.alloc _).c0 (HX.out.alloc _).c1 (HX.out.alloc _).fz (by omega) (by omega) (HX.out.alloc _).ch (by simp [ints]) (ints_head x xs) HX.out.ne).mono ?_
                rintro e w5 ⟨rfl, hw5⟩
                have HX5 : Hid (Box35 w2.heap.size w5 g w2.heap.size R s (r + 1) (ints xs) (lost + 1)) := by
                  rw [hw5, ints_tail]; exact ((HX.out.alloc _).setChan).lostUp _
                have HB5 : Hid (Below w2.heap.size w2 w5) := by rw [hw5]; exact below_lost (below_chan (HB.out.alloc HB.out.size _) (HX.out.alloc _)) ((HX.out.alloc _).setChan) _
                clear hw5
                have f0 := HK5.out.t0
                have f1 := HK5.out.l0
                have f2 := HK5.out.top
                have f4 := HK5.out.room
                have f5 := HR.out.2
                have f6 := b60.out
                have f8 := HK5.out.tmax
                have f9 := HK5.out.lmax
                have F3 := Lib.hid HK5.out.sum
                go_wp2_with fail
                refine (len35_ints HX5.out).mono ?_
                rintro e w6 ⟨rfl, rfl⟩
                go_wp2_with fail
                refine (lost35_any HX5.out.c1).mono ?_
                rintro e w7 ⟨rfl, rfl⟩
                go_wp2_with fail
                refine (len35_ints HX5.out).mono ?_
                rintro e w8 ⟨rfl, rfl⟩
                have f7 := b60.out
                go_wp2
                go_roundw
                case rel => exact ⟨i + 1, _, _, _, _, _, _, _, by go_num, rfl, rfl, rfl, by omega, HK5.out.of_eq (by have := F3.out; (try simp at this); omega) (by omega), HX5.out, HB5.out⟩
                case measure => simp [intOf]; omega
                all_goals (exfalso; have := F3.out; (try simp at this); omega)
end Go.Proofs.YtghgbhekjgincaaDoor
