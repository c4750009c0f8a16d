/- The walks on figures: whole.Serial, whole.Figures, the reference's. -/
import Derived.Test.YtjhgocnjhhjkoaaDoorDec
import Derived.Test.YtjhgocnjhhjkoaaDoorL04b
import Derived.Test.YtjhgocnjhhjkoaaDoorReg2
namespace Go.Proofs.YtjhgocnjhhjkoaaDoor
open Go.RowKit

def serS (n : Int) : ByteArray := if n < 0 then ByteArray.empty else ⟨(dec n.toNat).toArray⟩

set_option maxRecDepth 100000 in
set_option maxHeartbeats 1000000 in
theorem wserial_any (n : Int) (w : World) (h1 : -9223372036854775808 ≤ n) (h2 : n ≤ 9223372036854775807) :
    Calls Tryd.prog 29 #[.int .i64 n] w fun e w' => e = .returned (.string (serS n)) ∧ Below w.heap.size w w' := by
  obtain ⟨i, hi, hz0, hz1, hz2⟩ := info_parts info_byte
  by_cases hn : n < 0
  · have e : serS n = ByteArray.empty := if_pos hn
    rw [e]
    clear e
    go_enter Tryd.func29, Tryd.ntmps29
    go_wp2
    go_ret
    exact ⟨rfl, Below.refl _ _⟩
  · obtain ⟨N, rfl⟩ : ∃ N : Nat, n = N := ⟨n.toNat, by omega⟩
    have e : serS N = ⟨(dec N).toArray⟩ := if_neg hn
    rw [e]
    clear e hn h1
    go_enter Tryd.func29, Tryd.ntmps29
    go_wp2
    go_loopw [0, 3] (fun r v wr => ∃ (m k : Nat) (o : List UInt8), r = .int .i64 m ∧ o.length = k ∧ 0 < k ∧ k + m ≤ N / 10 + 1 ∧ dec N = (if m = 0 then [] else dec m) ++ o.reverse ∧ wr.ownsRow w.heap.size 5 1 v k (bv o) ∧ Below w.heap.size w wr)
      (fun r _ _ => (intOf r).toNat)
    case atStart =>
      refine ⟨N / 10, 1, [fig (N % 10)], ?_, rfl, by omega, by omega, ?_, ?_, (Below.refl _ _).alloc (Nat.le_refl _) _⟩
      · exact int_eq (by omega)
      · exact dec_first N
      · exact ⟨rfl, .inr ⟨w.heap.size, 1, #[.int .u8 (48 + (N : Int) % 10)], rfl, Nat.le_refl _, heap_alloc_new w _, by omega, by decide, rfl, by simp [bv, fig_int]⟩⟩
    case round =>
      obtain ⟨m, k, o, rfl, hk, hk0, hkm, hd, ho, hB⟩ := hrel
      have HO := Lib.hid ho
      have HD := Lib.hid hd
      clear ho hd
      obtain ⟨g, cap, rfl, hg, hkc, hgs, hcm⟩ := own_cons HO.out hk0
      by_cases hm : m = 0
      · subst hm
        have HR := Lib.hid (reverse_bv hk0 hk HO.out (by omega))
        go_wp2_with (go_at_call 40; refine (HR.out).mono ?_; rintro e w' ⟨rfl, hg1, ho1⟩; have s1 := str_bs (own_bs ho1))
        go_ret
        refine ⟨?_, hB.grown hg1 hB.size (by simp; omega)⟩
        have e : dec N = [] ++ o.reverse := by simpa using HD.out
        rw [e, List.nil_append]
        rfl
      · have hk19 : k ≤ 19 := by
          have e1 := dec_len 18 N (by omega)
          have e2 := congrArg List.length HD.out
          rw [List.length_append, List.length_reverse] at e2
          omega
        go_wp2_with (at_builtin; refine wpList_append_own _ rfl (.tmp 17) (.tmp 22) 38 rfl w.heap.size 5 i (.int .u8 0) 1 1 Tryd.underlying38 hi hz0 hz1 hz2 rfl (by decide) _ _ _ rfl (HO.out.alloc _) ⟨wr.heap.size, 0, none⟩ 1 1 [.int .u8 (48 + (m : Int) % 10)] rfl rfl ?c1 ?c2 ?c3 ?c4 ?c5 ?_)
        case c1 =>
          intro j u hu
          match j, hu with
          | 0, hu => simp at hu; subst hu; simp [Addr.add]
          | j + 1, hu => simp at hu
        case c2 => intro u hu; simp at hu; subst hu; rfl
        case c3 => unfold maxLen; omega
        case c4 => omega
        case c5 => have := hB.size; simp; omega
        intro v' w1 ho1 hg1 _
        have HO1 : Hid (w1.ownsRow w.heap.size 5 1 v' (k + 1) (bv (o ++ [fig (m % 10)]))) := by
          rw [bv_append]
          have e : bv [fig (m % 10)] = [.int .u8 (48 + (m : Int) % 10)] := by simp [bv, fig_int]
          rw [e]
          exact ho1
        have HB1 : Hid (Below w.heap.size w w1) := (hB.alloc hB.size _).grown hg1 (by have := hB.size; simp; omega) (by simp [Value.ownBlock]; omega)
        have HD1 : Hid (dec N = (if m / 10 = 0 then [] else dec (m / 10)) ++ (o ++ [fig (m % 10)]).reverse) := by
          rw [← dec_step (by omega)]
          exact HD.out
        clear ho1 hg1 hB HD
        obtain ⟨g2, cap2, e2, _⟩ := own_cons HO1.out (by omega)
        subst e2
        go_wp2
        go_roundw
        case rel => exact ⟨m / 10, k + 1, o ++ [fig (m % 10)], int_eq (by omega), by simp; omega, by omega, by omega, HD1.out, HO1.out, HB1.out⟩
        case measure => simp [intOf]; omega

theorem ba_append (l r : List UInt8) : (⟨l.toArray⟩ ++ ⟨r.toArray⟩ : ByteArray) = ⟨(l ++ r).toArray⟩ := by
  apply ByteArray.ext
  simp
theorem bs_alloc (w : World) (c : UInt8) : Bs (w.alloc (.cells #[.int .u8 c.toNat] 5)) (.slice (some ⟨w.heap.size, 0, none⟩) 1 1) [c] := Bs.one (by simp)

set_option maxRecDepth 100000 in
set_option maxHeartbeats 1000000 in
theorem rserial_any (N : Nat) : ∀ w : World, N ≤ 9223372036854775807 →
    Calls Tryd.prog 30 #[.int .i64 N] w fun e w' => e = .returned (.string ⟨(dec N).toArray⟩) ∧ Below w.heap.size w w' := by
  induction N using dec_ind with
  | h0 N h =>
    intro w _
    rw [dec_small h]
    have ef : (((fig N).toNat : Nat) : Int) = 48 + N := by rw [fig_toNat N h]; rfl
    have s1 := str_bs (bs_alloc w (fig N))
    rw [ef] at s1
    have hlt : (N : Int) < 10 := by omega
    clear ef h
    go_enter Tryd.func30, Tryd.ntmps30
    go_wp2
    go_ret
    exact ⟨rfl, below_alloc1 _ _⟩
  | h1 N h ih =>
    intro w hN
    have H : Hid (∀ w : World, Calls Tryd.prog 30 #[.int .i64 ((N : Int) / 10)] w fun e w' => e = .returned (.string ⟨(dec (N / 10)).toArray⟩) ∧ Below w.heap.size w w') := fun w => by
      rw [show ((N : Int) / 10) = ((N / 10 : Nat) : Int) by omega]
      exact ih w (by omega)
    clear ih
    rw [dec_big h]
    have hlt : ¬ (N : Int) < 10 := by omega
    clear h
    have HB0 := Lib.hid (below_refl w)
    have ef := fig_int N
    have hq : ¬ 9223372036854775807 < (dec (N / 10)).length + 1 := by
      have := dec_len 18 (N / 10) (by omega)
      omega
    go_enter Tryd.func30, Tryd.ntmps30
    go_wp2_with fail
    refine wp_region_X (.rd 0 (.rd 1 (.rd 3 (.rd 4 (.rd 5 (.rd 6 (.two 2 (.one 7 (.rd 8 (.rd 9 (.rd 10 .done)))) 7 (.rd 8 (.one 2 (.rd 9 (.rd 10 .done))))))))))) (by kernel_rfl) (by kernel_rfl) rfl (by kernel_rfl) (by kernel_rfl) ?_
    simp only [opsOfT, List.getElem?_toArray, List.getElem?_cons_zero, List.getElem?_cons_succ]
    repeat (first
      | (refine wpX_skip (by rfl) ?_; (try simp only [Act.put, List.setIfInBounds_toArray, List.set_cons_zero, List.set_cons_succ]))
      | (refine wpX_nocall (by rfl) ?_; (try simp only [Act.put, List.setIfInBounds_toArray, List.set_cons_zero, List.set_cons_succ]))
      | (refine wpX_val (by rfl) ?_; apply Exists.intro; refine ⟨fun nq => ?_, ?_⟩; (focus (go_simp; try (with_reducible rfl); done)); (try simp only [Act.put, List.setIfInBounds_toArray, List.set_cons_zero, List.set_cons_succ]); (try go_ints)))
    refine wpX_two ?_ ?_
    · refine wpX_call (by rfl) ?_
      apply Exists.intro
      apply Exists.intro
      refine ⟨fun nq => ?_, fun n1 => ?_⟩
      focus (go_simp; first | done | exact ⟨rfl, rfl⟩ | rfl)
      refine ((H.out _)).mono ?_
      rintro e w1 ⟨rfl, hB1⟩
      refine ⟨_, rfl, hB1, ?_⟩
      have HB1 := Lib.hid (below_then (below_then HB0.out n1.below) hB1)
      have HP1 := Lib.hid (below_then n1.below hB1)
      clear hB1
      try simp only [Act.put, List.setIfInBounds_toArray, List.set_cons_zero, List.set_cons_succ]
      repeat (first
        | (refine wpX_skip (by rfl) ?_; (try simp only [Act.put, List.setIfInBounds_toArray, List.set_cons_zero, List.set_cons_succ]))
        | (refine wpX_nocall (by rfl) ?_; (try simp only [Act.put, List.setIfInBounds_toArray, List.set_cons_zero, List.set_cons_succ]))
        | (refine wpX_val (by rfl) ?_; apply Exists.intro; refine ⟨fun nq => ?_, ?_⟩; (focus (go_simp; try (with_reducible rfl); done)); (try simp only [Act.put, List.setIfInBounds_toArray, List.set_cons_zero, List.set_cons_succ]); (try go_ints)))
      refine wpX_make (by rfl) fun n2 => ?_
      refine ⟨.slice (some ⟨n2.w.heap.size, 0, none⟩) 1 1, n2.w.alloc (.cells #[.int .u8 (48 + (N : Int) % 10)] 5), ?_, below_alloc1 _ _, ?_⟩
      focus (go_simp; try rfl; done)
      have HB2 := Lib.hid (below_then (below_then HB1.out n2.below) (below_alloc1 n2.w (.cells #[.int .u8 (48 + (N : Int) % 10)] 5)))
      try simp only [Act.put, List.setIfInBounds_toArray, List.set_cons_zero, List.set_cons_succ]
      have s2 := Ext.str (bs_alloc n2.w (fig (N % 10)))
      rw [ef] at s2
      repeat (first
        | (refine wpX_skip (by rfl) ?_; (try simp only [Act.put, List.setIfInBounds_toArray, List.set_cons_zero, List.set_cons_succ]))
        | (refine wpX_nocall (by rfl) ?_; (try simp only [Act.put, List.setIfInBounds_toArray, List.set_cons_zero, List.set_cons_succ]))
        | (refine wpX_val (by rfl) ?_; apply Exists.intro; refine ⟨fun nq => ?_, ?_⟩; (focus (go_simp; try (with_reducible rfl); done)); (try simp only [Act.put, List.setIfInBounds_toArray, List.set_cons_zero, List.set_cons_succ]); (try go_ints)))
      intro nz
      refine NoPanic.normal ?_
      have hB3 := nz.below
      revert hB3
      generalize nz.w = w3
      intro hB3
      clear nz
      have HB3 := Lib.hid (below_then HB2.out hB3)
      have HP3 := Lib.hid hB3
      clear hB3
      clear s2
      go_wp2
      go_ret
      exact ⟨congrArg (fun b => Ending.returned (Value.string b)) (ba_append _ [_]), HB3.out⟩
    · refine wpX_make (by rfl) fun n1 => ?_
      refine ⟨.slice (some ⟨n1.w.heap.size, 0, none⟩) 1 1, n1.w.alloc (.cells #[.int .u8 (48 + (N : Int) % 10)] 5), ?_, below_alloc1 _ _, ?_⟩
      focus (go_simp; try rfl; done)
      have HB1 := Lib.hid (below_then (below_then HB0.out n1.below) (below_alloc1 n1.w (.cells #[.int .u8 (48 + (N : Int) % 10)] 5)))
      try simp only [Act.put, List.setIfInBounds_toArray, List.set_cons_zero, List.set_cons_succ]
      have s2 := Ext.str (bs_alloc n1.w (fig (N % 10)))
      rw [ef] at s2
      repeat (first
        | (refine wpX_skip (by rfl) ?_; (try simp only [Act.put, List.setIfInBounds_toArray, List.set_cons_zero, List.set_cons_succ]))
        | (refine wpX_nocall (by rfl) ?_; (try simp only [Act.put, List.setIfInBounds_toArray, List.set_cons_zero, List.set_cons_succ]))
        | (refine wpX_val (by rfl) ?_; apply Exists.intro; refine ⟨fun nq => ?_, ?_⟩; (focus (go_simp; try (with_reducible rfl); done)); (try simp only [Act.put, List.setIfInBounds_toArray, List.set_cons_zero, List.set_cons_succ]); (try go_ints)))
      refine wpX_call (by rfl) ?_
      apply Exists.intro
      apply Exists.intro
      refine ⟨fun nq => ?_, fun n2 => ?_⟩
      focus (go_simp; first | done | exact ⟨rfl, rfl⟩ | rfl)
      refine ((H.out _)).mono ?_
      rintro e w2 ⟨rfl, hB2⟩
      refine ⟨_, rfl, hB2, ?_⟩
      have HB2 := Lib.hid (below_then (below_then HB1.out n2.below) hB2)
      have HP2 := Lib.hid (below_then n2.below hB2)
      clear hB2
      try simp only [Act.put, List.setIfInBounds_toArray, List.set_cons_zero, List.set_cons_succ]
      repeat (first
        | (refine wpX_skip (by rfl) ?_; (try simp only [Act.put, List.setIfInBounds_toArray, List.set_cons_zero, List.set_cons_succ]))
        | (refine wpX_nocall (by rfl) ?_; (try simp only [Act.put, List.setIfInBounds_toArray, List.set_cons_zero, List.set_cons_succ]))
        | (refine wpX_val (by rfl) ?_; apply Exists.intro; refine ⟨fun nq => ?_, ?_⟩; (focus (go_simp; try (with_reducible rfl); done)); (try simp only [Act.put, List.setIfInBounds_toArray, List.set_cons_zero, List.set_cons_succ]); (try go_ints)))
      intro nz
      refine NoPanic.normal ?_
      have hB3 := nz.below
      revert hB3
      generalize nz.w = w3
      intro hB3
      clear nz
      have HB3 := Lib.hid (below_then HB2.out hB3)
      have HP3 := Lib.hid hB3
      clear hB3
      clear s2
      go_wp2
      go_ret
      exact ⟨congrArg (fun b => Ending.returned (Value.string b)) (ba_append _ [_]), HB3.out⟩
end Go.Proofs.YtjhgocnjhhjkoaaDoor
