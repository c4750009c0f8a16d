/- The walk of the statement WholeGet. -/
import Derived.Test.YtjhgocnjhhjkoaaDoorL04b
import Derived.Test.YtjhgocnjhhjkoaaDoorP04b
namespace Go.Proofs.YtjhgocnjhhjkoaaDoor
open Go.RowKit

set_option maxRecDepth 100000 in
set_option maxHeartbeats 400000 in
theorem wholeGet_walk {w : World} {al : List Addr} {v : Value} {l : List UInt8} (least most : Int) (hs : Sent w al) (hb : Bs w v l) :
    Calls Tryd.prog 6 #[v, .int .i64 least, .int .i64 most] w fun e w' => e = .returned (.bool true) ∧ Below w.heap.size w w' := by
  have HB0 := Lib.hid (below_refl w)
  have HS0 := Lib.hid hs
  clear hs
  have HB := Lib.hid hb
  obtain ⟨ao, cap, rfl, -⟩ := hb
  go_enter Tryd.func6, Tryd.ntmps6
  go_wp2_with fail
  refine (alive04_any w).mono ?_
  rintro e w1 ⟨rfl, hB1⟩
  have HB1 := Lib.hid (below_then HB0.out hB1)
  have HS1 := Lib.hid (HS0.out.below hB1)
  have HP1 := Lib.hid hB1
  clear hB1
  by_cases hl : (100 : Int) < (l.length : Int)
  · go_wp2_with fail
    go_ret
    exact ⟨rfl, HB1.out⟩
  · go_wp2_with fail
    refine (nbytes_any (HB.out.below HB1.out) (by omega)).mono ?_
    rintro e w2 ⟨v2, rfl, hm2, hB2⟩
    have HB2 := Lib.hid (below_then HB1.out hB2)
    have HS2 := Lib.hid (HS1.out.below hB2)
    have HP2 := Lib.hid hB2
    clear hB2
    have HM2 := Lib.hid hm2
    clear hm2
    obtain ⟨g, rfl, -⟩ : ∃ g, v2 = .slice (some ⟨g, 0, none⟩) l.length (l.length + 6) ∧ True := ⟨HM2.out.choose, HM2.out.choose_spec.1, trivial⟩
    go_wp2_with fail
    refine (wget_any HS2.out HM2.out.bs).mono ?_
    rintro e w3 ⟨rfl, hB3⟩
    have HB3 := Lib.hid (below_then HB2.out hB3)
    have HS3 := Lib.hid (HS2.out.below hB3)
    have HP3 := Lib.hid hB3
    clear hB3
    go_wp2_with fail
    refine (rget_any (HB.out.below HB3.out)).mono ?_
    rintro e w4 ⟨rfl, hB4⟩
    have HB4 := Lib.hid (below_then HB3.out hB4)
    have HS4 := Lib.hid (HS3.out.below hB4)
    have HP4 := Lib.hid hB4
    clear hB4
    have HM4 := Lib.hid (HM2.out.below (below_then HP3.out HP4.out))
    have HR : Hid (rangeM l least most = if (getM l).2 ≠ 0 then (0, (getM l).2) else if (getM l).1 < least ∨ most < (getM l).1 then (0, 1) else ((getM l).1, 0)) := rfl
    have HE := Lib.hid (getM_err l)
    have HL := Lib.hid (fun h : (getM l).2 = 0 => (⟨getM_len h, getM_bd h⟩ : _ ∧ _))
    have hk28 := HE.out.1
    generalize (getM l).1 = n at *
    generalize (getM l).2 = k at *
    clear HE
    by_cases h0 : k = 0
    · subst h0
      obtain ⟨⟨hn, hd⟩, lo, hi⟩ := HL.out rfl
      have HN := Lib.hid hn
      have HD := Lib.hid hd
      clear hn hd HL
      go_wp2_with fail
      refine wp_region_O [(0, false), (1, false), (2, false), (3, false), (4, false), (6, false), (5, true), (7, false), (8, false), (9, false), (10, false), (11, false), (12, true), (13, false), (14, false), (15, false), (16, false), (17, false), (18, false), (19, false), (22, false), (23, false), (20, true), (21, false), (24, false), (25, false), (26, false)] (by kernel_rfl) (by kernel_rfl) rfl (by kernel_rfl) (by kernel_rfl) ?_
      simp only [opsOf, List.filterMap_cons, List.filterMap_nil, Option.map_some, List.getElem?_toArray, List.getElem?_cons_zero, List.getElem?_cons_succ]
      repeat (first
        | (refine wpO_skip (by rfl) ?_; (try simp only [Act.put, List.setIfInBounds_toArray, List.set_cons_zero, List.set_cons_succ]))
        | (refine wpO_nocall (by rfl) ?_; (try simp only [Act.put, List.setIfInBounds_toArray, List.set_cons_zero, List.set_cons_succ]))
        | (refine wpO_val (by rfl) ?_; apply Exists.intro; refine ⟨fun nq => ?_, ?_⟩; (focus (go_simp; try (with_reducible rfl); done)); (try simp only [Act.put, List.setIfInBounds_toArray, List.set_cons_zero, List.set_cons_succ])))
      refine wpO_call (by rfl) ?_
      apply Exists.intro
      apply Exists.intro
      refine ⟨fun nq => ?_, fun n5 => ?_⟩
      focus (go_simp; first | done | exact ⟨rfl, rfl⟩ | rfl)
      refine (num_any (HS4.out.below n5.below) 0 (by decide)).mono ?_
      rintro e w5 ⟨rfl, hB5⟩
      refine ⟨_, rfl, hB5, ?_⟩
      have HB5 := Lib.hid (below_then (below_then HB4.out n5.below) hB5)
      have HS5 := Lib.hid ((HS4.out.below n5.below).below hB5)
      have HP5 := Lib.hid (below_then n5.below hB5)
      clear hB5
      try simp only [Act.put, List.setIfInBounds_toArray, List.set_cons_zero, List.set_cons_succ]
      repeat (first
        | (refine wpO_skip (by rfl) ?_; (try simp only [Act.put, List.setIfInBounds_toArray, List.set_cons_zero, List.set_cons_succ]))
        | (refine wpO_nocall (by rfl) ?_; (try simp only [Act.put, List.setIfInBounds_toArray, List.set_cons_zero, List.set_cons_succ]))
        | (refine wpO_val (by rfl) ?_; apply Exists.intro; refine ⟨fun nq => ?_, ?_⟩; (focus (go_simp; try (with_reducible rfl); done)); (try simp only [Act.put, List.setIfInBounds_toArray, List.set_cons_zero, List.set_cons_succ])))
      refine wpO_call (by rfl) ?_
      apply Exists.intro
      apply Exists.intro
      refine ⟨fun nq => ?_, fun n6 => ?_⟩
      focus (go_simp; first | done | exact ⟨rfl, rfl⟩ | rfl)
      refine (kept_any ((HM4.out.below HP5.out).below n6.below) ((HB.out.below HB5.out).below n6.below)).mono ?_
      rintro e w6 ⟨rfl, hB6⟩
      refine ⟨_, rfl, hB6, ?_⟩
      have HB6 := Lib.hid (below_then (below_then HB5.out n6.below) hB6)
      have HS6 := Lib.hid ((HS5.out.below n6.below).below hB6)
      have HP6 := Lib.hid (below_then n6.below hB6)
      clear hB6
      try simp only [Act.put, List.setIfInBounds_toArray, List.set_cons_zero, List.set_cons_succ]
      have s6 := Ext.str (HB.out.below HB6.out)
      repeat (first
        | (refine wpO_skip (by rfl) ?_; (try simp only [Act.put, List.setIfInBounds_toArray, List.set_cons_zero, List.set_cons_succ]))
        | (refine wpO_nocall (by rfl) ?_; (try simp only [Act.put, List.setIfInBounds_toArray, List.set_cons_zero, List.set_cons_succ]))
        | (refine wpO_val (by rfl) ?_; apply Exists.intro; refine ⟨fun nq => ?_, ?_⟩; (focus (go_simp; try (with_reducible rfl); done)); (try simp only [Act.put, List.setIfInBounds_toArray, List.set_cons_zero, List.set_cons_succ])))
      refine wpO_call (by rfl) ?_
      apply Exists.intro
      apply Exists.intro
      refine ⟨fun nq => ?_, fun n7 => ?_⟩
      focus (go_simp; first | done | exact ⟨rfl, rfl⟩ | rfl)
      refine (wput_any n _ lo hi).mono ?_
      rintro e w7 ⟨v7, k7, rfl, hk7, ho7, hB7⟩
      refine ⟨_, rfl, hB7, ?_⟩
      have HB7 := Lib.hid (below_then (below_then HB6.out n7.below) hB7)
      have HS7 := Lib.hid ((HS6.out.below n7.below).below hB7)
      have HP7 := Lib.hid (below_then n7.below hB7)
      clear hB7
      try simp only [Act.put, List.setIfInBounds_toArray, List.set_cons_zero, List.set_cons_succ]
      obtain rfl := HN.out.unique hk7
      have hv7 := own_bs ho7
      rw [HD.out] at hv7
      have s7 := Ext.str hv7
      repeat (first
        | (refine wpO_skip (by rfl) ?_; (try simp only [Act.put, List.setIfInBounds_toArray, List.set_cons_zero, List.set_cons_succ]))
        | (refine wpO_nocall (by rfl) ?_; (try simp only [Act.put, List.setIfInBounds_toArray, List.set_cons_zero, List.set_cons_succ]))
        | (refine wpO_val (by rfl) ?_; apply Exists.intro; refine ⟨fun nq => ?_, ?_⟩; (focus (go_simp; try (with_reducible rfl); done)); (try simp only [Act.put, List.setIfInBounds_toArray, List.set_cons_zero, List.set_cons_succ])))
      intro nz
      refine NoPanic.normal ?_
      have hB8 := nz.below
      revert hB8
      generalize nz.w = w8
      intro hB8
      clear nz
      have HB8 := Lib.hid (below_then HB7.out hB8)
      have HS8 := Lib.hid (HS7.out.below hB8)
      have HP8 := Lib.hid hB8
      clear hB8
      clear s6 s7 hv7 ho7 hk7
      have HM8 := Lib.hid (HM4.out.below (below_then HP5.out (below_then HP6.out (below_then HP7.out HP8.out))))
      go_wp2_with fail
      refine (wrange_any least most HS8.out HM8.out.bs).mono ?_
      by_cases hr : n < least ∨ most < n
      · have e9 : rangeM l least most = (0, 1) := by rw [HR.out, if_neg (by simp), if_pos hr]
        rw [e9]
        rintro e w9 ⟨rfl, hB9⟩
        have HB9 := Lib.hid (below_then HB8.out hB9)
        have HS9 := Lib.hid (HS8.out.below hB9)
        clear hB9 e9 HR
        have HQ := Lib.hid (num_any HS9.out 1 (by decide))
        have H2 : decide (n < least) = true ∨ (decide (n < least) = false ∧ decide (most < n) = true) := by
          simp only [decide_eq_true_eq, decide_eq_false_iff_not]; omega
        clear hr
        rcases H2 with t0 | ⟨t0, t1⟩
        all_goals
          go_wp2_with (go_at_call 20; refine (HQ.out).mono ?_; rintro e w10 ⟨rfl, hB10⟩)
          go_ret
          exact ⟨rfl, below_then HB9.out hB10⟩
      · have e9 : rangeM l least most = (n, 0) := by rw [HR.out, if_neg (by simp), if_neg hr]
        rw [e9]
        rintro e w9 ⟨rfl, hB9⟩
        have HB9 := Lib.hid (below_then HB8.out hB9)
        clear hB9 e9 HR
        have t0 : decide (n < least) = false := by simp only [decide_eq_false_iff_not]; omega
        have t1 : decide (most < n) = false := by simp only [decide_eq_false_iff_not]; omega
        clear hr
        go_wp2
        go_ret
        exact ⟨rfl, HB9.out⟩
    · have e0 : (((k : Nat) : Int) == 0) = false := by simp only [beq_eq_false_iff_ne, ne_eq]; omega
      have e1 : (((k : Nat) : Int) != 0) = true := by simp only [bne_iff_ne, ne_eq]; omega
      have e9 : rangeM l least most = (0, k) := by rw [HR.out, if_pos h0]
      clear HR HL
      go_wp2_with fail
      refine wp_region_O [(0, false), (1, false), (2, false), (3, false), (4, false), (6, false), (5, true), (7, false), (8, false), (9, false), (10, false), (11, false), (12, true), (13, false), (14, false), (15, false), (16, false), (17, false), (18, false), (19, false), (22, false), (23, false), (20, true), (21, false), (24, false), (25, false), (26, false)] (by kernel_rfl) (by kernel_rfl) rfl (by kernel_rfl) (by kernel_rfl) ?_
      simp only [opsOf, List.filterMap_cons, List.filterMap_nil, Option.map_some, List.getElem?_toArray, List.getElem?_cons_zero, List.getElem?_cons_succ]
      repeat (first
        | (refine wpO_skip (by rfl) ?_; (try simp only [Act.put, List.setIfInBounds_toArray, List.set_cons_zero, List.set_cons_succ]))
        | (refine wpO_nocall (by rfl) ?_; (try simp only [Act.put, List.setIfInBounds_toArray, List.set_cons_zero, List.set_cons_succ]))
        | (refine wpO_val (by rfl) ?_; apply Exists.intro; refine ⟨fun nq => ?_, ?_⟩; (focus (go_simp; try (with_reducible rfl); done)); (try simp only [Act.put, List.setIfInBounds_toArray, List.set_cons_zero, List.set_cons_succ])))
      refine wpO_call (by rfl) ?_
      apply Exists.intro
      apply Exists.intro
      refine ⟨fun nq => ?_, fun n5 => ?_⟩
      focus (go_simp; first | done | exact ⟨rfl, rfl⟩ | rfl)
      refine (num_any (HS4.out.below n5.below) k hk28).mono ?_
      rintro e w5 ⟨rfl, hB5⟩
      refine ⟨_, rfl, hB5, ?_⟩
      have HB5 := Lib.hid (below_then (below_then HB4.out n5.below) hB5)
      have HS5 := Lib.hid ((HS4.out.below n5.below).below hB5)
      have HP5 := Lib.hid (below_then n5.below hB5)
      clear hB5
      try simp only [Act.put, List.setIfInBounds_toArray, List.set_cons_zero, List.set_cons_succ]
      repeat (first
        | (refine wpO_skip (by rfl) ?_; (try simp only [Act.put, List.setIfInBounds_toArray, List.set_cons_zero, List.set_cons_succ]))
        | (refine wpO_nocall (by rfl) ?_; (try simp only [Act.put, List.setIfInBounds_toArray, List.set_cons_zero, List.set_cons_succ]))
        | (refine wpO_val (by rfl) ?_; apply Exists.intro; refine ⟨fun nq => ?_, ?_⟩; (focus (go_simp; try (with_reducible rfl); done)); (try simp only [Act.put, List.setIfInBounds_toArray, List.set_cons_zero, List.set_cons_succ])))
      refine wpO_call (by rfl) ?_
      apply Exists.intro
      apply Exists.intro
      refine ⟨fun nq => ?_, fun n6 => ?_⟩
      focus (go_simp; first | done | exact ⟨rfl, rfl⟩ | rfl)
      refine (kept_any ((HM4.out.below HP5.out).below n6.below) ((HB.out.below HB5.out).below n6.below)).mono ?_
      rintro e w6 ⟨rfl, hB6⟩
      refine ⟨_, rfl, hB6, ?_⟩
      have HB6 := Lib.hid (below_then (below_then HB5.out n6.below) hB6)
      have HS6 := Lib.hid ((HS5.out.below n6.below).below hB6)
      have HP6 := Lib.hid (below_then n6.below hB6)
      clear hB6
      try simp only [Act.put, List.setIfInBounds_toArray, List.set_cons_zero, List.set_cons_succ]
      have s6 := Ext.str (HB.out.below HB6.out)
      repeat (first
        | (refine wpO_skip (by rfl) ?_; (try simp only [Act.put, List.setIfInBounds_toArray, List.set_cons_zero, List.set_cons_succ]))
        | (refine wpO_nocall (by rfl) ?_; (try simp only [Act.put, List.setIfInBounds_toArray, List.set_cons_zero, List.set_cons_succ]))
        | (refine wpO_val (by rfl) ?_; apply Exists.intro; refine ⟨fun nq => ?_, ?_⟩; (focus (go_simp; try (with_reducible rfl); done)); (try simp only [Act.put, List.setIfInBounds_toArray, List.set_cons_zero, List.set_cons_succ])))
      intro nz
      refine NoPanic.normal ?_
      have hB7 := nz.below
      revert hB7
      generalize nz.w = w7
      intro hB7
      clear nz
      have HB7 := Lib.hid (below_then HB6.out hB7)
      have HS7 := Lib.hid (HS6.out.below hB7)
      have HP7 := Lib.hid hB7
      clear hB7
      clear s6
      have HM7 := Lib.hid (HM4.out.below (below_then HP5.out (below_then HP6.out HP7.out)))
      go_wp2_with fail
      refine (wrange_any least most HS7.out HM7.out.bs).mono ?_
      rw [e9]
      rintro e w9 ⟨rfl, hB9⟩
      have HB9 := Lib.hid (below_then HB7.out hB9)
      have HS9 := Lib.hid (HS7.out.below hB9)
      clear hB9 e9
      go_wp2_with fail
      refine (num_any HS9.out k hk28).mono ?_
      rintro e w10 ⟨rfl, hB10⟩
      have HB10 := Lib.hid (below_then HB9.out hB10)
      have HS10 := Lib.hid (HS9.out.below hB10)
      have HP10 := Lib.hid hB10
      clear hB10
      go_wp2
      go_ret
      exact ⟨rfl, HB10.out⟩
end Go.Proofs.YtjhgocnjhhjkoaaDoor
