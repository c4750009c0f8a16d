/- The walk of the statement NamesOrder. -/
import Derived.Test.YtjhgocnjhhjkoaaDoorW09c
namespace Go.Proofs.YtjhgocnjhhjkoaaDoor
open Go.RowKit

theorem cmpM_bd (k : Int) (sp nm : List UInt8) (k2 : Int) (sp2 nm2 : List UInt8) : -1 ≤ cmpM k sp nm k2 sp2 nm2 ∧ cmpM k sp nm k2 sp2 nm2 ≤ 1 := by
  have h1 := cb_bd sp sp2
  have h2 := cb_bd nm nm2
  unfold cmpM or3 Lib.compareInt
  split
  · split
    · omega
    · split <;> omega
  · split <;> omega

theorem three_cells (w : World) (x y z : Value) (t : TypeId) : (w.alloc (.cells #[x, y, z] t)).cell? ⟨w.heap.size, 0, none⟩ = some x ∧ (w.alloc (.cells #[x, y, z] t)).cell? ⟨w.heap.size, 1, none⟩ = some y ∧ (w.alloc (.cells #[x, y, z] t)).cell? ⟨w.heap.size, 2, none⟩ = some z := by
  simp
theorem size_alloc9 (w : World) (o : Obj) : (w.alloc o).heap.size = w.heap.size + 1 := by simp

set_option maxRecDepth 100000 in
set_option maxHeartbeats 2000000 in
theorem namesOrder_walk {w : World} (ka kb kc : Int) (spa nma spb nmb spc nmc : List UInt8) :
    Calls Tryd.prog 8 #[sv ka spa nma, sv kb spb nmb, sv kc spc nmc] w fun e w' => e = .returned (.bool true) ∧ Below w.heap.size w w' := by
  have HLa := fun w => Lib.hid (long09_any ka spa nma w)
  have HLb := fun w => Lib.hid (long09_any kb spb nmb w)
  have HLc := fun w => Lib.hid (long09_any kc spc nmc w)
  have HAB := fun w => Lib.hid (ncompare_any ka kb spa nma spb nmb w)
  have HBC := fun w => Lib.hid (ncompare_any kb kc spb nmb spc nmc w)
  have HAC := fun w => Lib.hid (ncompare_any ka kc spa nma spc nmc w)
  have HBA := fun w => Lib.hid (ncompare_any kb ka spb nmb spa nma w)
  have HRR := fun w => Lib.hid (rcompare09_any ka kb spa nma spb nmb w)
  rw [cmpM_anti ka spa nma kb spb nmb] at HBA
  unfold sv at *
  generalize (decide ((200 : Int) < spa.length) || decide ((200 : Int) < nma.length)) = la at *
  generalize (decide ((200 : Int) < spb.length) || decide ((200 : Int) < nmb.length)) = lb at *
  generalize (decide ((200 : Int) < spc.length) || decide ((200 : Int) < nmc.length)) = lc at *
  have HZ := Lib.hid (cmpM_zero ka spa nma kb spb nmb)
  have HT := Lib.hid (cmpM_trans ka spa nma kb spb nmb kc spc nmc)
  obtain ⟨b1, b2⟩ := cmpM_bd ka spa nma kb spb nmb
  generalize cmpM ka spa nma kb spb nmb = ab at *
  generalize cmpM kb spb nmb kc spc nmc = bc at *
  generalize cmpM ka spa nma kc spc nmc = ac at *
  obtain ⟨W3, hW⟩ : ∃ W3, W3 = ((w.alloc (.cells #[.int .i64 ka, .string ⟨spa.toArray⟩, .string ⟨nma.toArray⟩] 59)).alloc (.cells #[.int .i64 kb, .string ⟨spb.toArray⟩, .string ⟨nmb.toArray⟩] 59)).alloc (.cells #[.int .i64 kc, .string ⟨spc.toArray⟩, .string ⟨nmc.toArray⟩] 59) := ⟨_, rfl⟩
  go_enter Tryd.func8, Tryd.ntmps8
  go_wp2_with fail
  rw [← hW]
  obtain ⟨a0, a1, a2⟩ := three_cells w (.int .i64 ka) (.string ⟨spa.toArray⟩) (.string ⟨nma.toArray⟩) 59
  obtain ⟨b0, b1, b2⟩ := three_cells (w.alloc (.cells #[.int .i64 ka, .string ⟨spa.toArray⟩, .string ⟨nma.toArray⟩] 59)) (.int .i64 kb) (.string ⟨spb.toArray⟩) (.string ⟨nmb.toArray⟩) 59
  obtain ⟨c0, c1, c2⟩ := three_cells ((w.alloc (.cells #[.int .i64 ka, .string ⟨spa.toArray⟩, .string ⟨nma.toArray⟩] 59)).alloc (.cells #[.int .i64 kb, .string ⟨spb.toArray⟩, .string ⟨nmb.toArray⟩] 59)) (.int .i64 kc) (.string ⟨spc.toArray⟩) (.string ⟨nmc.toArray⟩) 59
  rw [size_alloc9] at b0 b1 b2
  rw [size_alloc9, size_alloc9] at c0 c1 c2
  have a0 := below_cell (balloc2 _ (.cells #[.int .i64 kb, .string ⟨spb.toArray⟩, .string ⟨nmb.toArray⟩] 59) (.cells #[.int .i64 kc, .string ⟨spc.toArray⟩, .string ⟨nmc.toArray⟩] 59)) a0
  have a1 := below_cell (balloc2 _ (.cells #[.int .i64 kb, .string ⟨spb.toArray⟩, .string ⟨nmb.toArray⟩] 59) (.cells #[.int .i64 kc, .string ⟨spc.toArray⟩, .string ⟨nmc.toArray⟩] 59)) a1
  have a2 := below_cell (balloc2 _ (.cells #[.int .i64 kb, .string ⟨spb.toArray⟩, .string ⟨nmb.toArray⟩] 59) (.cells #[.int .i64 kc, .string ⟨spc.toArray⟩, .string ⟨nmc.toArray⟩] 59)) a2
  have b0 := below_cell (balloc _ (.cells #[.int .i64 kc, .string ⟨spc.toArray⟩, .string ⟨nmc.toArray⟩] 59)) b0
  have b1 := below_cell (balloc _ (.cells #[.int .i64 kc, .string ⟨spc.toArray⟩, .string ⟨nmc.toArray⟩] 59)) b1
  have b2 := below_cell (balloc _ (.cells #[.int .i64 kc, .string ⟨spc.toArray⟩, .string ⟨nmc.toArray⟩] 59)) b2
  rw [← hW] at a0 a1 a2 b0 b1 b2 c0 c1 c2
  have HB0 : Hid (Below w.heap.size w W3) := by rw [hW]; exact below_then (balloc _ _) (balloc2 _ _ _)
  clear hW
  refine (alive09_any _).mono ?_
  rintro e w1 ⟨rfl, hB⟩
  have a0 := below_cell hB a0
  have a1 := below_cell hB a1
  have a2 := below_cell hB a2
  have b0 := below_cell hB b0
  have b1 := below_cell hB b1
  have b2 := below_cell hB b2
  have c0 := below_cell hB c0
  have c1 := below_cell hB c1
  have c2 := below_cell hB c2
  have H9 : Hid (∀ V, Below w1.heap.size w1 V → V.cell? ⟨w.heap.size, 0, none⟩ = some (.int .i64 ka) ∧ V.cell? ⟨w.heap.size, 1, none⟩ = some (.string ⟨spa.toArray⟩) ∧ V.cell? ⟨w.heap.size, 2, none⟩ = some (.string ⟨nma.toArray⟩) ∧ V.cell? ⟨w.heap.size + 1, 0, none⟩ = some (.int .i64 kb) ∧ V.cell? ⟨w.heap.size + 1, 1, none⟩ = some (.string ⟨spb.toArray⟩) ∧ V.cell? ⟨w.heap.size + 1, 2, none⟩ = some (.string ⟨nmb.toArray⟩) ∧ V.cell? ⟨w.heap.size + 1 + 1, 0, none⟩ = some (.int .i64 kc) ∧ V.cell? ⟨w.heap.size + 1 + 1, 1, none⟩ = some (.string ⟨spc.toArray⟩) ∧ V.cell? ⟨w.heap.size + 1 + 1, 2, none⟩ = some (.string ⟨nmc.toArray⟩)) := fun V h => ⟨below_cell h a0, below_cell h a1, below_cell h a2, below_cell h b0, below_cell h b1, below_cell h b2, below_cell h c0, below_cell h c1, below_cell h c2⟩
  have HB1 := Lib.hid (below_then HB0.out hB)
  clear hB
  go_wp2_with fail
  refine ((HLa _).out).mono ?_
  rintro e w2 ⟨rfl, hB⟩
  have HP2 := Lib.hid hB
  have HB2 := Lib.hid (below_then HB1.out hB)
  clear hB a0 a1 a2 b0 b1 b2 c0 c1 c2
  cases la with
  | true =>
    go_wp2
    go_ret
    exact ⟨rfl, HB2.out⟩
  | false =>
    obtain ⟨a0, a1, a2, b0, b1, b2, c0, c1, c2⟩ := H9.out _ (HP2.out)
    go_wp2_with fail
    refine ((HLb _).out).mono ?_
    rintro e w3 ⟨rfl, hB⟩
    have HP3 := Lib.hid (below_then HP2.out hB)
    have HB3 := Lib.hid (below_then HB2.out hB)
    clear hB a0 a1 a2 b0 b1 b2 c0 c1 c2
    cases lb with
    | true =>
      go_wp2
      go_ret
      exact ⟨rfl, HB3.out⟩
    | false =>
      obtain ⟨a0, a1, a2, b0, b1, b2, c0, c1, c2⟩ := H9.out _ (HP3.out)
      go_wp2_with fail
      refine ((HLc _).out).mono ?_
      rintro e w4 ⟨rfl, hB⟩
      have HP4 := Lib.hid (below_then HP3.out hB)
      have HB4 := Lib.hid (below_then HB3.out hB)
      clear hB a0 a1 a2 b0 b1 b2 c0 c1 c2
      cases lc with
      | true =>
        go_wp2
        go_ret
        exact ⟨rfl, HB4.out⟩
      | false =>
        go_wp2_with fail
        obtain ⟨a0, a1, a2, b0, b1, b2, c0, c1, c2⟩ := H9.out _ (HP4.out)
        have xa0 := Ext.cell a0
        have xa1 := Ext.cell a1
        have xa2 := Ext.cell a2
        have xb0 := Ext.cell b0
        have xb1 := Ext.cell b1
        have xb2 := Ext.cell b2
        have xc0 := Ext.cell c0
        have xc1 := Ext.cell c1
        have xc2 := Ext.cell c2
        clear a0 a1 a2 b0 b1 b2 c0 c1 c2
        refine wp_region_O [(0, false), (1, false), (3, false), (4, false), (6, false), (7, false), (2, true), (5, true), (8, true), (9, false), (10, false), (11, false)] (by kernel_rfl) (by kernel_rfl) rfl (by kernel_rfl) (by kernel_rfl) ?_
        simp only [opsOf, List.filterMap_cons, List.filterMap_nil, Option.map_some, List.getElem?_toArray, List.getElem?_cons_zero, List.getElem?_cons_succ]
        repeat (first
          | (refine wpO_skip (by rfl) ?_; (try simp only [Act.put, List.setIfInBounds_toArray, List.set_cons_zero, List.set_cons_succ]))
          | (refine wpO_nocall (by rfl) ?_; (try simp only [Act.put, List.setIfInBounds_toArray, List.set_cons_zero, List.set_cons_succ]))
          | (refine wpO_val (by rfl) ?_; apply Exists.intro; refine ⟨fun nq => ?_, ?_⟩; (focus (go_simp; try (with_reducible rfl); done)); (try simp only [Act.put, List.setIfInBounds_toArray, List.set_cons_zero, List.set_cons_succ]); (try go_ints)))
        refine wpO_call (by rfl) ?_
        apply Exists.intro
        apply Exists.intro
        refine ⟨fun nq => ?_, fun n5 => ?_⟩
        focus (go_simp; first | done | exact ⟨rfl, rfl⟩ | rfl)
        refine (((HAB _).out)).mono ?_
        rintro e w5 ⟨rfl, hB5⟩
        refine ⟨_, rfl, hB5, ?_⟩
        have HB5 := Lib.hid (below_then (below_then HB4.out n5.below) hB5)
        have HP5 := Lib.hid (below_then n5.below hB5)
        clear hB5
        try simp only [Act.put, List.setIfInBounds_toArray, List.set_cons_zero, List.set_cons_succ]
        repeat (first
          | (refine wpO_skip (by rfl) ?_; (try simp only [Act.put, List.setIfInBounds_toArray, List.set_cons_zero, List.set_cons_succ]))
          | (refine wpO_nocall (by rfl) ?_; (try simp only [Act.put, List.setIfInBounds_toArray, List.set_cons_zero, List.set_cons_succ]))
          | (refine wpO_val (by rfl) ?_; apply Exists.intro; refine ⟨fun nq => ?_, ?_⟩; (focus (go_simp; try (with_reducible rfl); done)); (try simp only [Act.put, List.setIfInBounds_toArray, List.set_cons_zero, List.set_cons_succ]); (try go_ints)))
        refine wpO_call (by rfl) ?_
        apply Exists.intro
        apply Exists.intro
        refine ⟨fun nq => ?_, fun n6 => ?_⟩
        focus (go_simp; first | done | exact ⟨rfl, rfl⟩ | rfl)
        refine (((HBC _).out)).mono ?_
        rintro e w6 ⟨rfl, hB6⟩
        refine ⟨_, rfl, hB6, ?_⟩
        have HB6 := Lib.hid (below_then (below_then HB5.out n6.below) hB6)
        have HP6 := Lib.hid (below_then n6.below hB6)
        clear hB6
        try simp only [Act.put, List.setIfInBounds_toArray, List.set_cons_zero, List.set_cons_succ]
        repeat (first
          | (refine wpO_skip (by rfl) ?_; (try simp only [Act.put, List.setIfInBounds_toArray, List.set_cons_zero, List.set_cons_succ]))
          | (refine wpO_nocall (by rfl) ?_; (try simp only [Act.put, List.setIfInBounds_toArray, List.set_cons_zero, List.set_cons_succ]))
          | (refine wpO_val (by rfl) ?_; apply Exists.intro; refine ⟨fun nq => ?_, ?_⟩; (focus (go_simp; try (with_reducible rfl); done)); (try simp only [Act.put, List.setIfInBounds_toArray, List.set_cons_zero, List.set_cons_succ]); (try go_ints)))
        refine wpO_call (by rfl) ?_
        apply Exists.intro
        apply Exists.intro
        refine ⟨fun nq => ?_, fun n7 => ?_⟩
        focus (go_simp; first | done | exact ⟨rfl, rfl⟩ | rfl)
        refine (((HAC _).out)).mono ?_
        rintro e w7 ⟨rfl, hB7⟩
        refine ⟨_, rfl, hB7, ?_⟩
        have HB7 := Lib.hid (below_then (below_then HB6.out n7.below) hB7)
        have HP7 := Lib.hid (below_then n7.below hB7)
        clear hB7
        try simp only [Act.put, List.setIfInBounds_toArray, List.set_cons_zero, List.set_cons_succ]
        repeat (first
          | (refine wpO_skip (by rfl) ?_; (try simp only [Act.put, List.setIfInBounds_toArray, List.set_cons_zero, List.set_cons_succ]))
          | (refine wpO_nocall (by rfl) ?_; (try simp only [Act.put, List.setIfInBounds_toArray, List.set_cons_zero, List.set_cons_succ]))
          | (refine wpO_val (by rfl) ?_; apply Exists.intro; refine ⟨fun nq => ?_, ?_⟩; (focus (go_simp; try (with_reducible rfl); done)); (try simp only [Act.put, List.setIfInBounds_toArray, List.set_cons_zero, List.set_cons_succ]); (try go_ints)))
        intro nz
        refine NoPanic.normal ?_
        have hB8 := nz.below
        revert hB8
        generalize nz.w = w8
        intro hB8
        clear nz
        have HB8 := Lib.hid (below_then HB7.out hB8)
        have HP8 := Lib.hid hB8
        clear hB8
        clear xa0 xa1 xa2 xb0 xb1 xb2 xc0 xc1 xc2
        have HQ8 := Lib.hid (below_then HP4.out (below_then HP5.out (below_then HP6.out (below_then HP7.out HP8.out))))
        obtain ⟨a0, a1, a2, b0, b1, b2, c0, c1, c2⟩ := H9.out _ (HQ8.out)
        go_wp2_with fail
        refine ((HRR _).out).mono ?_
        rintro e w9 ⟨rfl, hB⟩
        have HQ9 := Lib.hid (below_then HQ8.out hB)
        have HB9 := Lib.hid (below_then HB8.out hB)
        clear hB a0 a1 a2 b0 b1 b2 c0 c1 c2
        obtain ⟨a0, a1, a2, b0, b1, b2, c0, c1, c2⟩ := H9.out _ (HQ9.out)
        go_wp2_with fail
        refine ((HBA _).out).mono ?_
        rintro e w10 ⟨rfl, hB⟩
        have HQ10 := Lib.hid (below_then HQ9.out hB)
        have HB10 := Lib.hid (below_then HB9.out hB)
        clear hB a0 a1 a2 b0 b1 b2 c0 c1 c2
        obtain ⟨a0, a1, a2, b0, b1, b2, c0, c1, c2⟩ := H9.out _ (HQ10.out)
        have H3 : (decide (0 < ab) = true) ∨ (decide (0 < ab) = false ∧ decide (0 < bc) = true) ∨ (decide (0 < ab) = false ∧ decide (0 < bc) = false ∧ decide (ac ≤ 0) = true) := by
          have := HT.out
          simp only [decide_eq_true_eq, decide_eq_false_iff_not]
          omega
        by_cases he : ka = kb ∧ spa = spb ∧ nma = nmb
        · have hz := HZ.out.2 he
          obtain ⟨rfl, rfl, rfl⟩ := he
          subst hz
          rcases H3 with t1 | ⟨t1, t2⟩ | ⟨t1, t2, t3⟩
          all_goals go_wp2
          all_goals
            go_ret
            exact ⟨rfl, HB10.out⟩
        · have hz : (ab == 0) = false := by
            rw [beq_eq_false_iff_ne]
            exact fun h => he (HZ.out.1 h)
          rcases H3 with t1 | ⟨t1, t2⟩ | ⟨t1, t2, t3⟩
          all_goals
            go_wp2
            all_goals first
              | (exfalso; apply he; refine ⟨?_, ?_, ?_⟩ <;> assumption)
              | (go_ret
                 exact ⟨rfl, HB10.out⟩)
theorem namesOrder_bytes {w : World} (ka kb kc : Int) (spa nma spb nmb spc nmc : ByteArray) :
    Calls Tryd.prog 8 #[.agg #[.int .i64 ka, .string spa, .string nma], .agg #[.int .i64 kb, .string spb, .string nmb], .agg #[.int .i64 kc, .string spc, .string nmc]] w fun e w' => e = .returned (.bool true) ∧ Below w.heap.size w w' := by
  have h : ∀ s : ByteArray, ∃ l : List UInt8, s = ⟨l.toArray⟩ := fun s => ⟨s.data.toList, by cases s; simp⟩
  obtain ⟨_, rfl⟩ := h spa
  obtain ⟨_, rfl⟩ := h nma
  obtain ⟨_, rfl⟩ := h spb
  obtain ⟨_, rfl⟩ := h nmb
  obtain ⟨_, rfl⟩ := h spc
  obtain ⟨_, rfl⟩ := h nmc
  exact namesOrder_walk ka kb kc _ _ _ _ _ _
end Go.Proofs.YtjhgocnjhhjkoaaDoor
