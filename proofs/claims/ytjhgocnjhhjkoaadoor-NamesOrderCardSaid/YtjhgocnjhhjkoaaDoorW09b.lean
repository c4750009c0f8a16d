/- The walks of chapter 9: names.Compare, texts.Label. -/
import Derived.Test.YtjhgocnjhhjkoaaDoorW09
namespace Go.Proofs.YtjhgocnjhhjkoaaDoor
open Go.RowKit

theorem ccmp_any (x y : Int) (w : World) : Calls Tryd.prog 43 #[.int .i64 x, .int .i64 y] w fun e w' => e = .returned (.int .i64 (Lib.compareInt x y)) ∧ Below w.heap.size w w' :=
  (Tryd.cmp_Compare_int x y w).mono (by rintro e w' ⟨rfl, rfl⟩; exact ⟨rfl, brefl _⟩)
theorem scmp_any (a b : List UInt8) (w : World) : Calls Tryd.prog 44 #[.string ⟨a.toArray⟩, .string ⟨b.toArray⟩] w fun e w' => e = .returned (.int .i64 (cb a b)) ∧ Below w.heap.size w w' :=
  (Tryd.strings_Compare _ _ w).mono (by rintro e w' ⟨rfl, rfl⟩; exact ⟨rfl, brefl _⟩)
theorem hp_any (a b : List UInt8) (w : World) : Calls Tryd.prog 54 #[.string ⟨a.toArray⟩, .string ⟨b.toArray⟩] w fun e w' => e = .returned (.bool (Lib.hasPrefix a b)) ∧ Below w.heap.size w w' :=
  (Tryd.strings_HasPrefix _ _ w).mono (by rintro e w' ⟨rfl, rfl⟩; exact ⟨rfl, brefl _⟩)
theorem hs_any (a b : List UInt8) (w : World) (h : a.length ≤ 9223372036854775807) : Calls Tryd.prog 55 #[.string ⟨a.toArray⟩, .string ⟨b.toArray⟩] w fun e w' => e = .returned (.bool (Lib.hasSuffix a b)) ∧ Below w.heap.size w w' :=
  (Tryd.strings_HasSuffix ⟨a.toArray⟩ ⟨b.toArray⟩ w (show a.toArray.size ≤ _ by simpa using h)).mono (by rintro e w' ⟨rfl, rfl⟩; exact ⟨rfl, brefl _⟩)
theorem ib_any (a : List UInt8) (c : UInt8) (w : World) : Calls Tryd.prog 56 #[.string ⟨a.toArray⟩, .int .u8 c.toNat] w fun e w' => e = .returned (.int .i64 (Lib.indexByte a c)) ∧ Below w.heap.size w w' :=
  (Tryd.strings_IndexByte _ _ w).mono (by rintro e w' ⟨rfl, rfl⟩; exact ⟨by simp, brefl _⟩)

set_option maxRecDepth 100000 in
set_option maxHeartbeats 1000000 in
theorem ncompare_any (k k2 : Int) (sp nm sp2 nm2 : List UInt8) (w : World) :
    Calls Tryd.prog 35 #[sv k sp nm, sv k2 sp2 nm2] w fun e w' => e = .returned (.int .i64 (cmpM k sp nm k2 sp2 nm2)) ∧ Below w.heap.size w w' := by
  have HF : Hid (cmpM k sp nm k2 sp2 nm2 = or3 (Lib.compareInt k k2) (cb sp sp2) (cb nm nm2)) := rfl
  unfold sv
  go_enter Tryd.func35, Tryd.ntmps35
  go_wp2_with fail
  obtain ⟨W2, hW⟩ : ∃ W2, W2 = (w.alloc (.cells #[.int .i64 k, .string ⟨sp.toArray⟩, .string ⟨nm.toArray⟩] 59)).alloc (.cells #[.int .i64 k2, .string ⟨sp2.toArray⟩, .string ⟨nm2.toArray⟩] 59) := ⟨_, rfl⟩
  rw [← hW]
  have HB0 : Hid (Below w.heap.size w W2) := by rw [hW]; exact balloc2 _ _ _
  have a0 := Ext.cell (show W2.cell? ⟨w.heap.size, 0, none⟩ = some (.int .i64 k) by rw [hW]; simp)
  have a1 := Ext.cell (show W2.cell? ⟨w.heap.size, 1, none⟩ = some (.string ⟨sp.toArray⟩) by rw [hW]; simp)
  have a2 := Ext.cell (show W2.cell? ⟨w.heap.size, 2, none⟩ = some (.string ⟨nm.toArray⟩) by rw [hW]; simp)
  have b0 := Ext.cell (show W2.cell? ⟨w.heap.size + 1, 0, none⟩ = some (.int .i64 k2) by rw [hW]; simp)
  have b1 := Ext.cell (show W2.cell? ⟨w.heap.size + 1, 1, none⟩ = some (.string ⟨sp2.toArray⟩) by rw [hW]; simp)
  have b2 := Ext.cell (show W2.cell? ⟨w.heap.size + 1, 2, none⟩ = some (.string ⟨nm2.toArray⟩) by rw [hW]; simp)
  clear hW
  refine wp_region_X (.rd 0 (.rd 1 (.rd 2 (.rd 3 (.rd 5 (.rd 6 (.rd 7 (.rd 8 (.rd 10 (.rd 11 (.rd 12 (.rd 13 (.one 4 (.one 9 (.one 14 (.one 15 (.one 16 (.rd 17 .done)))))))))))))))))) (by kernel_rfl) (by kernel_rfl) rfl (by kernel_rfl) (by kernel_rfl) ?_
  simp only [opsOfT, List.getElem?_toArray, List.getElem?_cons_zero, List.getElem?_cons_succ]
  repeat (first
    | (refine wpX_skip (by rfl) ?_; (try simp only [Act.put, List.setIfInBounds_toArray, List.set_cons_zero, List.set_cons_succ]))
    | (refine wpX_nocall (by rfl) ?_; (try simp only [Act.put, List.setIfInBounds_toArray, List.set_cons_zero, List.set_cons_succ]))
    | (refine wpX_val (by rfl) ?_; apply Exists.intro; refine ⟨fun nq => ?_, ?_⟩; (focus (go_simp; try (with_reducible rfl); done)); (try simp only [Act.put, List.setIfInBounds_toArray, List.set_cons_zero, List.set_cons_succ]); (try go_ints)))
  refine wpX_call (by rfl) ?_
  apply Exists.intro
  apply Exists.intro
  refine ⟨fun nq => ?_, fun n1 => ?_⟩
  focus (go_simp; first | done | exact ⟨rfl, rfl⟩ | rfl)
  refine (ccmp_any k k2 _).mono ?_
  rintro e w1 ⟨rfl, hB1⟩
  refine ⟨_, rfl, hB1, ?_⟩
  have HB1 := Lib.hid (below_then (below_then HB0.out n1.below) hB1)
  have HP1 := Lib.hid (below_then n1.below hB1)
  clear hB1
  try simp only [Act.put, List.setIfInBounds_toArray, List.set_cons_zero, List.set_cons_succ]
  refine wpX_call (by rfl) ?_
  apply Exists.intro
  apply Exists.intro
  refine ⟨fun nq => ?_, fun n2 => ?_⟩
  focus (go_simp; first | done | exact ⟨rfl, rfl⟩ | rfl)
  refine (scmp_any sp sp2 _).mono ?_
  rintro e w2 ⟨rfl, hB2⟩
  refine ⟨_, rfl, hB2, ?_⟩
  have HB2 := Lib.hid (below_then (below_then HB1.out n2.below) hB2)
  have HP2 := Lib.hid (below_then n2.below hB2)
  clear hB2
  try simp only [Act.put, List.setIfInBounds_toArray, List.set_cons_zero, List.set_cons_succ]
  refine wpX_call (by rfl) ?_
  apply Exists.intro
  apply Exists.intro
  refine ⟨fun nq => ?_, fun n3 => ?_⟩
  focus (go_simp; first | done | exact ⟨rfl, rfl⟩ | rfl)
  refine (scmp_any nm nm2 _).mono ?_
  rintro e w3 ⟨rfl, hB3⟩
  refine ⟨_, rfl, hB3, ?_⟩
  have HB3 := Lib.hid (below_then (below_then HB2.out n3.below) hB3)
  have HP3 := Lib.hid (below_then n3.below hB3)
  clear hB3
  try simp only [Act.put, List.setIfInBounds_toArray, List.set_cons_zero, List.set_cons_succ]
  refine wpX_make (by rfl) fun n4 => ?_
  refine ⟨.slice (some ⟨n4.w.heap.size, 0, none⟩) 3 3, n4.w.alloc (.cells #[.int .i64 (Lib.compareInt k k2), .int .i64 (cb sp sp2), .int .i64 (cb nm nm2)] 3), ?_, (Below.refl _ _).alloc (Nat.le_refl _) _, ?_⟩
  focus (go_simp; try rfl; done)
  have HB4 := Lib.hid (below_then (below_then HB3.out n4.below) ((Below.refl n4.w.heap.size n4.w).alloc (Nat.le_refl _) (.cells #[.int .i64 (Lib.compareInt k k2), .int .i64 (cb sp sp2), .int .i64 (cb nm nm2)] 3)))
  try simp only [Act.put, List.setIfInBounds_toArray, List.set_cons_zero, List.set_cons_succ]
  refine wpX_call (by rfl) ?_
  apply Exists.intro
  apply Exists.intro
  refine ⟨fun nq => ?_, fun n5 => ?_⟩
  focus (go_simp; first | done | exact ⟨rfl, rfl⟩ | rfl)
  refine (or3_any n4.w.heap.size (Lib.compareInt k k2) (cb sp sp2) (cb nm nm2) _ (below_cell n5.below (by simp)) (below_cell n5.below (by simp)) (below_cell n5.below (by simp))).mono ?_
  rintro e w5 ⟨rfl, hB5⟩
  refine ⟨_, rfl, hB5, ?_⟩
  have HB5 := Lib.hid (below_then (below_then HB4.out n5.below) hB5)
  have HP5 := Lib.hid (below_then n5.below hB5)
  clear hB5
  try simp only [Act.put, List.setIfInBounds_toArray, List.set_cons_zero, List.set_cons_succ]
  repeat (first
    | (refine wpX_skip (by rfl) ?_; (try simp only [Act.put, List.setIfInBounds_toArray, List.set_cons_zero, List.set_cons_succ]))
    | (refine wpX_nocall (by rfl) ?_; (try simp only [Act.put, List.setIfInBounds_toArray, List.set_cons_zero, List.set_cons_succ]))
    | (refine wpX_val (by rfl) ?_; apply Exists.intro; refine ⟨fun nq => ?_, ?_⟩; (focus (go_simp; try (with_reducible rfl); done)); (try simp only [Act.put, List.setIfInBounds_toArray, List.set_cons_zero, List.set_cons_succ]); (try go_ints)))
  intro nz
  refine NoPanic.normal ?_
  have hB6 := nz.below
  revert hB6
  generalize nz.w = w6
  intro hB6
  clear nz
  have HB6 := Lib.hid (below_then HB5.out hB6)
  have HP6 := Lib.hid hB6
  clear hB6
  go_wp2
  go_ret
  exact ⟨by rw [HF.out]; rfl, HB6.out⟩

/-- the letters and figures of a label -/
def lset : List UInt8 := [97, 98, 99, 100, 101, 102, 103, 104, 105, 106, 107, 108, 109, 110, 111, 112, 113, 114, 115, 116, 117, 118, 119, 120, 121, 122, 48, 49, 50, 51, 52, 53, 54, 55, 56, 57]
def lchar (c : UInt8) : Bool := c.toNat == 45 || !decide (Lib.indexByte lset c < 0)
def labelM (l : List UInt8) : Bool := !l.isEmpty && decide (l.length ≤ 24) && !Lib.hasPrefix l [45] && !Lib.hasSuffix l [45] && l.all lchar

theorem ba_get9 (l : List UInt8) : ∀ (i : Nat) (h : i < (⟨l.toArray⟩ : ByteArray).size), (⟨l.toArray⟩ : ByteArray)[i]'h = l.getD i 0 := by
  intro i h
  have h' : i < l.length := h
  show l.toArray[i] = _
  simp [List.getD, List.getElem?_eq_getElem h']
theorem li_get9 (l : List UInt8) (i : Nat) : ∃ x, (∀ h, l[i]'h = x) ∧ (∀ h : i < (⟨l.toArray⟩ : ByteArray).size, (⟨l.toArray⟩ : ByteArray)[i]'h = x) ∧ x = l.getD i 0 :=
  ⟨_, fun h => by simp [List.getD, List.getElem?_eq_getElem h], ba_get9 l i, rfl⟩
theorem all_bad9 {l : List UInt8} {i : Nat} {p : UInt8 → Bool} (hi : i < l.length) (h : p (l.getD i 0) = false) : l.all p = false := by
  cases e : l.all p with
  | false => rfl
  | true =>
    rw [List.all_eq_true] at e
    have := e (l.getD i 0) (by simp [List.getD, List.getElem?_eq_getElem hi])
    rw [h] at this
    cases this
theorem take_snoc9 (l : List UInt8) (i : Nat) (h : i < l.length) : l.take (i + 1) = l.take i ++ [l.getD i 0] := by
  rw [List.take_succ_eq_append_getElem h]
  simp [List.getD, List.getElem?_eq_getElem h]

set_option maxRecDepth 100000 in
set_option maxHeartbeats 1000000 in
theorem label_any (l : List UInt8) (w : World) : Calls Tryd.prog 52 #[.string ⟨l.toArray⟩] w fun e w' => e = .returned (.bool (labelM l)) ∧ Below w.heap.size w w' := by
  by_cases h0 : l = []
  · subst h0
    go_enter Tryd.func52, Tryd.ntmps52
    go_wp2
    go_ret
    exact ⟨rfl, brefl _⟩
  · have he : l.isEmpty = false := by cases l <;> simp at h0 ⊢
    have hp := List.length_pos_iff.2 h0
    by_cases h24 : 24 < l.length
    · have HF : Hid (labelM l = false) := by show labelM l = _; simp [labelM, show ¬ l.length ≤ 24 by omega]
      have t1 : decide ((24 : Int) < (l.length : Nat)) = true := by simp; omega
      go_enter Tryd.func52, Tryd.ntmps52
      go_wp2
      go_ret
      exact ⟨by rw [HF.out]; rfl, brefl _⟩
    · have t1 : decide ((24 : Int) < (l.length : Nat)) = false := by simp; omega
      have HP := fun w => Lib.hid (hp_any l [45] w)
      have HQ := fun w => Lib.hid (hs_any l [45] w (by omega))
      have HF : Hid (labelM l = (!Lib.hasPrefix l [45] && !Lib.hasSuffix l [45] && l.all lchar)) := by
        show labelM l = _
        simp [labelM, he, show l.length ≤ 24 by omega]
      generalize Lib.hasPrefix l [45] = p at *
      generalize Lib.hasSuffix l [45] = q at *
      have H18 : Hid (l.length ≤ 24) := by show l.length ≤ 24; omega
      clear h24
      cases p with
      | true =>
        go_enter Tryd.func52, Tryd.ntmps52
        go_wp2_with (go_at_call 54; refine ((HP _).out).mono ?_; rintro e w1 ⟨rfl, hB⟩)
        go_ret
        exact ⟨by rw [HF.out]; rfl, hB⟩
      | false =>
        cases q with
        | true =>
          go_enter Tryd.func52, Tryd.ntmps52
          go_wp2_with (first
            | (go_at_call 54; refine ((HP _).out).mono ?_; rintro e w1 ⟨rfl, hB⟩)
            | (go_at_call 55; refine ((HQ _).out).mono ?_; rintro e w2 ⟨rfl, hB2⟩))
          go_ret
          exact ⟨by rw [HF.out]; rfl, below_then hB hB2⟩
        | false =>
          go_enter Tryd.func52, Tryd.ntmps52
          go_wp2_with (first
            | (go_at_call 54; refine ((HP _).out).mono ?_; rintro e w1 ⟨rfl, hB⟩)
            | (go_at_call 55; refine ((HQ _).out).mono ?_; rintro e w2 ⟨rfl, hB2⟩))
          have HW := Lib.hid (below_then hB hB2)
          clear hB hB2 HP HQ
          go_loopw [21] (fun j wr => ∃ i : Nat, i ≤ l.length ∧ j = .int .i64 i ∧ (l.take i).all lchar = true ∧ Below w.heap.size w wr)
            (fun j _ => l.length - (intOf j).toNat)
          case atStart => exact ⟨0, by omega, rfl, by simp, HW.out⟩
          case round =>
            obtain ⟨i, hi, rfl, hf, hB⟩ := hrel
            have HB0 := Lib.hid hB
            have HA := Lib.hid hf
            clear hf hB HW
            by_cases hlt : i = l.length
            · subst hlt
              have HV : Hid (labelM l = true) := by
                have := HA.out
                rw [List.take_length] at this
                show labelM l = _
                rw [HF.out, this]
                rfl
              go_wp2
              go_ret
              exact ⟨by rw [HV.out]; rfl, HB0.out⟩
            · have hi' : (i : Int) < l.length := by omega
              have b24 : (l.length : Int) ≤ 24 := by have := H18.out; omega
              obtain ⟨c, gx, gy, hc⟩ := li_get9 l i
              have gk : ∀ h, ((((⟨#[45]⟩ : ByteArray)[0]'h).toNat : Nat) : Int) = 45 := fun _ => rfl
              have HT := take_snoc9 l i (by omega)
              rw [← hc] at HT
              have HA2 : Hid (lchar c = true → (l.take (i + 1)).all lchar = true) := fun h => by rw [HT]; simp [HA.out, h]
              have HV : Hid (lchar c = false → labelM l = false) := fun h => by
                rw [HF.out, all_bad9 (p := lchar) (i := i) (by omega) (by rw [← hc]; exact h)]
                rfl
              clear HT hc HF
              by_cases h45 : c.toNat = 45
              · have t5 : ((c.toNat : Int) != 45) = false := by simp; omega
                have HC : Hid (lchar c = true) := by show lchar c = _; simp [lchar, h45]
                clear h45
                go_wp2_with fail
                refine wp_region_O [(0, false), (1, false), (2, false), (3, false), (4, false), (5, false), (6, false), (7, false), (8, false), (9, true), (10, false), (11, false)] (by kernel_rfl) (by kernel_rfl) rfl (by kernel_rfl) (by kernel_rfl) ?_
                simp only [opsOf, List.filterMap_cons, List.filterMap_nil, Option.map_some, List.getElem?_toArray, List.getElem?_cons_zero, List.getElem?_cons_succ]
                repeat (first
                  | (refine wpO_skip (by rfl) ?_; (try simp only [Act.put, List.setIfInBounds_toArray, List.set_cons_zero, List.set_cons_succ]))
                  | (refine wpO_nocall (by rfl) ?_; (try simp only [Act.put, List.setIfInBounds_toArray, List.set_cons_zero, List.set_cons_succ]))
                  | (refine wpO_val (by rfl) ?_; apply Exists.intro; refine ⟨fun nq => ?_, ?_⟩; (focus (go_simp; try (with_reducible rfl); done)); (try simp only [Act.put, List.setIfInBounds_toArray, List.set_cons_zero, List.set_cons_succ]); (try go_ints)))
                intro nz
                refine NoPanic.normal ?_
                have hB1 := nz.below
                revert hB1
                generalize nz.w = w1
                intro hB1
                clear nz
                have HB1 := Lib.hid (below_then HB0.out hB1)
                have HP1 := Lib.hid hB1
                clear hB1
                go_wp2
                go_roundw
                case rel => exact ⟨i + 1, by omega, by go_num, HA2.out HC.out, HB1.out⟩
                case measure => simp [intOf]; omega
              · have t5 : ((c.toNat : Int) != 45) = true := by simp; omega
                have HI := fun w => Lib.hid (ib_any lset c w)
                have HC : Hid (lchar c = !decide (Lib.indexByte lset c < 0)) := by show lchar c = _; simp [lchar, h45]
                clear h45
                generalize Lib.indexByte lset c = z at *
                by_cases hz : z < 0
                · have HC2 : Hid (lchar c = false) := by show lchar c = _; rw [HC.out]; simp [hz]
                  go_wp2_with fail
                  refine wp_region_O [(0, false), (1, false), (2, false), (3, false), (4, false), (5, false), (6, false), (7, false), (8, false), (9, true), (10, false), (11, false)] (by kernel_rfl) (by kernel_rfl) rfl (by kernel_rfl) (by kernel_rfl) ?_
                  simp only [opsOf, List.filterMap_cons, List.filterMap_nil, Option.map_some, List.getElem?_toArray, List.getElem?_cons_zero, List.getElem?_cons_succ]
                  repeat (first
                    | (refine wpO_skip (by rfl) ?_; (try simp only [Act.put, List.setIfInBounds_toArray, List.set_cons_zero, List.set_cons_succ]))
                    | (refine wpO_nocall (by rfl) ?_; (try simp only [Act.put, List.setIfInBounds_toArray, List.set_cons_zero, List.set_cons_succ]))
                    | (refine wpO_val (by rfl) ?_; apply Exists.intro; refine ⟨fun nq => ?_, ?_⟩; (focus (go_simp; try (with_reducible rfl); done)); (try simp only [Act.put, List.setIfInBounds_toArray, List.set_cons_zero, List.set_cons_succ]); (try go_ints)))
                  refine wpO_call (by rfl) ?_
                  apply Exists.intro
                  apply Exists.intro
                  refine ⟨fun nq => ?_, fun n1 => ?_⟩
                  focus (go_simp; first | done | exact ⟨rfl, rfl⟩ | rfl)
                  refine (((HI _).out)).mono ?_
                  rintro e w1 ⟨rfl, hB1⟩
                  refine ⟨_, rfl, hB1, ?_⟩
                  have HB1 := Lib.hid (below_then (below_then HB0.out n1.below) hB1)
                  have HP1 := Lib.hid (below_then n1.below hB1)
                  clear hB1
                  try simp only [Act.put, List.setIfInBounds_toArray, List.set_cons_zero, List.set_cons_succ]
                  repeat (first
                    | (refine wpO_skip (by rfl) ?_; (try simp only [Act.put, List.setIfInBounds_toArray, List.set_cons_zero, List.set_cons_succ]))
                    | (refine wpO_nocall (by rfl) ?_; (try simp only [Act.put, List.setIfInBounds_toArray, List.set_cons_zero, List.set_cons_succ]))
                    | (refine wpO_val (by rfl) ?_; apply Exists.intro; refine ⟨fun nq => ?_, ?_⟩; (focus (go_simp; try (with_reducible rfl); done)); (try simp only [Act.put, List.setIfInBounds_toArray, List.set_cons_zero, List.set_cons_succ]); (try go_ints)))
                  intro nz
                  refine NoPanic.normal ?_
                  have hB2 := nz.below
                  revert hB2
                  generalize nz.w = w2
                  intro hB2
                  clear nz
                  have HB2 := Lib.hid (below_then HB1.out hB2)
                  have HP2 := Lib.hid hB2
                  clear hB2
                  go_wp2
                  go_ret
                  exact ⟨by rw [HV.out HC2.out]; rfl, HB2.out⟩
                · have HC2 : Hid (lchar c = true) := by show lchar c = _; rw [HC.out]; simp [hz]
                  go_wp2_with fail
                  refine wp_region_O [(0, false), (1, false), (2, false), (3, false), (4, false), (5, false), (6, false), (7, false), (8, false), (9, true), (10, false), (11, false)] (by kernel_rfl) (by kernel_rfl) rfl (by kernel_rfl) (by kernel_rfl) ?_
                  simp only [opsOf, List.filterMap_cons, List.filterMap_nil, Option.map_some, List.getElem?_toArray, List.getElem?_cons_zero, List.getElem?_cons_succ]
                  repeat (first
                    | (refine wpO_skip (by rfl) ?_; (try simp only [Act.put, List.setIfInBounds_toArray, List.set_cons_zero, List.set_cons_succ]))
                    | (refine wpO_nocall (by rfl) ?_; (try simp only [Act.put, List.setIfInBounds_toArray, List.set_cons_zero, List.set_cons_succ]))
                    | (refine wpO_val (by rfl) ?_; apply Exists.intro; refine ⟨fun nq => ?_, ?_⟩; (focus (go_simp; try (with_reducible rfl); done)); (try simp only [Act.put, List.setIfInBounds_toArray, List.set_cons_zero, List.set_cons_succ]); (try go_ints)))
                  refine wpO_call (by rfl) ?_
                  apply Exists.intro
                  apply Exists.intro
                  refine ⟨fun nq => ?_, fun n1 => ?_⟩
                  focus (go_simp; first | done | exact ⟨rfl, rfl⟩ | rfl)
                  refine (((HI _).out)).mono ?_
                  rintro e w1 ⟨rfl, hB1⟩
                  refine ⟨_, rfl, hB1, ?_⟩
                  have HB1 := Lib.hid (below_then (below_then HB0.out n1.below) hB1)
                  have HP1 := Lib.hid (below_then n1.below hB1)
                  clear hB1
                  try simp only [Act.put, List.setIfInBounds_toArray, List.set_cons_zero, List.set_cons_succ]
                  repeat (first
                    | (refine wpO_skip (by rfl) ?_; (try simp only [Act.put, List.setIfInBounds_toArray, List.set_cons_zero, List.set_cons_succ]))
                    | (refine wpO_nocall (by rfl) ?_; (try simp only [Act.put, List.setIfInBounds_toArray, List.set_cons_zero, List.set_cons_succ]))
                    | (refine wpO_val (by rfl) ?_; apply Exists.intro; refine ⟨fun nq => ?_, ?_⟩; (focus (go_simp; try (with_reducible rfl); done)); (try simp only [Act.put, List.setIfInBounds_toArray, List.set_cons_zero, List.set_cons_succ]); (try go_ints)))
                  intro nz
                  refine NoPanic.normal ?_
                  have hB2 := nz.below
                  revert hB2
                  generalize nz.w = w2
                  intro hB2
                  clear nz
                  have HB2 := Lib.hid (below_then HB1.out hB2)
                  have HP2 := Lib.hid hB2
                  clear hB2
                  go_wp2
                  go_roundw
                  case rel => exact ⟨i + 1, by omega, by go_num, HA2.out HC2.out, HB2.out⟩
                  case measure => simp [intOf]; omega
end Go.Proofs.YtjhgocnjhhjkoaaDoor
