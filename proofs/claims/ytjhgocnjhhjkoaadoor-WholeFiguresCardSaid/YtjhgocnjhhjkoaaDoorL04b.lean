/- The walk of the statement WholePut. -/
import Derived.Test.YtjhgocnjhhjkoaaDoorL04
import Derived.Test.YtjhgocnjhhjkoaaDoorReg
namespace Go.Proofs.YtjhgocnjhhjkoaaDoor
open Go.RowKit

theorem Ext.str {w : World} {v : Value} {l : List UInt8} (h : Bs w v l) (n : Ext w) : (convert 38 9 v).run Tryd.prog n.w = .ok (.string ⟨l.toArray⟩) n.w := str_bs (h.below n.below)
theorem bv_one (c : UInt8) : bv [c] = [.int .u8 c.toNat] := rfl

theorem Bs.cellsOf {w : World} {a : Addr} {n cap : Nat} {l : List UInt8} (h : Bs w (.slice (some a) n cap) l) : ∀ j u, (bv l)[j]? = some u → w.cell? (a.add j) = some u := by
  obtain ⟨ao, cap', e, _, _, _, hc⟩ := h.parts
  injection e with e1 e2 e3
  exact hc a e1.symm
theorem below_alloc1 (w : World) (o : Obj) : Below w.heap.size w (w.alloc o) := (Below.refl _ _).alloc (Nat.le_refl _) _

set_option maxRecDepth 100000 in
set_option maxHeartbeats 400000 in
theorem wholePut_walk {w : World} {al : List Addr} (n : Int) (lo : -9223372036854775808 ≤ n) (hi : n ≤ 9223372036854775807) (hs : Sent w al) :
    Calls Tryd.prog 5 #[.int .i64 n] w fun e w' => e = .returned (.bool true) ∧ Below w.heap.size w w' := by
  have HB0 := Lib.hid (below_refl w)
  have HS0 := Lib.hid hs
  clear hs
  obtain ⟨i, hi0, hz0, hz1, hz2⟩ := info_parts info_byte
  go_enter Tryd.func5, Tryd.ntmps5
  go_wp2_with fail
  refine (alive04_any w).mono ?_
  rintro e w1 ⟨rfl, hB1⟩
  have HB1 := Lib.hid (below_then HB0.out hB1)
  have HS1 := Lib.hid (HS0.out.below hB1)
  have HP1 := Lib.hid hB1
  clear hB1
  go_wp2_with fail
  refine (wput_any n w1 lo hi).mono ?_
  rintro e w2 ⟨v2, k, rfl, hk, ho, hB2⟩
  have HB2 := Lib.hid (below_then HB1.out hB2)
  have HS2 := Lib.hid (HS1.out.below hB2)
  have HP2 := Lib.hid hB2
  clear hB2
  have HK := Lib.hid hk
  have HV2 := Lib.hid (own_bs ho)
  obtain ⟨g, cap, rfl, -, hkc, hg2, hcap⟩ := own_cons ho (by omega)
  clear ho hk
  have hkc7 : k ≤ 7 := HK.out.1
  go_wp2_with fail
  refine (wget_any HS2.out HV2.out).mono ?_
  rw [getM_put n k HK.out]
  rintro e w3 ⟨rfl, hB3⟩
  have HB3 := Lib.hid (below_then HB2.out hB3)
  have HS3 := Lib.hid (HS2.out.below hB3)
  have HV3 := Lib.hid (HV2.out.below hB3)
  clear hB3
  rw [ev_zero]
  go_wp2_with fail
  have s3 := Ext.str HV3.out
  refine wp_region_O [(0, false), (1, false), (2, false), (3, false), (4, false), (5, false), (6, false), (7, false), (8, false), (9, false), (10, false), (11, true), (12, false), (13, false), (14, false), (15, false), (16, false), (18, false), (19, false), (17, true), (20, false), (21, false)] (by kernel_rfl) (by kernel_rfl) rfl (by kernel_rfl) (by kernel_rfl) ?_
  simp only [opsOf, List.filterMap_cons, List.filterMap_nil, Option.map_some, List.getElem?_toArray, List.getElem?_cons_zero, List.getElem?_cons_succ]
  repeat (first
    | (refine wpO_skip (by rfl) ?_; (try simp only [Act.put, List.setIfInBounds_toArray, List.set_cons_zero, List.set_cons_succ]))
    | (refine wpO_val (by rfl) ?_; apply Exists.intro; refine ⟨fun nq => ?_, ?_⟩; (focus (go_simp; try (with_reducible rfl); done)); (try simp only [Act.put, List.setIfInBounds_toArray, List.set_cons_zero, List.set_cons_succ])))
  refine wpO_call (by rfl) ?_
  apply Exists.intro
  apply Exists.intro
  refine ⟨fun nq => ?_, fun n4 => ?_⟩
  focus (go_simp; first | done | exact ⟨rfl, rfl⟩ | rfl)
  refine (rput_any n _ lo hi).mono ?_
  rintro e w4 ⟨v4, k4, rfl, hk4, hv4, hB4⟩
  refine ⟨_, rfl, hB4, ?_⟩
  have HB4 := Lib.hid (below_then (below_then HB3.out n4.below) hB4)
  have HS4 := Lib.hid ((HS3.out.below n4.below).below hB4)
  have HP4 := Lib.hid (below_then n4.below hB4)
  clear hB4
  try simp only [Act.put, List.setIfInBounds_toArray, List.set_cons_zero, List.set_cons_succ]
  obtain rfl := HK.out.unique hk4
  have s4 := Ext.str hv4
  repeat (first
    | (refine wpO_skip (by rfl) ?_; (try simp only [Act.put, List.setIfInBounds_toArray, List.set_cons_zero, List.set_cons_succ]))
    | (refine wpO_val (by rfl) ?_; apply Exists.intro; refine ⟨fun nq => ?_, ?_⟩; (focus (go_simp; try (with_reducible rfl); done)); (try simp only [Act.put, List.setIfInBounds_toArray, List.set_cons_zero, List.set_cons_succ])))
  refine wpO_call (by rfl) ?_
  apply Exists.intro
  apply Exists.intro
  refine ⟨fun nq => ?_, fun n5 => ?_⟩
  focus (go_simp; first | done | exact ⟨rfl, rfl⟩ | rfl)
  refine (wbytes_any n _ lo hi).mono ?_
  rintro e w5 ⟨⟨k5, rfl, hk5⟩, hB5⟩
  refine ⟨_, rfl, hB5, ?_⟩
  have HB5 := Lib.hid (below_then (below_then HB4.out n5.below) hB5)
  have HS5 := Lib.hid ((HS4.out.below n5.below).below hB5)
  have HP5 := Lib.hid (below_then n5.below hB5)
  clear hB5
  try simp only [Act.put, List.setIfInBounds_toArray, List.set_cons_zero, List.set_cons_succ]
  obtain rfl := HK.out.unique hk5
  repeat (first
    | (refine wpO_skip (by rfl) ?_; (try simp only [Act.put, List.setIfInBounds_toArray, List.set_cons_zero, List.set_cons_succ]))
    | (refine wpO_val (by rfl) ?_; apply Exists.intro; refine ⟨fun nq => ?_, ?_⟩; (focus (go_simp; try (with_reducible rfl); done)); (try simp only [Act.put, List.setIfInBounds_toArray, List.set_cons_zero, List.set_cons_succ])))
  intro nz
  refine NoPanic.normal ?_
  have hB6 := nz.below
  revert hB6
  generalize nz.w = w6
  intro hB6
  clear nz
  have HB6 := Lib.hid (below_then HB5.out hB6)
  have HS6 := Lib.hid (HS5.out.below hB6)
  have HP6 := Lib.hid hB6
  clear hB6
  clear s3 s4 hk4 hk5
  have HV6 := Lib.hid (HV3.out.below (below_then HP4.out (below_then HP5.out HP6.out)))
  have H8 := Lib.hid (getM_more n k HK.out)
  by_cases hneg : n < 0
  · have HB7 := Lib.hid (below_then HB6.out (below_alloc1 w6 (.cells #[.int .u8 255] 5)))
    have HN := Lib.hid (Bs.cellsOf (HV6.out.below (below_alloc1 w6 (.cells #[.int .u8 255] 5))))
    have HO : Hid ((w6.alloc (.cells #[.int .u8 255] 5)).ownsRow w6.heap.size 5 1 (.slice (some ⟨w6.heap.size, 0, none⟩) 1 1) 1 (bv [255])) :=
      ⟨rfl, .inr ⟨w6.heap.size, 1, #[.int .u8 255], rfl, Nat.le_refl _, heap_alloc_new w6 _, Nat.le_refl _, by decide, rfl, rfl⟩⟩
    have hl := digs_length (k + 1) n
    go_wp2_with (at_builtin; go_loud (refine wpList_append_own _ rfl (.tmp 42) (.tmp 43) 38 rfl w6.heap.size 5 i (.int .u8 0) 1 1 Tryd.underlying38 hi0 hz0 hz1 hz2 rfl (by decide) _ _ _ rfl HO.out ⟨g, 0, none⟩ (k + 1) cap (bv (digs (k + 1) n).reverse) rfl ?c1 HN.out (bytes_one _) ?c3 ?c4 ?c5 ?_))
    case c1 => simp [bv_length, digs_length]
    case c3 => unfold maxLen; omega
    case c4 => omega
    try (case c5 => simp)
    intro v8 w8 ho8 hg8 _
    rw [← bv_append] at ho8
    have HB8 := Lib.hid (HB7.out.grown hg8 (by have := HB6.out.size; simp; omega) (fun q hq => by simp [Value.ownBlock] at hq; have := HB6.out.size; omega))
    have HS8 := Lib.hid (HS0.out.below HB8.out)
    have HV8 := Lib.hid (own_bs ho8)
    clear ho8 hg8
    go_wp2_with fail
    refine (wget_any HS8.out HV8.out).mono ?_
    have e8 : getM ([255] ++ (digs (k + 1) n).reverse) = (0, 4) := by
      have := H8.out
      rwa [if_pos (by omega)] at this
    rw [e8]
    rintro e w9 ⟨rfl, hB9⟩
    have HB9 := Lib.hid (below_then HB8.out hB9)
    have HS9 := Lib.hid (HS8.out.below hB9)
    clear hB9
    go_wp2_with fail
    refine (num_any HS9.out 4 (by decide)).mono ?_
    rintro e w10 ⟨rfl, hB10⟩
    have HB10 := Lib.hid (below_then HB9.out hB10)
    have HS10 := Lib.hid (HS9.out.below hB10)
    have HP10 := Lib.hid hB10
    clear hB10
    go_wp2
    go_ret
    exact ⟨rfl, HB10.out⟩
  · have HB7 := Lib.hid (below_then HB6.out (below_alloc1 w6 (.cells #[.int .u8 0] 5)))
    have HN := Lib.hid (Bs.cellsOf (HV6.out.below (below_alloc1 w6 (.cells #[.int .u8 0] 5))))
    have HO : Hid ((w6.alloc (.cells #[.int .u8 0] 5)).ownsRow w6.heap.size 5 1 (.slice (some ⟨w6.heap.size, 0, none⟩) 1 1) 1 (bv [0])) :=
      ⟨rfl, .inr ⟨w6.heap.size, 1, #[.int .u8 0], rfl, Nat.le_refl _, heap_alloc_new w6 _, Nat.le_refl _, by decide, rfl, rfl⟩⟩
    have hl := digs_length (k + 1) n
    go_wp2_with (at_builtin; go_loud (refine wpList_append_own _ rfl (.tmp 42) (.tmp 43) 38 rfl w6.heap.size 5 i (.int .u8 0) 1 1 Tryd.underlying38 hi0 hz0 hz1 hz2 rfl (by decide) _ _ _ rfl HO.out ⟨g, 0, none⟩ (k + 1) cap (bv (digs (k + 1) n).reverse) rfl ?d1 HN.out (bytes_one _) ?d3 ?d4 ?d5 ?_))
    case d1 => simp [bv_length, digs_length]
    case d3 => unfold maxLen; omega
    case d4 => omega
    try (case d5 => simp)
    intro v8 w8 ho8 hg8 _
    rw [← bv_append] at ho8
    have HB8 := Lib.hid (HB7.out.grown hg8 (by have := HB6.out.size; simp; omega) (fun q hq => by simp [Value.ownBlock] at hq; have := HB6.out.size; omega))
    have HS8 := Lib.hid (HS0.out.below HB8.out)
    have HV8 := Lib.hid (own_bs ho8)
    clear ho8 hg8
    go_wp2_with fail
    refine (wget_any HS8.out HV8.out).mono ?_
    have e8 : getM ([0] ++ (digs (k + 1) n).reverse) = (0, 4) := by
      have := H8.out
      rwa [if_neg (by omega)] at this
    rw [e8]
    rintro e w9 ⟨rfl, hB9⟩
    have HB9 := Lib.hid (below_then HB8.out hB9)
    have HS9 := Lib.hid (HS8.out.below hB9)
    clear hB9
    go_wp2_with fail
    refine (num_any HS9.out 4 (by decide)).mono ?_
    rintro e w10 ⟨rfl, hB10⟩
    have HB10 := Lib.hid (below_then HB9.out hB10)
    have HS10 := Lib.hid (HS9.out.below hB10)
    have HP10 := Lib.hid hB10
    clear hB10
    go_wp2
    go_ret
    exact ⟨rfl, HB10.out⟩
end Go.Proofs.YtjhgocnjhhjkoaaDoor
