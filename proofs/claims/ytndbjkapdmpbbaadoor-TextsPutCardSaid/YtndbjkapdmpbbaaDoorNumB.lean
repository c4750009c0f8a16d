/- bullanum.Bytes and bullanum.Kept: a copy with marked room behind it, and that it stands as it stood. -/
import Derived.Test.YtndbjkapdmpbbaaDoorBase
namespace Go.Proofs.YtndbjkapdmpbbaaDoor
set_option linter.unusedVariables false
open Go.RowKit

def marks : List UInt8 := [201, 202, 203, 204, 205, 206]
/-- v reads as l, and six marks lie behind it -/
def Marked (w : World) (v : Value) (l : List UInt8) : Prop :=
  ∃ g, v = .slice (some ⟨g, 0, none⟩) l.length (l.length + 6) ∧ l.length + 6 ≤ 9223372036854775807 ∧ ∀ i, i < l.length + 6 → w.cell? ⟨g, i, none⟩ = some (.int .u8 ((l ++ marks).getD i 0).toNat)
def MarkedAt (w : World) (g : Nat) (v : Value) (l : List UInt8) : Prop :=
  v = .slice (some ⟨g, 0, none⟩) l.length (l.length + 6) ∧ l.length + 6 ≤ 9223372036854775807 ∧ ∀ i, i < l.length + 6 → w.cell? ⟨g, i, none⟩ = some (.int .u8 ((l ++ marks).getD i 0).toNat)
theorem Marked.below {a b : World} {v : Value} {l : List UInt8} (h : Marked a v l) (k : Below a.heap.size a b) : Marked b v l := by
  obtain ⟨g, rfl, h1, h2⟩ := h
  exact ⟨g, rfl, h1, fun i hi => below_cell k (h2 i hi)⟩
theorem Marked.bs {w : World} {v : Value} {l : List UInt8} (h : Marked w v l) : Bs w v l := by
  obtain ⟨g, rfl, h1, h2⟩ := h
  refine Bs.of_cells (by omega) (by omega) fun i hi => ?_
  rw [Nat.zero_add, h2 i (by omega)]
  simp [List.getD, List.getElem?_append_left hi]

theorem info_byte : (Tryd.prog.info? 5).map (fun i => (i.zero, i.size, i.bytes)) = some (some (.int .u8 0), 1, 1) := by kernel_rfl

theorem bytes_one (l : List UInt8) : ∀ u ∈ l.map (fun c => Value.int .u8 c.toNat), u.oneCell' = true := by
  intro u hu
  obtain ⟨c, _, rfl⟩ := List.mem_map.1 hu
  rfl
theorem Bs.parts {w : World} {v : Value} {l : List UInt8} (h : Bs w v l) :
    ∃ ao cap, v = .slice ao l.length cap ∧ l.length ≤ cap ∧ cap ≤ 9223372036854775807 ∧ (ao = none → l.length = 0 ∧ cap = 0) ∧
      ∀ ad, ao = some ad → ∀ j u, (l.map fun c => Value.int .u8 c.toNat)[j]? = some u → w.cell? (ad.add j) = some u := by
  obtain ⟨ao, cap, rfl, h1, h2, h3, h4⟩ := h
  refine ⟨ao, cap, rfl, h1, h2, fun h => ⟨by have := h3 h; omega, h3 h⟩, ?_⟩
  intro ad had j u hu
  obtain ⟨hs, hc⟩ := h4 ad had
  obtain ⟨b, o, sp⟩ := ad
  have hj : j < l.length := by
    have := (List.getElem?_eq_some_iff.1 hu).1
    simpa using this
  have hs := hs (by omega)
  simp only at hs
  subst hs
  rw [Addr.add_lit, hc j hj]
  rw [List.getElem?_map, List.getElem?_eq_getElem hj] at hu
  simpa [List.getD, hj] using hu

set_option maxHeartbeats 400000 in
theorem nbytes_new {w : World} {v : Value} {l : List UInt8} (h : Bs w v l) (hl : l.length ≤ 1000000) :
    Calls Tryd.prog 18 #[v] w fun e w' => ∃ v', e = .returned v' ∧ MarkedAt w' w.heap.size v' l ∧ Below w.heap.size w w' := by
  obtain ⟨i, hi, hz0, hz1, hz2⟩ := info_parts info_byte
  obtain ⟨ao, cap, rfl, h1, h2, h3, h4⟩ := h.parts
  have h4' : ∀ w1, w.grownBy w1 none → ∀ ad, ao = some ad → ∀ j u, (l.map fun c => Value.int .u8 c.toNat)[j]? = some u → w1.cell? (ad.add j) = some u :=
    fun w1 hg ad had j u hu => hg.cell (h4 ad had j u hu) (by simp)
  have HL : Hid (l.length ≤ 1000000) := hl
  clear h hl
  have b0 : (0 : Int) ≤ l.length := by omega
  have b1 : (l.length : Int) ≤ 1000000 := by have := HL.out; omega
  go_enter Tryd.func18, Tryd.ntmps18
  go_wp2_with (at_make; go_loud (refine wpList_make_own _ rfl _ _ 23 rfl w.heap.size 5 i (.int .u8 0) 1 Tryd.underlying23 hi hz0 hz1 _ _ _ (l.length + 6) rfl rfl ?c1 ?c2 ?c3 (Nat.le_refl _) ?_))
  case c1 => omega
  case c2 => rw [hz2]; omega
  case c3 => have := HL.out; unfold maxLen; omega
  intro w1 ho1 hg1
  have hc1 := h4' w1 hg1
  clear h4 h4'
  go_wp2_with (at_builtin; go_loud (refine wpList_append_fits_any w1 rfl (.tmp 7) (.tmp 8) 23 rfl w.heap.size 5 i 1 Tryd.underlying23 hi hz1 _ _ _ _ rfl ho1 ao l.length cap _ rfl ?d1 h3 hc1 (bytes_one l) ?d2 ?_))
  case d1 => simp
  case d2 => omega
  intro w2 ho2 hg2
  clear hc1
  have ho2' := ho2.alloc (.cells #[.int .u8 201, .int .u8 202, .int .u8 203, .int .u8 204, .int .u8 205, .int .u8 206] 5)
  go_wp2_with (at_builtin; go_loud (refine wpList_append_fits _ rfl (.tmp 9) (.tmp 10) 23 rfl w.heap.size 5 i 1 Tryd.underlying23 hi hz1 _ _ _ _ rfl ho2' ⟨w2.heap.size, 0, none⟩ 6 6 (marks.map fun c => .int .u8 c.toNat) rfl rfl ?e1 (bytes_one _) ?e2 ?_))
  case e2 => omega
  case e1 =>
    intro j u hu
    match j, hu with
    | 0, hu => simp [marks] at hu; subst hu; simp [Addr.add]
    | 1, hu => simp [marks] at hu; subst hu; simp [Addr.add]
    | 2, hu => simp [marks] at hu; subst hu; simp [Addr.add]
    | 3, hu => simp [marks] at hu; subst hu; simp [Addr.add]
    | 4, hu => simp [marks] at hu; subst hu; simp [Addr.add]
    | 5, hu => simp [marks] at hu; subst hu; simp [Addr.add]
    | j + 6, hu => simp [marks] at hu
  intro w3 ho3 hg3
  have HB : Hid (Below w.heap.size w w3) := (((((Below.refl _ _).grown hg1 (Nat.le_refl _) (by simp)).grown hg2 hg1.size (by simp)).alloc (Nat.le_trans hg1.size hg2.size) _).grown hg3 (by have := hg1.size; have := hg2.size; simp; omega) (by simp))
  have HO := Lib.hid ho3
  clear ho3 hg1 hg2 hg3 ho1 ho2 ho2'
  go_wp2
  go_ret
  refine ⟨_, rfl, ⟨rfl, by have := HL.out; omega, fun k hk => ?_⟩, HB.out⟩
  have := HO.out.cellAt k (by omega)
  rw [this, ← List.map_append, List.getElem?_map]
  have hk' : k < (l ++ marks).length := by simp [marks]; omega
  rw [List.getElem?_eq_getElem hk']
  simp [List.getD, List.getElem?_eq_getElem hk']

theorem nbytes_any {w : World} {v : Value} {l : List UInt8} (h : Bs w v l) (hl : l.length ≤ 1000000) :
    Calls Tryd.prog 18 #[v] w fun e w' => ∃ v', e = .returned v' ∧ Marked w' v' l ∧ Below w.heap.size w w' :=
  (nbytes_new h hl).mono fun e w' ⟨v', h1, h2, h3⟩ => ⟨v', h1, ⟨_, h2⟩, h3⟩

theorem marks_get (i : Nat) (hi : i < 6) : ((marks.getD i 0).toNat : Int) = 201 + i := by
  match i, hi with
  | 0, _ => rfl
  | 1, _ => rfl
  | 2, _ => rfl
  | 3, _ => rfl
  | 4, _ => rfl
  | 5, _ => rfl

set_option maxRecDepth 100000 in
set_option maxHeartbeats 1000000 in
theorem kept_any {w : World} {v v2 : Value} {l : List UInt8} (h : Marked w v l) (h2 : Bs w v2 l) :
    Calls Tryd.prog 20 #[v, v2] w fun e w' => e = .returned (.bool true) ∧ Below w.heap.size w w' := by
  have hb := h.bs
  obtain ⟨g, rfl, hsz, hc⟩ := h
  obtain ⟨ao, cap, rfl, h1, h3, h4⟩ := h2.parts
  have s1 : ∀ n, (convert 23 9 (.slice (some ⟨g, 0, none⟩) l.length (l.length + 6))).run Tryd.prog (w.drewN n) = .ok (.string ⟨l.toArray⟩) (w.drewN n) := fun n =>
    run_string_bs (w := w.drewN n) hb _ _ _ Tryd.underlying23 Tryd.underlying5 Tryd.underlying9
  have s2 : ∀ n, (convert 23 9 (.slice ao l.length cap)).run Tryd.prog (w.drewN n) = .ok (.string ⟨l.toArray⟩) (w.drewN n) := fun n =>
    run_string_bs (w := w.drewN n) h2 _ _ _ Tryd.underlying23 Tryd.underlying5 Tryd.underlying9
  have s3 := s1 0
  have s4 := s2 0
  simp only [World.drewN] at s3 s4
  have HC := Lib.hid hc
  clear hc hb h2 h4
  have b1 : (l.length : Int) + 6 ≤ 9223372036854775807 := by omega
  have b2 : decide ((l.length : Int) + 6 < (l.length : Int) + 6) = false := by simp
  go_enter Tryd.func20, Tryd.ntmps20
  go_wp2
  go_quiet (fail)
  clear s1 s2 s3 s4 b2 h3 h1
  go_wp2
  go_loopw [6] (fun i wr => ∃ k : Nat, k ≤ 6 ∧ i = .int .i64 k ∧ Below w.heap.size w wr) (fun i _ => 6 - (intOf i).toNat)
  case atStart => exact ⟨0, by omega, rfl, below_drewN (Below.refl _ _) _⟩
  case round =>
    obtain ⟨k, hk, rfl, hB⟩ := hrel
    have HSZ := Lib.hid hsz
    clear hsz
    by_cases hlt : (k : Int) < 6
    · have hcx := below_cell hB (HC.out (l.length + k) (by omega))
      have e : (((l ++ marks).getD (l.length + k) 0).toNat : Int) = 201 + k := by
        rw [← marks_get k (by omega)]
        simp [List.getD, List.getElem?_append_right]
      rw [e] at hcx
      clear e
      have hw : IntKind.u8.wrap (201 + (k : Int)) = 201 + k := IntWalk.u8_in _ ⟨by omega, by omega⟩
      go_wp2
      go_roundw
      case rel => exact ⟨k + 1, by omega, by go_num, hB⟩
      case measure => simp [intOf]; omega
    · go_wp2
      go_ret
      exact ⟨rfl, hB⟩
end Go.Proofs.YtndbjkapdmpbbaaDoor
