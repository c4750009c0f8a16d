/- slices.Reverse over bytes that the call itself made. -/
import Derived.Test.YtjhgocnjhhjkoaaDoorBase
import Derived.BigRegion
namespace Go.Proofs.YtjhgocnjhhjkoaaDoor
open Go.RowKit

theorem only_refl (w : World) (row : Option Nat) : w.grownBy w row := ⟨rfl, rfl, rfl, Nat.le_refl _, fun _ _ _ => rfl⟩
theorem only_drewN {a w : World} {row : Option Nat} (h : a.grownBy w row) (n : Nat) : a.grownBy (w.drewN n) row := ⟨h.os, h.tape, h.output, h.size, h.block⟩
theorem only_setCell {a w : World} {g : Nat} (h : a.grownBy w (some g)) {p : Addr} (hp : p.block = g ∨ a.heap.size ≤ p.block) (u : Value) : a.grownBy (w.setCell p u) (some g) :=
  ⟨h.os, h.tape, h.output, by simpa [World.setCell] using h.size, fun i hi hne => (Below.heap_setCell w p u i (by
    rintro rfl
    rcases hp with hp | hp
    · exact hne (by rw [hp])
    · omega)).trans (h.block i hi hne)⟩
theorem own_drewN {w : World} {base : Nat} {e : TypeId} {size : Nat} {v : Value} {n : Nat} {xs : List Value} (h : w.ownsRow base e size v n xs) (k : Nat) : (w.drewN k).ownsRow base e size v n xs := h

/-- k exchanges from the ends on -/
def revk {α : Type} (d : α) (l : List α) : Nat → List α
  | 0 => l
  | k + 1 => ((revk d l k).set k (l.getD (l.length - 1 - k) d)).set (l.length - 1 - k) (l.getD k d)
theorem revk_length {α : Type} (d : α) (l : List α) : ∀ k, (revk d l k).length = l.length
  | 0 => rfl
  | k + 1 => by simp [revk, revk_length d l k]
theorem revk_get {α : Type} (d : α) (l : List α) : ∀ k, 2 * k ≤ l.length → ∀ m, m < l.length →
    (revk d l k)[m]? = some (if m < k ∨ l.length - 1 - m < k then l.getD (l.length - 1 - m) d else l.getD m d)
  | 0, _, m, hm => by simp [revk, List.getD, hm]
  | k + 1, hk, m, hm => by
    have ih := revk_get d l k (by omega) m hm
    simp only [revk, List.getElem?_set, revk_length, List.length_set]
    by_cases h1 : l.length - 1 - k = m
    · subst h1
      have : l.length - 1 - (l.length - 1 - k) = k := by omega
      simp [this, show l.length - 1 - k < l.length by omega]
    · by_cases h2 : k = m
      · subst h2
        simp [h1, show k < l.length by omega]
      · rw [if_neg h1, if_neg h2, ih]
        congr 1
        by_cases h3 : m < k ∨ l.length - 1 - m < k
        · rw [if_pos h3, if_pos (by omega)]
        · rw [if_neg h3, if_neg (by omega)]
theorem revk_half {α : Type} (d : α) (l : List α) (k : Nat) (h1 : 2 * k ≤ l.length) (h2 : l.length ≤ 2 * k + 1) : revk d l k = l.reverse := by
  refine List.ext_getElem? fun m => ?_
  by_cases hm : m < l.length
  · rw [revk_get d l k h1 m hm, List.getElem?_reverse hm]
    by_cases h3 : m < k ∨ l.length - 1 - m < k
    · rw [if_pos h3]
      simp [List.getD, show l.length - 1 - m < l.length by omega]
    · rw [if_neg h3]
      have : l.length - 1 - m = m := by omega
      simp [List.getD, this, hm]
  · rw [List.getElem?_eq_none (by rw [revk_length]; omega), List.getElem?_eq_none (by simp; omega)]

set_option maxRecDepth 100000 in
set_option maxHeartbeats 400000 in
theorem reverse_own {w : World} {base g cap : Nat} {l : List Value} (hl : 0 < l.length) (hint : ∀ x ∈ l, ∃ n, x = .int .u8 n) (h : w.ownsRow base 5 1 (.slice (some ⟨g, 0, none⟩) l.length cap) l.length l) (hm : l.length ≤ 9223372036854775807) :
    Calls Tryd.prog 40 #[.slice (some ⟨g, 0, none⟩) l.length cap] w fun e w' => e = .returned (.tuple #[]) ∧ w.grownBy w' (some g) ∧ w'.ownsRow base 5 1 (.slice (some ⟨g, 0, none⟩) l.length cap) l.length l.reverse := by
  have hp : (0 : Int) < (l.length : Int) := by omega
  go_enter Tryd.func40, Tryd.ntmps40
  go_wp2
  go_loopw [2, 3] (fun i j wr => ∃ k : Nat, 2 * k ≤ l.length ∧ i = .int .i64 k ∧ j = .int .i64 ((l.length : Int) - 1 - k) ∧ w.grownBy wr (some g) ∧ wr.ownsRow base 5 1 (.slice (some ⟨g, 0, none⟩) l.length cap) l.length (revk (.int .u8 0) l k))
    (fun i _ _ => l.length - (intOf i).toNat)
  case atStart => exact ⟨0, by omega, rfl, by simp, only_refl _ _, h⟩
  case round =>
    obtain ⟨k, hk, rfl, rfl, hg, ho⟩ := hrel
    by_cases hlast : l.length ≤ 2 * k + 1
    · have hn : ¬ ((k : Int) < (l.length : Int) - 1 - k) := by omega
      have HH : Hid (revk (.int .u8 0) l k = l.reverse) := revk_half _ l k hk hlast
      go_wp2
      all_goals (go_end0; exact ⟨rfl, hg, by rw [← HH.out]; exact ho⟩)
    · have hn : ((k : Int) < (l.length : Int) - 1 - k) := by omega
      have hxi : (revk (.int .u8 0) l k)[k]? = some (l.getD k (.int .u8 0)) := by rw [revk_get _ l k hk k (by omega), if_neg (by omega)]
      have hxj : (revk (.int .u8 0) l k)[l.length - 1 - k]? = some (l.getD (l.length - 1 - k) (.int .u8 0)) := by rw [revk_get _ l k hk _ (by omega), if_neg (by omega)]
      obtain ⟨x, hx⟩ : ∃ x, l.getD k (.int .u8 0) = .int .u8 x := hint _ (by simp [List.getD, show k < l.length by omega])
      obtain ⟨y, hy⟩ : ∃ y, l.getD (l.length - 1 - k) (.int .u8 0) = .int .u8 y := hint _ (by simp [List.getD, show l.length - 1 - k < l.length by omega])
      have ho2 := ((ho.stored k (.int .u8 y)).1.stored (l.length - 1 - k) (.int .u8 x)).1
      have HO : Hid (((wr.setCell ⟨g, k, none⟩ (.int .u8 y)).setCell ⟨g, l.length - 1 - k, none⟩ (.int .u8 x)).ownsRow base 5 1 (.slice (some ⟨g, 0, none⟩) l.length cap) l.length (revk (.int .u8 0) l (k + 1))) := by
        simp only [revk, hx, hy]
        exact ho2
      have HG : Hid (w.grownBy ((wr.setCell ⟨g, k, none⟩ (.int .u8 y)).setCell ⟨g, l.length - 1 - k, none⟩ (.int .u8 x)) (some g)) := only_setCell (only_setCell hg (.inl rfl) _) (.inl rfl) _
      have ci := (ho.cellAt k (by omega)).trans (hxi.trans (congrArg some hx))
      have cj := (ho.cellAt (l.length - 1 - k) (by omega)).trans (hxj.trans (congrArg some hy))
      have fi := ho.frozenAt k
      have fj := ho.frozenAt (l.length - 1 - k)
      have e1 : ((l.length : Int) - 1 - k).toNat = l.length - 1 - k := by omega
      have b1 : (0 : Int) ≤ (l.length : Int) - 1 - k := by omega
      have b2 : (l.length : Int) - 1 - k < l.length := by omega
      clear ho2 hx hy hxi hxj ho hg hint
      go_wp2
      go_region
      all_goals go_wp2
      all_goals go_roundw
      case rel => exact ⟨k + 1, by omega, by go_num, by go_num, only_drewN HG.out 1, own_drewN HO.out 1⟩
      case measure => simp [intOf]; omega
theorem own_cons {w : World} {base : Nat} {e : TypeId} {v : Value} {n : Nat} {xs : List Value} (h : w.ownsRow base e 1 v n xs) (hn : 0 < n) :
    ∃ g cap, v = .slice (some ⟨g, 0, none⟩) n cap ∧ base ≤ g ∧ n ≤ cap ∧ g < w.heap.size ∧ cap ≤ 9223372036854775807 := by
  rcases h.2 with ⟨_, h0⟩ | ⟨g, cap, cur, rfl, hg, hh, hle, hm, _⟩
  · omega
  · exact ⟨g, cap, rfl, hg, hle, (Array.getElem?_eq_some_iff.1 hh).1, by unfold maxLen at hm; omega⟩

def bv (l : List UInt8) : List Value := l.map fun c => .int .u8 c.toNat
theorem bv_length (l : List UInt8) : (bv l).length = l.length := by simp [bv]
theorem bv_reverse (l : List UInt8) : (bv l).reverse = bv l.reverse := by simp [bv]
theorem bv_append (l r : List UInt8) : bv (l ++ r) = bv l ++ bv r := by simp [bv]
theorem bv_get (l : List UInt8) (i : Nat) (h : i < l.length) : (bv l)[i]? = some (.int .u8 (l.getD i 0).toNat) := by simp [bv, List.getD, h]

/-- slices.Reverse at bytes of the call's own. -/
theorem reverse_bv {w : World} {base g cap n : Nat} {l : List UInt8} (hl : 0 < n) (hn : l.length = n) (h : w.ownsRow base 5 1 (.slice (some ⟨g, 0, none⟩) n cap) n (bv l)) (hm : n ≤ 9223372036854775807) :
    Calls Tryd.prog 40 #[.slice (some ⟨g, 0, none⟩) n cap] w fun e w' => e = .returned (.tuple #[]) ∧ w.grownBy w' (some g) ∧ w'.ownsRow base 5 1 (.slice (some ⟨g, 0, none⟩) n cap) n (bv l.reverse) := by
  subst hn
  have e := bv_length l
  have := reverse_own (w := w) (base := base) (g := g) (cap := cap) (l := bv l) (by omega) (fun x hx => by
    obtain ⟨c, _, rfl⟩ := List.mem_map.1 hx
    exact ⟨_, rfl⟩) (by rw [e]; exact h) (by omega)
  rw [e, bv_reverse] at this
  exact this
end Go.Proofs.YtjhgocnjhhjkoaaDoor
