
/- bullanum.Num: the number of an error. -/
import Derived.Test.YtoliiompofonlaaDoorErr
namespace Go.Proofs.YtoliiompofonlaaDoor
set_option linter.unusedVariables false
open Go.RowKit

theorem sent_size {w : World} {al : List Addr} (h : Sent w al) : ∀ g ∈ gs, g < w.heap.size := by
  exact h.lt

def evs (al : List Addr) : Array Value := #[ev al 1, ev al 2, ev al 3, ev al 4, ev al 5, ev al 6, ev al 7, ev al 8, ev al 9, ev al 10, ev al 11, ev al 12, ev al 13, ev al 14, ev al 15, ev al 16, ev al 17, ev al 18, ev al 19, ev al 20, ev al 21, ev al 22, ev al 23, ev al 24, ev al 25, ev al 26, ev al 27, ev al 28]
theorem evs_get (al : List Addr) (k : Nat) (hk : k < 28) : (evs al)[k]? = some (ev al (k + 1)) := by
  have : ∀ k, k < 28 → (evs al)[k]? = some (ev al (k + 1)) := by
    intro k hk
    match k, hk with
    | 0, _ => rfl
    | 1, _ => rfl
    | 2, _ => rfl
    | 3, _ => rfl
    | 4, _ => rfl
    | 5, _ => rfl
    | 6, _ => rfl
    | 7, _ => rfl
    | 8, _ => rfl
    | 9, _ => rfl
    | 10, _ => rfl
    | 11, _ => rfl
    | 12, _ => rfl
    | 13, _ => rfl
    | 14, _ => rfl
    | 15, _ => rfl
    | 16, _ => rfl
    | 17, _ => rfl
    | 18, _ => rfl
    | 19, _ => rfl
    | 20, _ => rfl
    | 21, _ => rfl
    | 22, _ => rfl
    | 23, _ => rfl
    | 24, _ => rfl
    | 25, _ => rfl
    | 26, _ => rfl
    | 27, _ => rfl
    | k + 28, h => omega
  exact this k hk

set_option maxRecDepth 100000 in
set_option maxHeartbeats 400000 in
theorem num_any {w : World} {al : List Addr} (h : Sent w al) (m : Nat) (hm : m ≤ 28) :
    Calls Tryd.prog 18 #[ev al m] w fun e w' => e = .returned (.int .i64 m) ∧ Below w.heap.size w w' := by
  by_cases h0 : m = 0
  · subst h0
    have e0 : decide ((0 : Nat) = 0) = true := rfl
    go_enter Tryd.func18, Tryd.ntmps18
    go_wp2
    go_ret
    exact ⟨rfl, Below.refl _ _⟩
  · have hd : decide (m = 0) = false := by simpa using h0
    have g0 : w.cell? ⟨5, 0, none⟩ = some (ev al 1) := h.var 0 _ rfl (by decide)
    have g1 : w.cell? ⟨6, 0, none⟩ = some (ev al 2) := h.var 1 _ rfl (by decide)
    have g2 : w.cell? ⟨7, 0, none⟩ = some (ev al 3) := h.var 2 _ rfl (by decide)
    have g3 : w.cell? ⟨2, 0, none⟩ = some (ev al 4) := h.var 3 _ rfl (by decide)
    have g4 : w.cell? ⟨8, 0, none⟩ = some (ev al 5) := h.var 4 _ rfl (by decide)
    have g5 : w.cell? ⟨9, 0, none⟩ = some (ev al 6) := h.var 5 _ rfl (by decide)
    have g6 : w.cell? ⟨10, 0, none⟩ = some (ev al 7) := h.var 6 _ rfl (by decide)
    have g7 : w.cell? ⟨11, 0, none⟩ = some (ev al 8) := h.var 7 _ rfl (by decide)
    have g8 : w.cell? ⟨1, 0, none⟩ = some (ev al 9) := h.var 8 _ rfl (by decide)
    have g9 : w.cell? ⟨12, 0, none⟩ = some (ev al 10) := h.var 9 _ rfl (by decide)
    have g10 : w.cell? ⟨13, 0, none⟩ = some (ev al 11) := h.var 10 _ rfl (by decide)
    have g11 : w.cell? ⟨14, 0, none⟩ = some (ev al 12) := h.var 11 _ rfl (by decide)
    have g12 : w.cell? ⟨15, 0, none⟩ = some (ev al 13) := h.var 12 _ rfl (by decide)
    have g13 : w.cell? ⟨16, 0, none⟩ = some (ev al 14) := h.var 13 _ rfl (by decide)
    have g14 : w.cell? ⟨4, 0, none⟩ = some (ev al 15) := h.var 14 _ rfl (by decide)
    have g15 : w.cell? ⟨17, 0, none⟩ = some (ev al 16) := h.var 15 _ rfl (by decide)
    have g16 : w.cell? ⟨18, 0, none⟩ = some (ev al 17) := h.var 16 _ rfl (by decide)
    have g17 : w.cell? ⟨19, 0, none⟩ = some (ev al 18) := h.var 17 _ rfl (by decide)
    have g18 : w.cell? ⟨20, 0, none⟩ = some (ev al 19) := h.var 18 _ rfl (by decide)
    have g19 : w.cell? ⟨21, 0, none⟩ = some (ev al 20) := h.var 19 _ rfl (by decide)
    have g20 : w.cell? ⟨22, 0, none⟩ = some (ev al 21) := h.var 20 _ rfl (by decide)
    have g21 : w.cell? ⟨3, 0, none⟩ = some (ev al 22) := h.var 21 _ rfl (by decide)
    have g22 : w.cell? ⟨23, 0, none⟩ = some (ev al 23) := h.var 22 _ rfl (by decide)
    have g23 : w.cell? ⟨0, 0, none⟩ = some (ev al 24) := h.var 23 _ rfl (by decide)
    have g24 : w.cell? ⟨24, 0, none⟩ = some (ev al 25) := h.var 24 _ rfl (by decide)
    have g25 : w.cell? ⟨25, 0, none⟩ = some (ev al 26) := h.var 25 _ rfl (by decide)
    have g26 : w.cell? ⟨26, 0, none⟩ = some (ev al 27) := h.var 26 _ rfl (by decide)
    have g27 : w.cell? ⟨27, 0, none⟩ = some (ev al 28) := h.var 27 _ rfl (by decide)
    have HB : Hid (Below w.heap.size w (w.alloc (.cells (evs al) 32))) := (Below.refl _ _).alloc (Nat.le_refl _) _
    have HS : Hid (Sent (w.alloc (.cells (evs al) 32)) al) := h.below HB.out
    have HC : Hid (∀ k, k < 28 → (w.alloc (.cells (evs al) 32)).cell? ⟨w.heap.size, k, none⟩ = some (ev al (k + 1))) := fun k hk => by
      rw [World.cell?_alloc_mark]
      exact evs_get al k hk
    clear h
    go_enter Tryd.func18, Tryd.ntmps18
    go_wp2_with (refine wpList_value (o := ⟨some 36, _, _, _, _, _⟩) (.slice (some ⟨w.heap.size, 0, none⟩) 28 28) (w.alloc (.cells (evs al) 32)) rfl (by kernel_rfl) ?_)
    clear g0 g1 g2 g3 g4 g5 g6 g7 g8 g9 g10 g11 g12 g13 g14 g15 g16 g17 g18 g19 g20 g21 g22 g23 g24 g25 g26 g27
    show Code.wp _ _ _ _ (w.alloc (.cells (evs al) 32))
    generalize hW : w.alloc (.cells (evs al) 32) = W at HB HS HC ⊢
    have HW := Lib.hid hW
    clear hW
    go_loop [39] (fun i => ∃ k : Nat, k < m ∧ i = .int .i64 k) (fun i => 28 - (intOf i).toNat)
    case atStart => exact ⟨0, by omega, rfl⟩
    case round =>
      obtain ⟨k, hk, rfl⟩ := hrel
      have hc := HC.out k (by omega)
      by_cases hlast : m = k + 1
      · subst hlast
        have C := Lib.hid (is_ev HS.out (k + 1) k h0 hm (by omega))
        go_wp2_with (go_at_call 72; refine (C.out).mono ?_; rintro e w' ⟨rfl, rfl⟩)
        go_ret
        exact ⟨by simp, HB.out⟩
      · have hdd : decide (m = k + 1) = false := by simpa using hlast
        have C := Lib.hid (is_ev HS.out m k h0 hm (by omega))
        go_wp2_with (go_at_call 72; refine (C.out).mono ?_; rintro e w' ⟨rfl, rfl⟩)
        go_round
        case rel => exact ⟨k + 1, by omega, by go_num⟩
        case measure => simp [intOf]; omega
end Go.Proofs.YtoliiompofonlaaDoor
