/- The walks of package whole: Put, Get, Range, Truth, IsTrue, Bytes. -/
import Derived.Test.YtjhgocnjhhjkoaaDoorP04
import Derived.Test.YtjhgocnjhhjkoaaDoorRev
import Derived.Test.YtjhgocnjhhjkoaaDoorNumB
import Derived.Test.YtjhgocnjhhjkoaaDoorNum
namespace Go.Proofs.YtjhgocnjhhjkoaaDoor
open Go.RowKit

set_option maxHeartbeats 400000 in
theorem settled_any (h r : Int) (w : World) (h0 : 0 ≤ h) (h1 : h ≤ 255) :
    Calls Tryd.prog 39 #[.int .u8 h, .int .i64 r] w fun e w' => e = .returned (.bool ((r == 0 && decide (h < 128)) || (r == -1 && decide (128 ≤ h)))) ∧ w = w' := by
  go_enter Tryd.func39, Tryd.ntmps39
  go_wp2
  all_goals go_ret
  all_goals refine ⟨?_, rfl⟩
  all_goals simp [*]
theorem settled_at (k : Nat) (n : Int) (w : World) :
    Calls Tryd.prog 39 #[.int .u8 (byte (sh k n)).toNat, .int .i64 (sh (k + 1) n)] w fun e w' => e = .returned (.bool (stp k n)) ∧ w = w' := by
  have hc := (byte (sh k n)).toNat_lt
  have := settled_any (byte (sh k n)).toNat (sh (k + 1) n) w (by omega) (by omega)
  rw [byte_toNat] at this ⊢
  exact this

theorem sh_bd (n : Int) (h1 : -9223372036854775808 ≤ n) (h2 : n ≤ 9223372036854775807) (k : Nat) : -9223372036854775808 ≤ sh k n ∧ sh k n ≤ 9223372036854775807 := by
  induction k with
  | zero => exact ⟨h1, h2⟩
  | succ k ih => simp only [sh]; omega

/-- the length in a slot: for a loop's measure -/
def lenOf : Value → Nat | .slice _ n _ => n | _ => 0

set_option maxRecDepth 100000 in
set_option maxHeartbeats 1000000 in
theorem wput_any (n : Int) (w : World) (h1 : -9223372036854775808 ≤ n) (h2 : n ≤ 9223372036854775807) :
    Calls Tryd.prog 21 #[.int .i64 n] w fun e w' => ∃ v k, e = .returned v ∧ IsLen n k ∧ w'.ownsRow w.heap.size 5 1 v (k + 1) (bv (digs (k + 1) n).reverse) ∧ Below w.heap.size w w' := by
  obtain ⟨i, hi, hz0, hz1, hz2⟩ := info_parts info_byte
  have H7 := Lib.hid (stp_seven n h1 h2)
  have HD := Lib.hid (sh_bd n h1 h2)
  go_enter Tryd.func21, Tryd.ntmps21
  go_wp2
  go_loopw [3, 4] (fun v r wr => ∃ k : Nat, k ≤ 7 ∧ (∀ j, j < k → stp j n = false) ∧ r = .int .i64 (sh (k + 1) n) ∧ wr.ownsRow w.heap.size 5 1 v (k + 1) (bv (digs (k + 1) n)) ∧ Below w.heap.size w wr)
    (fun v _ _ => 8 - lenOf v)
  case atStart =>
    refine ⟨0, by omega, by omega, rfl, ?_, (Below.refl _ _).alloc (Nat.le_refl _) _⟩
    refine ⟨rfl, .inr ⟨w.heap.size, 1, #[.int .u8 (n % 256)], rfl, Nat.le_refl _, heap_alloc_new w _, by omega, by decide, rfl, ?_⟩⟩
    have := byte_toNat n
    simp [digs, sh, bv, this]
  case round =>
    obtain ⟨k, hk, hno, rfl, ho, hB⟩ := hrel
    have HO := Lib.hid ho
    have HN := Lib.hid hno
    clear ho hno
    obtain ⟨g, cap, rfl, hg, hkc, hgs, hcm⟩ := own_cons HO.out (by omega)
    have hc : wr.cell? ⟨g, k, none⟩ = some (.int .u8 (byte (sh k n)).toNat) := by
      rw [HO.out.cellAt k (by omega), bv_get _ _ (by rw [digs_length]; omega), digs_get _ _ _ (by omega)]
    have HS := Lib.hid (settled_at k n wr)
    obtain ⟨hd1, hd2⟩ := HD.out (k + 1)
    by_cases hst : stp k n = true
    · have HR := Lib.hid (reverse_bv (l := digs (k + 1) n) (by omega) (digs_length _ _) HO.out (by omega))
      go_wp2_with (first
        | (go_at_call 39; refine (HS.out).mono ?_; rintro e w' ⟨rfl, rfl⟩)
        | (go_at_call 40; refine (HR.out).mono ?_; rintro e w' ⟨rfl, hg1, ho1⟩))
      go_ret
      rename_i w1 _ _
      exact ⟨_, k, rfl, ⟨hk, hst, HN.out⟩, ho1, hB.grown hg1 hB.size (by simp; omega)⟩
    · have hst' : stp k n = false := by simpa using hst
      go_wp2_with (first
        | (go_at_call 39; refine (HS.out).mono ?_; rintro e w' ⟨rfl, rfl⟩)
        | (at_builtin; refine wpList_append_own _ rfl (.tmp 21) (.tmp 24) 38 rfl w.heap.size 5 i (.int .u8 0) 1 1 Tryd.underlying38 hi hz0 hz1 hz2 rfl (by decide) _ _ _ rfl (HO.out.alloc _) ⟨wr.heap.size, 0, none⟩ 1 1 [.int .u8 (sh (k + 1) n % 256)] rfl rfl ?c1 ?c2 ?c3 ?c4 ?c5 ?_))
      case c1 =>
        intro j u hu
        match j, hu with
        | 0, hu => simp at hu; subst hu; simp [Addr.add]
        | j + 1, hu => simp at hu
      case c2 => intro u hu; simp at hu; subst hu; rfl
      case c3 => unfold maxLen; omega
      case c4 => omega
      case c5 => have := hB.size; simp; omega
      intro v' w1 ho1 hg1 _
      have hk7 : k < 7 := by
        have := H7.out
        rcases Nat.lt_or_ge k 7 with h | h
        · exact h
        · rw [show k = 7 by omega, H7.out] at hst; exact absurd rfl hst
      have HO1 : Hid (w1.ownsRow w.heap.size 5 1 v' (k + 1 + 1) (bv (digs (k + 1 + 1) n))) := by
        rw [digs_succ (k + 1), bv_append]
        have e : bv [byte (sh (k + 1) n)] = [.int .u8 (sh (k + 1) n % 256)] := by simp [bv, byte_toNat]
        rw [e]
        exact ho1
      have HB1 : Hid (Below w.heap.size w w1) := (hB.alloc hB.size _).grown hg1 (by have := hB.size; simp; omega) (by simp [Value.ownBlock]; omega)
      have HN1 : Hid (∀ j, j < k + 1 → stp j n = false) := fun j hj => by
        by_cases e : j = k
        · rw [e]; exact hst'
        · exact HN.out j (by omega)
      obtain ⟨hd3, hd4⟩ := HD.out (k + 2)
      clear ho1 hg1 hB
      obtain ⟨g2, cap2, e2, _⟩ := own_cons HO1.out (by omega)
      subst e2
      go_wp2
      go_roundw
      case rel => exact ⟨k + 1, by omega, HN1.out, rfl, HO1.out, HB1.out⟩
      case measure => simp [lenOf]; omega
end Go.Proofs.YtjhgocnjhhjkoaaDoor
