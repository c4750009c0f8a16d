/- The walk of the statement WholeFigures. -/
import Derived.Test.YtjhgocnjhhjkoaaDoorW04f
namespace Go.Proofs.YtjhgocnjhhjkoaaDoor
open Go.RowKit

theorem figR_M (l : List UInt8) : figR l = ((figM l).1, decide ((figM l).2 = 0)) := by
  rw [figM_ref]
  unfold figR
  split <;> rfl
theorem figM_err (l : List UInt8) : (figM l).2 = 0 ∨ ((figM l).1 = 0 ∧ (figM l).2 = 4) := by
  unfold figM
  split
  · exact .inr ⟨rfl, rfl⟩
  · exact .inl rfl

set_option maxRecDepth 100000 in
set_option maxHeartbeats 1000000 in
theorem wholeFigures_walk {w : World} {al : List Addr} (n : Int) (s : ByteArray) (h1 : -9223372036854775808 ≤ n) (h2 : n ≤ 9223372036854775807) (hs : Sent w al) :
    Calls Tryd.prog 7 #[.int .i64 n, .string s] w fun e w' => e = .returned (.bool true) ∧ Below w.heap.size w w' := by
  obtain ⟨l, rfl⟩ : ∃ l : List UInt8, s = ⟨l.toArray⟩ := ⟨s.data.toList, by cases s; simp⟩
  have HB0 := Lib.hid (below_refl w)
  have HS0 := Lib.hid hs
  clear hs
  go_enter Tryd.func7, Tryd.ntmps7
  go_wp2_with fail
  refine (alive04_any w).mono ?_
  rintro e w1 ⟨rfl, hB1⟩
  have HB1 := Lib.hid (below_then HB0.out hB1)
  have HS1 := Lib.hid (HS0.out.below hB1)
  have HP1 := Lib.hid hB1
  clear hB1
  by_cases hl : (100 : Int) < (l.length : Int)
  · go_wp2_with fail
    go_ret
    exact ⟨rfl, HB1.out⟩
  · go_wp2_with fail
    refine (wserial_any n w1 h1 h2).mono ?_
    rintro e w2 ⟨rfl, hB2⟩
    have HB2 := Lib.hid (below_then HB1.out hB2)
    have HS2 := Lib.hid (HS1.out.below hB2)
    have HP2 := Lib.hid hB2
    clear hB2
    have HC : Hid ((n < 0 ∧ serS n = ⟨([] : List UInt8).toArray⟩) ∨ ∃ N : Nat, n = N ∧ serS n = ⟨(dec N).toArray⟩ ∧ ((decide ((N : Int) < 1000000000000000000) = false) ∨ (decide ((N : Int) < 1000000000000000000) = true ∧ figM (dec N) = (N, 0)))) := by
      by_cases hn : n < 0
      · exact .inl ⟨hn, if_pos hn⟩
      · refine .inr ⟨n.toNat, by omega, if_neg hn, ?_⟩
        by_cases hb : n.toNat < 1000000000000000000
        · exact .inr ⟨by simp; omega, figM_dec hb⟩
        · exact .inl (by simp; omega)
    rcases HC.out with ⟨hn, hS⟩ | ⟨N, rfl, hS, hN⟩
    · rw [hS]
      clear hS HC
      go_wp2_with fail
      refine (wfig_any [] HS2.out).mono ?_
      rintro e w4 ⟨rfl, hB4⟩
      have HB4 := Lib.hid (below_then HB2.out hB4)
      have HS4 := Lib.hid (HS2.out.below hB4)
      have HP4 := Lib.hid hB4
      clear hB4
      go_wp2_with fail
      refine (wfig_any l HS4.out).mono ?_
      rintro e w5 ⟨rfl, hB5⟩
      have HB5 := Lib.hid (below_then HB4.out hB5)
      have HS5 := Lib.hid (HS4.out.below hB5)
      have HP5 := Lib.hid hB5
      clear hB5
      go_wp2_with fail
      refine (rfig_any l w5).mono ?_
      rintro e w6 ⟨rfl, hB6⟩
      have HB6 := Lib.hid (below_then HB5.out hB6)
      have HS6 := Lib.hid (HS5.out.below hB6)
      have HP6 := Lib.hid hB6
      clear hB6
      rw [figR_M]
      rcases figM_err l with e | ⟨e, e'⟩
      · rw [e]
        generalize (figM l).1 = m at *
        go_wp2
        go_ret
        exact ⟨rfl, HB6.out⟩
      · rw [e, e']
        go_wp2_with fail
        refine (num_any HS6.out 4 (by decide)).mono ?_
        rintro e w7 ⟨rfl, hB7⟩
        have HB7 := Lib.hid (below_then HB6.out hB7)
        have HS7 := Lib.hid (HS6.out.below hB7)
        have HP7 := Lib.hid hB7
        clear hB7
        go_wp2
        go_ret
        exact ⟨rfl, HB7.out⟩
    · rw [hS]
      clear hS HC
      go_wp2_with fail
      refine (rserial_any N w2 (by omega)).mono ?_
      rintro e w3 ⟨rfl, hB3⟩
      have HB3 := Lib.hid (below_then HB2.out hB3)
      have HS3 := Lib.hid (HS2.out.below hB3)
      have HP3 := Lib.hid hB3
      clear hB3
      go_wp2_with fail
      refine (wfig_any (dec N) HS3.out).mono ?_
      rintro e w4 ⟨rfl, hB4⟩
      have HB4 := Lib.hid (below_then HB3.out hB4)
      have HS4 := Lib.hid (HS3.out.below hB4)
      have HP4 := Lib.hid hB4
      clear hB4
      rcases hN with hN | ⟨hN, hf⟩
      · generalize figM (dec N) = q at *
        go_wp2_with fail
        refine (wfig_any l HS4.out).mono ?_
        rintro e w5 ⟨rfl, hB5⟩
        have HB5 := Lib.hid (below_then HB4.out hB5)
        have HS5 := Lib.hid (HS4.out.below hB5)
        have HP5 := Lib.hid hB5
        clear hB5
        go_wp2_with fail
        refine (rfig_any l w5).mono ?_
        rintro e w6 ⟨rfl, hB6⟩
        have HB6 := Lib.hid (below_then HB5.out hB6)
        have HS6 := Lib.hid (HS5.out.below hB6)
        have HP6 := Lib.hid hB6
        clear hB6
        rw [figR_M]
        rcases figM_err l with e | ⟨e, e'⟩
        · rw [e]
          generalize (figM l).1 = m at *
          go_wp2
          go_ret
          exact ⟨rfl, HB6.out⟩
        · rw [e, e']
          go_wp2_with fail
          refine (num_any HS6.out 4 (by decide)).mono ?_
          rintro e w7 ⟨rfl, hB7⟩
          have HB7 := Lib.hid (below_then HB6.out hB7)
          have HS7 := Lib.hid (HS6.out.below hB7)
          have HP7 := Lib.hid hB7
          clear hB7
          go_wp2
          go_ret
          exact ⟨rfl, HB7.out⟩
      · rw [hf]
        go_wp2_with fail
        refine (wfig_any l HS4.out).mono ?_
        rintro e w5 ⟨rfl, hB5⟩
        have HB5 := Lib.hid (below_then HB4.out hB5)
        have HS5 := Lib.hid (HS4.out.below hB5)
        have HP5 := Lib.hid hB5
        clear hB5
        go_wp2_with fail
        refine (rfig_any l w5).mono ?_
        rintro e w6 ⟨rfl, hB6⟩
        have HB6 := Lib.hid (below_then HB5.out hB6)
        have HS6 := Lib.hid (HS5.out.below hB6)
        have HP6 := Lib.hid hB6
        clear hB6
        rw [figR_M]
        rcases figM_err l with e | ⟨e, e'⟩
        · rw [e]
          generalize (figM l).1 = m at *
          go_wp2
          go_ret
          exact ⟨rfl, HB6.out⟩
        · rw [e, e']
          go_wp2_with fail
          refine (num_any HS6.out 4 (by decide)).mono ?_
          rintro e w7 ⟨rfl, hB7⟩
          have HB7 := Lib.hid (below_then HB6.out hB7)
          have HS7 := Lib.hid (HS6.out.below hB7)
          have HP7 := Lib.hid hB7
          clear hB7
          go_wp2
          go_ret
          exact ⟨rfl, HB7.out⟩
end Go.Proofs.YtjhgocnjhhjkoaaDoor
