/- The walks of package whole: Get, Range, Truth, IsTrue, Bytes. -/
import Derived.Test.YtjhgocnjhhjkoaaDoorW04
import Derived.Deep.Light
namespace Go.Proofs.YtjhgocnjhhjkoaaDoor
open Go.RowKit

theorem Bs.one {w : World} {b o : Nat} {c : UInt8} (h : w.cell? ⟨b, o, none⟩ = some (.int .u8 c.toNat)) : Bs w (.slice (some ⟨b, o, none⟩) 1 1) [c] :=
  Bs.of_cells (l := [c]) (Nat.le_refl _) (by decide) fun i hi => by
    obtain rfl : i = 0 := by simp at hi; omega
    exact h

set_option maxHeartbeats 400000 in
theorem truth_any (b : Bool) (w : World) : Calls Tryd.prog 19 #[.bool b] w fun e w' => ∃ v, e = .returned v ∧ Bs w' v [if b then 255 else 0] ∧ Below w.heap.size w w' := by
  cases b
  · go_enter Tryd.func19, Tryd.ntmps19
    go_wp2
    go_ret
    refine ⟨_, rfl, Bs.one (by simp), (Below.refl _ _).alloc (Nat.le_refl _) _⟩
  · go_enter Tryd.func19, Tryd.ntmps19
    go_wp2
    go_ret
    refine ⟨_, rfl, Bs.one (by simp), (Below.refl _ _).alloc (Nat.le_refl _) _⟩

def isTrueM (l : List UInt8) : Bool × Nat :=
  if l.length = 0 then (false, 2) else if 1 < l.length ∨ ((l.getD 0 0).toNat ≠ 255 ∧ (l.getD 0 0).toNat ≠ 0) then (false, 4) else (decide ((l.getD 0 0).toNat = 255), 0)

theorem Bs.empty {w : World} {v : Value} {l : List UInt8} (h : Bs w v l) (hl : l.length = 0) : ∃ ao cap, v = .slice ao 0 cap := by
  obtain ⟨ao, cap, rfl, _⟩ := h
  exact ⟨ao, cap, by rw [hl]⟩

set_option maxHeartbeats 400000 in
theorem istrue_any {w : World} {al : List Addr} {v : Value} {l : List UInt8} (hs : Sent w al) (hb : Bs w v l) :
    Calls Tryd.prog 18 #[v] w fun e w' => e = .returned (.tuple #[.bool (isTrueM l).1, ev al (isTrueM l).2]) ∧ Below w.heap.size w w' := by
  have g1 : w.cell? ⟨1, 0, none⟩ = some (ev al 2) := hs.var 1 _ rfl
  have g2 : w.cell? ⟨2, 0, none⟩ = some (ev al 4) := hs.var 3 _ rfl
  by_cases hl : l.length = 0
  · have HF : Hid (isTrueM l = (false, 2)) := by simp only [isTrueM, hl, if_true, Hid]
    obtain ⟨ao, cap, rfl⟩ := hb.empty hl
    clear hl
    go_enter Tryd.func18, Tryd.ntmps18
    go_wp2
    go_quiet (fail)
    go_wp2
    go_ret2
    exact ⟨by rw [HF.out]; rfl, below_drewN (Below.refl _ _) _⟩
  · obtain ⟨b, o, cap, rfl, h1, h2, hc⟩ := hb.cons (by omega)
    have c0 := hc 0 (by omega)
    rw [Nat.add_zero] at c0
    have HF : Hid (isTrueM l = if 1 < l.length ∨ ((l.getD 0 0).toNat ≠ 255 ∧ (l.getD 0 0).toNat ≠ 0) then (false, 4) else (decide ((l.getD 0 0).toNat = 255), 0)) := by simp only [isTrueM, hl, if_false, Hid]
    generalize l.getD 0 0 = c at c0 HF
    have hp : (0 : Int) < (l.length : Int) := by omega
    clear hc
    go_enter Tryd.func18, Tryd.ntmps18
    go_wp2
    all_goals (try (go_quiet (fail); go_wp2))
    all_goals go_ret2
    all_goals refine ⟨?_, by first | exact Below.refl _ _ | exact below_drewN (Below.refl _ _) _⟩
    all_goals rw [HF.out]
    all_goals go_light
    all_goals (try simp only [bne_iff_ne, beq_iff_eq, ne_eq, bne_eq_false_iff_eq, beq_eq_false_iff_ne] at *)
    all_goals first | rw [if_pos (by omega)] | rw [if_neg (by omega)]
    all_goals refine ret2 ?_ rfl
    all_goals first | rfl | (refine bool_eq ?_; dsimp only; rw [Bool.eq_iff_iff]; simp only [beq_iff_eq, bne_iff_ne, ne_eq, decide_eq_true_eq, Bool.and_eq_true, Bool.or_eq_true, true_iff, iff_true, false_iff, iff_false]; omega)

theorem idle_two (x y : UInt8) (r : List UInt8) : idle (x :: y :: r) = ((x.toNat == 0 && decide (y.toNat < 128)) || (x.toNat == 255 && decide (128 ≤ y.toNat))) := rfl
theorem idle_get (l : List UInt8) (h : 1 < l.length) : idle l = (((l.getD 0 0).toNat == 0 && decide ((l.getD 1 0).toNat < 128)) || ((l.getD 0 0).toNat == 255 && decide (128 ≤ (l.getD 1 0).toNat))) := by
  match l, h with
  | x :: y :: r, _ => rfl
theorem idle_short (l : List UInt8) (h : l.length ≤ 1) : idle l = false := by
  match l, h with
  | [], _ => rfl
  | [x], _ => rfl
  | x :: y :: r, h => simp at h
theorem valS_take_one (l : List UInt8) (h : 0 < l.length) : valS (l.take 1) = sgn (l.getD 0 0) := by
  match l, h with
  | x :: r, _ => simp [valS]
theorem valS_take_succ (l : List UInt8) (k : Nat) (h : k + 1 < l.length) : valS (l.take (k + 1 + 1)) = valS (l.take (k + 1)) * 256 + (l.getD (k + 1) 0).toNat := by
  rw [List.take_succ_eq_append_getElem h, valS_snoc _ (by
    intro e
    have := congrArg List.length e
    simp at this
    rw [this] at h
    simp at h)]
  simp [List.getD, h]

set_option maxRecDepth 100000 in
set_option maxHeartbeats 1000000 in
theorem wget_any {w : World} {al : List Addr} {v : Value} {l : List UInt8} (hs : Sent w al) (hb : Bs w v l) :
    Calls Tryd.prog 22 #[v] w fun e w' => e = .returned (.tuple #[.int .i64 (getM l).1, ev al (getM l).2]) ∧ Below w.heap.size w w' := by
  have g1 : w.cell? ⟨1, 0, none⟩ = some (ev al 2) := hs.var 1 _ rfl
  have g2 : w.cell? ⟨2, 0, none⟩ = some (ev al 4) := hs.var 3 _ rfl
  have g3 : w.cell? ⟨0, 0, none⟩ = some (ev al 1) := hs.var 0 _ rfl
  by_cases hl : l.length = 0
  · have HF : Hid (getM l = (0, 2)) := by simp only [getM, hl, if_true, Hid]
    obtain ⟨ao, cap, rfl⟩ := hb.empty hl
    clear hl
    go_enter Tryd.func22, Tryd.ntmps22
    go_wp2
    go_quiet (fail)
    go_wp2
    go_ret2
    exact ⟨by rw [HF.out]; rfl, below_drewN (Below.refl _ _) _⟩
  · obtain ⟨b, o, cap, rfl, h1, h2, hc⟩ := hb.cons (by omega)
    have c0 := hc 0 (by omega)
    rw [Nat.add_zero] at c0
    have hp : (0 : Int) < (l.length : Int) := by omega
    have HC := Lib.hid hc
    clear hc
    by_cases hone : l.length = 1
    · have HF : Hid (getM l = (sgn (l.getD 0 0), 0)) := by
        have : l.take 1 = l := List.take_of_length_le (by omega)
        simp only [getM, hl, idle_short l (by omega), show ¬ 8 < l.length by omega, if_false, Hid, ← valS_take_one l (by omega), this, Bool.false_eq_true]
      have HG := Lib.hid (wrap_sgn (l.getD 0 0))
      have hx := (l.getD 0 0).toNat_lt
      have q1 : ((l.length : Int) - 1) = 0 := by omega
      have p2 : (l.length : Int) ≤ 1 := by omega
      have e1 : l.length - 1 = 0 := by omega
      have d8 : decide ((8 : Int) < l.length) = false := by simp; omega
      clear hone
      generalize l.getD 0 0 = x at c0 hx HF HG
      by_cases hcap : cap = 1
      · subst hcap
        go_enter Tryd.func22, Tryd.ntmps22
        go_wp2
        go_rounds 1
        go_ret2
        exact ⟨by rw [HF.out]; exact ret2 (int_eq HG.out) rfl, Below.refl _ _⟩
      · go_enter Tryd.func22, Tryd.ntmps22
        go_wp2
        go_rounds 1
        go_ret2
        exact ⟨by rw [HF.out]; exact ret2 (int_eq HG.out) rfl, Below.refl _ _⟩
    · have c1 := HC.out 1 (by omega)
      have p1 : (1 : Int) < (l.length : Int) := by omega
      have HI := Lib.hid (idle_get l (by omega))
      generalize hx : l.getD 0 0 = x at c0 HI
      generalize hy : l.getD 1 0 = y at c1 HI
      have HX := Lib.hid hx
      have HY := Lib.hid hy
      clear hx hy
      by_cases hid : idle l = true
      · have HF : Hid (getM l = (0, 4)) := by simp only [getM, hl, hid, if_true, if_false, Hid]
        have hxy : (x.toNat = 0 ∧ y.toNat < 128) ∨ (x.toNat = 255 ∧ 128 ≤ y.toNat) := by
          have := HI.out
          rw [hid] at this
          simpa using this.symm
        clear hid
        go_enter Tryd.func22, Tryd.ntmps22
        rcases hxy with ⟨hx0, hy0⟩ | ⟨hx0, hy0⟩
        all_goals
          go_wp2
          go_quiet (fail)
          go_wp2
          go_ret2
          exact ⟨by rw [HF.out]; rfl, below_drewN (Below.refl _ _) _⟩
      · have hxy : ¬ (x.toNat = 0 ∧ y.toNat < 128) ∧ ¬ (x.toNat = 255 ∧ 128 ≤ y.toNat) := by
          have := HI.out
          rw [show idle l = false by simpa using hid] at this
          simp at this
          omega
        by_cases h8 : 8 < l.length
        · have HF : Hid (getM l = (0, 1)) := by simp only [getM, hl, hid, h8, if_true, if_false, Hid, Bool.false_eq_true]
          have p8 : (8 : Int) < (l.length : Int) := by omega
          have H3 : (x.toNat = 0 ∧ 128 ≤ y.toNat) ∨ (¬ x.toNat = 0 ∧ x.toNat = 255 ∧ y.toNat < 128) ∨ (¬ x.toNat = 0 ∧ ¬ x.toNat = 255) := by omega
          clear hid hxy
          go_enter Tryd.func22, Tryd.ntmps22
          rcases H3 with ⟨hx0, hy0⟩ | ⟨_, hx0, hy0⟩ | ⟨hx0, hx1⟩
          all_goals
            go_wp2
            go_quiet (fail)
            go_wp2
            go_ret2
            exact ⟨by rw [HF.out]; rfl, below_drewN (Below.refl _ _) _⟩
        · have HF : Hid (getM l = (valS l, 0)) := by simp only [getM, hl, hid, h8, if_false, Hid, Bool.false_eq_true]
          have d8 : decide ((8 : Int) < l.length) = false := by simp; omega
          have H3 : ((((x.toNat : Nat) : Int) == 0) = true ∧ decide (((y.toNat : Nat) : Int) < 128) = false ∧ (((x.toNat : Nat) : Int) == 255) = false ∧ True) ∨
              ((((x.toNat : Nat) : Int) == 0) = false ∧ True ∧ (((x.toNat : Nat) : Int) == 255) = true ∧ decide ((128 : Int) ≤ (y.toNat : Nat)) = false) ∨
              ((((x.toNat : Nat) : Int) == 0) = false ∧ True ∧ (((x.toNat : Nat) : Int) == 255) = false ∧ True) := by
            simp only [beq_iff_eq, beq_eq_false_iff_ne, ne_eq, decide_eq_false_iff_not, and_true, true_and]
            omega
          have hcap : ¬ cap = 1 := by omega
          have HG : Hid (wrap64 (IntKind.i8.wrap (x.toNat : Int)) = valS (l.take 1)) := by
            rw [valS_take_one l (by omega), HX.out]
            exact wrap_sgn x
          have b1 : l.length ≤ 8 := by omega
          clear hid hxy
          rcases H3 with ⟨t0, t1, t2, t3⟩ | ⟨t0, t1, t2, t3⟩ | ⟨t0, t1, t2, t3⟩
          all_goals
            go_enter Tryd.func22, Tryd.ntmps22
            go_wp2
            go_loopw [4, 54] (fun v i wr => ∃ k : Nat, k + 1 ≤ l.length ∧ v = .int .i64 (valS (l.take (k + 1))) ∧ i = .int .i64 k ∧ Below w.heap.size w wr) (fun _ i _ => l.length - (intOf i).toNat)
            case atStart => exact ⟨0, by omega, int_eq HG.out, rfl, Below.refl _ _⟩
            case round =>
              obtain ⟨k, hk, rfl, rfl, hB⟩ := hrel
              have el : ((l.length - 1 : Nat) : Int) = (l.length : Int) - 1 := by omega
              by_cases hlt : (k : Int) < (l.length : Int) - 1
              · have ck := below_cell hB (HC.out (k + 1) (by omega))
                rw [show o + (k + 1) = o + 1 + k by omega] at ck
                have HV := Lib.hid (valS_take_succ l k (by omega))
                have hc1 := (l.getD (k + 1) 0).toNat_lt
                obtain ⟨v1, v2⟩ := valS_small (l.take (k + 1)) (by simp; omega)
                generalize valS (l.take (k + 1)) = V at v1 v2 HV
                generalize l.getD (k + 1) 0 = c at ck hc1 HV
                have hj := i64_join V c.toNat v1 v2 (by omega) (by omega)
                go_wp2
                go_roundw
                case rel => exact ⟨k + 1, by omega, int_eq HV.out.symm, by go_num, hB⟩
                case measure => simp [intOf]; omega
              · have HV : Hid (l.take (k + 1) = l) := List.take_of_length_le (by omega)
                go_wp2
                go_ret2
                exact ⟨by rw [HF.out]; exact ret2 (int_eq (by rw [HV.out])) rfl, hB⟩
end Go.Proofs.YtjhgocnjhhjkoaaDoor
