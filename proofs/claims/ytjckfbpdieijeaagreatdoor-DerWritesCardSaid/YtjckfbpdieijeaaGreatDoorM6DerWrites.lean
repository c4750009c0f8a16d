/- What the law leans on, part 6: W06d, SsJ, W05f, W05g, W05h, W05i, W08vb, L08w, L08x, Open, Open2 -/
import Derived.Test.YtjckfbpdieijeaaGreatDoorM5DerWrites
import Derived.ChangeArms
import Derived.ChangeOld
import Derived.OpenShut

/- Chapter 6: the reference's date of a moment and its text, what bodies are read as. -/
namespace Go.Proofs.YtjckfbpdieijeaaGreatDoor
set_option linter.unusedVariables false
namespace Am
variable {gs : List Nat} [OkG gs]
open Go.RowKit Cal
set_option linter.unusedVariables false
set_option maxRecDepth 100000

theorem year_stop {N y : Int} (h0 : 0 ≤ N) (h1 : N ≤ 2932896) (hy : 1970 ≤ y) (hb : bf y ≤ N) : y ≤ 9999 := by
  refine Decidable.byContradiction fun hn => ?_
  have := bf_mono (a := 10000) (b := y) (by omega)
  have e : bf 10000 = 2932897 := by decide
  omega
theorem rof6_ac {gs : List Nat} (t : Int) (h : inT t) : ACp gs Tryz.prog 95 [.c (.int .i64 t)] (dateC (ofR6 t)) := by
  obtain ⟨r1, r2⟩ := id h
  obtain ⟨N, hN⟩ : ∃ N, N = t / 86400 := ⟨_, rfl⟩
  have n0 : 0 ≤ N := by omega
  have n1 : N ≤ 2932896 := by omega
  refine ac_of 52 Tryz.func95 rfl rfl rfl (fun al w0 F0 St0 => ?_)
  refine jcr ?_
  refine jqe (jeal (n := 6) zr132 rfl fun p1 => ?_)
  refine seq_nil ?_
  refine jcr ?_
  refine jq jrm ?_
  refine jq jrq ?_
  refine jq jrr ?_
  refine jq jrm ?_
  refine jq jrq ?_
  refine jq jrr ?_
  refine jq jrm ?_
  refine jq jrr ?_
  refine jq (rd_build (n := 6) rfl zr132 pl132 rfl rfl) ?_
  refine jqe (jeal (n := 6) zr132 rfl fun p2 => ?_)
  refine jqm (jmst 6 ?_)
  refine seq_nil ?_
  refine jcr ?_
  refine jq jrm ?_
  refine jq jrq ?_
  refine jq jrm ?_
  refine seq_nil ?_
  refine jcs ?_
  refine code_block ?_
  refine l_loop (α := Int) [4, 5, 17, 18, 19, 20, 21, 22, 23, 24, 25, 26, 27, 28, 29] (fun y => [(4, .c (.int .i64 (N - bf y)))]) (fun y => [(p1, .blk 6 (dF D6.zero)), (p2, .blk 6 (dF ⟨y, 1, 0, t / 3600 % 24, t / 60 % 60, t % 60⟩))]) (fun y => 1970 ≤ y ∧ bf y ≤ N) (fun y => (10000 - y).toNat) (1970) ?_ (fun _ => rfl) ?_ ?_ ?_
  · exact ⟨by omega, by rw [bf_1970]; exact n0⟩
  · exact .cons (CEnt.int (by rw [bf_1970]; omega)) .nil
  · (repeat (first | exact HEnt.nil | refine HEnt.same ?_ | refine HEnt.blk rfl (fun j hj => by rcases j with _|_|_|_|_|_|_|_|j <;> first | exact CEnt.refl _ | exact CEnt.int (by omega) | omega) ?_))
  · rintro y ⟨hy, hb⟩
    have hy9 := year_stop n0 n1 hy hb
    have hs := bf_succ y
    have hbd := bf_bd y hy (by omega)
    refine code_block ?_
    refine jcr ?_
    refine jq jrm ?_
    refine seq_nil ?_
    refine jcs ?_
    refine jcr ?_
    refine jq (jrfa 0 1 false) ?_
    refine jqo jrdo ?_
    refine jqe (jecP (rleap_ac _) ?_)
    refine seq_nil ?_
    refine jcc (fun h62 => ?_) fun h62 => ?_
    rotate_left
    · refine code_skip (jtn ?_)
      refine jcs ?_
      refine jcr ?_
      refine jq jrm ?_
      refine jq jrm ?_
      refine jq jrc ?_
      refine seq_nil ?_
      refine jcc (fun h65 => ?_) fun h65 => ?_
      rotate_left
      · refine code_skip (jtn ?_)
        refine jcr ?_
        refine jq jrm ?_
        refine jq jrm ?_
        refine jq jra ?_
        refine jq jrm ?_
        refine seq_nil ?_
        refine jcg ?_
        refine jq (jrfa 0 1 false) ?_
        refine jqo jrdo ?_
        refine jq jra ?_
        refine jq (jrfa 0 1 false) ?_
        refine jqm (jmst 1 ?_)
        refine seq_nil ?_
        refine jbn (jtn ?_)
        refine jlend (y + 1) ?_ ?_ (h5 := ?_)
        · exact ⟨by omega, by simp only [*, if_true, Bool.false_eq_true, if_false] at hs; omega⟩
        · omega
        · exact .cons (CEnt.int (by simp only [*, if_true, Bool.false_eq_true, if_false] at hs; omega)) .nil
      refine code_exit (jte (jbx2 (jte (jbx (jtn ?_)))))
      refine jcs ?_
      refine code_block ?_
      refine l_loop (α := Int) [4, 30, 31, 32, 33, 34, 35, 36, 37, 38, 39, 40, 41, 42, 43, 44, 45, 46, 47] (fun m => [(4, .c (.int .i64 (N - bf y - cum y m)))]) (fun m => [(p1, .blk 6 (dF D6.zero)), (p2, .blk 6 (dF ⟨y, m, 0, t / 3600 % 24, t / 60 % 60, t % 60⟩))]) (fun m => 1 ≤ m ∧ m ≤ 12 ∧ cum y m ≤ N - bf y) (fun m => (13 - m).toNat) (1) ?_ (fun _ => rfl) ?_ ?_ ?_
      · exact ⟨by omega, by omega, by rw [cum_one]; omega⟩
      · exact .cons (CEnt.int (by rw [cum_one]; omega)) .nil
      · (repeat (first | exact HEnt.nil | refine HEnt.same ?_ | refine HEnt.blk rfl (fun j hj => by rcases j with _|_|_|_|_|_|_|_|j <;> first | exact CEnt.refl _ | exact CEnt.int (by omega) | omega) ?_))
      · rintro m ⟨m1, m2, hc⟩
        have hcb := cum_bd y m m1 (by omega)
        have hcs := cum_succ y m m1 m2
        have hdd := days_le y m
        have hc13 := cum_13 y
        have hm13 : m = 12 → cum y (m + 1) = cum y 13 := fun h => by rw [h]; rfl
        refine jcs ?_
        refine jcr ?_
        refine jq jrm ?_
        refine jq (jrfa 0 1 false) ?_
        refine jqo jrdo ?_
        refine jq (jrfa 1 1 false) ?_
        refine jqo jrdo ?_
        refine jqe (jecP (rdays_ac _ _) ?_)
        refine jq jrc ?_
        refine seq_nil ?_
        refine jcc (fun h71 => ?_) fun h71 => ?_
        · refine code_skip (jtn ?_)
          refine code_block ?_
          refine jcr ?_
          refine jq jrm ?_
          refine jq (jrfa 0 1 false) ?_
          refine jqo jrdo ?_
          refine jq (jrfa 1 1 false) ?_
          refine jqo jrdo ?_
          refine jqe (jecP (rdays_ac _ _) ?_)
          refine jq jra ?_
          refine jq jrm ?_
          refine seq_nil ?_
          refine jcg ?_
          refine jq (jrfa 1 1 false) ?_
          refine jqo jrdo ?_
          refine jq jra ?_
          refine jq (jrfa 1 1 false) ?_
          refine jqm (jmst 1 ?_)
          refine seq_nil ?_
          refine jbn (jtn ?_)
          refine jlend (m + 1) ?_ ?_ (h5 := ?_)
          · exact ⟨by omega, by refine Decidable.byContradiction fun hn => ?_; have := hm13 (by omega); dsimp only at *; simp only [*, if_true, Bool.false_eq_true, if_false] at hs; omega, by dsimp only at *; omega⟩
          · omega
          · exact .cons (CEnt.int (by dsimp only at *; omega)) .nil
        refine code_exit (jte (jte (jbx (jtn ?_))))
        refine jcr ?_
        refine jq jrm ?_
        refine jq jra ?_
        refine jq (jrfa 2 1 false) ?_
        refine jqm (jmst 1 ?_)
        refine seq_nil ?_
        refine jcr ?_
        refine jqo (jrdoA 6) ?_
        refine jqm (jmst 6 ?_)
        refine seq_nil ?_
        refine code_ret (jrt (hres := res_1 rfl (javA 6)) (hv := ?_))
        have hR : RightP ⟨y, m, N - bf y - cum y m + 1, t / 3600 % 24, t / 60 % 60, t % 60⟩ := by
          unfold RightP
          dsimp only at *
          omega
        have hS : secM ⟨y, m, N - bf y - cum y m + 1, t / 3600 % 24, t / 60 % 60, t % 60⟩ = t := by
          unfold secM dn
          dsimp only
          clear hcs hcb hc13 hs hbd hR
          omega
        have e := of_sec hR
        rw [hS] at e
        rw [e]
        exact CEnt.agg6 (CEnt.refl _) (CEnt.refl _) (CEnt.refl _) (CEnt.refl _) (CEnt.refl _) (CEnt.refl _)
    refine jcg ?_
    refine jq jrm ?_
    refine seq_nil ?_
    refine jtn ?_
    refine jcs ?_
    refine jcr ?_
    refine jq jrm ?_
    refine jq jrm ?_
    refine jq jrc ?_
    refine seq_nil ?_
    refine jcc (fun h65 => ?_) fun h65 => ?_
    rotate_left
    · refine code_skip (jtn ?_)
      refine jcr ?_
      refine jq jrm ?_
      refine jq jrm ?_
      refine jq jra ?_
      refine jq jrm ?_
      refine seq_nil ?_
      refine jcg ?_
      refine jq (jrfa 0 1 false) ?_
      refine jqo jrdo ?_
      refine jq jra ?_
      refine jq (jrfa 0 1 false) ?_
      refine jqm (jmst 1 ?_)
      refine seq_nil ?_
      refine jbn (jtn ?_)
      refine jlend (y + 1) ?_ ?_ (h5 := ?_)
      · exact ⟨by omega, by simp only [*, if_true, Bool.false_eq_true, if_false] at hs; omega⟩
      · omega
      · exact .cons (CEnt.int (by simp only [*, if_true, Bool.false_eq_true, if_false] at hs; omega)) .nil
    refine code_exit (jte (jbx2 (jte (jbx (jtn ?_)))))
    refine jcs ?_
    refine code_block ?_
    refine l_loop (α := Int) [4, 30, 31, 32, 33, 34, 35, 36, 37, 38, 39, 40, 41, 42, 43, 44, 45, 46, 47] (fun m => [(4, .c (.int .i64 (N - bf y - cum y m)))]) (fun m => [(p1, .blk 6 (dF D6.zero)), (p2, .blk 6 (dF ⟨y, m, 0, t / 3600 % 24, t / 60 % 60, t % 60⟩))]) (fun m => 1 ≤ m ∧ m ≤ 12 ∧ cum y m ≤ N - bf y) (fun m => (13 - m).toNat) (1) ?_ (fun _ => rfl) ?_ ?_ ?_
    · exact ⟨by omega, by omega, by rw [cum_one]; omega⟩
    · exact .cons (CEnt.int (by rw [cum_one]; omega)) .nil
    · (repeat (first | exact HEnt.nil | refine HEnt.same ?_ | refine HEnt.blk rfl (fun j hj => by rcases j with _|_|_|_|_|_|_|_|j <;> first | exact CEnt.refl _ | exact CEnt.int (by omega) | omega) ?_))
    · rintro m ⟨m1, m2, hc⟩
      have hcb := cum_bd y m m1 (by omega)
      have hcs := cum_succ y m m1 m2
      have hdd := days_le y m
      have hc13 := cum_13 y
      have hm13 : m = 12 → cum y (m + 1) = cum y 13 := fun h => by rw [h]; rfl
      refine jcs ?_
      refine jcr ?_
      refine jq jrm ?_
      refine jq (jrfa 0 1 false) ?_
      refine jqo jrdo ?_
      refine jq (jrfa 1 1 false) ?_
      refine jqo jrdo ?_
      refine jqe (jecP (rdays_ac _ _) ?_)
      refine jq jrc ?_
      refine seq_nil ?_
      refine jcc (fun h71 => ?_) fun h71 => ?_
      · refine code_skip (jtn ?_)
        refine code_block ?_
        refine jcr ?_
        refine jq jrm ?_
        refine jq (jrfa 0 1 false) ?_
        refine jqo jrdo ?_
        refine jq (jrfa 1 1 false) ?_
        refine jqo jrdo ?_
        refine jqe (jecP (rdays_ac _ _) ?_)
        refine jq jra ?_
        refine jq jrm ?_
        refine seq_nil ?_
        refine jcg ?_
        refine jq (jrfa 1 1 false) ?_
        refine jqo jrdo ?_
        refine jq jra ?_
        refine jq (jrfa 1 1 false) ?_
        refine jqm (jmst 1 ?_)
        refine seq_nil ?_
        refine jbn (jtn ?_)
        refine jlend (m + 1) ?_ ?_ (h5 := ?_)
        · exact ⟨by omega, by refine Decidable.byContradiction fun hn => ?_; have := hm13 (by omega); dsimp only at *; simp only [*, if_true, Bool.false_eq_true, if_false] at hs; omega, by dsimp only at *; omega⟩
        · omega
        · exact .cons (CEnt.int (by dsimp only at *; omega)) .nil
      refine code_exit (jte (jte (jbx (jtn ?_))))
      refine jcr ?_
      refine jq jrm ?_
      refine jq jra ?_
      refine jq (jrfa 2 1 false) ?_
      refine jqm (jmst 1 ?_)
      refine seq_nil ?_
      refine jcr ?_
      refine jqo (jrdoA 6) ?_
      refine jqm (jmst 6 ?_)
      refine seq_nil ?_
      refine code_ret (jrt (hres := res_1 rfl (javA 6)) (hv := ?_))
      have hR : RightP ⟨y, m, N - bf y - cum y m + 1, t / 3600 % 24, t / 60 % 60, t % 60⟩ := by
        unfold RightP
        dsimp only at *
        omega
      have hS : secM ⟨y, m, N - bf y - cum y m + 1, t / 3600 % 24, t / 60 % 60, t % 60⟩ = t := by
        unfold secM dn
        dsimp only
        clear hcs hcb hc13 hs hbd hR
        omega
      have e := of_sec hR
      rw [hS] at e
      rw [e]
      exact CEnt.agg6 (CEnt.refl _) (CEnt.refl _) (CEnt.refl _) (CEnt.refl _) (CEnt.refl _) (CEnt.refl _)

theorem tex_bd {x : D6} (h : RightP x) {i : Nat} (hi : i < (texF x).length) : 0 ≤ (texF x).getD i 0 ∧ (texF x).getD i 0 ≤ 99 := by
  obtain ⟨q1, q2, q3, q4, q5, q6, q7, q8, q9, q10⟩ := id h
  have := days_le x.y x.m
  have qm := days_pos q3 q4
  rcases i with _ | _ | _ | _ | _ | _ | _ | i
  · show 0 ≤ x.y / 100 ∧ x.y / 100 ≤ 99; omega
  · show 0 ≤ x.y % 100 ∧ x.y % 100 ≤ 99; omega
  · show 0 ≤ x.m ∧ x.m ≤ 99; omega
  · show 0 ≤ x.d ∧ x.d ≤ 99; omega
  · show 0 ≤ x.h ∧ x.h ≤ 99; omega
  · show 0 ≤ x.mi ∧ x.mi ≤ 99; omega
  · show 0 ≤ x.s ∧ x.s ≤ 99; omega
  · simp [texF] at hi; omega
theorem rtext6_ac {gs : List Nat} (x : D6) (h : RightP x) : ACp gs Tryz.prog 94 [dateC x] (bsC (bodyL x)) := by
  obtain ⟨q1, q2, _⟩ := id h
  refine ac_of 44 Tryz.func94 rfl rfl rfl (fun al w0 F0 St0 => ?_)
  refine jcr ?_
  refine jqe (jebx 6 fun p1 => ?_)
  refine jq jrm ?_
  refine seq_nil ?_
  refine jcr ?_
  refine jqe (jebl 0 1 zr5 fun p2 => ?_)
  refine jq jrm ?_
  refine seq_nil ?_
  refine jcs ?_
  refine jcr ?_
  refine jq (jrfa 0 1 false) ?_
  refine jqo jrdo ?_
  refine jq jrq ?_
  refine jq (jrfa 0 1 false) ?_
  refine jqo jrdo ?_
  refine jq jrr ?_
  refine jq (jrfa 1 1 false) ?_
  refine jqo jrdo ?_
  refine jq (jrfa 2 1 false) ?_
  refine jqo jrdo ?_
  refine jq (jrfa 3 1 false) ?_
  refine jqo jrdo ?_
  refine jq (jrfa 4 1 false) ?_
  refine jqo jrdo ?_
  refine jq (jrfa 5 1 false) ?_
  refine jqo jrdo ?_
  refine jqe (jebl 7 1 zr3 fun p3 => ?_)
  refine jq jrl ?_
  refine jq jrm ?_
  refine seq_nil ?_
  refine code_block ?_
  refine l_loop (α := Nat × Option Nat) [3, 5, 25, 26, 27, 28, 29, 30, 31, 32, 33, 34, 35, 36, 37, 38, 39, 40] (fun (i, g) => [(3, .os 1 g 0 (texL x i).length 1), (25, .c (.int .i64 (i : Nat)))]) (fun (i, g) => [(p1, .blk 6 (dF x)), (g, .blk (texL x i).length (byF (texL x i))), (p3, .blk 7 (inF (texF x)))]) (fun i => i.1 ≤ 7) (fun i => 7 - i.1) ((0, p2)) ?_ (fun _ => rfl) ?_ ?_ ?_
  · simp
  · (repeat (first | exact EntE.nil | refine EntE.cons (CEnt.refl _) ?_ | refine EntE.cons (CEnt.int (by omega)) ?_))
  · exact .blk rfl (fun j hj => by rcases j with _|_|_|_|_|_|j <;> first | exact CEnt.refl _ | omega) (.blk rfl (fun j hj => absurd hj (by show ¬ j < 0; omega)) (.blk rfl (fun j hj => fl_ints (texF x) j hj) .nil))
  · rintro ⟨i, g'⟩ (hi : i ≤ 7)
    refine jcr ?_
    refine jq jrc ?_
    refine seq_nil ?_
    refine jcs ?_
    refine jcc (fun h82 => ?_) fun h82 => ?_
    rotate_left
    · refine code_exit (jte (jte (jbx (jtn ?_))))
      have hlen := texL_len x hi
      have hi7 : i = 7 := by omega
      refine jcr ?_
      refine jq jrm ?_
      refine jqe (jebl 1 1 zr5 fun p4 => ?_)
      refine jqm (m_appendB (l2 := [90]) rfl rfl rfl (Nat.le_refl _) (fun _ _ => CEnt.refl _) (src_os rfl (.inl rfl) (by decide)) rfl (hh_bytes (.cons (CEnt.int (rfl)) .nil)) Tryz.underlying26 nu26 sz5 zr5 by5 rfl (by (simp; omega)) (leaf_fl rfl rfl) rfl rfl (fun p5 => ?_))
      refine jq jrm ?_
      refine seq_nil ?_
      refine code_ent (freeze 1 rfl) ?_
      refine code_ent (thawB 2 (texL x i ++ [90]) rfl rfl (by rfl) rfl) ?_
      refine code_ret (jrt (hv := ?_))
      subst hi7
      rw [← texL_all (by omega) q2]
      exact CEnt.refl _
    refine code_skip (jtn ?_)
    refine jcs ?_
    refine code_block ?_
    refine jcr ?_
    refine jq jri ?_
    refine jqo jrdo ?_
    refine jq jrm ?_
    refine seq_nil ?_
    have hlt : i < (texF x).length := by simp [texF]; omega
    have hb := tex_bd h hlt
    have hlen := texL_len x hi
    refine jcg ?_
    refine jq jrm ?_
    refine jq jrm ?_
    refine jq jrq ?_
    refine jq jra ?_
    refine jq (jrv .i64 .u8) ?_
    refine jq jrm ?_
    refine jq jrr ?_
    refine jq jra ?_
    refine jq (jrv .i64 .u8) ?_
    refine jqe (jebl 2 1 zr5 fun p4 => ?_)
    refine jqm (m_appendB (l2 := [figc ((texF x).getD i 0) 10, figc ((texF x).getD i 0) 1]) rfl rfl rfl (Nat.le_refl _) (fun _ _ => CEnt.refl _) (src_os rfl (.inl rfl) (by decide)) rfl (hh_bytes (.cons (CEnt.int ((by rw [figc_nat (by omega)]; show _ = 48 + _; omega))) (.cons (CEnt.int ((by rw [figc_nat (by omega)]; omega))) .nil))) Tryz.underlying26 nu26 sz5 zr5 by5 rfl (by (simp; omega)) (leaf_fl rfl rfl) rfl rfl (fun p5 => ?_))
    refine jq jrm ?_
    refine seq_nil ?_
    refine jbn (jtn ?_)
    refine jcg ?_
    refine jq jra ?_
    refine jq jrm ?_
    refine seq_nil ?_
    refine jtn ?_
    refine jlend ((i + 1, p5)) ?_ ?_ (h5 := ?_) (h7 := ?_)
    · omega
    · omega
    · simp only [texL_succ hlt]
      (repeat (first | exact EntE.nil | refine EntE.cons (CEnt.refl _) ?_ | refine EntE.cons (CEnt.int (by omega)) ?_))
    · simp only [texL_succ hlt]
      (repeat (first | exact HEnt.nil | refine HEnt.same ?_ | refine HEnt.blk rfl (fun j hj => by rcases j with _|_|_|_|_|_|_|_|j <;> first | exact CEnt.refl _ | exact CEnt.int (by omega) | omega) ?_))
end Am
end Go.Proofs.YtjckfbpdieijeaaGreatDoor

/- Texts in a row; texts joined. -/
namespace Go.Proofs.YtjckfbpdieijeaaGreatDoor
set_option linter.unusedVariables false
namespace Am
open Go.RowKit
set_option maxRecDepth 100000

/-! ### texts in a row -/
def ssF (ls : List (List UInt8)) (j : Nat) : CV := strC (ls.getD j [])
def ssC (ls : List (List UInt8)) : CV := .rs 1 ls.length fun i _ => strC (ls.getD i [])
theorem rowC_ss : RowC 1 ssF := fun l l2 j hj => by
  simp only [ssF, List.getD_eq_getElem?_getD]
  split
  · rw [List.getElem?_append_left (by omega)]
  · rw [List.getElem?_append_right (by omega), Nat.mul_one]
theorem ss_thaw {ls : List (List UInt8)} : ∀ a b, a < ls.length → b < 1 → CEnt (ssF ls (0 + (a * 1 + b))) (strC (ls.getD a [])) := fun a b ha hb => CEnt.of_eq (by rw [show 0 + (a * 1 + b) = a by omega]; rfl)

end Am
end Go.Proofs.YtjckfbpdieijeaaGreatDoor

/- Chapter 5: the reference's Right, Split, Parse. -/
namespace Go.Proofs.YtjckfbpdieijeaaGreatDoor
set_option linter.unusedVariables false
namespace Am
variable {gs : List Nat} [Ok2 gs]
open Go.RowKit
set_option maxRecDepth 100000

def inR (n : Int) : Bool := decide (0 ≤ n) && decide (n ≤ 2147483647)
theorem rightA_not {l : List Int} (h : (l.length : Int) < 2 ∨ (16 : Int) < l.length ∨ l.getD 0 0 < 0 ∨ 2 < l.getD 0 0 ∨ (l.getD 0 0 < 2 ∧ 39 < l.getD 1 0) ∨ l.all inR = false) : rightA l = false := by
  cases e : rightA l with
  | false => rfl
  | true =>
    obtain ⟨h1, h2, h3, h4, h5⟩ := right_at e
    rcases h with h | h | h | h | h | h
    · omega
    · omega
    · have := h3 _ (getD_mem' (l := l) (k := 0) 0 (by omega)); omega
    · omega
    · omega
    · have : l.all inR = true := List.all_eq_true.2 fun n hn => by have := h3 n hn; unfold inR; simp; omega
      rw [this] at h; cases h
theorem rightA_yes {l : List Int} (h1 : ¬ (l.length : Int) < 2) (h2 : ¬ (16 : Int) < l.length) (h3 : ¬ 2 < l.getD 0 0) (h4 : ¬ (l.getD 0 0 < 2 ∧ 39 < l.getD 1 0)) (h5 : l.all inR = true) : rightA l = true := by
  unfold rightA
  have e : l.all (fun n => decide (0 ≤ n) && decide (n ≤ 2147483647)) = true := h5
  rw [e, decide_eq_true (show 2 ≤ l.length by omega), decide_eq_true (show l.length ≤ 16 by omega), decide_eq_true (show l.getD 0 0 ≤ 2 by omega)]
  by_cases h6 : l.getD 0 0 = 2
  · rw [decide_eq_true h6]; rfl
  · rw [decide_eq_true (show l.getD 1 0 < 40 by omega), Bool.or_true]; rfl
theorem inR_yes {n : Int} (h1 : ¬ n < 0) (h2 : ¬ 2147483647 < n) : inR n = true := by
  unfold inR
  simp only [Bool.and_eq_true, decide_eq_true_eq]
  omega
theorem inR_no {n : Int} (h : n < 0 ∨ 2147483647 < n) : inR n = false := by
  cases e : inR n with
  | false => rfl
  | true =>
    unfold inR at e
    simp only [Bool.and_eq_true, decide_eq_true_eq] at e
    omega
theorem figR_two (p : List UInt8) : ((figR p).2 = true ↔ (figM p).2 = 0) ∧ ((figR p).2 = true → (figR p).1 = (figM p).1) := by
  unfold figR
  split
  · rename_i h; exact ⟨⟨fun _ => h, fun _ => rfl⟩, fun _ => rfl⟩
  · rename_i h; exact ⟨⟨fun e => (by cases e), fun e => absurd e h⟩, fun e => (by cases e)⟩
theorem okP_bad {p : List UInt8} (h : (figR p).2 = false ∨ (10 : Int) < p.length) : okP p = false := by
  cases e : okP p with
  | false => rfl
  | true =>
    unfold okP at e
    simp only [Bool.and_eq_true, decide_eq_true_eq] at e
    have := (figR_two p).1.2 e.1
    rcases h with h | h
    · rw [h] at this; cases this
    · omega
theorem okP_good {p : List UInt8} (h : (figR p).2 = true) (h2 : ¬ (10 : Int) < p.length) : okP p = true ∧ ((figR p).1 : Int) = valP p := by
  refine ⟨?_, by rw [(figR_two p).2 h]; rfl⟩
  unfold okP
  simp only [Bool.and_eq_true, decide_eq_true_eq]
  exact ⟨(figR_two p).1.1 h, by omega⟩
theorem take_allO {α : Type} {p : α → Bool} {l : List α} {i : Nat} (d : α) (h : i < l.length) (h1 : (l.take i).all p = true) (h2 : p (l.getD i d) = true) : (l.take (i + 1)).all p = true := by
  rw [take_get d h, List.all_append, h1, List.all_cons, h2]
  rfl
theorem rright5_ac {gs : List Nat} (l : List Int) : ACp gs Tryz.prog 133 [isC l] (.c (.bool (rightA l))) := by
  refine ac_len 0 rfl fun hlen => ?_
  refine ac_of 50 Tryz.func133 rfl rfl rfl (fun al w0 F0 St0 => ?_)
  refine jcr ?_
  refine jq jrm ?_
  refine seq_nil ?_
  refine jcs ?_
  refine jcr ?_
  refine jq jrm ?_
  refine jq jrl ?_
  refine jq jrc ?_
  refine jq jrm ?_
  refine jqsp 8 (fun g11 => ?_) fun g11 => ?_
  · refine jqs ?_
    refine jqs ?_
    refine jqs ?_
    refine jq jrpT ?_
    refine jq jrm ?_
    refine jqs ?_
    refine jqs ?_
    refine jqs ?_
    refine jqs ?_
    refine jq jrpT ?_
    refine jq jrm ?_
    refine jqs ?_
    refine jqs ?_
    refine jqs ?_
    refine jqs ?_
    refine jq jrpT ?_
    refine jq jrm ?_
    refine jqs ?_
    refine jqs ?_
    refine jqs ?_
    refine jqs ?_
    refine jqs ?_
    refine jqs ?_
    refine jqs ?_
    refine jqs ?_
    refine jqs ?_
    refine jqs ?_
    refine jq jrpT ?_
    refine seq_nil ?_
    refine jcT ?_
    refine jcr ?_
    refine jq jrm ?_
    refine seq_nil ?_
    refine code_ret (jtr (jrt (hv := ?_)))
    refine CEnt.bool ?_
    refine (rightA_not ?_).symm
    omega
  refine jq jrm ?_
  refine jq jrl ?_
  refine jq jrc ?_
  refine jq jrpF ?_
  refine jq jrm ?_
  refine jqsp 13 (fun g11_2 => ?_) fun g11_2 => ?_
  · refine jqs ?_
    refine jqs ?_
    refine jqs ?_
    refine jqs ?_
    refine jq jrpT ?_
    refine jq jrm ?_
    refine jqs ?_
    refine jqs ?_
    refine jqs ?_
    refine jqs ?_
    refine jq jrpT ?_
    refine jq jrm ?_
    refine jqs ?_
    refine jqs ?_
    refine jqs ?_
    refine jqs ?_
    refine jqs ?_
    refine jqs ?_
    refine jqs ?_
    refine jqs ?_
    refine jqs ?_
    refine jqs ?_
    refine jq jrpT ?_
    refine seq_nil ?_
    refine jcT ?_
    refine jcr ?_
    refine jq jrm ?_
    refine seq_nil ?_
    refine code_ret (jtr (jrt (hv := ?_)))
    refine CEnt.bool ?_
    refine (rightA_not ?_).symm
    omega
  refine jq jrm ?_
  refine jq (jri (i := 0)) ?_
  refine jq jrdr ?_
  refine jq jrc ?_
  refine jq jrpF ?_
  refine jq jrm ?_
  refine jqsp 19 (fun g11_3 => ?_) fun g11_3 => ?_
  · refine jqs ?_
    refine jqs ?_
    refine jqs ?_
    refine jqs ?_
    refine jq jrpT ?_
    refine jq jrm ?_
    refine jqs ?_
    refine jqs ?_
    refine jqs ?_
    refine jqs ?_
    refine jqs ?_
    refine jqs ?_
    refine jqs ?_
    refine jqs ?_
    refine jqs ?_
    refine jqs ?_
    refine jq jrpT ?_
    refine seq_nil ?_
    refine jcT ?_
    refine jcr ?_
    refine jq jrm ?_
    refine seq_nil ?_
    refine code_ret (jtr (jrt (hv := ?_)))
    refine CEnt.bool ?_
    refine (rightA_not ?_).symm
    omega
  refine jq jrm ?_
  refine jq (jri (i := 0)) ?_
  refine jq jrdr ?_
  refine jq jrc ?_
  refine jq jrpF ?_
  refine jq jrm ?_
  refine jqsp 25 (fun g11_4 => ?_) fun g11_4 => ?_
  · refine jqs ?_
    refine jqs ?_
    refine jqs ?_
    refine jqs ?_
    refine jqs ?_
    refine jqs ?_
    refine jqs ?_
    refine jqs ?_
    refine jqs ?_
    refine jqs ?_
    refine jq jrpT ?_
    refine seq_nil ?_
    refine jcT ?_
    refine jcr ?_
    refine jq jrm ?_
    refine seq_nil ?_
    refine code_ret (jtr (jrt (hv := ?_)))
    refine CEnt.bool ?_
    refine (rightA_not ?_).symm
    omega
  refine jq jrm ?_
  refine jq (jri (i := 0)) ?_
  refine jq jrdr ?_
  refine jq jrc ?_
  refine jq jrm ?_
  refine jqsp 30 (fun g11_5 => ?_) fun g11_5 => ?_
  rotate_left
  · refine jqs ?_
    refine jqs ?_
    refine jqs ?_
    refine jqs ?_
    refine jq jrpF ?_
    refine jq jrpF ?_
    refine seq_nil ?_
    refine jcF ?_
    refine code_skip (jtn ?_)
    refine jcs ?_
    refine jcr ?_
    refine jq jrm ?_
    refine jq jrl ?_
    refine jq jrm ?_
    refine seq_nil ?_
    refine code_block ?_
    refine l_loop (α := Nat) [2, 4, 39, 40, 41, 42, 43, 44, 45, 46, 47, 48, 49] (fun i => [(39, .c (.int .i64 (i : Nat)))]) (fun _ => []) (fun i => i ≤ l.length ∧ (l.take i).all inR = true) (fun i => l.length - i) (0) ?_ (fun _ => rfl) ?_ ?_ ?_
    · exact ⟨Nat.zero_le _, rfl⟩
    · (repeat (first | exact EntE.nil | refine EntE.cons (CEnt.refl _) ?_ | refine EntE.cons (CEnt.int (by omega)) ?_))
    · (repeat (first | exact HEnt.nil | refine HEnt.same ?_ | refine HEnt.blk rfl (fun j hj => by rcases j with _|_|_|_|_|_|_|_|j <;> first | exact CEnt.refl _ | exact CEnt.int (by omega) | omega) ?_))
    · rintro i ⟨(hi : i ≤ l.length), hall⟩
      refine jcr ?_
      refine jq jrc ?_
      refine seq_nil ?_
      refine jcs ?_
      refine jcc (fun h14 => ?_) fun h14 => ?_
      rotate_left
      · refine code_exit (jte (jte (jbx (jtn ?_))))
        refine jcr ?_
        refine jq jrm ?_
        refine seq_nil ?_
        refine code_ret (jrt (hv := ?_))
        refine CEnt.bool ?_
        rw [show i = l.length by omega, List.take_length] at hall
        exact (rightA_yes (by omega) (by omega) (by omega) (by omega) hall).symm
      refine code_skip (jtn ?_)
      refine jcs ?_
      refine code_block ?_
      refine jcr ?_
      refine jq jri ?_
      refine jq jrdr ?_
      refine jq jrm ?_
      refine seq_nil ?_
      refine jcr ?_
      refine jq jrm ?_
      refine jq jrc ?_
      refine jq jrm ?_
      refine jqsp 45 (fun g15 => ?_) fun g15 => ?_
      · refine jqs ?_
        refine jqs ?_
        refine jq jrpT ?_
        refine seq_nil ?_
        refine jcT ?_
        refine jcr ?_
        refine jq jrm ?_
        refine seq_nil ?_
        refine code_ret (jbr (jtr (jtr (jbr (jtr (jrt (hv := ?_)))))))
        refine CEnt.bool ?_
        exact (rightA_not (.inr (.inr (.inr (.inr (.inr (all_false (k := i) 0 (by omega) (inR_no (by omega))))))))).symm
      refine jq jrm ?_
      refine jq jrc ?_
      refine jq jrpF ?_
      refine seq_nil ?_
      refine jcc (fun h15 => ?_) fun h15 => ?_
      · refine jcr ?_
        refine jq jrm ?_
        refine seq_nil ?_
        refine code_ret (jbr (jtr (jtr (jbr (jtr (jrt (hv := ?_)))))))
        refine CEnt.bool ?_
        exact (rightA_not (.inr (.inr (.inr (.inr (.inr (all_false (k := i) 0 (by omega) (inR_no (by omega))))))))).symm
      refine code_skip (jbn (jtn ?_))
      refine jcg ?_
      refine jq jra ?_
      refine jq jrm ?_
      refine seq_nil ?_
      refine jtn ?_
      refine jlend (i + 1) ?_ ?_
      · exact ⟨by omega, take_allO 0 (by omega) hall (inR_yes (by omega) (by omega))⟩
      · show l.length - (i + 1) < l.length - i; omega
  refine jq jrm ?_
  refine jq (jri (i := 1)) ?_
  refine jq jrdr ?_
  refine jq jrc ?_
  refine jq jrpT ?_
  refine jq jrpF ?_
  refine seq_nil ?_
  refine jcc (fun h11 => ?_) fun h11 => ?_
  · refine jcr ?_
    refine jq jrm ?_
    refine seq_nil ?_
    refine code_ret (jtr (jrt (hv := ?_)))
    refine CEnt.bool ?_
    refine (rightA_not ?_).symm
    omega
  refine code_skip (jtn ?_)
  refine jcs ?_
  refine jcr ?_
  refine jq jrm ?_
  refine jq jrl ?_
  refine jq jrm ?_
  refine seq_nil ?_
  refine code_block ?_
  refine l_loop (α := Nat) [2, 4, 39, 40, 41, 42, 43, 44, 45, 46, 47, 48, 49] (fun i => [(39, .c (.int .i64 (i : Nat)))]) (fun _ => []) (fun i => i ≤ l.length ∧ (l.take i).all inR = true) (fun i => l.length - i) (0) ?_ (fun _ => rfl) ?_ ?_ ?_
  · exact ⟨Nat.zero_le _, rfl⟩
  · (repeat (first | exact EntE.nil | refine EntE.cons (CEnt.refl _) ?_ | refine EntE.cons (CEnt.int (by omega)) ?_))
  · (repeat (first | exact HEnt.nil | refine HEnt.same ?_ | refine HEnt.blk rfl (fun j hj => by rcases j with _|_|_|_|_|_|_|_|j <;> first | exact CEnt.refl _ | exact CEnt.int (by omega) | omega) ?_))
  · rintro i ⟨(hi : i ≤ l.length), hall⟩
    refine jcr ?_
    refine jq jrc ?_
    refine seq_nil ?_
    refine jcs ?_
    refine jcc (fun h14 => ?_) fun h14 => ?_
    rotate_left
    · refine code_exit (jte (jte (jbx (jtn ?_))))
      refine jcr ?_
      refine jq jrm ?_
      refine seq_nil ?_
      refine code_ret (jrt (hv := ?_))
      refine CEnt.bool ?_
      rw [show i = l.length by omega, List.take_length] at hall
      exact (rightA_yes (by omega) (by omega) (by omega) (by omega) hall).symm
    refine code_skip (jtn ?_)
    refine jcs ?_
    refine code_block ?_
    refine jcr ?_
    refine jq jri ?_
    refine jq jrdr ?_
    refine jq jrm ?_
    refine seq_nil ?_
    refine jcr ?_
    refine jq jrm ?_
    refine jq jrc ?_
    refine jq jrm ?_
    refine jqsp 45 (fun g15 => ?_) fun g15 => ?_
    · refine jqs ?_
      refine jqs ?_
      refine jq jrpT ?_
      refine seq_nil ?_
      refine jcT ?_
      refine jcr ?_
      refine jq jrm ?_
      refine seq_nil ?_
      refine code_ret (jbr (jtr (jtr (jbr (jtr (jrt (hv := ?_)))))))
      refine CEnt.bool ?_
      exact (rightA_not (.inr (.inr (.inr (.inr (.inr (all_false (k := i) 0 (by omega) (inR_no (by omega))))))))).symm
    refine jq jrm ?_
    refine jq jrc ?_
    refine jq jrpF ?_
    refine seq_nil ?_
    refine jcc (fun h15 => ?_) fun h15 => ?_
    · refine jcr ?_
      refine jq jrm ?_
      refine seq_nil ?_
      refine code_ret (jbr (jtr (jtr (jbr (jtr (jrt (hv := ?_)))))))
      refine CEnt.bool ?_
      exact (rightA_not (.inr (.inr (.inr (.inr (.inr (all_false (k := i) 0 (by omega) (inR_no (by omega))))))))).symm
    refine code_skip (jbn (jtn ?_))
    refine jcg ?_
    refine jq jra ?_
    refine jq jrm ?_
    refine seq_nil ?_
    refine jtn ?_
    refine jlend (i + 1) ?_ ?_
    · exact ⟨by omega, take_allO 0 (by omega) hall (inR_yes (by omega) (by omega))⟩
    · show l.length - (i + 1) < l.length - i; omega

theorem split_stepO {c : UInt8} {s : List UInt8} {a i : Nat} (hai : a ≤ i) (hi : i < s.length) (hno : c ∉ (s.take i).drop a) (hc : s.getD i 0 = c) : splitC c (s.drop a) = (s.take i).drop a :: splitC c (s.drop (i + 1)) := by
  have e : s.drop a = (s.take i).drop a ++ c :: s.drop (i + 1) := by
    have h1 : s = s.take i ++ s.drop i := (List.take_append_drop i s).symm
    have h2 : s.drop i = c :: s.drop (i + 1) := by
      rw [List.drop_eq_getElem_cons hi, ← hc]
      simp [List.getD, hi]
    conv => lhs; rw [h1, List.drop_append_of_le_length (by rw [List.length_take]; omega), h2]
  rw [e, splitC_at _ hno]
theorem notin_step {c : UInt8} {s : List UInt8} {a i : Nat} (hai : a ≤ i) (hi : i < s.length) (hno : c ∉ (s.take i).drop a) (hc : s.getD i 0 ≠ c) : c ∉ (s.take (i + 1)).drop a := by
  rw [take_get 0 hi, List.drop_append_of_le_length (by rw [List.length_take]; omega)]
  intro h
  rcases List.mem_append.1 h with h | h
  · exact hno h
  · exact hc (List.mem_singleton.1 h).symm
theorem u8_eqO {c d : UInt8} (h : (c.toNat : Int) = d.toNat) : c = d := UInt8.toNat_inj.1 (by omega)
theorem rsplit_ac {gs : List Nat} (s : List UInt8) (hs : s.length ≤ 1000000000) : ACp gs Tryz.prog 131 [strC s] (ssC (splitC 46 s)) := by
  have hpl := split_len 46 s
  refine ac_of 32 Tryz.func131 rfl rfl rfl (fun al w0 F0 St0 => ?_)
  refine jcr ?_
  refine jq jrm ?_
  refine seq_nil ?_
  refine jcr ?_
  refine jqe (jebl 0 1 zr9 fun p1 => ?_)
  refine jq jrm ?_
  refine jq jrm ?_
  refine seq_nil ?_
  refine jcs ?_
  refine jcr ?_
  refine jq jrm ?_
  refine seq_nil ?_
  refine code_block ?_
  refine l_loop (α := Nat × Nat × List (List UInt8) × Option Nat) [3, 4, 5, 7, 8, 9, 10, 11, 12, 13, 14, 15, 16, 17, 18, 19, 20, 21, 22, 23, 24, 25] (fun (i, a, X, g) => [(5, .c (.int .i64 (i : Nat))), (4, .c (.int .i64 (a : Nat))), (3, .os 0 g 0 X.length 1)]) (fun (i, a, X, g) => [(g, .blk (X.length * 1) (ssF X))]) (fun (i, a, X, g) => i ≤ s.length ∧ a ≤ i ∧ X.length ≤ i ∧ splitC 46 s = X ++ splitC 46 (s.drop a) ∧ (46 : UInt8) ∉ (s.take i).drop a) (fun (i, a, X, g) => s.length - i) ((0, 0, [], p1)) ?_ (fun _ => rfl) ?_ ?_ ?_
  · exact ⟨Nat.zero_le _, Nat.le_refl _, Nat.le_refl _, by simp, by simp⟩
  · exact .cons (CEnt.refl _) (.cons (CEnt.refl _) (.cons (CEnt.refl _) .nil))
  · exact .blk rfl (fun j hj => absurd hj (Nat.not_lt_zero j)) .nil
  · rintro ⟨i, a, X, g⟩ ⟨(hi : i ≤ s.length), (ha : a ≤ i), (hX : X.length ≤ i), hsp, hno⟩
    refine jcs ?_
    refine jcr ?_
    refine jq jrm ?_
    refine jq jrm ?_
    refine jq jrls ?_
    refine jq jrc ?_
    refine seq_nil ?_
    refine jcc (fun h25 => ?_) fun h25 => ?_
    rotate_left
    · refine code_exit (jte (jte (jbx (jtn ?_))))
      refine jcr ?_
      refine jq jrm ?_
      refine jq jrm ?_
      refine jq jrm ?_
      refine jq (rd_sliceLF rfl rfl Tryz.underlying9 rfl (show _ = ((a : Nat) : Int) by omega) (by (omega))) ?_
      refine jqe (jebl 1 1 zr9 fun p2 => ?_)
      refine jqm (m_appendC (rowC_ss) (l2 := [s.drop a]) rfl rfl rfl rfl (by exact Nat.le_refl _) (fun _ _ => CEnt.refl _) (src_os rfl (.inl rfl) (by decide)) rfl (fun j hj => by rcases j with _|j <;> first | exact CEnt.refl _ | exact CEnt.int (by omega) | (exfalso; simp at hj <;> omega)) Tryz.underlying167 nu167 sz9 zr9 by9 rfl (by (simp; omega)) (by (simp; omega)) (leaf_flk rfl rfl) rfl rfl rfl (fun p3 => ?_))
      refine jq jrm ?_
      refine seq_nil ?_
      have hi2 : i = s.length := by omega
      rw [hi2, List.take_length] at hno
      rw [splitC_none hno] at hsp
      refine code_ent (freeze 0 rfl) ?_
      refine code_ent (thaw 2 (fun b _ => strC ((X ++ [s.drop a]).getD b [])) rfl rfl (by omega) ss_thaw) ?_
      refine code_ret (jrt (hv := ?_))
      rw [hsp]
      exact CEnt.refl _
    refine code_skip (jtn ?_)
    refine jcs ?_
    refine code_block ?_
    refine jcr ?_
    refine jq jrm ?_
    refine jq jrm ?_
    refine jq jrix ?_
    refine jq jrc ?_
    refine seq_nil ?_
    refine jcc (fun h26 => ?_) fun h26 => ?_
    rotate_left
    · refine code_skip (jbn (jtn ?_))
      refine jcg ?_
      refine jq jrm ?_
      refine jq jra ?_
      refine jq jrm ?_
      refine seq_nil ?_
      refine jtn ?_
      refine jlend ((i + 1, a, X, g)) ?_ ?_ (h5 := ?_) (h7 := ?_)
      · exact ⟨by omega, by omega, by omega, hsp, notin_step ha (by omega) hno (fun e => h26 (by rw [e]; rfl))⟩
      · show s.length - (i + 1) < s.length - i; omega
      · exact .cons (CEnt.int (by omega)) (.cons (CEnt.refl _) (.cons (CEnt.refl _) .nil))
      · exact .same .nil
    refine jcr ?_
    refine jq jrm ?_
    refine jq jrm ?_
    refine jq jrm ?_
    refine jq jrm ?_
    refine jq (rd_sliceL rfl rfl Tryz.underlying9 (bd_some rfl (show _ = ((a : Nat) : Int) by omega)) (bd_some rfl (show _ = ((i : Nat) : Int) by omega)) (by (omega)) (by (omega))) ?_
    refine jqe (jebl 1 1 zr9 fun p2 => ?_)
    refine jqm (m_appendC (rowC_ss) (l2 := [(s.take i).drop a]) rfl rfl rfl rfl (by exact Nat.le_refl _) (fun _ _ => CEnt.refl _) (src_os rfl (.inl rfl) (by decide)) rfl (fun j hj => by rcases j with _|j <;> first | exact CEnt.refl _ | exact CEnt.int (by omega) | (exfalso; simp at hj <;> omega)) Tryz.underlying167 nu167 sz9 zr9 by9 rfl (by (simp; omega)) (by (simp; omega)) (leaf_flk rfl rfl) rfl rfl rfl (fun p3 => ?_))
    refine jq jrm ?_
    refine seq_nil ?_
    refine jcg ?_
    refine jq jrm ?_
    refine jq jra ?_
    refine jq jrm ?_
    refine seq_nil ?_
    refine jbn (jtn ?_)
    refine jcg ?_
    refine jq jrm ?_
    refine jq jra ?_
    refine jq jrm ?_
    refine seq_nil ?_
    refine jtn ?_
    refine jlend ((i + 1, i + 1, X ++ [(s.take i).drop a], p3)) ?_ ?_ (h5 := ?_) (h7 := ?_)
    · exact ⟨by omega, by omega, by simp; omega, by rw [hsp, split_stepO ha (by omega) hno (u8_eqO (d := 46) h26)]; simp, by rw [List.drop_eq_nil_of_le (by simp only [List.length_take]; omega)]; exact List.not_mem_nil⟩
    · show s.length - (i + 1) < s.length - i; omega
    · exact .cons (CEnt.int (by omega)) (.cons (CEnt.int (by omega)) (.cons (CEnt.refl _) .nil))
    · exact .same .nil
set_option maxHeartbeats 1000000 in
theorem rparse_ac {gs : List Nat} (s : List UInt8) (hs : s.length ≤ 1000000000) : ACp gs Tryz.prog 92 [strC s] (.tup 2 (fl [isC (parseM s).1, .c (.int .i64 ((parseM s).2 : Nat))])) := by
  have hpl := split_len 46 s
  refine ac_of 38 Tryz.func92 rfl rfl rfl (fun al w0 F0 St0 => ?_)
  refine jcr ?_
  refine jq jrm ?_
  refine jq jrm ?_
  refine seq_nil ?_
  refine jcr ?_
  refine jqe (jebl 0 1 zr3 fun p1 => ?_)
  refine jq jrm ?_
  refine seq_nil ?_
  refine jcs ?_
  refine jcr ?_
  refine jq jrm ?_
  refine jqe (jecP (rsplit_ac s hs) ?_)
  refine jq jrl ?_
  refine jq jrm ?_
  refine seq_nil ?_
  refine code_block ?_
  refine l_loop (α := Nat × List Int × Option Nat) [2, 3, 4, 6, 7, 8, 13, 14, 15, 16, 17, 18, 19, 20, 21, 22, 23, 24, 25, 26, 27, 28, 29, 30, 31, 32, 33] (fun (k, X, g) => [(13, .c (.int .i64 (k : Nat))), (4, .os 0 g 0 X.length 1)]) (fun (k, X, g) => [(g, .blk X.length (inF X))]) (fun (k, X, g) => k ≤ (splitC 46 s).length ∧ X = ((splitC 46 s).take k).map valP ∧ ((splitC 46 s).take k).all okP = true) (fun (k, X, g) => (splitC 46 s).length - k) ((0, [], p1)) ?_ (fun _ => rfl) ?_ ?_ ?_
  · exact ⟨Nat.zero_le _, rfl, rfl⟩
  · exact .cons (CEnt.refl _) (.cons (CEnt.refl _) .nil)
  · exact .blk rfl (fun j hj => absurd hj (Nat.not_lt_zero j)) .nil
  · rintro ⟨k, X, g⟩ ⟨(hk : k ≤ _), hX, hall⟩
    have hXl : X.length ≤ k := by rw [hX, List.length_map, List.length_take]; omega
    refine jcr ?_
    refine jq jrc ?_
    refine seq_nil ?_
    refine jcs ?_
    refine jcc (fun h37 => ?_) fun h37 => ?_
    rotate_left
    · refine code_exit (jte (jte (jbx (jtn ?_))))
      refine jcs ?_
      have hk2 : k = (splitC 46 s).length := by omega
      rw [hk2, List.take_length] at hX hall
      refine code_ent (freeze 0 rfl) ?_
      refine code_ent (thawIL 4 X rfl rfl rfl (Nat.ble_eq_true_of_le (Nat.le_refl _)) (fun j hj => CEnt.refl _)) ?_
      refine jcr ?_
      refine jq jrm ?_
      refine jqe (jecP (rright5_ac X) ?_)
      refine jq jrn ?_
      refine seq_nil ?_
      refine jcc (fun h44 => ?_) fun h44 => ?_
      · refine jcr ?_
        refine jq jrm ?_
        refine jq jrm ?_
        refine seq_nil ?_
        refine code_ret (jtr (jrt (hv := ?_)))
        have hb := parse_wrong hall (by rw [← hX]; simpa using h44)
        exact CEnt.tup2 (CEnt.nilS' (by rw [hb.1]; rfl)) (CEnt.int (by rw [hb.2]; rfl))
      refine code_skip (jtn ?_)
      refine jcr ?_
      refine jq jrm ?_
      refine jq jrm ?_
      refine jq jrm ?_
      refine seq_nil ?_
      refine code_ret (jrt (hv := ?_))
      have hb := parse_good hall (by rw [← hX]; simpa using h44)
      exact CEnt.tup2 (show CEnt (isC X) _ from CEnt.of_eq (by rw [hb.1, hX])) (CEnt.int (by rw [hb.2]; rfl))
    refine code_skip (jtn ?_)
    refine jcs ?_
    refine code_block ?_
    refine jcr ?_
    refine jq jri ?_
    refine jq jrdr ?_
    refine jq jrm ?_
    refine seq_nil ?_
    refine jcr ?_
    refine jq jrm ?_
    refine jqe (jecP (rfig_ac ((splitC 46 s).getD k [])) ?_)
    refine jq jrm ?_
    refine jq jrx ?_
    refine jq jrx ?_
    refine jq jrm ?_
    refine jq jrm ?_
    refine seq_nil ?_
    refine jcs ?_
    refine jcr ?_
    refine jq jrm ?_
    refine jq jrn ?_
    refine jq jrm ?_
    refine jqsp 24 (fun g39 => ?_) fun g39 => ?_
    · refine jqs ?_
      refine jqs ?_
      refine jqs ?_
      refine jq jrpT ?_
      refine seq_nil ?_
      refine jcT ?_
      refine jcr ?_
      refine jq jrm ?_
      refine jq jrm ?_
      refine seq_nil ?_
      refine code_ret (jtr (jbr (jtr (jtr (jbr (jtr (jrt (hv := ?_))))))))
      have hb := parse_bad (s := s) (all_false (k := k) [] (by omega) (by exact okP_bad (.inl (by simpa using g39))))
      exact CEnt.tup2 (CEnt.nilS' (by rw [hb.1]; rfl)) (CEnt.int (by rw [hb.2]; rfl))
    refine jq jrm ?_
    refine jq jrls ?_
    refine jq jrc ?_
    refine jq jrpF ?_
    refine seq_nil ?_
    refine jcc (fun h39 => ?_) fun h39 => ?_
    · refine jcr ?_
      refine jq jrm ?_
      refine jq jrm ?_
      refine seq_nil ?_
      refine code_ret (jtr (jbr (jtr (jtr (jbr (jtr (jrt (hv := ?_))))))))
      have hb := parse_bad (s := s) (all_false (k := k) [] (by omega) (by exact okP_bad (.inr (by omega))))
      exact CEnt.tup2 (CEnt.nilS' (by rw [hb.1]; rfl)) (CEnt.int (by rw [hb.2]; rfl))
    refine code_skip (jtn ?_)
    refine jcg ?_
    refine jq jrm ?_
    refine jq jrm ?_
    refine jqe (jebl 1 1 zr3 fun p2 => ?_)
    refine jqm (m_appendC rowC_in (l2 := [valP ((splitC 46 s).getD k [])]) rfl rfl rfl rfl (by exact Nat.le_of_eq (Nat.mul_one _)) (fun _ _ => CEnt.refl _) (src_os rfl (.inl rfl) (by decide)) rfl (hh_ints (.cons (CEnt.int ((okP_good (by simpa using g39) h39).2)) .nil)) Tryz.underlying22 nu22 sz3 zr3 by3 rfl (by (simp; omega)) (by (simp; omega)) (leaf_flk rfl rfl) rfl rfl (Nat.mul_one _) (fun p3 => ?_))
    refine jq jrm ?_
    refine seq_nil ?_
    refine jbn (jtn ?_)
    refine jcg ?_
    refine jq jra ?_
    refine jq jrm ?_
    refine seq_nil ?_
    refine jtn ?_
    refine jlend ((k + 1, X ++ [valP ((splitC 46 s).getD k [])], p3)) ?_ ?_ (h5 := ?_) (h7 := ?_)
    · exact ⟨by omega, by rw [hX, take_get [] (by omega), List.map_append]; rfl, take_allO [] (by omega) hall (okP_good (by simpa using g39) h39).1⟩
    · show (splitC 46 s).length - (k + 1) < (splitC 46 s).length - k; omega
    · exact .cons (CEnt.int (by omega)) (.cons (CEnt.refl _) .nil)
    · exact .same .nil
end Am
end Go.Proofs.YtjckfbpdieijeaaGreatDoor

/- Chapter 5: a body's runs; Text, Get. -/
namespace Go.Proofs.YtjckfbpdieijeaaGreatDoor
set_option linter.unusedVariables false
namespace Am
variable {gs : List Nat} [OkG gs]
open Go.RowKit
set_option maxRecDepth 100000

/-! ### a body's runs -/
def runsF (f : FuncId) (g : Option Nat) : CV := .fn f 1 (fl [.op 0 g 0])
/-! ### Text -/
end Am
end Go.Proofs.YtjckfbpdieijeaaGreatDoor

/- Chapter 5: Get. -/
namespace Go.Proofs.YtjckfbpdieijeaaGreatDoor
set_option linter.unusedVariables false
namespace Am
variable {gs : List Nat} [OkG gs]
open Go.RowKit
set_option maxRecDepth 100000

section
variable {b : List UInt8} {k : Nat} {X : List Int}
end
end Am
end Go.Proofs.YtjckfbpdieijeaaGreatDoor

/- Chapter 5: the reference's septets, Put, Text. -/
namespace Go.Proofs.YtjckfbpdieijeaaGreatDoor
set_option linter.unusedVariables false
namespace Am
variable {gs : List Nat}
open Go.RowKit
set_option maxRecDepth 100000

theorem shr7 (N i : Nat) (hi : i ≤ 5) {b : Int} (hb : b = 7 * (i : Int)) : (N : Int).fdiv (2 ^ (min b.toNat (IntKind.bits .i64))) = ((N / 128 ^ i : Nat) : Int) := by
  have e : b.toNat = 7 * i := by omega
  rw [e, show min (7 * i) (IntKind.bits .i64) = 7 * i from Nat.min_eq_left (by show 7 * i ≤ 64; omega), Int.fdiv_eq_ediv_of_nonneg _ (Int.pow_nonneg (by decide))]
  rw [show (128 : Nat) ^ i = 2 ^ (7 * i) by rw [Nat.pow_mul]]
  push_cast
  rfl
def preS (N k : Nat) : List UInt8 := if k = 0 then sepL N else sepHi (N / 128 ^ k)
theorem div_next (N i : Nat) : N / 128 ^ (i + 1) = N / 128 ^ i / 128 := by rw [Nat.pow_succ, Nat.div_div_eq_div_mul]
theorem sepHi_nil {m : Nat} (h : (sepHi m).length = 0) : m = 0 := by
  by_cases h0 : m = 0
  · exact h0
  · rw [sepHi_pos h0] at h; simp at h
/-- the byte at place i of a number's bytes: of the seven bits q -/
def sepD (q i : Nat) : UInt8 := if i = 0 then UInt8.ofNat (q % 128) else UInt8.ofNat (q % 128 + 128)
theorem sepD_hi {q i : Nat} (h : 0 < i) : (q : Int) % 128 + 128 = ((sepD q i).toNat : Nat) := by
  rw [sepD, if_neg (by omega)]; exact (sep_int2 q).symm
theorem sepD_lo {q i : Nat} (h : i = 0) : (q : Int) % 128 = ((sepD q i).toNat : Nat) := by
  rw [sepD, if_pos h]; exact (sep_int q).symm
theorem pre_hi {N i q : Nat} {o : List UInt8} (hq : N / 128 ^ i = q) (ho : o = preS N (i + 1)) (h0 : 0 < i) (h : 0 < q % 128 ∨ 0 < o.length) : o ++ [UInt8.ofNat (q % 128 + 128)] = preS N i := by
  have e1 : preS N (i + 1) = sepHi (q / 128) := by unfold preS; rw [if_neg (by omega), div_next, hq]
  have e2 : preS N i = sepHi q := by unfold preS; rw [if_neg (by omega), hq]
  have hq0 : q ≠ 0 := fun e => by
    rw [e] at h e1
    rw [ho, e1, show (0 : Nat) / 128 = 0 from rfl, sepHi_zero] at h
    rcases h with h | h
    · exact absurd h (by decide)
    · exact absurd h (by decide)
  rw [e2, ho, e1, sepHi_pos hq0]
theorem pre_lo {N q : Nat} {o : List UInt8} (hq : N / 128 ^ 0 = q) (ho : o = preS N 1) : o ++ [UInt8.ofNat (q % 128)] = preS N 0 := by
  have e0 : q = N := by rw [← hq, Nat.pow_zero, Nat.div_one]
  rw [ho, e0]
  rfl
theorem pre_no {N i q : Nat} {o : List UInt8} (hq : N / 128 ^ i = q) (ho : o = preS N (i + 1)) (h0 : 0 < i) (h1 : ¬ 0 < q % 128) (h2 : ¬ 0 < o.length) : o = preS N i := by
  have e1 : preS N (i + 1) = sepHi (q / 128) := by unfold preS; rw [if_neg (by omega), div_next, hq]
  have e2 : preS N i = sepHi q := by unfold preS; rw [if_neg (by omega), hq]
  have e3 : q / 128 = 0 := sepHi_nil (by rw [← e1, ← ho]; omega)
  have e4 : q = 0 := by omega
  rw [ho, e1, e2, e3, e4]
theorem pre_len {N k : Nat} (hN : N < 34359738368) (hk : k ≤ 6) : (preS N k).length ≤ 5 := by
  unfold preS
  split
  · exact sepL_len hN
  · have h1 : N / 128 ^ k ≤ N := Nat.div_le_self _ _
    exact sepHi_len 5 _ (by omega)
set_option maxHeartbeats 1000000 in
theorem rsep_ac (N : Nat) (hN : N < 34359738368) : AC gs Tryz.prog 134 [] [.c (.int .i64 (N : Nat))] (OwnQ (sepL N).length 1 (sepL N).length (byF (sepL N))) := by
  refine ac_of 38 Tryz.func134 rfl rfl rfl (fun al w0 F0 St0 => ?_)
  refine jcr ?_
  refine jq jrm ?_
  refine seq_nil ?_
  refine jcr ?_
  refine jqe (jebl 0 1 zr5 fun p1 => ?_)
  refine jq jrm ?_
  refine seq_nil ?_
  refine jcs ?_
  refine jcr ?_
  refine jq jrm ?_
  refine seq_nil ?_
  refine code_block ?_
  refine l_loop (α := Nat × List UInt8 × Option Nat) [3, 4, 5, 7, 8, 9, 10, 11, 12, 13, 14, 15, 16, 17, 18, 19, 20, 21, 22, 23, 24, 25, 26, 27, 28, 29, 30, 31, 32, 33, 34, 35, 36] (fun (k, o, g) => [(4, .c (.int .i64 ((k : Int) - 1))), (3, .os 0 g 0 o.length 1)]) (fun (k, o, g) => [(g, .blk o.length (byF o))]) (fun (k, o, g) => k ≤ 6 ∧ o = preS N k) (fun (k, o, g) => k) ((6, [], p1)) ?_ (fun _ => rfl) ?_ ?_ ?_
  · exact ⟨Nat.le_refl _, by unfold preS; rw [if_neg (by decide), show N / 128 ^ 6 = 0 by omega, sepHi_zero]⟩
  · exact .cons (CEnt.refl _) (.cons (CEnt.refl _) .nil)
  · exact .blk rfl (fun j hj => absurd hj (Nat.not_lt_zero j)) .nil
  · rintro ⟨k, o, g⟩ ⟨(hk : k ≤ 6), (ho : o = _)⟩
    have hol : o.length ≤ 5 := by rw [ho]; exact pre_len hN hk
    refine jcs ?_
    refine jcr ?_
    refine jq jrm ?_
    refine jq jrc ?_
    refine seq_nil ?_
    refine jcc (fun h65 => ?_) fun h65 => ?_
    rotate_left
    · refine code_exit (jte (jte (jbx (jtn ?_))))
      obtain rfl : k = 0 := by omega
      obtain rfl : o = sepL N := ho
      refine jcr ?_
      refine jq jrm ?_
      refine jq jrm ?_
      refine seq_nil ?_
      refine code_ret ?_
      exact end_O 0 (.inl rfl) (res_1 rfl (arv_tmp rfl)) rfl rfl (Nat.le_refl _) (fun _ => rfl) (fun j hj => CEnt.refl _)
    refine code_skip (jtn ?_)
    refine jcs ?_
    refine code_block ?_
    obtain ⟨i, rfl⟩ : ∃ i, k = i + 1 := ⟨k - 1, by omega⟩
    obtain ⟨q, hq⟩ : ∃ q, N / 128 ^ i = q := ⟨_, rfl⟩
    refine jcr ?_
    refine jq jrm ?_
    refine jq jrm ?_
    refine jq jra ?_
    refine jq (jrv .i64 .u64) ?_
    refine jq (rd_shr rfl rfl rfl (by (omega)) ((q : Int)) (by rw [← hq]; exact shr7 N i (by omega) (by omega))) ?_
    refine jq jrr ?_
    refine jq jrm ?_
    refine seq_nil ?_
    refine jcr ?_
    refine jq jrm ?_
    refine jq jrc ?_
    refine jq jrm ?_
    refine jqsp 19 (fun g67 => ?_) fun g67 => ?_
    · refine jqs ?_
      refine jqs ?_
      refine jqs ?_
      refine jq jrpT ?_
      refine jq jrm ?_
      refine jqs ?_
      refine jqs ?_
      refine jq jrpT ?_
      refine seq_nil ?_
      refine jcT ?_
      refine jcs ?_
      refine jcr ?_
      refine jq jrm ?_
      refine jq jrc ?_
      refine seq_nil ?_
      refine jcc (fun h68 => ?_) fun h68 => ?_
      rotate_left
      · refine code_skip (jtn ?_)
        refine jcg ?_
        refine jq jrm ?_
        refine jq jrm ?_
        refine jq (jrv .i64 .u8) ?_
        refine jqe (jebl 1 1 zr5 fun p2 => ?_)
        refine jqm (m_appendB (l2 := [sepD q i]) rfl rfl rfl (Nat.le_refl _) (fun _ _ => CEnt.refl _) (src_os rfl (.inl rfl) (by decide)) rfl (hh_bytes (.cons (CEnt.int (by exact sepD_lo (by omega))) .nil)) Tryz.underlying26 nu26 sz5 zr5 by5 rfl (by (simp; omega)) (leaf_fl rfl rfl) rfl rfl (fun p3 => ?_))
        refine jq jrm ?_
        refine seq_nil ?_
        refine jbn (jtn ?_)
        refine jcg ?_
        refine jq jrm ?_
        refine jq jra ?_
        refine jq jrm ?_
        refine seq_nil ?_
        refine jtn ?_
        refine jlend ((i, o ++ [sepD q i], p3)) ?_ ?_ (h5 := ?_) (h7 := ?_)
        · exact ⟨by omega, by obtain rfl : i = 0 := (by omega); rw [sepD, if_pos rfl]; exact pre_lo hq ho⟩
        · show i < i + 1; omega
        · exact .cons (CEnt.int (by omega)) (.cons (CEnt.refl _) .nil)
        · exact .same .nil
      refine jcg ?_
      refine jq jrm ?_
      refine jq jra ?_
      refine jq jrm ?_
      refine seq_nil ?_
      refine jtn ?_
      refine jcg ?_
      refine jq jrm ?_
      refine jq jrm ?_
      refine jq (jrv .i64 .u8) ?_
      refine jqe (jebl 1 1 zr5 fun p2 => ?_)
      refine jqm (m_appendB (l2 := [sepD q i]) rfl rfl rfl (Nat.le_refl _) (fun _ _ => CEnt.refl _) (src_os rfl (.inl rfl) (by decide)) rfl (hh_bytes (.cons (CEnt.int (by exact sepD_hi (by omega))) .nil)) Tryz.underlying26 nu26 sz5 zr5 by5 rfl (by (simp; omega)) (leaf_fl rfl rfl) rfl rfl (fun p3 => ?_))
      refine jq jrm ?_
      refine seq_nil ?_
      refine jbn (jtn ?_)
      refine jcg ?_
      refine jq jrm ?_
      refine jq jra ?_
      refine jq jrm ?_
      refine seq_nil ?_
      refine jtn ?_
      refine jlend ((i, o ++ [sepD q i], p3)) ?_ ?_ (h5 := ?_) (h7 := ?_)
      · exact ⟨by omega, by (rw [sepD, if_neg (by omega)]; exact pre_hi hq ho (by omega) (by omega))⟩
      · show i < i + 1; omega
      · exact .cons (CEnt.int (by omega)) (.cons (CEnt.refl _) .nil)
      · exact .same .nil
    refine jq jrm ?_
    refine jq jrl ?_
    refine jq jrc ?_
    refine jq jrpF ?_
    refine jq jrm ?_
    refine jqsp 24 (fun g67_2 => ?_) fun g67_2 => ?_
    · refine jqs ?_
      refine jqs ?_
      refine jq jrpT ?_
      refine seq_nil ?_
      refine jcT ?_
      refine jcs ?_
      refine jcr ?_
      refine jq jrm ?_
      refine jq jrc ?_
      refine seq_nil ?_
      refine jcc (fun h68 => ?_) fun h68 => ?_
      rotate_left
      · refine code_skip (jtn ?_)
        refine jcg ?_
        refine jq jrm ?_
        refine jq jrm ?_
        refine jq (jrv .i64 .u8) ?_
        refine jqe (jebl 1 1 zr5 fun p2 => ?_)
        refine jqm (m_appendB (l2 := [sepD q i]) rfl rfl rfl (Nat.le_refl _) (fun _ _ => CEnt.refl _) (src_os rfl (.inl rfl) (by decide)) rfl (hh_bytes (.cons (CEnt.int (by exact sepD_lo (by omega))) .nil)) Tryz.underlying26 nu26 sz5 zr5 by5 rfl (by (simp; omega)) (leaf_fl rfl rfl) rfl rfl (fun p3 => ?_))
        refine jq jrm ?_
        refine seq_nil ?_
        refine jbn (jtn ?_)
        refine jcg ?_
        refine jq jrm ?_
        refine jq jra ?_
        refine jq jrm ?_
        refine seq_nil ?_
        refine jtn ?_
        refine jlend ((i, o ++ [sepD q i], p3)) ?_ ?_ (h5 := ?_) (h7 := ?_)
        · exact ⟨by omega, by obtain rfl : i = 0 := (by omega); rw [sepD, if_pos rfl]; exact pre_lo hq ho⟩
        · show i < i + 1; omega
        · exact .cons (CEnt.int (by omega)) (.cons (CEnt.refl _) .nil)
        · exact .same .nil
      refine jcg ?_
      refine jq jrm ?_
      refine jq jra ?_
      refine jq jrm ?_
      refine seq_nil ?_
      refine jtn ?_
      refine jcg ?_
      refine jq jrm ?_
      refine jq jrm ?_
      refine jq (jrv .i64 .u8) ?_
      refine jqe (jebl 1 1 zr5 fun p2 => ?_)
      refine jqm (m_appendB (l2 := [sepD q i]) rfl rfl rfl (Nat.le_refl _) (fun _ _ => CEnt.refl _) (src_os rfl (.inl rfl) (by decide)) rfl (hh_bytes (.cons (CEnt.int (by exact sepD_hi (by omega))) .nil)) Tryz.underlying26 nu26 sz5 zr5 by5 rfl (by (simp; omega)) (leaf_fl rfl rfl) rfl rfl (fun p3 => ?_))
      refine jq jrm ?_
      refine seq_nil ?_
      refine jbn (jtn ?_)
      refine jcg ?_
      refine jq jrm ?_
      refine jq jra ?_
      refine jq jrm ?_
      refine seq_nil ?_
      refine jtn ?_
      refine jlend ((i, o ++ [sepD q i], p3)) ?_ ?_ (h5 := ?_) (h7 := ?_)
      · exact ⟨by omega, by (rw [sepD, if_neg (by omega)]; exact pre_hi hq ho (by omega) (by omega))⟩
      · show i < i + 1; omega
      · exact .cons (CEnt.int (by omega)) (.cons (CEnt.refl _) .nil)
      · exact .same .nil
    refine jq jrm ?_
    refine jq jrc ?_
    refine jq jrpF ?_
    refine seq_nil ?_
    refine jcc (fun h67 => ?_) fun h67 => ?_
    rotate_left
    · refine code_skip (jbn (jtn ?_))
      refine jcg ?_
      refine jq jrm ?_
      refine jq jra ?_
      refine jq jrm ?_
      refine seq_nil ?_
      refine jtn ?_
      refine jlend ((i, o, g)) ?_ ?_ (h5 := ?_) (h7 := ?_)
      · exact ⟨by omega, pre_no hq ho (by omega) (by omega) (by omega)⟩
      · show i < i + 1; omega
      · exact .cons (CEnt.int (by omega)) (.cons (CEnt.refl _) .nil)
      · exact .same .nil
    refine jcs ?_
    refine jcr ?_
    refine jq jrm ?_
    refine jq jrc ?_
    refine seq_nil ?_
    refine jcc (fun h68 => ?_) fun h68 => ?_
    rotate_left
    · refine code_skip (jtn ?_)
      refine jcg ?_
      refine jq jrm ?_
      refine jq jrm ?_
      refine jq (jrv .i64 .u8) ?_
      refine jqe (jebl 1 1 zr5 fun p2 => ?_)
      refine jqm (m_appendB (l2 := [sepD q i]) rfl rfl rfl (Nat.le_refl _) (fun _ _ => CEnt.refl _) (src_os rfl (.inl rfl) (by decide)) rfl (hh_bytes (.cons (CEnt.int (by exact sepD_lo (by omega))) .nil)) Tryz.underlying26 nu26 sz5 zr5 by5 rfl (by (simp; omega)) (leaf_fl rfl rfl) rfl rfl (fun p3 => ?_))
      refine jq jrm ?_
      refine seq_nil ?_
      refine jbn (jtn ?_)
      refine jcg ?_
      refine jq jrm ?_
      refine jq jra ?_
      refine jq jrm ?_
      refine seq_nil ?_
      refine jtn ?_
      refine jlend ((i, o ++ [sepD q i], p3)) ?_ ?_ (h5 := ?_) (h7 := ?_)
      · exact ⟨by omega, by obtain rfl : i = 0 := (by omega); rw [sepD, if_pos rfl]; exact pre_lo hq ho⟩
      · show i < i + 1; omega
      · exact .cons (CEnt.int (by omega)) (.cons (CEnt.refl _) .nil)
      · exact .same .nil
    refine jcg ?_
    refine jq jrm ?_
    refine jq jra ?_
    refine jq jrm ?_
    refine seq_nil ?_
    refine jtn ?_
    refine jcg ?_
    refine jq jrm ?_
    refine jq jrm ?_
    refine jq (jrv .i64 .u8) ?_
    refine jqe (jebl 1 1 zr5 fun p2 => ?_)
    refine jqm (m_appendB (l2 := [sepD q i]) rfl rfl rfl (Nat.le_refl _) (fun _ _ => CEnt.refl _) (src_os rfl (.inl rfl) (by decide)) rfl (hh_bytes (.cons (CEnt.int (by exact sepD_hi (by omega))) .nil)) Tryz.underlying26 nu26 sz5 zr5 by5 rfl (by omega) (leaf_fl rfl rfl) rfl rfl (fun p3 => ?_))
    refine jq jrm ?_
    refine seq_nil ?_
    refine jbn (jtn ?_)
    refine jcg ?_
    refine jq jrm ?_
    refine jq jra ?_
    refine jq jrm ?_
    refine seq_nil ?_
    refine jtn ?_
    refine jlend ((i, o ++ [sepD q i], p3)) ?_ ?_ (h5 := ?_) (h7 := ?_)
    · exact ⟨by omega, by (exfalso; omega)⟩
    · show i < i + 1; omega
    · exact .cons (CEnt.int (by omega)) (.cons (CEnt.refl _) .nil)
    · exact .same .nil
set_option maxHeartbeats 1000000 in
theorem rputO_ac (l : List Int) (hr : rightA l = true) : ACp gs Tryz.prog 93 [isC l] (bsC (putA l)) := by
  obtain ⟨hl2, hl16, hall, ha, hb⟩ := right_at hr
  have h0 := hall _ (getD_mem' (l := l) (k := 0) 0 (by omega))
  have h1 := hall _ (getD_mem' (l := l) (k := 1) 0 (by omega))
  refine ac_of 28 Tryz.func93 rfl rfl rfl (fun al w0 F0 St0 => ?_)
  refine jcr ?_
  refine jq jrm ?_
  refine seq_nil ?_
  refine jcs ?_
  refine jcd (.rd 0 (.rd 1 (.rd 2 (.rd 3 (.rd 4 (.rd 5 (.rd 6 (.rd 7 (.one 8 (.rd 9 .done)))))))))) ?_
  refine jyq jrm ?_
  refine jyq (jri (i := 0)) ?_
  refine jyq jrdr ?_
  refine jyq jra ?_
  refine jyq jrm ?_
  refine jyq (jri (i := 1)) ?_
  refine jyq jrdr ?_
  refine jyq jra ?_
  refine jye (jecO (rsep_ac (40 * l.getD 0 0 + l.getD 1 0).toNat (by omega)) (fun p1 => ?_) (ho := rfl) (he := (.cons (se rfl (CEnt.int (by omega))) .nil)))
  refine jyq jrm ?_
  refine jyd ?_
  refine jtn ?_
  refine jcs ?_
  refine jcr ?_
  refine jq jrm ?_
  refine jq (jrsr (hl := (bd_some rfl (show (2 : Int) = ((2 : Nat) : Int) from rfl))) (hu := (bd_none _ _))) ?_
  refine jq jrl ?_
  refine jq jrm ?_
  refine seq_nil ?_
  refine code_block ?_
  refine l_loop (α := Nat × List UInt8 × Option Nat) [3, 5, 18, 19, 20, 21, 22, 23, 24, 25, 26] (fun (i, o, g) => [(3, .os 0 g 0 o.length 1), (18, .c (.int .i64 (i : Nat)))]) (fun (i, o, g) => [(g, .blk o.length (byF o))]) (fun (i, o, g) => i ≤ l.length - 2 ∧ o = sepL (40 * l.getD 0 0 + l.getD 1 0).toNat ++ (((l.drop 2).take i).map fun n => sepL n.toNat).flatten) (fun (i, o, g) => l.length - i) ((0, sepL (40 * l.getD 0 0 + l.getD 1 0).toNat, p1)) ?_ (fun _ => rfl) ?_ ?_ ?_
  · exact ⟨Nat.zero_le _, by simp⟩
  · exact .cons (CEnt.refl _) (.cons (CEnt.refl _) .nil)
  · exact .same .nil
  · rintro ⟨i, o, g⟩ ⟨(hi : i ≤ l.length - 2), ho⟩
    have hol : o.length ≤ 5 + 5 * i := by
      rw [ho, List.length_append]
      have e1 := sepL_len (n := (40 * l.getD 0 0 + l.getD 1 0).toNat) (by omega)
      have e2 := sep_flat_len (l := (l.drop 2).take i) (fun n hn => hall n (List.mem_of_mem_drop (List.mem_of_mem_take hn)))
      rw [List.length_take, List.length_drop] at e2
      omega
    refine jcr ?_
    refine jq jrc ?_
    refine seq_nil ?_
    refine jcs ?_
    refine jcc (fun h80 => ?_) fun h80 => ?_
    rotate_left
    · refine code_exit (jte (jte (jbx (jtn ?_))))
      refine jcr ?_
      refine jq jrm ?_
      refine jq jrm ?_
      refine seq_nil ?_
      refine code_ent (freeze 0 rfl) ?_
      refine code_ent (thawB 2 (o) rfl rfl (by rfl) rfl) ?_
      refine code_ret (jrt (hv := ?_))
      refine CEnt.bs ?_
      rw [ho, List.take_of_length_le (by rw [List.length_drop]; omega)]
      rfl
    refine code_skip (jtn ?_)
    refine jcs ?_
    refine code_block ?_
    refine jcr ?_
    refine jq jri ?_
    refine jq jrdr ?_
    refine jq jrm ?_
    refine seq_nil ?_
    have h3 := hall _ (getD_mem' (l := l) (k := 2 + i) 0 (by omega))
    have h4 := sepL_len (n := (l.getD (2 + i) 0).toNat) (by omega)
    refine jcg ?_
    refine jq jrm ?_
    refine jq jrm ?_
    refine jqe (jecO (rsep_ac (l.getD (2 + i) 0).toNat (by omega)) (fun p2 => ?_) (ho := rfl) (he := (.cons (se rfl (CEnt.int (by omega))) .nil)))
    first | refine jqm (m_appendB rfl rfl rfl (Nat.le_refl _) (fun _ _ => CEnt.refl _) (src_rs rfl) rfl (fun j hj => by simp only [Nat.div_one]; exact CEnt.refl _) Tryz.underlying26 nu26 sz5 zr5 by5 rfl (by first | omega | (simp; done) | (simp; omega) | (simp at *; omega)) (fun j hj => rfl) rfl rfl (fun p3 => ?_)) | refine jqm (m_appendB rfl rfl rfl (Nat.le_refl _) (fun _ _ => CEnt.refl _) (src_str rfl) rfl (fun j hj => CEnt.refl _) Tryz.underlying26 nu26 sz5 zr5 by5 rfl (by first | omega | (simp; done) | (simp; omega) | (simp at *; omega)) (fun j hj => rfl) rfl rfl (fun p3 => ?_)) | refine jqm (m_appendB rfl rfl rfl (Nat.le_refl _) (fun _ _ => CEnt.refl _) (src_os rfl (.inl rfl) (by omega)) rfl (fun j hj => by rw [Nat.zero_add]; exact CEnt.refl _) Tryz.underlying26 nu26 sz5 zr5 by5 rfl (by omega) (fun j hj => rfl) rfl rfl (fun p3 => ?_))
    refine jq jrm ?_
    refine seq_nil ?_
    refine jbn (jtn ?_)
    refine jcg ?_
    refine jq jra ?_
    refine jq jrm ?_
    refine seq_nil ?_
    refine jtn ?_
    refine jlend ((i + 1, o ++ sepL (l.getD (2 + i) 0).toNat, p3)) ?_ ?_ (h5 := ?_) (h7 := ?_)
    · exact ⟨by omega, by rw [ho, sep_take (by rw [List.length_drop]; omega), List.append_assoc]⟩
    · show l.length - (i + 1) < l.length - i; omega
    · exact .cons (CEnt.refl _) (.cons (CEnt.int (by omega)) .nil)
    · exact .same .nil

/-! ### Text -/
end Am
end Go.Proofs.YtjckfbpdieijeaaGreatDoor

/- Chapter 8: the reference's writer: a value's body, of all kinds; Do. -/
namespace Go.Proofs.YtjckfbpdieijeaaGreatDoor
set_option linter.unusedVariables false
namespace Am
variable {gs : List Nat} [OkG gs]
open Go.RowKit Cal
set_option maxRecDepth 100000

set_option maxHeartbeats 1000000 in
theorem rbody08_ac {gs : List Nat} (v : VV) (hv : OkV v) : AC gs Tryz.prog 52 [] [valC v] (BodyQ v) := by
  have hvt := hv.t
  have hvn := hv.n
  refine ac_of 77 Tryz.func52 rfl rfl rfl (fun al w0 F0 St0 => ?_)
  refine jcr ?_
  refine jqe (jebx 5 fun p1 => ?_)
  refine jq jrm ?_
  refine jq jrm ?_
  refine jq jrm ?_
  refine seq_nil ?_
  refine jcs ?_
  refine jcr ?_
  refine jq (jrfa 0 1 false) ?_
  refine jqo jrdo ?_
  refine seq_nil ?_
  refine code_block ?_
  refine jcr ?_
  refine jq jrc ?_
  refine jq jrm ?_
  refine seq_nil ?_
  refine jcc (fun h31 => ?_) fun h31 => ?_
  · refine jcr ?_
    refine jq (jrfa 1 1 false) ?_
    refine jqo jrdo ?_
    refine jqe (jecP (rput04_ac v.n hv.n.1 hv.n.2) ?_)
    refine jq jrm ?_
    refine jq jrm ?_
    refine jq jrm ?_
    refine seq_nil ?_
    refine code_ret (jbr (jtr ?_))
    exact end_ownV (.inl rfl) [] (by decide) rfl (res_3 rfl javt javt javt) (CEnt.refl _) (bodyQ (by unfold bodyV; rw [if_pos (by omega)]) (fun _ => rfl))
  refine jcr ?_
  refine jq jrc ?_
  refine jq jrm ?_
  refine seq_nil ?_
  refine jcc (fun h33 => ?_) fun h33 => ?_
  · refine jcr ?_
    refine jq (jrfa 1 1 false) ?_
    refine jqo jrdo ?_
    refine jqe (jecP (rput04_ac v.n hv.n.1 hv.n.2) ?_)
    refine jq jrm ?_
    refine jq jrm ?_
    refine jq jrm ?_
    refine seq_nil ?_
    refine code_ret (jbr (jtr ?_))
    exact end_ownV (.inl rfl) [] (by decide) rfl (res_3 rfl javt javt javt) (CEnt.refl _) (bodyQ (by unfold bodyV; rw [if_neg (by omega), if_pos (by omega)]) (fun _ => rfl))
  refine jcr ?_
  refine jq jrc ?_
  refine jq jrm ?_
  refine seq_nil ?_
  refine jcc (fun h35 => ?_) fun h35 => ?_
  · refine jcs ?_
    refine jcr ?_
    refine jq (jrfa 2 1 false) ?_
    refine jqo jrdo ?_
    refine seq_nil ?_
    refine jcc (fun h36 => ?_) fun h36 => ?_
    · refine jcr ?_
      refine jqe (jebl 1 1 zr5 fun p2 => ?_)
      refine jq jrm ?_
      refine jq jrm ?_
      refine jq jrm ?_
      refine seq_nil ?_
      refine code_ent (freeze 1 rfl) ?_
      refine code_ent (thawBL 3 [255] rfl rfl rfl rfl (.cons (CEnt.refl _) .nil)) ?_
      refine code_ret (jtr (jbr (jtr ?_)))
      exact end_ownV (.inl rfl) [] (by decide) rfl (res_3 rfl javt javt javt) (CEnt.refl _) (bodyQ (b' := [255]) (by unfold bodyV; rw [if_neg (by omega), if_neg (by omega), if_pos (by omega)]) (fun _ => by rw [if_pos (by simpa using h36)]))
    refine code_skip (jtn ?_)
    refine jcr ?_
    refine jqe (jebl 1 1 zr5 fun p2 => ?_)
    refine jq jrm ?_
    refine jq jrm ?_
    refine jq jrm ?_
    refine seq_nil ?_
    refine code_ent (freeze 1 rfl) ?_
    refine code_ent (thawBL 3 [0] rfl rfl rfl rfl (.cons (CEnt.refl _) .nil)) ?_
    refine code_ret (jbr (jtr ?_))
    exact end_ownV (.inl rfl) [] (by decide) rfl (res_3 rfl javt javt javt) (CEnt.refl _) (bodyQ (b' := [0]) (by unfold bodyV; rw [if_neg (by omega), if_neg (by omega), if_pos (by omega)]) (fun _ => by rw [if_neg (by simpa using h36)]))
  refine jcr ?_
  refine jq jrc ?_
  refine jq jrm ?_
  refine seq_nil ?_
  refine jcc (fun h40 => ?_) fun h40 => ?_
  · refine jcs ?_
    refine jcd (.rd 0 (.rd 1 (.rd 2 (.rd 3 (.rd 4 .done))))) ?_
    refine jyq (jrfa 3 1 false) ?_
    refine jyo jrdo ?_
    refine jyq jrm ?_
    refine jyq jrm ?_
    refine jyq jrm ?_
    refine jyd ?_
    refine jtn ?_
    refine code_ret (jbr (jtr ?_))
    exact end_ownV (.inl rfl) [] (by decide) rfl (res_3 rfl javt javt javt) (CEnt.refl _) (bodyQ (by unfold bodyV; rw [if_neg (by omega), if_neg (by omega), if_neg (by omega), if_pos (by omega)]) (fun _ => rfl))
  refine jcr ?_
  refine jq jrc ?_
  refine jq jrm ?_
  refine seq_nil ?_
  refine jcc (fun h42 => ?_) fun h42 => ?_
  · refine jcs ?_
    refine jcd (.rd 0 (.rd 1 (.rd 3 (.rd 4 (.rd 5 (.rd 6 (.two 2 (.one 7 (.rd 8 (.rd 9 (.rd 10 .done)))) 7 (.rd 8 (.one 2 (.rd 9 (.rd 10 .done))))))))))) ?_
    refine jyq (jrfa 4 1 false) ?_
    refine jyo jrdo ?_
    refine jyq (jrfa 4 1 false) ?_
    refine jyo jrdo ?_
    refine jyq (jrfa 1 1 false) ?_
    refine jyo jrdo ?_
    refine jytwo ?_ ?_
    · refine jye (jecv ?_)
      refine jye (jecP (rasked_ac v.t v.n (by omega)) ?_)
      refine jyq jrm ?_
      refine jyq jrm ?_
      refine jyq jrm ?_
      refine jyd ?_
      refine jtn ?_
      refine code_ret (jbr (jtr ?_))
      exact end_ownV (.inl rfl) [] (by decide) rfl (res_3 rfl javt javt javt) (CEnt.refl _) (bodyQ (b' := v.t) (by unfold bodyV; rw [if_neg (by omega), if_neg (by omega), if_neg (by omega), if_neg (by omega), if_pos (by omega)]) (fun h => by rw [if_pos h]))
    · refine jye (jecP (rasked_ac v.t v.n (by omega)) ?_)
      refine jyq jrm ?_
      refine jye (jecv ?_)
      refine jyq jrm ?_
      refine jyq jrm ?_
      refine jyd ?_
      refine jtn ?_
      refine code_ret (jbr (jtr ?_))
      exact end_ownV (.inl rfl) [] (by decide) rfl (res_3 rfl javt javt javt) (CEnt.refl _) (bodyQ (b' := v.t) (by unfold bodyV; rw [if_neg (by omega), if_neg (by omega), if_neg (by omega), if_neg (by omega), if_pos (by omega)]) (fun h => by rw [if_pos h]))
  refine jcr ?_
  refine jq jrc ?_
  refine jq jrm ?_
  refine seq_nil ?_
  refine jcc (fun h44 => ?_) fun h44 => ?_
  · refine jcr ?_
    refine jq (jrfa 4 1 false) ?_
    refine jqo jrdo ?_
    refine jqe (jecP (rparse_ac v.t (by omega)) ?_)
    refine jq jrm ?_
    refine jq jrx ?_
    refine jq jrx ?_
    refine jq jrm ?_
    refine jq jrm ?_
    refine seq_nil ?_
    refine jcs ?_
    refine jcr ?_
    refine jq jrm ?_
    refine jq jrc ?_
    refine seq_nil ?_
    refine jcc (fun h46 => ?_) fun h46 => ?_
    · refine jcr ?_
      refine jq jrm ?_
      refine jq jrm ?_
      refine jq jrm ?_
      refine jq jrm ?_
      refine seq_nil ?_
      refine code_ret (jtr (jbr (jtr ?_)))
      exact end_ownV (.inl rfl) [] (by decide) rfl (res_3 rfl javt javt javt) (CEnt.tup3 (CEnt.refl _) CEnt.nilB (CEnt.refl _)) (bodyQ (by unfold bodyV; rw [if_neg (by omega), if_neg (by omega), if_neg (by omega), if_neg (by omega), if_neg (by omega), if_pos (by omega)]) (fun h => by omega))
    refine code_skip (jtn ?_)
    have hp0 : (parseM v.t).2 = 0 := by omega
    refine jcr ?_
    refine jq jrm ?_
    refine jqe (jecP (rputO_ac (parseM v.t).1 (parse_ok hp0)) ?_)
    refine jq jrm ?_
    refine jq jrm ?_
    refine jq jrm ?_
    refine seq_nil ?_
    refine code_ret (jbr (jtr ?_))
    exact end_ownV (.inl rfl) [] (by decide) rfl (res_3 rfl javt javt javt) (CEnt.refl _) (bodyQ (e := 0) (by unfold bodyV; rw [if_neg (by omega), if_neg (by omega), if_neg (by omega), if_neg (by omega), if_neg (by omega), if_pos (by omega), hp0]) (fun h => by unfold putM; rw [if_pos hp0]))
  refine jcr ?_
  refine jq jrc ?_
  refine jq jrm ?_
  refine seq_nil ?_
  refine jcc (fun h50 => ?_) fun h50 => ?_
  rotate_left
  · refine code_skip (jbn (jtn ?_))
    refine jcs ?_
    refine jcr ?_
    refine jq (jrfa 1 1 false) ?_
    refine jqo jrdo ?_
    refine jq jrc ?_
    refine jq jrm ?_
    refine jqsp 69 (fun g56 => ?_) fun g56 => ?_
    · refine jqs ?_
      refine jqs ?_
      refine jqs ?_
      refine jq jrpT ?_
      refine seq_nil ?_
      refine jcT ?_
      refine jcr ?_
      refine jq jrm ?_
      refine jq jrm ?_
      refine jq jrm ?_
      refine seq_nil ?_
      refine code_ret (jtr ?_)
      exact end_ownV (.inl rfl) [] (by decide) rfl (res_3 rfl javt javt javt) (CEnt.tup3 (CEnt.refl _) CEnt.nilB (CEnt.refl _)) (bodyQ (e := 1) (by unfold bodyV; rw [if_neg (by omega), if_neg (by omega), if_neg (by omega), if_neg (by omega), if_neg (by omega), if_neg (by omega), if_neg (by omega)]; unfold bitsE; rw [if_pos (by omega)]) (fun h => by cases h))
    refine jq (jrfa 1 1 false) ?_
    refine jqo jrdo ?_
    refine jq jrc ?_
    refine jq jrpF ?_
    refine seq_nil ?_
    refine jcc (fun h56 => ?_) fun h56 => ?_
    · refine jcr ?_
      refine jq jrm ?_
      refine jq jrm ?_
      refine jq jrm ?_
      refine seq_nil ?_
      refine code_ret (jtr ?_)
      exact end_ownV (.inl rfl) [] (by decide) rfl (res_3 rfl javt javt javt) (CEnt.tup3 (CEnt.refl _) CEnt.nilB (CEnt.refl _)) (bodyQ (e := 1) (by unfold bodyV; rw [if_neg (by omega), if_neg (by omega), if_neg (by omega), if_neg (by omega), if_neg (by omega), if_neg (by omega), if_neg (by omega)]; unfold bitsE; rw [if_pos (by omega)]) (fun h => by cases h))
    refine code_skip (jtn ?_)
    refine jcr ?_
    refine jq (jrfa 1 1 false) ?_
    refine jqo jrdo ?_
    refine jqe (jecP (rflags_ac v.n.toNat (by omega)) ?_ (ho := rfl) (he := (.cons (se rfl (CEnt.int (by omega))) .nil)))
    refine jq jrm ?_
    refine jq jrm ?_
    refine jq jrm ?_
    refine seq_nil ?_
    refine code_ret ?_
    exact end_ownV (.inl rfl) [] (by decide) rfl (res_3 rfl javt javt javt) (CEnt.refl _) (bodyQ (e := 0) (by unfold bodyV; rw [if_neg (by omega), if_neg (by omega), if_neg (by omega), if_neg (by omega), if_neg (by omega), if_neg (by omega), if_neg (by omega)]; unfold bitsE; rw [if_neg (by omega)]) (fun h => by unfold bitsL; rw [if_neg (by omega)]))
  refine jcs ?_
  refine jcr ?_
  refine jq (jrfa 1 1 false) ?_
  refine jqo jrdo ?_
  refine jq jrc ?_
  refine jq jrm ?_
  refine jqsp 57 (fun g51 => ?_) fun g51 => ?_
  · refine jqs ?_
    refine jqs ?_
    refine jqs ?_
    refine jq jrpT ?_
    refine seq_nil ?_
    refine jcT ?_
    refine jcr ?_
    refine jq jrm ?_
    refine jq jrm ?_
    refine jq jrm ?_
    refine seq_nil ?_
    refine code_ret (jtr (jbr (jtr ?_)))
    exact end_ownV (.inl rfl) [] (by decide) rfl (res_3 rfl javt javt javt) (CEnt.tup3 (CEnt.refl _) CEnt.nilB (CEnt.refl _)) (bodyQ (e := 1) (by unfold bodyV; rw [if_neg (by omega), if_neg (by omega), if_neg (by omega), if_neg (by omega), if_neg (by omega), if_neg (by omega), if_pos (by omega)]; unfold ofE; rw [if_neg (by unfold inT; omega), if_neg (by unfold inT; omega)]) (fun h => by cases h))
  refine jq (jrfa 1 1 false) ?_
  refine jqo jrdo ?_
  refine jq jrc ?_
  refine jq jrpF ?_
  refine seq_nil ?_
  refine jcc (fun h51 => ?_) fun h51 => ?_
  · refine jcr ?_
    refine jq jrm ?_
    refine jq jrm ?_
    refine jq jrm ?_
    refine seq_nil ?_
    refine code_ret (jtr (jbr (jtr ?_)))
    exact end_ownV (.inl rfl) [] (by decide) rfl (res_3 rfl javt javt javt) (CEnt.tup3 (CEnt.refl _) CEnt.nilB (CEnt.refl _)) (bodyQ (e := 1) (by unfold bodyV; rw [if_neg (by omega), if_neg (by omega), if_neg (by omega), if_neg (by omega), if_neg (by omega), if_neg (by omega), if_pos (by omega)]; unfold ofE; rw [if_neg (by unfold inT; omega), if_neg (by unfold inT; omega)]) (fun h => by cases h))
  refine code_skip (jtn ?_)
  have hin : inT v.n := ⟨by omega, by omega⟩
  refine jcr ?_
  refine jq (jrfa 1 1 false) ?_
  refine jqo jrdo ?_
  refine jqe (jecP (rof6_ac v.n hin) ?_)
  refine jqe (jecP (rtext6_ac (ofR6 v.n) (ofR_right hin).1) ?_)
  refine jq jrm ?_
  refine jq jrm ?_
  refine jq jrm ?_
  refine seq_nil ?_
  refine code_ret (jbr (jtr ?_))
  exact end_ownV (.inl rfl) [] (by decide) rfl (res_3 rfl javt javt javt) (CEnt.refl _) (bodyQ (e := 0) (by unfold bodyV; rw [if_neg (by omega), if_neg (by omega), if_neg (by omega), if_neg (by omega), if_neg (by omega), if_neg (by omega), if_pos (by omega)]; unfold ofE; rw [if_pos hin, if_pos hin]) (fun h => by unfold ofM; rw [if_pos hin]))
theorem rdoW_ac {gs : List Nat} (n : Nat) (s : R8) (v : VV) (hs : OkRD s) (hv : OkV v) : AC gs Tryz.prog 14 [rwO n s] [.op 0 (some n) 0, valC v] (fun r H' => r = .c (.tuple #[]) ∧ H' = [rwO n (rdoS v s)]) := rdoWB_ac n s v hs hv fun _ _ _ => rbody08_ac v hv
end Am
end Go.Proofs.YtjckfbpdieijeaaGreatDoor

/- Chapter 8: the law of what is written. -/
namespace Go.Proofs.YtjckfbpdieijeaaGreatDoor
set_option linter.unusedVariables false
namespace Am
variable {gs : List Nat} [OkG gs] [OkT gs]
open Go.RowKit Cal
set_option maxRecDepth 100000

def elF (x : List UInt8) : Nat → CV := fl [.c (.int .i64 ((nextM x).tag : Nat)), bsC (nextM x).body]
def elsC (xs : List (List UInt8)) : CV := .rs 2 xs.length fun i j => elF (xs.getD i []) j
theorem isE_next {x : List UInt8} (h : IsE x) (r : List UInt8) : nextM (x ++ r) = ⟨0, (nextM x).tag, (nextM x).body, r⟩ ∧ 0 < x.length ∧ (nextM x).e = 0 := by
  obtain ⟨t, b, hx⟩ := h
  have h0 := hx.nx []
  rw [List.append_nil] at h0
  rw [h0]
  exact ⟨hx.nx r, hx.pos, rfl⟩
theorem isE_at {xs : List (List UInt8)} (h : ∀ x ∈ xs, IsE x) {i : Nat} (hi : i < xs.length) : IsE (xs.getD i []) := h _ (by rw [List.getD_eq_getElem?_getD, List.getElem?_eq_getElem hi]; exact List.getElem_mem _)
theorem drop_flat {xs : List (List UInt8)} {i : Nat} (hi : i < xs.length) : (xs.drop i).flatten = xs.getD i [] ++ (xs.drop (i + 1)).flatten := by
  rw [List.drop_eq_getElem_cons hi, List.flatten_cons]
  simp [List.getD_eq_getElem?_getD, hi]
theorem flat_pos {xs : List (List UInt8)} (h : ∀ x ∈ xs, IsE x) : xs.length ≤ xs.flatten.length := by
  induction xs with
  | nil => simp
  | cons x xs ih =>
    have h1 := ih fun y hy => h y (List.mem_cons_of_mem _ hy)
    have h2 := (isE_next (h x List.mem_cons_self) []).2.1
    rw [List.flatten_cons, List.length_append, List.length_cons]
    omega
theorem take_get8 {xs : List (List UInt8)} {i : Nat} (hi : i < xs.length) : xs.take (i + 1) = xs.take i ++ [xs.getD i []] := by
  rw [List.take_succ_eq_append_getElem hi]
  simp [List.getD_eq_getElem?_getD, hi]
theorem all08_ac {gs : List Nat} [OkG gs] (xs : List (List UInt8)) (h : ∀ x ∈ xs, IsE x) (hl : xs.flatten.length ≤ 1000000) : ACp gs Tryz.prog 26 [bsC xs.flatten] (.tup 2 (fl [elsC xs, .err 0])) := by
  have hxl := flat_pos h
  refine ac_of 26 Tryz.func26 rfl rfl rfl (fun al w0 F0 St0 => ?_)
  refine jcr ?_
  refine jq jrm ?_
  refine jq jrm ?_
  refine seq_nil ?_
  refine jcr ?_
  refine jq jrm ?_
  refine seq_nil ?_
  refine jcs ?_
  refine code_block ?_
  refine code_ent (own_nil 4 2 (rowF 2 elF [] []) rfl) ?_
  refine l_loop (α := Nat × Option Nat) [0, 2, 3, 4, 5, 6, 7, 8, 9, 10, 11, 12, 13, 14, 15, 16, 17, 18, 19, 20, 21, 22, 23, 24] (fun (i, g) => [(0, bsC (xs.drop i).flatten), (4, .os 0 g 0 (xs.take i).length 2)]) (fun (i, g) => [(g, .blk ((xs.take i).length * 2) (rowF 2 elF [] (xs.take i)))]) (fun p => p.1 ≤ xs.length) (fun p => xs.length - p.1) ((0, none)) ?_ (fun _ => rfl) ?_ ?_ ?_
  · exact Nat.zero_le _
  · exact .cons (CEnt.refl _) (.cons (CEnt.osI rfl) .nil)
  · exact HEnt.refl _
  · rintro ⟨i, g⟩ (hi : i ≤ xs.length)
    have hdl : (xs.drop i).flatten.length ≤ 1000000 := by
      have e : xs.flatten = (xs.take i).flatten ++ (xs.drop i).flatten := by rw [← List.flatten_append, List.take_append_drop]
      rw [e, List.length_append] at hl
      omega
    refine jcs ?_
    refine jcr ?_
    refine jq jrm ?_
    refine jq jrl ?_
    refine jq jrc ?_
    refine seq_nil ?_
    refine jcc (fun h120 => ?_) fun h120 => ?_
    rotate_left
    · refine code_exit (jte (jte (jbx (jtn ?_))))
      have hie : i = xs.length := by
        rcases Nat.lt_or_ge i xs.length with h1 | h1
        · exfalso
          have := (isE_next (isE_at h h1) []).2.1
          rw [drop_flat h1, List.length_append] at h120
          omega
        · omega
      subst hie
      dsimp only
      rw [List.take_length]
      refine code_ent (freeze 0 rfl) ?_
      refine code_ent (thaw 4 (fun a b => elF (xs.getD a []) b) rfl rfl (by simp) (fun a b ha hb => by rw [Nat.zero_add, rowF_at hb]; exact CEnt.refl _)) ?_
      refine jcr ?_
      refine jq jrm ?_
      refine jq jrm ?_
      refine jq jrm ?_
      refine seq_nil ?_
      refine code_ret (jrt (hv := CEnt.tup2 (CEnt.refl _) CEnt.nil))
    refine code_skip (jtn ?_)
    refine code_block ?_
    have hix : i < xs.length := by
      rcases Nat.lt_or_ge i xs.length with h1 | h1
      · exact h1
      · exfalso
        rw [List.drop_eq_nil_of_le h1] at h120
        simp at h120
    have hne := isE_next (isE_at h hix) (xs.drop (i + 1)).flatten
    rw [← drop_flat hix] at hne
    refine jcr ?_
    refine jq jrm ?_
    refine jqe (jecP (next_ac (xs.drop i).flatten (by omega)) ?_)
    refine jq jrm ?_
    refine jq jrx ?_
    refine jq jrx ?_
    refine jq jrx ?_
    refine jqe (jeal (n := 2) zr68 rfl fun p1 => ?_)
    refine jqm (jmst 2 ?_)
    refine jq jrm ?_
    refine jq jrm ?_
    refine seq_nil ?_
    refine jcs ?_
    rw [hne.1]
    refine jcr ?_
    refine jq jrm ?_
    refine jq jre ?_
    refine seq_nil ?_
    refine jcc (fun h122 => ?_) fun h122 => ?_
    · exfalso; simp at h122
    refine code_skip (jtn ?_)
    refine jcr ?_
    refine jq jrm ?_
    first | refine jqo (jrdoA 2) ?_ | refine jq (jrdrA 2) ?_
    refine jqe (jebl 2 2 zr68 fun p2 => ?_)
    refine jqm (m_appendC (rowC_row 2 elF []) (l2 := [xs.getD i []]) rfl rfl rfl rfl (Nat.le_refl _) (fun _ _ => CEnt.refl _) (src_os rfl (.inl rfl) (by decide)) rfl (fun j hj => by rcases j with _ | _ | j <;> first | exact CEnt.refl _ | (simp at hj; omega)) Tryz.underlying64 nu64 sz68 zr68 by68 rfl (by simp; omega) (by simp; omega) (leaf_flk rfl rfl) rfl rfl rfl (fun p3 => ?_))
    refine jq jrm ?_
    refine seq_nil ?_
    refine jcg ?_
    refine jq jrm ?_
    refine jq jrm ?_
    refine seq_nil ?_
    refine jbn (jtn ?_)
    refine jlend ((i + 1, p3)) ?_ ?_ (h5 := ?_) (h7 := ?_)
    · show i + 1 ≤ xs.length; omega
    · show xs.length - (i + 1) < xs.length - i; omega
    · exact .cons (CEnt.refl _) (.cons (CEnt.osI (by rw [take_get8 hix])) .nil)
    · dsimp only; rw [take_get8 hix]; exact .blk rfl (fun _ _ => CEnt.refl _) .nil
end Am
end Go.Proofs.YtjckfbpdieijeaaGreatDoor

/- Chapter 8: the law of what is written. -/
namespace Go.Proofs.YtjckfbpdieijeaaGreatDoor
set_option linter.unusedVariables false
namespace Am
variable {gs : List Nat} [OkG gs] [OkT gs]
open Go.RowKit Cal
set_option maxRecDepth 100000

theorem next_known {b : List UInt8} (h : (nextM b).e = 0) : knownM ((nextM b).tag : Nat) = true := by
  unfold nextM at h ⊢
  by_cases h0 : b.length = 0
  · rw [if_pos h0] at h; exact absurd h (by decide)
  · rw [if_neg h0] at h ⊢
    by_cases h1 : knownM ((b.getD 0 0).toNat : Nat) = false
    · rw [if_pos h1] at h; exact absurd h (by decide)
    · rw [if_neg h1] at h ⊢
      dsimp only at h ⊢
      by_cases h2 : (measM (b.drop 1)).e ≠ 0
      · rw [if_pos h2] at h; exact absurd h h2
      · rw [if_neg h2] at h ⊢
        by_cases h3 : 65530 < (measM (b.drop 1)).n
        · rw [if_pos h3] at h; exact absurd h (by decide)
        · rw [if_neg h3] at h ⊢
          by_cases h4 : (measM (b.drop 1)).rest.length < (measM (b.drop 1)).n
          · rw [if_pos h4] at h; exact absurd h (by decide)
          · rw [if_neg h4]
            simpa using h1
theorem isE_put_ok {x : List UInt8} (h : IsE x) : putE ((nextM x).tag : Nat) (nextM x).body = 0 ∧ ((depthM (putL ((nextM x).tag : Nat) (nextM x).body)).2 = 0 ∨ (depthM (putL ((nextM x).tag : Nat) (nextM x).body)).2 = 6) ∧ (putL ((nextM x).tag : Nat) (nextM x).body).length ≤ 1000000 := by
  have h0 := isE_next h []
  have hk := next_known h0.2.2
  have hb := (nextM_bd x).2.2.1
  have hl := putL_len ((nextM x).tag : Nat) (nextM x).body
  have hn := next_put (r := []) hk hb
  rw [List.append_nil] at hn
  obtain ⟨t, b, hx⟩ := h
  have hx0 := hx.nx []
  rw [List.append_nil] at hx0
  refine ⟨?_, ?_, by omega⟩
  · unfold putE
    rw [if_neg (by rw [hk]; decide), if_neg (by omega)]
  · unfold depthM
    rw [hn, if_neg (by omega), if_neg (by simp), if_neg (by simp)]
    have := hx.wh 16 (Nat.le_refl _)
    rw [hx0]
    simpa using this
set_option maxHeartbeats 4000000 in
theorem derWrites_ac (vs : List VV) (hn : ∀ v ∈ vs, -9223372036854775808 ≤ v.n ∧ v.n ≤ 9223372036854775807) : ACp gs Tryz.prog 4 [vsC vs] (.c (.bool true)) := by
  refine ac_of 99 Tryz.func4 rfl rfl rfl (fun al w0 F0 St0 => ?_)
  refine jcr ?_
  refine jq jrm ?_
  refine seq_nil ?_
  refine jcs ?_
  refine jcr ?_
  refine jqe (jecP alive08_ac ?_)
  refine jq jrn ?_
  refine seq_nil ?_
  refine jcc (fun h66 => ?_) fun h66 => ?_
  · exfalso; simp at h66
  refine code_skip (jtn ?_)
  refine jcs ?_
  refine jcr ?_
  refine jq jrm ?_
  refine jqe (jecP (long08_ac vs) ?_)
  refine seq_nil ?_
  refine jcc (fun h69 => ?_) fun h69 => ?_
  · refine jcr ?_
    refine jq jrm ?_
    refine seq_nil ?_
    refine code_ret (jtr (jrt (hv := CEnt.refl _)))
  refine code_skip (jtn ?_)
  have hlg := long_not (vs := vs) (by simpa using h69)
  refine jcr ?_
  refine jq (rd_build (n := 3) rfl zr30 pl30 rfl rfl) ?_
  refine jqe (jebx 3 fun p1 => ?_)
  refine jq (rd_build (n := 3) rfl zr40 pl40 rfl rfl) ?_
  refine jqe (jebx 3 fun p2 => ?_)
  refine jq jrm ?_
  refine jq jrm ?_
  refine seq_nil ?_
  refine jcs ?_
  (refine code_knowG (know_op 23 rfl) fun hnw => ?_; obtain ⟨nw, rfl⟩ := hnw; refine code_knowG (know_op 25 rfl) fun hnm => ?_; obtain ⟨nm, rfl⟩ := hnm; refine code_ent (newW nw 0 rfl (CEnt.refl _) (CEnt.refl _) CEnt.nil) ?_; refine code_ent (newRW nm 1 rfl (CEnt.refl _) (CEnt.refl _) (CEnt.refl _)) ?_; dsimp only [List.set_cons_zero, List.set_cons_succ, List.cons_append, List.nil_append, List.length_cons, List.length_nil, Nat.zero_add, Nat.reduceAdd])
  refine jcr ?_
  refine jq jrm ?_
  refine jq jrl ?_
  refine jq jrm ?_
  refine seq_nil ?_
  refine code_block ?_
  refine l_loop (α := Nat × R8 × W8) [2, 6, 7, 8, 9, 10, 28, 29, 30, 31, 32, 33, 34, 35, 36, 37, 38, 39, 40, 41, 42, 43, 44, 45, 46, 47, 48, 49, 50, 51, 52, 53, 54, 55, 56, 57, 58, 59] (fun p => [(28, .c (.int .i64 (p.1 : Nat)))]) (fun p => [wrO nw p.2.2, rwO nm p.2.1]) (fun p => p.1 ≤ vs.length ∧ Inv8 p.1 p.2.1 p.2.2 ∧ p.2.2.k ≤ 28 ∧ GoodW p.2.2) (fun p => vs.length - p.1) ((0, r0W, w0W)) ?_ (fun _ => rfl) ?_ ?_ ?_
  · exact ⟨Nat.zero_le _, inv_zero, by decide, good_zero⟩
  · exact .cons (CEnt.refl _) .nil
  · exact HEnt.refl _
  · rintro ⟨i, r, s⟩ ⟨(hi : i ≤ vs.length), (hI : Inv8 i r s), (hk : s.k ≤ 28), (hg : GoodW s)⟩
    show ACode _ _ _ ⟨[(28, .c (.int .i64 (i : Nat)))], _, [wrO nw s, rwO nm r]⟩ _
    skip
    refine jcr ?_
    refine jq jrc ?_
    refine seq_nil ?_
    refine jcs ?_
    refine jcc (fun h73 => ?_) fun h73 => ?_
    · refine code_skip (jtn ?_)
      refine jcs ?_
      refine code_block ?_
      skip
      refine jcr ?_
      refine jq jri ?_
      refine jq (jrdrA 5) ?_
      refine jqe (jeal (n := 5) zr43 rfl fun p3 => ?_)
      refine jqm (jmst 5 ?_)
      refine seq_nil ?_
      have hmem : vs.getD i VV.none ∈ vs := by
          rw [List.getD_eq_getElem?_getD, List.getElem?_eq_getElem (by omega)]
          exact List.getElem_mem _
      have hsv : SmallV (vs.getD i VV.none) := ⟨hn _ hmem, (hlg.2 _ hmem).1, (hlg.2 _ hmem).2⟩
      have hI2 := inv_do hI hsv
      have hk2 := do_k (vs.getD i VV.none) hk
      have hsd := same_done hI2.same
      have hdl1 : (doneB (doW (vs.getD i VV.none) s)).length ≤ 1000000 := by
        unfold doneB
        split
        · exact (inv_okW hI2 (by omega)).d
        · simp
      have hdl2 : (rdoneB (rdoS (vs.getD i VV.none) r)).length ≤ 1000000 := by rw [hsd.2]; exact hdl1
      refine jcr ?_
      refine jq jrm ?_
      refine jqo (jrdoA 5) ?_
      refine jqm (jmcH 0 (put08_ac nw s (vs.getD i VV.none) (inv_okW hI (by omega)) hsv.ok) ?_)
      rintro _ _ ⟨rfl, rfl⟩
      refine ⟨_, _, rfl, CEnt.refl _, ?_⟩
      refine seq_nil ?_
      refine jcr ?_
      refine jq jrm ?_
      refine jqo (jrdoA 5) ?_
      refine jqm (jmcH 1 (rdoW_ac nm r (vs.getD i VV.none) (inv_okR hI (by omega)) hsv.ok) ?_)
      rintro _ _ ⟨rfl, rfl⟩
      refine ⟨_, _, rfl, CEnt.refl _, ?_⟩
      refine seq_nil ?_
      refine jcr ?_
      refine jq jrm ?_
      refine jqm (jmcH 0 (doneW_ac nw (doW (vs.getD i VV.none) s) (inv_okW hI2 (by omega))) ?_)
      rintro _ _ ⟨rfl, rfl⟩
      refine ⟨_, _, rfl, CEnt.refl _, ?_⟩
      refine jq jrm ?_
      refine jq jrx ?_
      refine jq jrx ?_
      refine jq jrm ?_
      refine jq jrm ?_
      refine seq_nil ?_
      refine jcr ?_
      refine jq jrm ?_
      refine jqm (jmcH 1 (rdone08_ac nm (rdoS (vs.getD i VV.none) r) (inv_okR hI2 (by omega))) ?_)
      rintro _ _ ⟨rfl, rfl⟩
      refine ⟨_, _, rfl, CEnt.refl _, ?_⟩
      refine jq jrm ?_
      refine jq jrx ?_
      refine jq jrx ?_
      refine jq jrm ?_
      refine jq jrm ?_
      refine seq_nil ?_
      refine jcr ?_
      refine jq jrm ?_
      refine jqe (jecP (num_ac (doneK (doW (vs.getD i VV.none) s)) (done_k hk2)) ?_)
      refine jq jrm ?_
      refine jq jrc ?_
      refine jq jrm ?_
      refine jqsp 52 (fun g78 => ?_) fun g78 => ?_
      · refine jqs ?_
        refine jqs ?_
        refine jqs ?_
        refine jqs ?_
        refine jqs ?_
        refine jq jrpT ?_
        refine seq_nil ?_
        refine jcT ?_
        refine jcr ?_
        refine jq jrm ?_
        refine seq_nil ?_
        refine code_ret (jbr (jtr (jtr (jbr (jtr (jrt (hv := ?_)))))))
        exfalso
        (simp_all; done)
      refine jq jrm ?_
      refine jq jrbs ?_
      refine jq jrm ?_
      refine jq jrbs ?_
      refine jq jrcs ?_
      refine jq jrpF ?_
      refine seq_nil ?_
      refine jcc (fun h78 => ?_) fun h78 => ?_
      · refine jcr ?_
        refine jq jrm ?_
        refine seq_nil ?_
        refine code_ret (jbr (jtr (jtr (jbr (jtr (jrt (hv := ?_)))))))
        exfalso
        (simp_all; done)
      refine code_skip (jbn (jtn ?_))
      skip
      refine jcg ?_
      refine jq jra ?_
      refine jq jrm ?_
      refine seq_nil ?_
      refine jtn ?_
      refine jlend ((i + 1, rdoS (vs.getD i VV.none) r, doW (vs.getD i VV.none) s)) ?_ ?_ (h5 := ?_) (h7 := ?_)
      · exact ⟨show i + 1 ≤ vs.length by omega, hI2, hk2, good_do hg _⟩
      · show vs.length - (i + 1) < vs.length - i; omega
      · exact .cons (CEnt.int (by omega)) .nil
      · exact HEnt.refl _
    refine code_exit (jte (jte (jbx (jtn ?_))))
    refine jcr ?_
    refine jq jrm ?_
    refine jqm (jmcH 0 (doneW_ac nw s (inv_okW hI (by omega))) ?_)
    rintro _ _ ⟨rfl, rfl⟩
    refine ⟨_, _, rfl, CEnt.refl _, ?_⟩
    refine jq jrm ?_
    refine jq jrx ?_
    refine jq jrx ?_
    refine jq jrm ?_
    refine jq jrm ?_
    refine seq_nil ?_
    refine jcs ?_
    refine jcr ?_
    refine jq jrm ?_
    refine jq jre ?_
    refine seq_nil ?_
    refine jcc (fun h83 => ?_) fun h83 => ?_
    · refine jcr ?_
      refine jq jrm ?_
      refine seq_nil ?_
      refine code_ret (jtr (jrt (hv := CEnt.refl _)))
    refine code_skip (jtn ?_)
    obtain ⟨xs, hxs, hxe⟩ := hg.d
    have hd0 : doneK s = 0 := by omega
    have hdb : doneB s = xs.flatten := by unfold doneB; rw [if_pos hd0, hxs]
    have hxl : xs.flatten.length ≤ 1000000 := by rw [← hxs]; exact (inv_okW hI (by omega)).d
    have hxll := flat_pos hxe
    rw [hdb]
    refine jcr ?_
    refine jq jrm ?_
    refine jqe (jecP (all08_ac xs hxe hxl) ?_)
    refine jq jrm ?_
    refine jq jrx ?_
    refine jq jrx ?_
    refine jq jrm ?_
    refine jq jrm ?_
    refine seq_nil ?_
    refine jcs ?_
    refine jcr ?_
    refine jq jrm ?_
    refine jq jre ?_
    refine seq_nil ?_
    refine jcc (fun h87 => ?_) fun h87 => ?_
    · exfalso; simp at h87
    refine code_skip (jtn ?_)
    refine jcs ?_
    refine jcr ?_
    refine jq jrm ?_
    refine jq jrl ?_
    refine jq jrm ?_
    refine seq_nil ?_
    refine code_block ?_
    refine l_loop (α := Nat) [2, 15, 16, 17, 76, 77, 78, 79, 80, 81, 82, 83, 84, 85, 86, 87, 88, 89, 90, 91, 92, 93, 94, 95, 96, 97, 98] (fun i => [(76, .c (.int .i64 (i : Nat)))]) (fun _ => [wrO nw s, rwO nm r]) (fun i => i ≤ xs.length) (fun i => xs.length - i) (0) ?_ (fun _ => rfl) ?_ ?_ ?_
    · exact Nat.zero_le _
    · exact .cons (CEnt.refl _) .nil
    · exact HEnt.refl _
    · rintro q (hq : q ≤ xs.length)
      refine jcr ?_
      refine jq jrc ?_
      refine seq_nil ?_
      refine jcs ?_
      refine jcc (fun h90 => ?_) fun h90 => ?_
      rotate_left
      · refine code_exit (jte (jte (jbx (jtn ?_))))
        refine jcr ?_
        refine jq jrm ?_
        refine seq_nil ?_
        refine code_ret (jrt (hv := CEnt.refl _))
      refine code_skip (jtn ?_)
      refine jcs ?_
      refine code_block ?_
      refine jcr ?_
      refine jq jri ?_
      refine jq (jrdrA 2) ?_
      refine jqe (jeal (n := 2) zr68 rfl fun p4 => ?_)
      refine jqm (jmst 2 ?_)
      refine seq_nil ?_
      obtain ⟨hp0, hdm, hpl⟩ := isE_put_ok (isE_at hxe (show q < xs.length by omega))
      have hbb := (nextM_bd (xs.getD q [])).2.2.1
      refine jcr ?_
      refine jqo (jrdoA 2) ?_
      refine jqe (jecP (tput_ac ((nextM (xs.getD q [])).tag : Nat) (nextM (xs.getD q [])).body (by omega)) ?_)
      refine jq jrm ?_
      refine jq jrx ?_
      refine jq jrx ?_
      refine jq jrm ?_
      refine jq jrm ?_
      refine seq_nil ?_
      rw [hp0, if_pos (show (0 : Nat) = 0 from rfl)]
      refine jcr ?_
      refine jq jrm ?_
      refine jq jre ?_
      refine jq jrm ?_
      refine jqsp 87 (fun g92 => ?_) fun g92 => ?_
      · refine jqs ?_
        refine jqs ?_
        refine jqs ?_
        refine jqs ?_
        refine jqs ?_
        refine jqs ?_
        refine jqs ?_
        refine jqs ?_
        refine jqs ?_
        refine jq jrpT ?_
        refine seq_nil ?_
        refine jcT ?_
        refine jcr ?_
        refine jq jrm ?_
        refine seq_nil ?_
        refine code_ret (jbr (jtr (jtr (jbr (jtr (jrt (hv := ?_)))))))
        exfalso
        (simp_all; done)
      refine jq jrm ?_
      refine jqe (jecP (check_ac (putL ((nextM (xs.getD q [])).tag : Nat) (nextM (xs.getD q [])).body) (by omega)) ?_)
      refine jq jre ?_
      refine jq jrm ?_
      refine jqsp 91 (fun g92_2 => ?_) fun g92_2 => ?_
      rotate_left
      · refine jqs ?_
        refine jqs ?_
        refine jqs ?_
        refine jqs ?_
        refine jq jrpF ?_
        refine jq jrpF ?_
        refine seq_nil ?_
        refine jcF ?_
        refine code_skip (jbn (jtn ?_))
        refine jcg ?_
        refine jq jra ?_
        refine jq jrm ?_
        refine seq_nil ?_
        refine jtn ?_
        refine jlend (q + 1) ?_ ?_ (h5 := ?_) (h7 := ?_)
        · show q + 1 ≤ xs.length; omega
        · show xs.length - (q + 1) < xs.length - q; omega
        · exact .cons (CEnt.int (by omega)) .nil
        · exact HEnt.refl _
      refine jq jrm ?_
      refine jqe (jecP (check_ac (putL ((nextM (xs.getD q [])).tag : Nat) (nextM (xs.getD q [])).body) (by omega)) ?_)
      refine jqe (jecP (num_ac (depthM (putL ((nextM (xs.getD q [])).tag : Nat) (nextM (xs.getD q [])).body)).2 (by omega)) ?_)
      refine jq jrc ?_
      refine jq jrpT ?_
      refine jq jrpF ?_
      refine seq_nil ?_
      refine jcc (fun h92 => ?_) fun h92 => ?_
      · refine jcr ?_
        refine jq jrm ?_
        refine seq_nil ?_
        refine code_ret (jbr (jtr (jtr (jbr (jtr (jrt (hv := ?_)))))))
        exfalso
        (simp_all; done)
      refine code_skip (jbn (jtn ?_))
      refine jcg ?_
      refine jq jra ?_
      refine jq jrm ?_
      refine seq_nil ?_
      refine jtn ?_
      refine jlend (q + 1) ?_ ?_ (h5 := ?_) (h7 := ?_)
      · show q + 1 ≤ xs.length; omega
      · show xs.length - (q + 1) < xs.length - q; omega
      · exact .cons (CEnt.int (by omega)) .nil
      · exact HEnt.refl _
end Am
end Go.Proofs.YtjckfbpdieijeaaGreatDoor

/- Arguments that come in, by their types: from 'trod' to plain words. -/
namespace Go.Proofs.YtjckfbpdieijeaaGreatDoor
set_option linter.unusedVariables false
open Go.RowKit Go.ChangeShapes
namespace Am
/-- values of type t lie in k cells and read as E x for an x with φ -/
def Opens (P : Program) (t : TypeId) (k : Nat) (D : Type) (φ : D → Prop) (E : D → Nat → CV) : Prop :=
  ∀ (H : Type) (enc : TypeId × Value → H) (W : World) (fuel : Nat) (cs : List Value) (y : DataW H × List MemPlace), DataW.trod enc P W 0 (fun _ => true) true fuel t cs = some y →
    cs.length = k ∧ ∃ x : D, φ x ∧ ∀ al j, j < k → RepC al (fun b => b < W.heap.size) W (E x j) (cs.getD j undef)
section
variable {P : Program} {t : TypeId}
theorem one_cell {al : List Addr} {W : World} {St : Nat → Prop} {c : Nat → CV} {v : Value} (h : RepC al St W (c 0) v) : ∀ j, j < 1 → RepC al St W (c j) ([v].getD j undef) := fun j hj => by
  obtain rfl : j = 0 := by omega
  exact h
theorem opens_i64 (hu : P.underlying t = some (.int .i64)) : Opens P t 1 Int (fun z => -9223372036854775808 ≤ z ∧ z ≤ 9223372036854775807) (fun z _ => .c (.int .i64 z)) := fun H enc W fuel cs y h => by
  obtain ⟨n, rfl, _, hw⟩ := DataW.trod_int hu h
  exact ⟨rfl, n, bounds_i64 hw, fun al => one_cell rfl⟩
theorem opens_u8 (hu : P.underlying t = some (.int .u8)) : Opens P t 1 UInt8 (fun _ => True) (fun z _ => .c (.int .u8 (z.toNat : Nat))) := fun H enc W fuel cs y h => by
  obtain ⟨n, rfl, _, hw⟩ := DataW.trod_int hu h
  have hb := bounds_u8 hw
  refine ⟨rfl, UInt8.ofNat n.toNat, trivial, fun al => one_cell ?_⟩
  show Value.int .u8 n = .int .u8 ((UInt8.ofNat n.toNat).toNat : Nat)
  rw [UInt8.toNat_ofNat']
  congr 1
  omega
theorem opens_bool (hu : P.underlying t = some .bool) : Opens P t 1 Bool (fun _ => True) (fun z _ => .c (.bool z)) := fun H enc W fuel cs y h => by
  obtain ⟨n, rfl, _⟩ := DataW.trod_bool hu h
  exact ⟨rfl, n, trivial, fun al => one_cell rfl⟩
theorem opens_slice {e : TypeId} {k : Nat} {D : Type} {φ : D → Prop} {E : D → Nat → CV} (d0 : D) (ho : Opens P e k D φ E) (hu : P.underlying t = some (.slice e)) (hk : P.cellsOf e = k) (hk0 : 0 < k) :
    Opens P t 1 (List D) (fun l => l.length ≤ maxLen ∧ ∀ x ∈ l, φ x) (fun l _ => .rs k l.length fun i j => E (l.getD i d0) j) := fun H enc W fuel cs y h => by
  rcases DataW.trod_slice hu h with ⟨rfl, _⟩ | ⟨a, len, cap, elems, rest, n, _, rfl, _, _, hle, hm, hl, hel, _⟩
  · exact ⟨rfl, [], ⟨by simp, by simp⟩, fun al => one_cell ⟨none, 0, rfl, Nat.le_refl _, by decide, fun _ => rfl, fun _ h => by cases h⟩⟩
  · refine ⟨rfl, ?_⟩
    subst hk
    have key : ∀ i, ∃ x : D, i < len → φ x ∧ ∀ al j, j < P.cellsOf e → ∃ v, W.cell? (a.add (i * P.cellsOf e + j)) = some v ∧ RepC al (fun b => b < W.heap.size) W (E x j) v := fun i => by
      by_cases hi : i < len
      · have h1 := hel i hi
        rw [List.getElem?_eq_getElem (by omega)] at h1
        obtain ⟨cs, h2, h3⟩ := Option.bind_eq_some_iff.1 h1
        obtain ⟨_, h4, h5⟩ := World.cells?_some h2
        obtain ⟨_, x, hx, hr⟩ := ho H enc W n cs _ h3
        refine ⟨x, fun _ => ⟨hx, fun al j hj => ⟨cs.getD j undef, ?_, hr al j hj⟩⟩⟩
        have := h5 j hj
        rw [Addr.add_add] at this
        rw [this]
        simp [h4, hj]
      · exact ⟨d0, fun h => absurd h hi⟩
    obtain ⟨F, hF⟩ : ∃ F : Nat → D, ∀ i, i < len → φ (F i) ∧ ∀ al j, j < P.cellsOf e → ∃ v, W.cell? (a.add (i * P.cellsOf e + j)) = some v ∧ RepC al (fun b => b < W.heap.size) W (E (F i) j) v :=
      ⟨fun i => (key i).choose, fun i hi => (key i).choose_spec hi⟩
    have hm' : cap ≤ 9223372036854775807 := by unfold maxLen at hm; omega
    refine ⟨(List.range len).map F, ⟨by simp; omega, by simp only [List.mem_map, List.mem_range]; rintro x ⟨i, hi, rfl⟩; exact (hF i hi).1⟩, fun al => one_cell ?_⟩
    refine ⟨some a, cap, by simp, by simpa using hle, hm', by simp, fun b hb hn => ?_⟩
    cases hb
    simp at hn
    obtain ⟨v0, hv0, _⟩ := (hF 0 hn).2 al 0 hk0
    have hsp : a.spot = none := by
      have := World.cell?_spot hv0
      obtain ⟨b, o, sp⟩ := a
      simpa [Addr.add] using this
    refine ⟨hsp, ?_, fun i j hi hj => ?_⟩
    · have := World.block_lt_of_cell? W _ hv0
      obtain ⟨b, o, sp⟩ := a
      simpa [Addr.add] using this
    · simp at hi
      obtain ⟨v, hv, hr⟩ := (hF i hi).2 al j hj
      refine ⟨v, ?_, by simpa [List.getD, hi] using hr⟩
      obtain ⟨b, o, sp⟩ := a
      simp only at hsp
      subst hsp
      rwa [Addr.add_lit] at hv
/-- fields, one behind the other -/
def OpensF (P : Program) (fs : List Field) (D : Type) (φ : D → Prop) (E : D → Nat → CV) (C : Nat → Bool) : Prop :=
  ∀ (H : Type) (enc : TypeId × Value → H) (W : World) (cs : List Value), (∀ f ∈ fs, ∃ n y, DataW.trod enc P W 0 (fun _ => true) true n f.type ((cs.drop f.offset).take (P.cellsOf f.type)) = some y) →
    ∃ x : D, φ x ∧ ∀ al j, C j = true → RepC al (fun b => b < W.heap.size) W (E x j) (cs.getD j undef)
theorem opensF_nil : OpensF P [] Unit (fun _ => True) (fun _ _ => .top) (fun _ => false) := fun H enc W cs _ => ⟨(), trivial, fun al j h => by cases h⟩
theorem opensF_cons {f : Field} {fs : List Field} {k : Nat} {D1 D2 : Type} {φ1 : D1 → Prop} {φ2 : D2 → Prop} {E1 : D1 → Nat → CV} {E2 : D2 → Nat → CV} {C2 : Nat → Bool} (h1 : Opens P f.type k D1 φ1 E1) (h2 : OpensF P fs D2 φ2 E2 C2) :
    OpensF P (f :: fs) (D1 × D2) (fun x => φ1 x.1 ∧ φ2 x.2) (fun x j => match Nat.ble f.offset j && Nat.blt j (f.offset + k) with | true => E1 x.1 (j - f.offset) | false => E2 x.2 j) (fun j => (Nat.ble f.offset j && Nat.blt j (f.offset + k)) || C2 j) := fun H enc W cs h => by
  obtain ⟨n, y, hy⟩ := h f (List.mem_cons_self ..)
  obtain ⟨hl, x1, p1, r1⟩ := h1 H enc W n _ y hy
  obtain ⟨x2, p2, r2⟩ := h2 H enc W cs fun g hg => h g (List.mem_cons_of_mem _ hg)
  refine ⟨(x1, x2), ⟨p1, p2⟩, fun al j hj => ?_⟩
  cases hb : Nat.ble f.offset j && Nat.blt j (f.offset + k) with
  | true =>
    have hb0 := hb
    simp only [Bool.and_eq_true] at hb
    have b1 : f.offset ≤ j := Nat.le_of_ble_eq_true hb.1
    have b2 : j < f.offset + k := Nat.le_of_ble_eq_true hb.2
    have := r1 al (j - f.offset) (by omega)
    simp only [List.length_take, List.length_drop] at hl
    rw [List.getD_eq_getElem?_getD, List.getElem?_take, if_pos (by omega), List.getElem?_drop, show f.offset + (j - f.offset) = j by omega, ← List.getD_eq_getElem?_getD] at this
    simp only [hb0]
    exact this
  | false =>
    simp only [hb, Bool.false_or] at hj
    simp only [hb]
    exact r2 al j hj
theorem opens_struct {fs : Array Field} {n : Nat} {D : Type} {φ : D → Prop} {E : D → Nat → CV} {C : Nat → Bool} (hu : P.underlying t = some (.struct fs)) (hn : P.cellsOf t = n) (ho : OpensF P fs.toList D φ E C) (hC : (List.range n).all C = true) : Opens P t n D φ E := fun H enc W fuel cs y h => by
  obtain ⟨xs, m, _, _, hl, hlen, hf⟩ := DataW.trod_struct hu h
  obtain ⟨x, hx, hr⟩ := ho H enc W cs fun f hf' => by
    obtain ⟨i, hi⟩ := List.mem_iff_getElem?.1 hf'
    rw [Array.getElem?_toList] at hi
    have := hf i f hi
    have hlt : i < xs.length := by rw [hlen]; exact (Array.getElem?_eq_some_iff.1 hi).1
    rw [List.getElem?_eq_getElem hlt] at this
    exact ⟨m, _, this⟩
  exact ⟨hl.trans hn, x, hx, fun al j hj => hr al j (List.all_eq_true.1 hC j (List.mem_range.2 hj))⟩
theorem arg_one {D : Type} {φ : D → Prop} {E : D → Nat → CV} (ho : Opens P t 1 D φ E) {H : Type} {enc : TypeId × Value → H} {W : World} {v : Value} {d : DataW H} {p : List MemPlace} (hv : v.cells = #[v]) (h : DataW.Trod enc P W 0 (fun _ => true) true t v d p) :
    ∃ x : D, φ x ∧ ∀ al, RepC al (fun b => b < W.heap.size) W (E x 0) v := by
  obtain ⟨fuel, hf⟩ := h
  obtain ⟨_, x, hx, hr⟩ := ho H enc W fuel _ _ hf
  refine ⟨x, hx, fun al => ?_⟩
  have := hr al 0 (by decide)
  rw [hv] at this
  exact this
end
end Am
end Go.Proofs.YtjckfbpdieijeaaGreatDoor

/- Arguments that come in: texts as lists; lists in other words. -/
namespace Go.Proofs.YtjckfbpdieijeaaGreatDoor
set_option linter.unusedVariables false
open Go.RowKit Go.ChangeShapes
namespace Am
theorem opens_strL {P : Program} {t : TypeId} (hu : P.underlying t = some .string) : Opens P t 1 (List UInt8) (fun s => s.length ≤ maxLen) (fun z _ => strC z) := fun H enc W fuel cs y h => by
  obtain ⟨n, rfl, _, hs⟩ := DataW.trod_string hu h
  obtain ⟨l, rfl⟩ := ba_list n
  exact ⟨rfl, l, hs, fun al => one_cell rfl⟩
theorem map_getD {α β : Type} (f : α → β) (l : List α) {i : Nat} (d0 : α) (d1 : β) (h : i < l.length) : (l.map f).getD i d1 = f (l.getD i d0) := by simp [List.getD, h]
end Am
end Go.Proofs.YtjckfbpdieijeaaGreatDoor
