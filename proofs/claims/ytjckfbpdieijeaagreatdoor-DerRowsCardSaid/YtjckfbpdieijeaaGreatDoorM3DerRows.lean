/- What the law leans on, part 3: W03, W03b, L03, SlC, NumB, MarkC, L03p, P07s, P07d, P07, P07b, P04, Dec, P05, P05b, P06, W06, W06b, P04n, P04b, W04n, P03n, P08, W03r, W03s, W07s, W07t, W07u, W08j -/
import Derived.Test.YtjckfbpdieijeaaGreatDoorM2DerRows
import Derived.Sort.Statements
import Derived.Lib.DecodeN
import Derived.Lib.ValidU
import Derived.Test.YtjckfbpdieijeaaGreatDoorChecked
import Derived.Laws.BitsAllLaws
import Derived.IntWalk
import Derived.Lib.Join
import Derived.WalkKit
import Derived.Shelf.SlSortCmp.Kit1

/- Chapter 3: the contracts of package tlv and of its reference. -/
namespace Go.Proofs.YtjckfbpdieijeaaGreatDoor
set_option linter.unusedVariables false
namespace Am
variable {gs : List Nat} [OkG gs]
open Go.RowKit
set_option maxRecDepth 100000

theorem made_ac {gs : List Nat} (t : Int) : ACp gs Tryz.prog 77 [.c (.int .i64 t)] (.c (.bool (madeM t))) := by
  refine ac_of 17 Tryz.func77 rfl rfl rfl (fun al w0 F0 St0 => ?_)
  refine jcr ?_
  refine jq jrm ?_
  refine seq_nil ?_
  refine jcr ?_
  refine jq jrm ?_
  refine jq jrc ?_
  refine jq jrm ?_
  refine jqsp 5 (fun g31 => ?_) fun g31 => ?_
  · refine jqs ?_
    refine jqs ?_
    refine jq jrpT ?_
    refine jq jrm ?_
    refine jqs ?_
    refine jqs ?_
    refine jqs ?_
    refine jqs ?_
    refine jqs ?_
    refine jqs ?_
    refine jq jrpT ?_
    refine jq jrm ?_
    refine seq_nil ?_
    refine code_ret (jrt (hv := ?_))
    refine CEnt.bool ?_
    (simp [madeM, *]; done)
  refine jq jrm ?_
  refine jq jrc ?_
  refine jq jrpF ?_
  refine jq jrm ?_
  refine jqsp 9 (fun g31_2 => ?_) fun g31_2 => ?_
  · refine jqs ?_
    refine jqs ?_
    refine jqs ?_
    refine jqs ?_
    refine jqs ?_
    refine jqs ?_
    refine jq jrpT ?_
    refine jq jrm ?_
    refine seq_nil ?_
    refine code_ret (jrt (hv := ?_))
    refine CEnt.bool ?_
    (simp [madeM, *]; done)
  refine jq jrm ?_
  refine jq jrc ?_
  refine jq jrm ?_
  refine jqsp 12 (fun g31_3 => ?_) fun g31_3 => ?_
  · refine jq jrm ?_
    refine jq jrc ?_
    refine jq jrpT ?_
    refine jq jrpF ?_
    refine jq jrm ?_
    refine seq_nil ?_
    refine code_ret (jrt (hv := ?_))
    refine CEnt.bool ?_
    (simp [madeM, *]; done)
  refine jqs ?_
  refine jqs ?_
  refine jq jrpF ?_
  refine jq jrpF ?_
  refine jq jrm ?_
  refine seq_nil ?_
  refine code_ret (jrt (hv := ?_))
  refine CEnt.bool ?_
  (simp [madeM, *]; done)
theorem rmade_ac {gs : List Nat} (t : Int) : ACp gs Tryz.prog 12 [.c (.int .i64 t)] (.c (.bool (madeM t))) := by
  refine ac_of 17 Tryz.func12 rfl rfl rfl (fun al w0 F0 St0 => ?_)
  refine jcr ?_
  refine jq jrm ?_
  refine seq_nil ?_
  refine jcr ?_
  refine jq jrm ?_
  refine jq jrc ?_
  refine jq jrm ?_
  refine jqsp 5 (fun g13 => ?_) fun g13 => ?_
  · refine jqs ?_
    refine jqs ?_
    refine jq jrpT ?_
    refine jq jrm ?_
    refine jqs ?_
    refine jqs ?_
    refine jqs ?_
    refine jqs ?_
    refine jqs ?_
    refine jqs ?_
    refine jq jrpT ?_
    refine jq jrm ?_
    refine seq_nil ?_
    refine code_ret (jrt (hv := ?_))
    refine CEnt.bool ?_
    (simp [madeM, *]; done)
  refine jq jrm ?_
  refine jq jrc ?_
  refine jq jrpF ?_
  refine jq jrm ?_
  refine jqsp 9 (fun g13_2 => ?_) fun g13_2 => ?_
  · refine jqs ?_
    refine jqs ?_
    refine jqs ?_
    refine jqs ?_
    refine jqs ?_
    refine jqs ?_
    refine jq jrpT ?_
    refine jq jrm ?_
    refine seq_nil ?_
    refine code_ret (jrt (hv := ?_))
    refine CEnt.bool ?_
    (simp [madeM, *]; done)
  refine jq jrm ?_
  refine jq jrc ?_
  refine jq jrm ?_
  refine jqsp 12 (fun g13_3 => ?_) fun g13_3 => ?_
  · refine jq jrm ?_
    refine jq jrc ?_
    refine jq jrpT ?_
    refine jq jrpF ?_
    refine jq jrm ?_
    refine seq_nil ?_
    refine code_ret (jrt (hv := ?_))
    refine CEnt.bool ?_
    (simp [madeM, *]; omega)
  refine jqs ?_
  refine jqs ?_
  refine jq jrpF ?_
  refine jq jrpF ?_
  refine jq jrm ?_
  refine seq_nil ?_
  refine code_ret (jrt (hv := ?_))
  refine CEnt.bool ?_
  (simp [madeM, *]; done)
theorem plain_ac {gs : List Nat} : ACp gs Tryz.prog 110 [] (isC plainT) := by
  refine ac_of 2 Tryz.func110 rfl rfl rfl (fun al w0 F0 St0 => ?_)
  refine jcr ?_
  refine jq jrm ?_
  refine seq_nil ?_
  refine jcr ?_
  refine jqe (jebl 9 1 zr3 fun p1 => ?_)
  refine jq jrm ?_
  refine seq_nil ?_
  refine code_ent (freeze 0 rfl) ?_
  refine code_ent (thawIL 0 (plainT) rfl rfl rfl rfl (fun j hj => fl_ints (plainT) j hj)) ?_
  refine code_ret (jrt (hv := CEnt.refl _))
theorem known_ac {gs : List Nat} (t : Int) : ACp gs Tryz.prog 64 [.c (.int .i64 t)] (.c (.bool (knownM t))) := by
  refine ac_of 10 Tryz.func64 rfl rfl rfl (fun al w0 F0 St0 => ?_)
  refine jcr ?_
  refine jq jrm ?_
  refine seq_nil ?_
  refine jcr ?_
  refine jq jrm ?_
  refine jqe (jecP (made_ac _) ?_)
  refine jq jrm ?_
  refine jqsp 5 (fun g35 => ?_) fun g35 => ?_
  · refine jqs ?_
    refine jqs ?_
    refine jqs ?_
    refine jq jrpT ?_
    refine jq jrm ?_
    refine seq_nil ?_
    refine code_ret (jrt (hv := ?_))
    refine CEnt.bool ?_
    try rw [plain_known]
    (simp [knownM, madeM, *]; done)
  refine jqe (jecP plain_ac ?_)
  refine jq jrm ?_
  refine jqe (jecP (contains64_ac plainT t) ?_)
  refine jq jrpF ?_
  refine jq jrm ?_
  refine seq_nil ?_
  refine code_ret (jrt (hv := ?_))
  refine CEnt.bool ?_
  try rw [plain_known]
  (simp [knownM, madeM, *]; done)
theorem rknown_ac {gs : List Nat} (t : Int) : ACp gs Tryz.prog 129 [.c (.int .i64 t)] (.c (.bool (knownM t))) := by
  refine ac_of 25 Tryz.func129 rfl rfl rfl (fun al w0 F0 St0 => ?_)
  refine jcr ?_
  refine jq jrm ?_
  refine seq_nil ?_
  refine jcr ?_
  refine jq jrm ?_
  refine jqe (jecP (rmade_ac _) ?_)
  refine jq jrm ?_
  refine jqsp 5 (fun g16 => ?_) fun g16 => ?_
  · refine jqs ?_
    refine jqs ?_
    refine jqs ?_
    refine jqs ?_
    refine jqs ?_
    refine jqs ?_
    refine jq jrpT ?_
    refine jq jrm ?_
    refine jqs ?_
    refine jqs ?_
    refine jq jrpT ?_
    refine jq jrm ?_
    refine jqs ?_
    refine jqs ?_
    refine jq jrpT ?_
    refine jq jrm ?_
    refine jqs ?_
    refine jqs ?_
    refine jq jrpT ?_
    refine jq jrm ?_
    refine seq_nil ?_
    refine code_ret (jrt (hv := ?_))
    refine CEnt.bool ?_
    (simp [knownM, madeM, *]; done)
  refine jq jrm ?_
  refine jq jrc ?_
  refine jq jrm ?_
  refine jqsp 8 (fun g16_2 => ?_) fun g16_2 => ?_
  rotate_left
  · refine jqs ?_
    refine jqs ?_
    refine jq jrpF ?_
    refine jq jrpF ?_
    refine jq jrm ?_
    refine jq jrm ?_
    refine jq jrc ?_
    refine jq jrpF ?_
    refine jq jrm ?_
    refine jqsp 17 (fun g16_3 => ?_) fun g16_3 => ?_
    · refine jqs ?_
      refine jqs ?_
      refine jq jrpT ?_
      refine jq jrm ?_
      refine jqs ?_
      refine jqs ?_
      refine jq jrpT ?_
      refine jq jrm ?_
      refine seq_nil ?_
      refine code_ret (jrt (hv := ?_))
      refine CEnt.bool ?_
      (simp [knownM, madeM, *]; done)
    refine jq jrm ?_
    refine jq jrc ?_
    refine jq jrpF ?_
    refine jq jrm ?_
    refine jqsp 21 (fun g16_4 => ?_) fun g16_4 => ?_
    · refine jqs ?_
      refine jqs ?_
      refine jq jrpT ?_
      refine jq jrm ?_
      refine seq_nil ?_
      refine code_ret (jrt (hv := ?_))
      refine CEnt.bool ?_
      (simp [knownM, madeM, *]; done)
    refine jq jrm ?_
    refine jq jrc ?_
    refine jq jrpF ?_
    refine jq jrm ?_
    refine seq_nil ?_
    refine code_ret (jrt (hv := ?_))
    refine CEnt.bool ?_
    (simp [knownM, madeM, *]; done)
  refine jq jrm ?_
  refine jq jrc ?_
  refine jq jrpT ?_
  refine jq jrpF ?_
  refine jq jrm ?_
  refine jqsp 13 (fun g16_3 => ?_) fun g16_3 => ?_
  · refine jqs ?_
    refine jqs ?_
    refine jq jrpT ?_
    refine jq jrm ?_
    refine jqs ?_
    refine jqs ?_
    refine jq jrpT ?_
    refine jq jrm ?_
    refine jqs ?_
    refine jqs ?_
    refine jq jrpT ?_
    refine jq jrm ?_
    refine seq_nil ?_
    refine code_ret (jrt (hv := ?_))
    refine CEnt.bool ?_
    (simp [knownM, madeM, *]; done)
  refine jq jrm ?_
  refine jq jrc ?_
  refine jq jrpF ?_
  refine jq jrm ?_
  refine jqsp 17 (fun g16_4 => ?_) fun g16_4 => ?_
  · refine jqs ?_
    refine jqs ?_
    refine jq jrpT ?_
    refine jq jrm ?_
    refine jqs ?_
    refine jqs ?_
    refine jq jrpT ?_
    refine jq jrm ?_
    refine seq_nil ?_
    refine code_ret (jrt (hv := ?_))
    refine CEnt.bool ?_
    (simp [knownM, madeM, *]; done)
  refine jq jrm ?_
  refine jq jrc ?_
  refine jq jrpF ?_
  refine jq jrm ?_
  refine jqsp 21 (fun g16_5 => ?_) fun g16_5 => ?_
  · refine jqs ?_
    refine jqs ?_
    refine jq jrpT ?_
    refine jq jrm ?_
    refine seq_nil ?_
    refine code_ret (jrt (hv := ?_))
    refine CEnt.bool ?_
    (simp [knownM, madeM, *]; done)
  refine jq jrm ?_
  refine jq jrc ?_
  refine jq jrpF ?_
  refine jq jrm ?_
  refine seq_nil ?_
  refine code_ret (jrt (hv := ?_))
  refine CEnt.bool ?_
  (simp [knownM, madeM, *]; done)
theorem rlen_ac {gs : List Nat} (n : Nat) (hn : n < 4294967296) : ACp gs Tryz.prog 128 [.c (.int .i64 n)] (bsC (lenL n)) := by
  refine ac_of 50 Tryz.func128 rfl rfl rfl (fun al w0 F0 St0 => ?_)
  refine jcr ?_
  refine jq jrm ?_
  refine seq_nil ?_
  refine jcs ?_
  refine jcr ?_
  refine jq jrm ?_
  refine jq jrc ?_
  refine seq_nil ?_
  refine jcc (fun h21 => ?_) fun h21 => ?_
  · refine jcr ?_
    refine jq jrm ?_
    refine jq (jrv .i64 .u8) ?_
    refine jqe (jebl 1 1 zr5 fun p1 => ?_)
    refine jq jrm ?_
    refine seq_nil ?_
    refine code_ent (freeze 0 rfl) ?_
    refine code_ent (thawBL 2 ([b8 n]) rfl rfl rfl rfl (.cons (CEnt.int ((by rw [b8_mod]; omega))) .nil)) ?_
    refine code_ret (jtr (jrt (hv := CEnt.bs (by unfold lenL; rw [if_pos (by omega)]))))
  refine code_skip (jtn ?_)
  refine jcs ?_
  refine jcr ?_
  refine jq jrm ?_
  refine jq jrc ?_
  refine seq_nil ?_
  refine jcc (fun h24 => ?_) fun h24 => ?_
  · refine jcr ?_
    refine jq jrm ?_
    refine jq (jrv .i64 .u8) ?_
    refine jqe (jebl 2 1 zr5 fun p1 => ?_)
    refine jq jrm ?_
    refine seq_nil ?_
    refine code_ent (freeze 0 rfl) ?_
    refine code_ent (thawBL 2 ([129, b8 n]) rfl rfl rfl rfl (.cons (CEnt.int (rfl)) (.cons (CEnt.int ((by rw [b8_mod]; omega))) .nil))) ?_
    refine code_ret (jtr (jrt (hv := CEnt.bs (by unfold lenL; rw [if_neg (by omega), if_pos (by omega)]))))
  refine code_skip (jtn ?_)
  refine jcs ?_
  refine jcr ?_
  refine jq jrm ?_
  refine jq jrc ?_
  refine seq_nil ?_
  refine jcc (fun h27 => ?_) fun h27 => ?_
  · refine jcr ?_
    refine jq jrm ?_
    refine jq jrq ?_
    refine jq (jrv .i64 .u8) ?_
    refine jq jrm ?_
    refine jq jrr ?_
    refine jq (jrv .i64 .u8) ?_
    refine jqe (jebl 3 1 zr5 fun p1 => ?_)
    refine jq jrm ?_
    refine seq_nil ?_
    refine code_ent (freeze 0 rfl) ?_
    refine code_ent (thawBL 2 ([130, b8 (n / 256), b8 n]) rfl rfl rfl rfl (.cons (CEnt.int (rfl)) (.cons (CEnt.int ((by rw [b8_mod]; omega))) (.cons (CEnt.int ((by rw [b8_mod]; omega))) .nil)))) ?_
    refine code_ret (jtr (jrt (hv := CEnt.bs (by unfold lenL; rw [if_neg (by omega), if_neg (by omega), if_pos (by omega)]))))
  refine code_skip (jtn ?_)
  refine jcs ?_
  refine jcr ?_
  refine jq jrm ?_
  refine jq jrc ?_
  refine seq_nil ?_
  refine jcc (fun h30 => ?_) fun h30 => ?_
  · refine jcr ?_
    refine jq jrm ?_
    refine jq jrq ?_
    refine jq (jrv .i64 .u8) ?_
    refine jq jrm ?_
    refine jq jrq ?_
    refine jq jrr ?_
    refine jq (jrv .i64 .u8) ?_
    refine jq jrm ?_
    refine jq jrr ?_
    refine jq (jrv .i64 .u8) ?_
    refine jqe (jebl 4 1 zr5 fun p1 => ?_)
    refine jq jrm ?_
    refine seq_nil ?_
    refine code_ent (freeze 0 rfl) ?_
    refine code_ent (thawBL 2 ([131, b8 (n / 65536), b8 (n / 256), b8 n]) rfl rfl rfl rfl (.cons (CEnt.int (rfl)) (.cons (CEnt.int ((by rw [b8_mod]; omega))) (.cons (CEnt.int ((by rw [b8_mod]; omega))) (.cons (CEnt.int ((by rw [b8_mod]; omega))) .nil))))) ?_
    refine code_ret (jtr (jrt (hv := CEnt.bs (by unfold lenL; rw [if_neg (by omega), if_neg (by omega), if_neg (by omega), if_pos (by omega)]))))
  refine code_skip (jtn ?_)
  refine jcr ?_
  refine jq jrm ?_
  refine jq jrq ?_
  refine jq (jrv .i64 .u8) ?_
  refine jq jrm ?_
  refine jq jrq ?_
  refine jq jrr ?_
  refine jq (jrv .i64 .u8) ?_
  refine jq jrm ?_
  refine jq jrq ?_
  refine jq jrr ?_
  refine jq (jrv .i64 .u8) ?_
  refine jq jrm ?_
  refine jq jrr ?_
  refine jq (jrv .i64 .u8) ?_
  refine jqe (jebl 5 1 zr5 fun p1 => ?_)
  refine jq jrm ?_
  refine seq_nil ?_
  refine code_ent (freeze 0 rfl) ?_
  refine code_ent (thawBL 2 ([132, b8 (n / 16777216), b8 (n / 65536), b8 (n / 256), b8 n]) rfl rfl rfl rfl (.cons (CEnt.int (rfl)) (.cons (CEnt.int ((by rw [b8_mod]; omega))) (.cons (CEnt.int ((by rw [b8_mod]; omega))) (.cons (CEnt.int ((by rw [b8_mod]; omega))) (.cons (CEnt.int ((by rw [b8_mod]; omega))) .nil)))))) ?_
  refine code_ret (jrt (hv := CEnt.bs (by unfold lenL; rw [if_neg (by omega), if_neg (by omega), if_neg (by omega), if_neg (by omega)])))
/-- the last k bytes of a number, the last one first -/
def lowL (n k : Nat) : List UInt8 := (List.range k).map fun i => b8 (n / 256 ^ i)
theorem lowL_succ (n k : Nat) : lowL n (k + 1) = lowL n k ++ [b8 (n / 256 ^ k)] := by simp [lowL, List.range_succ]
theorem lowL_len (n k : Nat) : (lowL n k).length = k := by simp [lowL]
theorem length_ac {gs : List Nat} (n : Nat) (hn : n < 65536) : ACp gs Tryz.prog 66 [.c (.int .i64 n)] (bsC (lenL n)) := by
  refine ac_of 28 Tryz.func66 rfl rfl rfl (fun al w0 F0 St0 => ?_)
  refine jcr ?_
  refine jq jrm ?_
  refine seq_nil ?_
  refine jcs ?_
  refine jcr ?_
  refine jq jrm ?_
  refine jq jrc ?_
  refine seq_nil ?_
  refine jcc (fun h39 => ?_) fun h39 => ?_
  · refine jcr ?_
    refine jq jrm ?_
    refine jq (jrv .i64 .u8) ?_
    refine jqe (jebl 1 1 zr5 fun p1 => ?_)
    refine jq jrm ?_
    refine seq_nil ?_
    refine code_ent (freeze 0 rfl) ?_
    refine code_ent (thawBL 2 ([b8 n]) rfl rfl rfl rfl (.cons (CEnt.int ((by rw [b8_mod]; omega))) .nil)) ?_
    refine code_ret (jtr (jrt (hv := CEnt.bs (by unfold lenL; rw [if_pos (by omega)]))))
  refine code_skip (jtn ?_)
  refine jcr ?_
  refine jq jrm ?_
  refine seq_nil ?_
  refine jcs ?_
  refine code_block ?_
  refine code_ent (own_nil 3 1 (byF []) rfl) ?_
  refine l_loop (α := Nat × Option Nat) [0, 3, 9, 10, 11, 12, 13, 14, 15, 16, 17] (fun (k, g) => [(0, .c (.int .i64 ((n / 256 ^ k : Nat) : Int))), (3, .os 0 g 0 (lowL n k).length 1)]) (fun (k, g) => [(g, .blk (lowL n k).length (byF (lowL n k)))]) (fun k => k.1 = 0 ∨ k.1 = 1 ∨ (k.1 = 2 ∧ 256 ≤ n)) (fun k => 2 - k.1) ((0, none)) ?_ (fun _ => rfl) ?_ ?_ ?_
  · exact .inl rfl
  · exact .cons (CEnt.int (by simp)) (.cons (CEnt.refl _) .nil)
  · exact .same .nil
  · rintro ⟨k, g'⟩ (hk : k = 0 ∨ k = 1 ∨ (k = 2 ∧ 256 ≤ n))
    refine jcs ?_
    refine jcr ?_
    refine jq jrm ?_
    refine jq jrc ?_
    refine seq_nil ?_
    refine jcc (fun h43 => ?_) fun h43 => ?_
    · refine code_skip (jtn ?_)
      refine jcs ?_
      refine code_block ?_
      have hlk := lowL_len n k
      have hk3 : k ≤ 2 := by omega
      refine jcg ?_
      refine jq jrm ?_
      refine jq jrm ?_
      refine jq (jrvW .i64 .u8) ?_
      refine jqe (jebl 1 1 zr5 fun p1 => ?_)
      refine jqm (m_appendB (l2 := [b8 (n / 256 ^ k)]) rfl rfl rfl (Nat.le_refl _) (fun _ _ => CEnt.refl _) (src_os rfl (.inl rfl) (by decide)) rfl (hh_bytes (.cons (CEnt.int ((by rw [b8_mod]; generalize n / 256 ^ k = q; (simp only [IntKind.wrap_u8]; omega)))) .nil)) Tryz.underlying26 nu26 sz5 zr5 by5 rfl (by (simp; omega)) (leaf_fl rfl rfl) rfl rfl (fun p2 => ?_))
      refine jq jrm ?_
      refine seq_nil ?_
      refine jbn (jtn ?_)
      refine jcg ?_
      refine jq jrm ?_
      refine jq (rd_shr rfl rfl rfl (by (omega)) _ rfl) ?_
      refine jq jrm ?_
      refine seq_nil ?_
      refine jtn ?_
      refine jlend ((k + 1, p2)) ?_ ?_ (h5 := ?_) (h7 := ?_)
      · show k + 1 = 0 ∨ k + 1 = 1 ∨ (k + 1 = 2 ∧ 256 ≤ n)
        rcases hk with rfl | rfl | ⟨rfl, h2⟩
        · omega
        · simp at h43; omega
        · simp at h43; omega
      · show 2 - (k + 1) < 2 - k
        rcases hk with rfl | rfl | ⟨rfl, h2⟩
        · omega
        · omega
        · simp at h43; omega
      · simp only [lowL_succ]
        exact .cons (CEnt.int (by rw [Nat.pow_succ, ← Nat.div_div_eq_div_mul, Int.fdiv_eq_ediv_of_nonneg _ (by decide)]; rfl)) (.cons (CEnt.refl _) .nil)
      · simp only [lowL_succ]
        exact .same .nil
    refine code_exit (jte (jte (jbx (jtn ?_))))
    have hlk := lowL_len n k
    have hk3 : k ≤ 2 := by omega
    refine jcr ?_
    refine jq jrm ?_
    refine jq jrm ?_
    refine jq jrl ?_
    refine jq jra ?_
    refine jq (jrv .i64 .u8) ?_
    refine jqe (jebl 1 1 zr5 fun p1 => ?_)
    refine jqm (m_appendB (l2 := [b8 (128 + k)]) rfl rfl rfl (Nat.le_refl _) (fun _ _ => CEnt.refl _) (src_os rfl (.inl rfl) (by decide)) rfl (hh_bytes (.cons (CEnt.int ((by rw [b8_mod]; simp only [hlk]; omega))) .nil)) Tryz.underlying26 nu26 sz5 zr5 by5 rfl (by (simp; omega)) (leaf_fl rfl rfl) rfl rfl (fun p2 => ?_))
    refine jq jrm ?_
    refine seq_nil ?_
    refine jcr ?_
    refine jq jrm ?_
    refine jqm (jmcH 0 (reverse8_ac _ (lowL n k ++ [b8 (128 + k)]) (by simp [hlk]; omega)) ?_)
    rintro _ _ ⟨rfl, rfl⟩
    refine ⟨_, _, rfl, CEnt.refl _, ?_⟩
    refine seq_nil ?_
    refine jcr ?_
    refine jq jrm ?_
    refine jq jrm ?_
    refine seq_nil ?_
    refine code_ent (freeze 0 rfl) ?_
    refine code_ent (thawB 2 ((lowL n k ++ [b8 (128 + k)]).reverse) rfl rfl (by simp) rfl) ?_
    refine code_ret (jrt (hv := ?_))
    refine CEnt.bs ?_
    rcases hk with rfl | rfl | ⟨rfl, h2⟩
    · simp at h43; omega
    · simp at h43
      unfold lenL
      rw [if_neg (by omega), if_pos (by omega)]
      simp [lowL, List.range_succ]
      rfl
    · unfold lenL
      rw [if_neg (by omega), if_neg (by omega), if_pos (by omega)]
      simp [lowL, List.range_succ]
      rfl
/-- tag and body -/
def elC (tag : Nat) (body : List UInt8) : CV := .agg 2 (fl [.c (.int .i64 tag), bsC body])
theorem measure_ac (b : List UInt8) : ACp gs Tryz.prog 108 [bsC b] (.tup 3 (fl [.c (.int .i64 (measM b).n), bsC (measM b).rest, .err (measM b).e])) := by
  refine ac_of 67 Tryz.func108 rfl rfl rfl (fun al w0 F0 St0 => ?_)
  refine jcr ?_
  refine jq jrm ?_
  refine jq jrm ?_
  refine jq jrm ?_
  refine seq_nil ?_
  refine jcs ?_
  refine jcr ?_
  refine jq jrm ?_
  refine jq jrl ?_
  refine jq jrc ?_
  refine seq_nil ?_
  refine jcc (fun h72 => ?_) fun h72 => ?_
  · refine jcs ?_
    refine jcd (.rd 0 (.rd 1 (.rd 2 (.rd 3 .done)))) ?_
    refine jyq (jrde 1) ?_
    refine jyq jrm ?_
    refine jyq jrm ?_
    refine jyq jrm ?_
    refine jyd ?_
    refine jtn ?_
    refine code_ret (jtr (jrt (hv := ?_)))
    have : b.length = 0 := by omega
    unfold measM
    rw [if_pos this]
    exact CEnt.tup3 (CEnt.refl _) CEnt.nilB (CEnt.refl _)
  refine code_skip (jtn ?_)
  refine jcs ?_
  refine jcd (.rd 0 (.rd 1 (.rd 2 (.rd 3 (.rd 4 (.rd 5 (.rd 6 (.rd 7 .done)))))))) ?_
  refine jyq jrm ?_
  refine jyq (jri (i := 0)) ?_
  refine jyq jrdr ?_
  refine jyq (jrv8 .i64) ?_
  refine jyq jrm ?_
  refine jyq (jrsf (hz1 := (show (1 : Int) = ((1 : Nat) : Int) from rfl))) ?_
  refine jyq jrm ?_
  refine jyq jrm ?_
  refine jyd ?_
  refine jtn ?_
  refine jcs ?_
  obtain ⟨c, hc⟩ : ∃ c, c = (b.getD 0 0).toNat := ⟨_, rfl⟩
  obtain ⟨r, hr⟩ : ∃ r, r = b.drop 1 := ⟨_, rfl⟩
  have c8 : c < 256 := by rw [hc]; exact (b.getD 0 0).toNat_lt
  have hM := measM_ne (by omega) hc hr
  refine code_ent (weaken 5 (.c (.int .i64 (c : Nat))) (CEnt.int (by rw [hc]))) ?_
  refine code_ent (weaken 0 (bsC r) (CEnt.bs hr.symm)) ?_
  refine jcr ?_
  refine jq jrm ?_
  refine jq jrc ?_
  refine seq_nil ?_
  refine jcc (fun h76 => ?_) fun h76 => ?_
  · refine jcr ?_
    refine jq jrm ?_
    refine jq jrm ?_
    refine jq jrm ?_
    refine jq jrm ?_
    refine jq jrm ?_
    refine seq_nil ?_
    refine code_ret (jtr (jrt (hv := ?_)))
    rw [hM, if_pos (by omega)]
    exact CEnt.tup3 (CEnt.refl _) (CEnt.refl _) CEnt.nil
  refine code_skip (jtn ?_)
  refine jcr ?_
  refine jq jrm ?_
  refine jq jra ?_
  refine jq jrm ?_
  refine seq_nil ?_
  refine jcs ?_
  refine code_block ?_
  refine jcr ?_
  refine jq jrm ?_
  refine jq jrc ?_
  refine jq jrm ?_
  refine jqsp 29 (fun g81 => ?_) fun g81 => ?_
  · refine jqs ?_
    refine jqs ?_
    refine jq jrpT ?_
    refine jq jrm ?_
    refine seq_nil ?_
    refine jcT ?_
    refine jcs ?_
    refine jcd (.rd 0 (.rd 1 (.rd 2 (.rd 3 .done)))) ?_
    refine jyq (jrde 3) ?_
    refine jyq jrm ?_
    refine jyq jrm ?_
    refine jyq jrm ?_
    refine jyd ?_
    refine jtn ?_
    refine code_ret (jbr (jtr (jrt (hv := ?_))))
    rw [hM, if_neg (by omega), if_pos (by omega)]
    exact CEnt.tup3 (CEnt.refl _) CEnt.nilB (CEnt.refl _)
  refine jq jrm ?_
  refine jq jrc ?_
  refine jq jrpF ?_
  refine jq jrm ?_
  refine seq_nil ?_
  refine jcc (fun h81 => ?_) fun h81 => ?_
  · refine jcs ?_
    refine jcd (.rd 0 (.rd 1 (.rd 2 (.rd 3 .done)))) ?_
    refine jyq (jrde 3) ?_
    refine jyq jrm ?_
    refine jyq jrm ?_
    refine jyq jrm ?_
    refine jyd ?_
    refine jtn ?_
    refine code_ret (jbr (jtr (jrt (hv := ?_))))
    rw [hM, if_neg (by omega), if_pos (by omega)]
    exact CEnt.tup3 (CEnt.refl _) CEnt.nilB (CEnt.refl _)
  refine jcr ?_
  refine jq jrm ?_
  refine jq jrl ?_
  refine jq jrm ?_
  refine jq jrc ?_
  refine jq jrm ?_
  refine seq_nil ?_
  refine jcc (fun h83 => ?_) fun h83 => ?_
  · refine jcs ?_
    refine jcd (.rd 0 (.rd 1 (.rd 2 (.rd 3 .done)))) ?_
    refine jyq (jrde 1) ?_
    refine jyq jrm ?_
    refine jyq jrm ?_
    refine jyq jrm ?_
    refine jyd ?_
    refine jtn ?_
    refine code_ret (jbr (jtr (jrt (hv := ?_))))
    rw [hM, if_neg (by omega), if_neg (by omega), if_pos (by omega)]
    exact CEnt.tup3 (CEnt.refl _) CEnt.nilB (CEnt.refl _)
  refine code_skip (jbn (jtn ?_))
  obtain ⟨w, hw⟩ : ∃ w, w = c - 128 := ⟨_, rfl⟩
  have hwr : w ≤ r.length := by omega
  refine code_ent (weaken 6 (.c (.int .i64 (w : Nat))) (CEnt.int (by omega))) ?_
  refine jcr ?_
  refine jq jrm ?_
  refine seq_nil ?_
  refine jcs ?_
  have htl : (r.take w).length = w := by simp; omega
  refine jcr ?_
  refine jq jrm ?_
  refine jq jrm ?_
  refine jq jrst ?_
  refine jq jrl ?_
  refine jq jrm ?_
  refine seq_nil ?_
  refine code_block ?_
  refine l_loop (α := Nat) [7, 9, 44, 45, 46, 47, 48, 49, 50, 51, 52, 53] (fun i => [(7, .c (.int .i64 (beN ((r.take w).take i) : Nat))), (44, .c (.int .i64 (i : Nat)))]) (fun _ => []) (fun i => i ≤ w) (fun i => w - i) (0) ?_ (fun _ => rfl) ?_ ?_ ?_
  · exact Nat.zero_le _
  · (repeat (first | exact EntE.nil | refine EntE.cons (CEnt.refl _) ?_ | refine EntE.cons (CEnt.int (by omega)) ?_))
  · (repeat (first | exact HEnt.nil | refine HEnt.same ?_ | refine HEnt.blk rfl (fun j hj => by rcases j with _|_|_|_|_|_|_|_|j <;> first | exact CEnt.refl _ | exact CEnt.int (by omega) | omega) ?_))
  · rintro i (hi : i ≤ w)
    have htl : (r.take w).length = w := by simp; omega
    refine jcr ?_
    refine jq jrc ?_
    refine seq_nil ?_
    refine jcs ?_
    refine jcc (fun h87 => ?_) fun h87 => ?_
    · refine code_skip (jtn ?_)
      refine jcs ?_
      refine code_block ?_
      have htl : (r.take w).length = w := by simp; omega
      refine jcr ?_
      refine jq jri ?_
      refine jq jrdr ?_
      refine jq jrm ?_
      refine seq_nil ?_
      have hbn := beN_lt ((r.take w).take i)
      have hbl : ((r.take w).take i).length = i := by simp; omega
      have hb3 : beN ((r.take w).take i) < 16777216 := by
        rw [hbl] at hbn
        have : i ≤ 3 := by omega
        have := Nat.pow_le_pow_right (n := 256) (by decide) this
        omega
      have hc8 := ((r.take w).getD i 0).toNat_lt
      refine jcg ?_
      refine jq jrm ?_
      refine jq (rd_shl rfl rfl rfl (by (omega)) (((beN ((r.take w).take i) * 256 : Nat) : Int)) ((by show IntKind.i64.wrap (((beN ((r.take w).take i) : Nat) : Int) * 2 ^ 8) = _; rw [IntWalk.i64_in _ (by omega)]; omega))) ?_
      refine jq jrm ?_
      refine jq (jrv8 .i64) ?_
      refine jq jra ?_
      refine jq jrm ?_
      refine seq_nil ?_
      refine jbn (jtn ?_)
      have htl : (r.take w).length = w := by simp; omega
      refine jcg ?_
      refine jq jra ?_
      refine jq jrm ?_
      refine seq_nil ?_
      refine jtn ?_
      refine jlend (i + 1) ?_ ?_ (h5 := ?_)
      · show i + 1 ≤ w; omega
      · omega
      · exact .cons (CEnt.int (by rw [beN_take (by omega)]; omega)) (.cons (CEnt.refl _) .nil)
    refine code_exit (jte (jte (jbx (jtn ?_))))
    refine jcs ?_
    have hiw : i = w := by omega
    have htt : (r.take w).take i = r.take (c - 128) := by rw [hiw, hw, List.take_take, Nat.min_self]
    refine code_ent (weaken 7 (.c (.int .i64 (beN (r.take (c - 128)) : Nat))) (CEnt.int (by rw [htt]))) ?_
    refine jcr ?_
    refine jq jrm ?_
    refine jq jrc ?_
    refine jq jrm ?_
    refine jqsp 56 (fun g90 => ?_) fun g90 => ?_
    · refine jqs ?_
      refine jqs ?_
      refine jqs ?_
      refine jqs ?_
      refine jq jrpT ?_
      refine seq_nil ?_
      refine jcT ?_
      refine jcs ?_
      refine jcd (.rd 0 (.rd 1 (.rd 2 (.rd 3 .done)))) ?_
      refine jyq (jrde 3) ?_
      refine jyq jrm ?_
      refine jyq jrm ?_
      refine jyq jrm ?_
      refine jyd ?_
      refine jtn ?_
      refine code_ret (jtr (jrt (hv := ?_)))
      rw [hM, if_neg (by omega), if_neg (by omega), if_neg (by omega), if_pos (by omega)]
      exact CEnt.tup3 (CEnt.refl _) CEnt.nilB (CEnt.refl _)
    refine jq jrm ?_
    refine jq (jri (i := 0)) ?_
    refine jq jrdr ?_
    refine jq jrc ?_
    refine jq jrpF ?_
    refine seq_nil ?_
    refine jcc (fun h90 => ?_) fun h90 => ?_
    · refine jcs ?_
      refine jcd (.rd 0 (.rd 1 (.rd 2 (.rd 3 .done)))) ?_
      refine jyq (jrde 3) ?_
      refine jyq jrm ?_
      refine jyq jrm ?_
      refine jyq jrm ?_
      refine jyd ?_
      refine jtn ?_
      refine code_ret (jtr (jrt (hv := ?_)))
      rw [hM, if_neg (by omega), if_neg (by omega), if_neg (by omega), if_pos (by omega)]
      exact CEnt.tup3 (CEnt.refl _) CEnt.nilB (CEnt.refl _)
    refine code_skip (jtn ?_)
    refine jcs ?_
    refine jcd (.rd 0 (.rd 1 (.rd 2 (.rd 3 (.rd 4 (.rd 5 (.rd 6 .done))))))) ?_
    refine jyq jrm ?_
    refine jyq jrm ?_
    refine jyq jrm ?_
    refine jyq jrsf ?_
    refine jyq jrm ?_
    refine jyq jrm ?_
    refine jyq jrm ?_
    refine jyd ?_
    refine jtn ?_
    refine code_ret (jrt (hv := ?_))
    rw [hM, if_neg (by omega), if_neg (by omega), if_neg (by omega), if_neg (by omega)]
    refine CEnt.tup3 (CEnt.refl _) (CEnt.bs ?_) CEnt.nil
    rw [hw]
end Am
end Go.Proofs.YtjckfbpdieijeaaGreatDoor

/- Chapter 3: the first element of bytes, how many levels an element has. -/
namespace Go.Proofs.YtjckfbpdieijeaaGreatDoor
set_option linter.unusedVariables false
namespace Am
variable {gs : List Nat} [OkG gs]
open Go.RowKit
set_option maxRecDepth 100000

theorem next_ac (b : List UInt8) (hb : b.length ≤ 10000000) : ACp gs Tryz.prog 63 [bsC b] (.tup 3 (fl [elC (nextM b).tag (nextM b).body, bsC (nextM b).rest, .err (nextM b).e])) := by
  have hml := measM_rest (b.drop 1)
  refine ac_of 56 Tryz.func63 rfl rfl rfl (fun al w0 F0 St0 => ?_)
  refine jcr ?_
  refine jqe (jeal (n := 2) zr68 rfl fun p1 => ?_)
  refine jq jrm ?_
  refine jq jrm ?_
  refine seq_nil ?_
  refine jcs ?_
  refine jcr ?_
  refine jq jrm ?_
  refine jq jrl ?_
  refine jq jrc ?_
  refine seq_nil ?_
  refine jcc (fun h98 => ?_) fun h98 => ?_
  · refine jcs ?_
    refine jcdZ (.rd 0 (.rd 1 (.one 2 (.rd 3 (.rd 4 .done))))) ?_
    refine jzq (rd_build (n := 2) rfl zr68 pl68 rfl rfl) ?_
    refine jzq (jrde 1) ?_
    refine jzm (jmst 2 ?_)
    refine jzq jrm ?_
    refine jzq jrm ?_
    refine jzd ?_
    refine jtn ?_
    refine code_ret (jtr (jrt (hres := res_3 rfl (javA 2) javt javt) (hv := ?_)))
    have : b.length = 0 := by omega
    unfold nextM
    rw [if_pos this]
    exact CEnt.tup3 (CEnt.agg2 (CEnt.refl _) CEnt.nilB) CEnt.nilB (CEnt.refl _)
  refine code_skip (jtn ?_)
  refine jcr ?_
  refine jq jrm ?_
  refine jq (jri (i := 0)) ?_
  refine jq jrdr ?_
  refine jq (jrv8 .i64) ?_
  refine jq jrm ?_
  refine seq_nil ?_
  refine jcs ?_
  obtain ⟨t, ht⟩ : ∃ t, t = (b.getD 0 0).toNat := ⟨_, rfl⟩
  refine code_ent (weaken 5 (.c (.int .i64 (t : Nat))) (CEnt.int (by rw [ht]))) ?_
  refine jcr ?_
  refine jq jrm ?_
  refine jqe (jecP (known_ac _) ?_)
  refine jq jrn ?_
  refine seq_nil ?_
  refine jcc (fun h102 => ?_) fun h102 => ?_
  · refine jcs ?_
    refine jcdZ (.rd 0 (.rd 1 (.one 2 (.rd 3 (.rd 4 .done))))) ?_
    refine jzq (rd_build (n := 2) rfl zr68 pl68 rfl rfl) ?_
    refine jzq (jrde 4) ?_
    refine jzm (jmst 2 ?_)
    refine jzq jrm ?_
    refine jzq jrm ?_
    refine jzd ?_
    refine jtn ?_
    refine code_ret (jtr (jrt (hres := res_3 rfl (javA 2) javt javt) (hv := ?_)))
    have hk : knownM (t : Nat) = false := by simpa using h102
    unfold nextM
    rw [if_neg (by omega), if_pos (by rw [← ht]; exact hk)]
    exact CEnt.tup3 (CEnt.agg2 (CEnt.refl _) CEnt.nilB) CEnt.nilB (CEnt.refl _)
  refine code_skip (jtn ?_)
  have hk : knownM (t : Nat) = true := by simpa using h102
  have hN := nextM_ne (by omega) ht hk rfl
  refine jcr ?_
  refine jq jrm ?_
  refine jq (jrsf (hz1 := (show (1 : Int) = ((1 : Nat) : Int) from rfl))) ?_
  refine jqe (jecP (measure_ac _) ?_)
  refine jq jrm ?_
  refine jq jrx ?_
  refine jq jrx ?_
  refine jq jrx ?_
  refine jq jrm ?_
  refine jq jrm ?_
  refine jq jrm ?_
  refine seq_nil ?_
  refine jcs ?_
  refine code_block ?_
  refine jcr ?_
  refine jq jrm ?_
  refine jq jre ?_
  refine jq jrm ?_
  refine seq_nil ?_
  refine jcc (fun h107 => ?_) fun h107 => ?_
  · refine jcr ?_
    refine jq (rd_build (n := 2) rfl zr68 pl68 rfl rfl) ?_
    refine jq jrm ?_
    refine jqm (jmst 2 ?_)
    refine jq jrm ?_
    refine jq jrm ?_
    refine seq_nil ?_
    refine code_ret (jbr (jtr (jrt (hres := res_3 rfl (javA 2) javt javt) (hv := ?_))))
    rw [hN, if_pos (by omega)]
    exact CEnt.tup3 (CEnt.agg2 (CEnt.refl _) CEnt.nilB) CEnt.nilB (CEnt.refl _)
  refine jcr ?_
  refine jq jrm ?_
  refine jq jrc ?_
  refine jq jrm ?_
  refine seq_nil ?_
  refine jcc (fun h109 => ?_) fun h109 => ?_
  · refine jcs ?_
    refine jcdZ (.rd 0 (.rd 1 (.one 2 (.rd 3 (.rd 4 .done))))) ?_
    refine jzq (rd_build (n := 2) rfl zr68 pl68 rfl rfl) ?_
    refine jzq (jrde 2) ?_
    refine jzm (jmst 2 ?_)
    refine jzq jrm ?_
    refine jzq jrm ?_
    refine jzd ?_
    refine jtn ?_
    refine code_ret (jbr (jtr (jrt (hres := res_3 rfl (javA 2) javt javt) (hv := ?_))))
    rw [hN, if_neg (by omega), if_pos (by omega)]
    exact CEnt.tup3 (CEnt.agg2 (CEnt.refl _) CEnt.nilB) CEnt.nilB (CEnt.refl _)
  refine jcr ?_
  refine jq jrm ?_
  refine jq jrm ?_
  refine jq jrl ?_
  refine jq jrc ?_
  refine jq jrm ?_
  refine seq_nil ?_
  refine jcc (fun h111 => ?_) fun h111 => ?_
  · refine jcs ?_
    refine jcdZ (.rd 0 (.rd 1 (.one 2 (.rd 3 (.rd 4 .done))))) ?_
    refine jzq (rd_build (n := 2) rfl zr68 pl68 rfl rfl) ?_
    refine jzq (jrde 1) ?_
    refine jzm (jmst 2 ?_)
    refine jzq jrm ?_
    refine jzq jrm ?_
    refine jzd ?_
    refine jtn ?_
    refine code_ret (jbr (jtr (jrt (hres := res_3 rfl (javA 2) javt javt) (hv := ?_))))
    rw [hN, if_neg (by omega), if_neg (by omega), if_pos (by omega)]
    exact CEnt.tup3 (CEnt.agg2 (CEnt.refl _) CEnt.nilB) CEnt.nilB (CEnt.refl _)
  refine code_skip (jbn (jtn ?_))
  refine jcs ?_
  refine jcdB 10 (.rd 0 (.rd 1 (.rd 2 (.rd 3 (.rd 6 (.rd 7 (.rd 8 (.one 4 (.rd 5 (.one 9 .done)))))))))) ?_
  refine jyq jrm ?_
  refine jyq jrm ?_
  refine jyq jrm ?_
  refine jyq jrst ?_
  refine jyq jrm ?_
  refine jyq jrm ?_
  refine jyq jrsf ?_
  refine jye (jecP (clone8_ac ((measM (b.drop 1)).rest.take (measM (b.drop 1)).n) (by rw [List.length_take]; have := hml.1; rw [List.length_drop] at this; omega)) ?_)
  refine jyq (rd_build (n := 2) rfl zr68 pl68 rfl rfl) ?_
  refine jye (jecP (clone8_ac ((measM (b.drop 1)).rest.drop (measM (b.drop 1)).n) (by rw [List.length_drop]; have := hml.1; rw [List.length_drop] at this; omega)) ?_)
  refine jyd ?_
  show ASeq _ _ _ _ _ _
  refine jqm (jmst 2 ?_)
  refine jq jrm ?_
  refine jq jrm ?_
  refine seq_nil ?_
  refine jtn ?_
  refine code_ret (jrt (hres := res_3 rfl (javA 2) javt javt) (hv := ?_))
  rw [hN, if_neg (by omega), if_neg (by omega), if_neg (by omega)]
  exact CEnt.tup3 (CEnt.agg2 (CEnt.refl _) (CEnt.refl _)) (CEnt.refl _) CEnt.nil

theorem loopW_nil (rec : Nat → List UInt8 → Nat × Nat) (set : Bool) (lv fuel : Nat) (last : List UInt8) (dp : Nat) : loopW rec set lv fuel [] last dp = (dp, 0) := by
  cases fuel <;> simp [loopW]
theorem loopW_step (rec : Nat → List UInt8 → Nat × Nat) (set : Bool) (lv fuel : Nat) (b last : List UInt8) (dp : Nat) (hb : 0 < b.length) (hf : b.length ≤ fuel) : loopW rec set lv fuel b last dp =
    if (nextM b).e ≠ 0 then (0, (nextM b).e) else
    if lv ≤ 1 then (0, 6) else
    if (rec (nextM b).tag (nextM b).body).2 ≠ 0 then (0, (rec (nextM b).tag (nextM b).body).2) else
    if set = true ∧ Op.bytesLess (b.take (b.length - (nextM b).rest.length)) last = true then (0, 7) else
    loopW rec set lv (fuel - 1) (nextM b).rest (b.take (b.length - (nextM b).rest.length)) (max dp ((rec (nextM b).tag (nextM b).body).1 + 1)) := by
  obtain ⟨m, rfl⟩ : ∃ m, fuel = m + 1 := ⟨fuel - 1, by omega⟩
  rw [loopW, if_neg (by omega)]
  rfl
structure WS where
  f : Nat
  b : List UInt8
  last : List UInt8
  dp : Nat
theorem whole_ac : ∀ (lv tag : Nat) (body : List UInt8), lv < 16 → body.length ≤ 1000000 → ACp gs Tryz.prog 113 [elC tag body, .c (.int .i64 ((lv + 1 : Nat) : Int))] (.tup 2 (fl [.c (.int .i64 (wholeM (lv + 1) tag body).1), .err (wholeM (lv + 1) tag body).2])) := by
  intro lv
  induction lv using Nat.strongRecOn with
  | _ lv ih =>
  intro tag body hlv hbody
  have ih' : 1 ≤ lv → ∀ (tag : Nat) (body : List UInt8), body.length ≤ 1000000 → ACp gs Tryz.prog 113 [elC tag body, .c (.int .i64 (lv : Nat))] (.tup 2 (fl [.c (.int .i64 (wholeM lv tag body).1), .err (wholeM lv tag body).2])) := fun h tag body hb => by
    have := ih (lv - 1) (by omega) tag body (by omega) hb
    rwa [show lv - 1 + 1 = lv by omega] at this
  have hR : ∀ t b, (wholeM lv t b).1 ≤ lv + 1 ∧ (wholeM lv t b).2 ≤ 7 := fun t b => wholeM_bd lv t b
  refine ac_of 70 Tryz.func113 rfl rfl rfl (fun al w0 F0 St0 => ?_)
  refine jcr ?_
  refine jqe (jebx 2 fun p1 => ?_)
  refine jq jrm ?_
  refine jq jrm ?_
  refine seq_nil ?_
  refine jcr ?_
  refine jq jrm ?_
  refine seq_nil ?_
  refine jcs ?_
  refine jcr ?_
  refine jq (jrfa 0 1 false) ?_
  refine jqo jrdo ?_
  refine jqe (jecP (made_ac _) ?_)
  refine jq jrn ?_
  refine seq_nil ?_
  refine jcc (fun h134 => ?_) fun h134 => ?_
  · refine jcr ?_
    refine jq jrm ?_
    refine jq jrm ?_
    refine jq jrm ?_
    refine seq_nil ?_
    refine code_ret (jtr (jrt (hv := ?_)))
    have hmd : madeM (tag : Nat) = false := decide_eq_false h134
    rw [wholeM, if_pos hmd]
    exact CEnt.tup2 (CEnt.refl _) CEnt.nil
  refine code_skip (jtn ?_)
  have hmd : madeM (tag : Nat) = true := decide_eq_true (Decidable.not_not.1 h134)
  have hw0 : wholeM (lv + 1) tag body = loopW (wholeM lv) (decide (tag = 49)) (lv + 1) body.length body [] 1 := by
    rw [wholeM, if_neg (by rw [hmd]; exact Bool.noConfusion)]
  refine jcr ?_
  refine jq jrm ?_
  refine seq_nil ?_
  refine jcs ?_
  refine jcr ?_
  refine jq (jrfa 1 1 false) ?_
  refine jqo jrdo ?_
  refine jq jrm ?_
  refine seq_nil ?_
  refine code_block ?_
  refine l_loop (α := WS × Option Nat) [4, 5, 6, 7, 8, 9, 10, 11, 12, 13, 21, 22, 23, 24, 25, 26, 27, 28, 29, 30, 31, 32, 33, 34, 35, 36, 37, 38, 39, 40, 41, 42, 43, 44, 45, 46, 47, 48, 49, 50, 51, 52, 53, 54, 55, 56, 57, 58, 59, 60, 61, 62, 63, 64, 65, 66, 67, 68] (fun (x, g) => [(6, .c (.int .i64 (x.dp : Nat))), (7, bsC x.last), (8, bsC x.b)]) (fun (x, g) => [(p1, .blk 2 (fl [.c (.int .i64 tag), bsC body]))]) (fun x => x.1.b.length ≤ x.1.f ∧ x.1.b.length ≤ 1000000 ∧ x.1.dp ≤ lv + 2 ∧ loopW (wholeM lv) (decide (tag = 49)) (lv + 1) x.1.f x.1.b x.1.last x.1.dp = wholeM (lv + 1) tag body) (fun x => x.1.f) ((⟨body.length, body, [], 1⟩, none)) ?_ (fun _ => rfl) ?_ ?_ ?_
  · exact ⟨Nat.le_refl _, hbody, by show 1 ≤ lv + 2; omega, hw0.symm⟩
  · exact .cons (CEnt.refl _) (.cons CEnt.nilB (.cons (CEnt.refl _) .nil))
  · exact .same .nil
  · rintro ⟨x, g'⟩ ⟨hxf, hxb', hdp, hw⟩
    dsimp only at hxf hxb' hdp hw
    have hxb : x.b.length ≤ 10000000 := by omega
    have hnb := nextM_bd x.b
    refine jcs ?_
    refine jcr ?_
    refine jq jrm ?_
    refine jq jrl ?_
    refine jq jrc ?_
    refine seq_nil ?_
    refine jcc (fun h138 => ?_) fun h138 => ?_
    rotate_left
    · refine code_exit (jte (jte (jbx (jtn ?_))))
      refine jcr ?_
      refine jq jrm ?_
      refine jq jrm ?_
      refine jq jrm ?_
      refine seq_nil ?_
      refine code_ret (jrt (hv := ?_))
      have hnil : x.b = [] := List.eq_nil_of_length_eq_zero (by omega)
      rw [← hw, hnil, loopW_nil]
      exact CEnt.tup2 (CEnt.refl _) CEnt.nil
    refine code_skip (jtn ?_)
    refine code_block ?_
    refine jcr ?_
    refine jq jrm ?_
    refine jqe (jecP (next_ac x.b hxb) ?_)
    refine jq jrm ?_
    refine jq jrx ?_
    refine jq jrx ?_
    refine jq jrx ?_
    refine jqe (jeal (n := 2) zr68 rfl fun p2 => ?_)
    refine jqm (jmst 2 ?_)
    refine jq jrm ?_
    refine jq jrm ?_
    refine seq_nil ?_
    refine jcs ?_
    refine jcr ?_
    refine jq jrm ?_
    refine jq jre ?_
    refine seq_nil ?_
    refine jcc (fun h140 => ?_) fun h140 => ?_
    · refine jcr ?_
      refine jq jrm ?_
      refine jq jrm ?_
      refine jq jrm ?_
      refine seq_nil ?_
      refine code_ret (jtr (jbr (jtr (jbr (jtr (jrt (hv := ?_)))))))
      rw [← hw, loopW_step _ _ _ _ _ _ _ (by omega) hxf, if_pos h140]
      exact CEnt.refl _
    refine code_skip (jtn ?_)
    refine jcs ?_
    refine jcr ?_
    refine jq jrm ?_
    refine jq jrc ?_
    refine seq_nil ?_
    refine jcc (fun h143 => ?_) fun h143 => ?_
    · refine jcs ?_
      refine jcd (.rd 0 (.rd 1 (.rd 2 .done))) ?_
      refine jyq (jrde 5) ?_
      refine jyq jrm ?_
      refine jyq jrm ?_
      refine jyd ?_
      refine jtn ?_
      refine code_ret (jtr (jbr (jtr (jbr (jtr (jrt (hv := ?_)))))))
      rw [← hw, loopW_step _ _ _ _ _ _ _ (by omega) hxf, if_neg h140, if_pos (by omega)]
      exact CEnt.refl _
    refine code_skip (jtn ?_)
    refine jcr ?_
    refine jqo (jrdoA 2) ?_
    refine jq jrm ?_
    refine jq jra ?_
    refine jqe (jecP (ih' (by omega) (nextM x.b).tag (nextM x.b).body (by omega)) ?_ (ho := rfl) (he := (.cons (se rfl (CEnt.agg2 (CEnt.refl _) (CEnt.refl _))) (.cons (se rfl (CEnt.int (by omega))) .nil))))
    refine jq jrm ?_
    refine jq jrx ?_
    refine jq jrx ?_
    refine jq jrm ?_
    refine jq jrm ?_
    refine seq_nil ?_
    refine jcs ?_
    have hRx := hR (nextM x.b).tag (nextM x.b).body
    refine jcr ?_
    refine jq jrm ?_
    refine jq jre ?_
    refine seq_nil ?_
    refine jcc (fun h147 => ?_) fun h147 => ?_
    · refine jcr ?_
      refine jq jrm ?_
      refine jq jrm ?_
      refine jq jrm ?_
      refine seq_nil ?_
      refine code_ret (jtr (jbr (jtr (jbr (jtr (jrt (hv := ?_)))))))
      rw [← hw, loopW_step _ _ _ _ _ _ _ (by omega) hxf, if_neg h140, if_neg (by omega), if_pos h147]
      exact CEnt.refl _
    refine code_skip (jtn ?_)
    refine jcr ?_
    refine jq jrm ?_
    refine jq jrm ?_
    refine jq jrl ?_
    refine jq jrm ?_
    refine jq jrl ?_
    refine jq jra ?_
    refine jq (jrst (hz2 := (show _ = (((x.b.length - (nextM x.b).rest.length) : Nat) : Int) by omega))) ?_
    refine jq jrm ?_
    refine seq_nil ?_
    refine jcs ?_
    refine jcr ?_
    refine jq (jrfa 0 1 false) ?_
    refine jqo jrdo ?_
    refine jq jrc ?_
    refine jq jrm ?_
    refine jqsp 56 (fun g151 => ?_) fun g151 => ?_
    rotate_left
    · refine jqs ?_
      refine jqs ?_
      refine jqs ?_
      refine jqs ?_
      refine jq jrpF ?_
      refine seq_nil ?_
      refine jcF ?_
      refine code_skip (jtn ?_)
      refine jcr ?_
      refine jq jrm ?_
      refine jq jrm ?_
      refine jq jra ?_
      refine jq (rd_max2 rfl rfl rfl) ?_
      refine jq jrm ?_
      refine seq_nil ?_
      refine jcg ?_
      refine jq jrm ?_
      refine jq jrm ?_
      refine jq jrm ?_
      refine jq jrm ?_
      refine seq_nil ?_
      refine jbn (jtn ?_)
      refine jlend ((⟨x.f - 1, (nextM x.b).rest, x.b.take (x.b.length - (nextM x.b).rest.length), max x.dp ((wholeM lv (nextM x.b).tag (nextM x.b).body).1 + 1)⟩, none)) ?_ ?_ (h5 := ?_) (h7 := ?_)
      · exact ⟨by dsimp only; omega, by dsimp only; omega, by dsimp only; omega, by
          dsimp only
          rw [← hw, loopW_step _ _ _ _ _ _ _ (by omega) hxf, if_neg h140, if_neg (by omega), if_neg h147, if_neg (by
            rintro ⟨h1, h2⟩
            have h1 := of_decide_eq_true h1
            rw [← cmpL_lt] at h2
            have h2 := of_decide_eq_true h2
            omega)]⟩
      · dsimp only
        omega
      · exact .cons (CEnt.int (by dsimp only; omega)) (.cons (CEnt.refl _) (.cons (CEnt.refl _) .nil))
      · exact .same .nil
    refine jq jrm ?_
    refine jq jrm ?_
    refine jqe (jecP (compare8_ac (x.b.take (x.b.length - (nextM x.b).rest.length)) x.last) ?_)
    refine jq jrc ?_
    refine jq jrpT ?_
    refine seq_nil ?_
    refine jcc (fun h151 => ?_) fun h151 => ?_
    · refine jcs ?_
      refine jcd (.rd 0 (.rd 1 (.rd 2 .done))) ?_
      refine jyq (jrde 6) ?_
      refine jyq jrm ?_
      refine jyq jrm ?_
      refine jyd ?_
      refine jtn ?_
      refine code_ret (jtr (jbr (jtr (jbr (jtr (jrt (hv := ?_)))))))
      rw [← hw, loopW_step _ _ _ _ _ _ _ (by omega) hxf, if_neg h140, if_neg (by omega), if_neg h147, if_pos ⟨decide_eq_true (by omega), by rw [← cmpL_lt]; exact decide_eq_true (by omega)⟩]
      exact CEnt.refl _
    refine code_skip (jtn ?_)
    refine jcr ?_
    refine jq jrm ?_
    refine jq jrm ?_
    refine jq jra ?_
    refine jq (rd_max2 rfl rfl rfl) ?_
    refine jq jrm ?_
    refine seq_nil ?_
    refine jcg ?_
    refine jq jrm ?_
    refine jq jrm ?_
    refine jq jrm ?_
    refine jq jrm ?_
    refine seq_nil ?_
    refine jbn (jtn ?_)
    refine jlend ((⟨x.f - 1, (nextM x.b).rest, x.b.take (x.b.length - (nextM x.b).rest.length), max x.dp ((wholeM lv (nextM x.b).tag (nextM x.b).body).1 + 1)⟩, none)) ?_ ?_ (h5 := ?_) (h7 := ?_)
    · exact ⟨by dsimp only; omega, by dsimp only; omega, by dsimp only; omega, by
        dsimp only
        rw [← hw, loopW_step _ _ _ _ _ _ _ (by omega) hxf, if_neg h140, if_neg (by omega), if_neg h147, if_neg (by
          rintro ⟨h1, h2⟩
          have h1 := of_decide_eq_true h1
          rw [← cmpL_lt] at h2
          have h2 := of_decide_eq_true h2
          omega)]⟩
    · dsimp only
      omega
    · exact .cons (CEnt.int (by dsimp only; omega)) (.cons (CEnt.refl _) (.cons (CEnt.refl _) .nil))
    · exact .same .nil
end Am
end Go.Proofs.YtjckfbpdieijeaaGreatDoor

/- Chapter 3: whole elements, the example, the laws TlvTags and TlvNests. -/
namespace Go.Proofs.YtjckfbpdieijeaaGreatDoor
set_option linter.unusedVariables false
namespace Am
variable {gs : List Nat} [OkG gs]
open Go.RowKit
set_option maxRecDepth 100000

theorem depth_ac (b : List UInt8) (hb : b.length ≤ 10000000) : ACp gs Tryz.prog 67 [bsC b] (.tup 2 (fl [.c (.int .i64 (depthM b).1), .err (depthM b).2])) := by
  have hnb := nextM_bd b
  refine ac_of 30 Tryz.func67 rfl rfl rfl (fun al w0 F0 St0 => ?_)
  refine jcr ?_
  refine jq jrm ?_
  refine jq jrm ?_
  refine seq_nil ?_
  refine jcs ?_
  refine jcr ?_
  refine jq jrm ?_
  refine jq jrl ?_
  refine jq jrc ?_
  refine seq_nil ?_
  refine jcc (fun h162 => ?_) fun h162 => ?_
  · refine jcs ?_
    refine jcd (.rd 0 (.rd 1 (.rd 2 .done))) ?_
    refine jyq (jrde 2) ?_
    refine jyq jrm ?_
    refine jyq jrm ?_
    refine jyd ?_
    refine jtn ?_
    refine code_ret (jtr (jrt (hv := ?_)))
    unfold depthM
    rw [if_pos (by omega)]
    exact CEnt.refl _
  refine code_skip (jtn ?_)
  refine jcr ?_
  refine jq jrm ?_
  refine jqe (jecP (next_ac b hb) ?_)
  refine jq jrm ?_
  refine jq jrx ?_
  refine jq jrx ?_
  refine jq jrx ?_
  refine jqe (jeal (n := 2) zr68 rfl fun p1 => ?_)
  refine jqm (jmst 2 ?_)
  refine jq jrm ?_
  refine jq jrm ?_
  refine seq_nil ?_
  refine jcs ?_
  refine code_block ?_
  refine jcr ?_
  refine jq jrm ?_
  refine jq jre ?_
  refine jq jrm ?_
  refine seq_nil ?_
  refine jcc (fun h167 => ?_) fun h167 => ?_
  · refine jcr ?_
    refine jq jrm ?_
    refine jq jrm ?_
    refine jq jrm ?_
    refine seq_nil ?_
    refine code_ret (jbr (jtr (jrt (hv := ?_))))
    unfold depthM
    rw [if_neg (by omega), if_pos (by omega)]
    exact CEnt.refl _
  refine jcr ?_
  refine jq jrm ?_
  refine jq jrl ?_
  refine jq jrc ?_
  refine jq jrm ?_
  refine seq_nil ?_
  refine jcc (fun h169 => ?_) fun h169 => ?_
  · refine jcs ?_
    refine jcd (.rd 0 (.rd 1 (.rd 2 .done))) ?_
    refine jyq (jrde 3) ?_
    refine jyq jrm ?_
    refine jyq jrm ?_
    refine jyd ?_
    refine jtn ?_
    refine code_ret (jbr (jtr (jrt (hv := ?_))))
    unfold depthM
    rw [if_neg (by omega), if_neg (by omega), if_pos (by omega)]
    exact CEnt.refl _
  refine code_skip (jbn (jtn ?_))
  refine jcr ?_
  refine jqo (jrdoA 2) ?_
  refine jqe (jecP (whole_ac 15 (nextM b).tag (nextM b).body (by omega) (by omega)) ?_ (ho := rfl) (he := (.cons (se rfl (CEnt.agg2 (CEnt.refl _) (CEnt.refl _))) (.cons (se rfl (CEnt.refl _)) .nil))))
  refine jq jrx ?_
  refine jq jrx ?_
  refine jq jrm ?_
  refine jq jrm ?_
  refine seq_nil ?_
  refine code_ret (jrt (hv := ?_))
  unfold depthM
  rw [if_neg (by omega), if_neg (by omega), if_neg (by omega)]
  exact CEnt.refl _
theorem check_ac (b : List UInt8) (hb : b.length ≤ 10000000) : ACp gs Tryz.prog 28 [bsC b] (.err (depthM b).2) := by
  refine ac_of 11 Tryz.func28 rfl rfl rfl (fun al w0 F0 St0 => ?_)
  refine jcr ?_
  refine jq jrm ?_
  refine seq_nil ?_
  refine jcr ?_
  refine jq jrm ?_
  refine jqe (jecP (depth_ac b hb) ?_)
  refine jq jrm ?_
  refine jq jrx ?_
  refine jq jrx ?_
  refine jq jrm ?_
  refine jq jrm ?_
  refine seq_nil ?_
  refine jcr ?_
  refine jq jrm ?_
  refine jq jrm ?_
  refine seq_nil ?_
  refine code_ret jrt
def ex3a : List UInt8 := [48, 3, 2, 1, 5]
def ex3b : List UInt8 := [48, 129, 3, 2, 1, 5]
theorem rput_ac {gs : List Nat} (tag : Int) (body : List UInt8) (ht : 0 ≤ tag ∧ tag < 256) (hb : body.length ≤ 10000000) : ACp gs Tryz.prog 87 [.c (.int .i64 tag), bsC body] (bsC (putL tag body)) := by
  have hl := lenL_bd body.length
  refine ac_of 14 Tryz.func87 rfl rfl rfl (fun al w0 F0 St0 => ?_)
  refine jcr ?_
  refine jq jrm ?_
  refine seq_nil ?_
  refine jcr ?_
  refine jq jrm ?_
  refine jq (jrv .i64 .u8) ?_
  refine jqe (jebl 1 1 zr5 fun p1 => ?_)
  refine jq jrm ?_
  refine jq jrl ?_
  refine jqe (jecP (rlen_ac body.length (by omega)) ?_)
  refine seq_ent (blk_ent 0 rfl (Nat.le_refl _) (fun _ => rfl) (fl_by (l2 := [b8 tag.toNat]) (.cons (CEnt.int ((by rw [b8_mod]; omega))) .nil))) ?_
  first | refine jqm (m_appendB (l := [b8 tag.toNat]) rfl rfl rfl (Nat.le_refl _) (fun _ _ => CEnt.refl _) (src_rs rfl) rfl (fun j hj => by simp only [Nat.div_one]; exact CEnt.refl _) Tryz.underlying26 nu26 sz5 zr5 by5 rfl (by (simp; omega)) (fun j hj => rfl) rfl rfl (fun p2 => ?_)) | refine jqm (m_appendB (l := [b8 tag.toNat]) rfl rfl rfl (Nat.le_refl _) (fun _ _ => CEnt.refl _) (src_str rfl) rfl (fun j hj => CEnt.refl _) Tryz.underlying26 nu26 sz5 zr5 by5 rfl (by first | omega | (simp; done) | (simp; omega) | (simp at *; omega)) (fun j hj => rfl) rfl rfl (fun p2 => ?_)) | refine jqm (m_appendB (l := [b8 tag.toNat]) rfl rfl rfl (Nat.le_refl _) (fun _ _ => CEnt.refl _) (src_os rfl (.inl rfl) (by omega)) rfl (fun j hj => by rw [Nat.zero_add]; exact CEnt.refl _) Tryz.underlying26 nu26 sz5 zr5 by5 rfl (by first | omega | (simp; done) | (simp; omega) | (simp at *; omega)) (fun j hj => rfl) rfl rfl (fun p2 => ?_))
  refine jq jrm ?_
  first | refine jqm (m_appendB rfl rfl rfl (Nat.le_refl _) (fun _ _ => CEnt.refl _) (src_rs rfl) rfl (fun j hj => by simp only [Nat.div_one]; exact CEnt.refl _) Tryz.underlying26 nu26 sz5 zr5 by5 rfl (by (simp; omega)) (fun j hj => rfl) rfl rfl (fun p3 => ?_)) | refine jqm (m_appendB rfl rfl rfl (Nat.le_refl _) (fun _ _ => CEnt.refl _) (src_str rfl) rfl (fun j hj => CEnt.refl _) Tryz.underlying26 nu26 sz5 zr5 by5 rfl (by first | omega | (simp; done) | (simp; omega) | (simp at *; omega)) (fun j hj => rfl) rfl rfl (fun p3 => ?_)) | refine jqm (m_appendB rfl rfl rfl (Nat.le_refl _) (fun _ _ => CEnt.refl _) (src_os rfl (.inl rfl) (by omega)) rfl (fun j hj => by rw [Nat.zero_add]; exact CEnt.refl _) Tryz.underlying26 nu26 sz5 zr5 by5 rfl (by first | omega | (simp; done) | (simp; omega) | (simp at *; omega)) (fun j hj => rfl) rfl rfl (fun p3 => ?_))
  refine jq jrm ?_
  refine seq_nil ?_
  refine code_ent (freeze 0 rfl) ?_
  refine code_ent (thawB 4 ([b8 tag.toNat] ++ lenL body.length ++ body) rfl rfl (by rfl) rfl) ?_
  refine code_ret (jrt (hv := CEnt.bs (by simp [putL, b8])))
end Am
end Go.Proofs.YtjckfbpdieijeaaGreatDoor

/- Slices of the library on slices of bytes: Grow at nil, Concat. -/
namespace Go.Proofs.YtjckfbpdieijeaaGreatDoor
set_option linter.unusedVariables false
namespace Am
variable {gs : List Nat} [OkG gs]
open Go.RowKit
set_option maxRecDepth 100000

theorem grow8_ac {gs : List Nat} (n : Nat) (hn : n ≤ 100000000000) : AC gs Tryz.prog 111 [] [.c (.slice none 0 0), .c (.int .i64 (n : Nat))] (OwnQ 0 1 0 fun _ => .top) := by
  refine ac_of 27 Tryz.func111 rfl rfl rfl (fun al w0 F0 St0 => ?_)
  refine jcr ?_
  refine jq jrm ?_
  refine seq_nil ?_
  refine jcs ?_
  refine jcr ?_
  refine jq jrm ?_
  refine jq jrc ?_
  refine seq_nil ?_
  refine jcc (fun h423 => ?_) fun h423 => ?_
  · exfalso; omega
  refine code_skip (jtn ?_)
  refine jcs ?_
  refine jcr ?_
  refine jq jrm ?_
  refine jq jrm ?_
  refine jq (rd_capN rfl rfl Tryz.underlying26) ?_
  refine jq jrm ?_
  refine jq jrl ?_
  refine jq jra ?_
  refine jq jra ?_
  refine jq jrm ?_
  refine seq_nil ?_
  refine jcr ?_
  refine jq jrm ?_
  refine jq jrc ?_
  refine seq_nil ?_
  refine jcc (fun h426 => ?_) fun h426 => ?_
  rotate_left
  · refine code_skip (jtn ?_)
    refine code_ent (own_nil 0 1 (fun _ => .top) rfl) ?_
    refine jcr ?_
    refine jq jrm ?_
    refine jq jrm ?_
    refine seq_nil ?_
    refine code_ret ?_
    exact end_O 0 (.inl rfl) (res_1 rfl (arv_tmp rfl)) rfl rfl (Nat.le_refl _) (fun _ => rfl) (fun j hj => absurd hj (Nat.not_lt_zero j))
  refine jcg ?_
  refine jq jrm ?_
  refine jq jrm ?_
  refine jq (rd_capN rfl rfl Tryz.underlying26) ?_
  refine jq (rd_sliceN rfl rfl Tryz.underlying26 sz5 (bd_none _ _) (bd_some rfl (show _ = ((0 : Nat) : Int) by omega)) (by (omega)) (by (omega))) ?_
  refine jq jrm ?_
  refine jqe (e_appZ (F := fun _ => .top) rfl rfl rfl (show _ = ((n : Nat) : Int) by omega) (by (omega)) Tryz.underlying26 Tryz.underlying3 sz5 (by decide) zr5 by5 (by (omega)) (by (omega)) rfl rfl rfl (fun p1 => ?_))
  refine jq jrm ?_
  refine jq jrl ?_
  refine jq (jrso (hl := (bd_none _ _)) (hu := (bd_some rfl (show _ = ((0 : Nat) : Int) by omega)))) ?_
  refine jq jrm ?_
  refine seq_nil ?_
  refine jtn ?_
  skip
  refine jcr ?_
  refine jq jrm ?_
  refine jq jrm ?_
  refine seq_nil ?_
  refine code_ret ?_
  exact end_O 0 (.inl rfl) (res_1 rfl (arv_tmp rfl)) rfl rfl (Nat.le_refl _) (fun _ => rfl) (fun j hj => absurd hj (Nat.not_lt_zero j))
theorem concat8_ac {gs : List Nat} (ls : List (List UInt8)) (h : sumL ls ≤ 10000000000) (hl : ls.length ≤ 1000000) : ACp gs Tryz.prog 65 [lbC ls] (bsC ls.flatten) := by
  refine ac_of 36 Tryz.func65 rfl rfl rfl (fun al w0 F0 St0 => ?_)
  refine jcr ?_
  refine jq jrm ?_
  refine seq_nil ?_
  refine jcr ?_
  refine jq jrm ?_
  refine seq_nil ?_
  refine jcs ?_
  refine jcr ?_
  refine jq jrm ?_
  refine jq jrl ?_
  refine jq jrm ?_
  refine seq_nil ?_
  refine code_block ?_
  refine l_loop (α := Nat) [3, 5, 11, 12, 13, 14, 15, 16, 17, 18, 19, 20, 21, 22] (fun i => [(3, .c (.int .i64 (sumL (ls.take i) : Nat))), (11, .c (.int .i64 (i : Nat)))]) (fun _ => []) (fun i => i ≤ ls.length) (fun i => ls.length - i) (0) ?_ (fun _ => rfl) ?_ ?_ ?_
  · exact Nat.zero_le _
  · exact .cons (CEnt.refl _) (.cons (CEnt.refl _) .nil)
  · (repeat (first | exact HEnt.nil | refine HEnt.same ?_ | refine HEnt.blk rfl (fun j hj => by rcases j with _|_|_|_|_|_|_|_|j <;> first | exact CEnt.refl _ | exact CEnt.int (by omega) | omega) ?_))
  · rintro i (hi : i ≤ ls.length)
    refine jcr ?_
    refine jq jrc ?_
    refine seq_nil ?_
    refine jcs ?_
    refine jcc (fun h493 => ?_) fun h493 => ?_
    · refine code_skip (jtn ?_)
      refine jcs ?_
      refine code_block ?_
      refine jcr ?_
      refine jq jri ?_
      refine jq jrdr ?_
      refine jq jrm ?_
      refine seq_nil ?_
      have hs1 := sumL_take (ls := ls) (i := i) (by omega)
      have hs2 := sumL_le ls (i + 1)
      refine jcr ?_
      refine jq jrm ?_
      refine jq jrm ?_
      refine jq jrl ?_
      refine jq jra ?_
      refine jq jrm ?_
      refine seq_nil ?_
      refine jcr ?_
      refine jq jrm ?_
      refine jq jrc ?_
      refine seq_nil ?_
      refine jcc (fun h495 => ?_) fun h495 => ?_
      · exfalso; omega
      refine code_skip (jbn (jtn ?_))
      refine jcg ?_
      refine jq jra ?_
      refine jq jrm ?_
      refine seq_nil ?_
      refine jtn ?_
      refine jlend (i + 1) ?_ ?_ (h5 := ?_)
      · show i + 1 ≤ ls.length; omega
      · omega
      · exact .cons (CEnt.int (by rw [sumL_take (by omega)]; omega)) (.cons (CEnt.int (by omega)) .nil)
    refine code_exit (jte (jte (jbx (jtn ?_))))
    have hs3 := sumL_le ls i
    refine jcr ?_
    refine jq jrm ?_
    refine jqe (jecO (grow8_ac (sumL (ls.take i)) (by omega)) (fun p1 => ?_))
    refine jq jrm ?_
    refine seq_nil ?_
    refine jcs ?_
    refine jcr ?_
    refine jq jrm ?_
    refine jq jrl ?_
    refine jq jrm ?_
    refine seq_nil ?_
    refine code_block ?_
    refine l_loop (α := Nat × Option Nat) [6, 8, 27, 28, 29, 30, 31, 32, 33, 34] (fun (j, g) => [(6, .os 0 g 0 ((ls.take j).flatten).length 1), (27, .c (.int .i64 (j : Nat)))]) (fun (j, g) => [(g, .blk ((ls.take j).flatten).length (byF (ls.take j).flatten))]) (fun j => j.1 ≤ ls.length) (fun j => ls.length - j.1) ((0, p1)) ?_ (fun _ => rfl) ?_ ?_ ?_
    · exact Nat.zero_le _
    · exact .cons (CEnt.refl _) (.cons (CEnt.refl _) .nil)
    · exact .blk rfl (fun j hj => absurd hj (Nat.not_lt_zero j)) .nil
    · rintro ⟨j, g'⟩ (hj : j ≤ ls.length)
      refine jcr ?_
      refine jq jrc ?_
      refine seq_nil ?_
      refine jcs ?_
      refine jcc (fun h503 => ?_) fun h503 => ?_
      rotate_left
      · refine code_exit (jte (jte (jbx (jtn ?_))))
        refine jcr ?_
        refine jq jrm ?_
        refine jq jrm ?_
        refine seq_nil ?_
        refine code_ent (freeze 0 rfl) ?_
        refine code_ent (thawB 2 ((ls.take j).flatten) rfl rfl (by rfl) rfl) ?_
        refine code_ret (jrt (hv := ?_))
        refine CEnt.bs ?_
        rw [List.take_of_length_le (by omega)]
      refine code_skip (jtn ?_)
      refine jcs ?_
      refine code_block ?_
      refine jcr ?_
      refine jq jri ?_
      refine jq jrdr ?_
      refine jq jrm ?_
      refine seq_nil ?_
      have hf1 := sumL_take (ls := ls) (i := j) (by omega)
      have hf2 := sumL_le ls (j + 1)
      have hf3 := flat_len (ls.take j)
      refine jcg ?_
      refine jq jrm ?_
      refine jq jrm ?_
      first | refine jqm (m_appendB rfl rfl rfl (Nat.le_refl _) (fun _ _ => CEnt.refl _) (src_rs rfl) rfl (fun j hj => by simp only [Nat.div_one]; exact CEnt.refl _) Tryz.underlying26 nu26 sz5 zr5 by5 rfl (by omega) (fun j hj => rfl) rfl rfl (fun p2 => ?_)) | refine jqm (m_appendB rfl rfl rfl (Nat.le_refl _) (fun _ _ => CEnt.refl _) (src_str rfl) rfl (fun j hj => CEnt.refl _) Tryz.underlying26 nu26 sz5 zr5 by5 rfl (by first | omega | (simp; done) | (simp; omega) | (simp at *; omega)) (fun j hj => rfl) rfl rfl (fun p2 => ?_)) | refine jqm (m_appendB rfl rfl rfl (Nat.le_refl _) (fun _ _ => CEnt.refl _) (src_os rfl (.inl rfl) (by omega)) rfl (fun j hj => by rw [Nat.zero_add]; exact CEnt.refl _) Tryz.underlying26 nu26 sz5 zr5 by5 rfl (by first | omega | (simp; done) | (simp; omega) | (simp at *; omega)) (fun j hj => rfl) rfl rfl (fun p2 => ?_))
      refine jq jrm ?_
      refine seq_nil ?_
      refine jbn (jtn ?_)
      refine jcg ?_
      refine jq jra ?_
      refine jq jrm ?_
      refine seq_nil ?_
      refine jtn ?_
      refine jlend ((j + 1, p2)) ?_ ?_ (h5 := ?_) (h7 := ?_)
      · show j + 1 ≤ ls.length; omega
      · show ls.length - (j + 1) < ls.length - j; omega
      · simp only [flat_take (show j < ls.length by omega)]
        exact .cons (CEnt.refl _) (.cons (CEnt.int (by omega)) .nil)
      · simp only [flat_take (show j < ls.length by omega)]
        exact .same .nil
end Am
end Go.Proofs.YtjckfbpdieijeaaGreatDoor

/- bullanum.Bytes and bullanum.Kept: a copy with marked room behind it, and that it stands as it stood. -/
namespace Go.Proofs.YtjckfbpdieijeaaGreatDoor
set_option linter.unusedVariables false
open Go.RowKit

def marks : List UInt8 := [201, 202, 203, 204, 205, 206]
/-- v reads as l, and six marks lie behind it -/
def Marked (w : World) (v : Value) (l : List UInt8) : Prop :=
  ∃ g, v = .slice (some ⟨g, 0, none⟩) l.length (l.length + 6) ∧ l.length + 6 ≤ 9223372036854775807 ∧ ∀ i, i < l.length + 6 → w.cell? ⟨g, i, none⟩ = some (.int .u8 ((l ++ marks).getD i 0).toNat)
def MarkedAt (w : World) (g : Nat) (v : Value) (l : List UInt8) : Prop :=
  v = .slice (some ⟨g, 0, none⟩) l.length (l.length + 6) ∧ l.length + 6 ≤ 9223372036854775807 ∧ ∀ i, i < l.length + 6 → w.cell? ⟨g, i, none⟩ = some (.int .u8 ((l ++ marks).getD i 0).toNat)
theorem Marked.below {a b : World} {v : Value} {l : List UInt8} (h : Marked a v l) (k : Below a.heap.size a b) : Marked b v l := by
  obtain ⟨g, rfl, h1, h2⟩ := h
  exact ⟨g, rfl, h1, fun i hi => below_cell k (h2 i hi)⟩
theorem Marked.bs {w : World} {v : Value} {l : List UInt8} (h : Marked w v l) : Bs w v l := by
  obtain ⟨g, rfl, h1, h2⟩ := h
  refine Bs.of_cells (by omega) (by omega) fun i hi => ?_
  rw [Nat.zero_add, h2 i (by omega)]
  simp [List.getD, List.getElem?_append_left hi]

theorem Bs.parts {w : World} {v : Value} {l : List UInt8} (h : Bs w v l) :
    ∃ ao cap, v = .slice ao l.length cap ∧ l.length ≤ cap ∧ cap ≤ 9223372036854775807 ∧ (ao = none → l.length = 0 ∧ cap = 0) ∧
      ∀ ad, ao = some ad → ∀ j u, (l.map fun c => Value.int .u8 c.toNat)[j]? = some u → w.cell? (ad.add j) = some u := by
  obtain ⟨ao, cap, rfl, h1, h2, h3, h4⟩ := h
  refine ⟨ao, cap, rfl, h1, h2, fun h => ⟨by have := h3 h; omega, h3 h⟩, ?_⟩
  intro ad had j u hu
  obtain ⟨hs, hc⟩ := h4 ad had
  obtain ⟨b, o, sp⟩ := ad
  have hj : j < l.length := by
    have := (List.getElem?_eq_some_iff.1 hu).1
    simpa using this
  have hs := hs (by omega)
  simp only at hs
  subst hs
  rw [Addr.add_lit, hc j hj]
  rw [List.getElem?_map, List.getElem?_eq_getElem hj] at hu
  simpa [List.getD, hj] using hu

end Go.Proofs.YtjckfbpdieijeaaGreatDoor

/- bullanum.Bytes and bullanum.Kept as contracts of the abstract walk. -/
namespace Go.Proofs.YtjckfbpdieijeaaGreatDoor
set_option linter.unusedVariables false
namespace Am
variable {gs : List Nat} [OkG gs]
open Go.RowKit
/-- a copy with six marks behind it -/
def markSV (l : List UInt8) : SV where
  p St w v := ∃ g, St g ∧ MarkedAt w g v l
  st := fun {St St' w w' v} hs hb ⟨g, h1, h2, h3, h4⟩ => ⟨g, hs g h1, h2, h3, fun i hi => cell_keep (fun cur t z hc => hb g cur t z h1 hc) (h4 i hi)⟩
  one := fun {St w v} ⟨g, h1, h2, h3, h4⟩ => by rw [h2]; exact ⟨rfl, rfl⟩
def markC (l : List UInt8) : CV := .pv (markSV l)
theorem CEnt.mark {l : List UInt8} : CEnt (markC l) (bsC l) := fun al St w v ⟨g, h1, h2, h3, h4⟩ => by
  refine ⟨_, _, h2, by omega, h3, (fun h => by cases h), fun a ha hn => ?_⟩
  cases ha
  refine ⟨rfl, h1, fun i j hi hj => ⟨_, by rw [show 0 + (i * 1 + j) = i by omega]; exact h4 i (by omega), ?_⟩⟩
  show _ = _
  simp [List.getD, List.getElem?_append_left hi]
end Am
end Go.Proofs.YtjckfbpdieijeaaGreatDoor

/- Chapter 3: every element's bytes: the law TlvPut. -/
namespace Go.Proofs.YtjckfbpdieijeaaGreatDoor
set_option linter.unusedVariables false
namespace Am
variable {gs : List Nat} [OkG gs]
open Go.RowKit
set_option maxRecDepth 100000

/-- what putting answers -/
def putE (tag : Int) (body : List UInt8) : Nat := if knownM tag = false then 5 else if 65530 < body.length then 3 else 0
theorem known_bd {t : Int} (h : knownM t = true) : 0 ≤ t ∧ t < 256 := by
  unfold knownM madeM at h
  simp at h
  omega
theorem tput_ac (tag : Int) (body : List UInt8) (hb : body.length ≤ 1000000) : ACp gs Tryz.prog 27 [.agg 2 (fl [.c (.int .i64 tag), bsC body])] (.tup 2 (fl [bsC (if putE tag body = 0 then putL tag body else []), .err (putE tag body)])) := by
  refine ac_of 28 Tryz.func27 rfl rfl rfl (fun al w0 F0 St0 => ?_)
  refine jcr ?_
  refine jqe (jebx 2 fun p1 => ?_)
  refine jq jrm ?_
  refine jq jrm ?_
  refine seq_nil ?_
  refine jcs ?_
  refine code_block ?_
  refine jcr ?_
  refine jq (jrfa 0 1 false) ?_
  refine jqo jrdo ?_
  refine jqe (jecP (known_ac _) ?_)
  refine jq jrn ?_
  refine jq jrm ?_
  refine seq_nil ?_
  refine jcc (fun h62 => ?_) fun h62 => ?_
  · refine jcs ?_
    refine jcd (.rd 0 (.rd 1 (.rd 2 .done))) ?_
    refine jyq (jrde 4) ?_
    refine jyq jrm ?_
    refine jyq jrm ?_
    refine jyd ?_
    refine jtn ?_
    refine code_ret (jbr (jtr (jrt (hv := ?_))))
    have hk : knownM tag = false := by simpa using h62
    have he : putE tag body = 5 := by unfold putE; rw [if_pos hk]
    rw [he]; exact CEnt.tup2 CEnt.nilB (CEnt.refl _)
  refine jcr ?_
  refine jq (jrfa 1 1 false) ?_
  refine jqo jrdo ?_
  refine jq jrl ?_
  refine jq jrc ?_
  refine jq jrm ?_
  refine seq_nil ?_
  refine jcc (fun h64 => ?_) fun h64 => ?_
  · refine jcs ?_
    refine jcd (.rd 0 (.rd 1 (.rd 2 .done))) ?_
    refine jyq (jrde 2) ?_
    refine jyq jrm ?_
    refine jyq jrm ?_
    refine jyd ?_
    refine jtn ?_
    refine code_ret (jbr (jtr (jrt (hv := ?_))))
    have hk : knownM tag = true := by simpa using h62
    have he : putE tag body = 3 := by unfold putE; rw [if_neg (by rw [hk]; exact Bool.noConfusion), if_pos (by omega)]
    rw [he]; exact CEnt.tup2 CEnt.nilB (CEnt.refl _)
  refine code_skip (jbn (jtn ?_))
  refine jcs ?_
  have hk : knownM tag = true := by simpa using h62
  have hkb := known_bd hk
  have he : putE tag body = 0 := by unfold putE; rw [if_neg (by rw [hk]; exact Bool.noConfusion), if_neg (by omega)]
  have hlb := lenL_bd body.length
  refine jcd (.rd 0 (.rd 1 (.rd 2 (.rd 4 (.rd 5 (.rd 6 (.rd 8 (.rd 9 (.two 3 (.one 7 (.one 10 (.one 11 (.rd 12 (.rd 13 .done))))) 7 (.one 3 (.one 10 (.one 11 (.rd 12 (.rd 13 .done)))))))))))))) ?_
  refine jyq (jrfa 0 1 false) ?_
  refine jyo jrdo ?_
  refine jyq (jrv .i64 .u8) ?_
  refine jyq (jrfa 1 1 false) ?_
  refine jyo jrdo ?_
  refine jyq jrl ?_
  refine jyq (jrfa 1 1 false) ?_
  refine jyo jrdo ?_
  refine jytwo ?_ ?_
  · refine jye (jebl 1 1 zr5 fun p2 => ?_)
    refine jye (jecP (length_ac body.length (by omega)) ?_)
    refine x_ent (freeze 1 rfl) ?_
    refine x_ent (thawBL 19 [UInt8.ofNat tag.toNat] rfl rfl rfl rfl (.cons (CEnt.int (by rw [UInt8.toNat_ofNat']; omega)) .nil)) ?_
    refine jye (jebl 3 1 zr26 fun p3 => ?_)
    refine x_ent (freeze 2 rfl) ?_
    refine x_ent (thawLB 26 [[UInt8.ofNat tag.toNat], lenL body.length, body] rfl rfl rfl rfl (.cons (CEnt.refl _) (.cons (CEnt.refl _) (.cons (CEnt.refl _) .nil)))) ?_
    refine jye (jecP (concat8_ac [[UInt8.ofNat tag.toNat], lenL body.length, body] (by simp [sumL]; omega) (by simp)) ?_)
    refine jyq jrm ?_
    refine jyq jrm ?_
    refine jyd ?_
    refine jtn ?_
    refine code_ret (jrt (hv := CEnt.tup2 (CEnt.bs (by rw [he, if_pos rfl]; simp [putL])) (CEnt.nilE he)))
  · refine jye (jecP (length_ac body.length (by omega)) ?_)
    refine jye (jebl 1 1 zr5 fun p2 => ?_)
    refine x_ent (freeze 1 rfl) ?_
    refine x_ent (thawBL 19 [UInt8.ofNat tag.toNat] rfl rfl rfl rfl (.cons (CEnt.int (by rw [UInt8.toNat_ofNat']; omega)) .nil)) ?_
    refine jye (jebl 3 1 zr26 fun p3 => ?_)
    refine x_ent (freeze 2 rfl) ?_
    refine x_ent (thawLB 26 [[UInt8.ofNat tag.toNat], lenL body.length, body] rfl rfl rfl rfl (.cons (CEnt.refl _) (.cons (CEnt.refl _) (.cons (CEnt.refl _) .nil)))) ?_
    refine jye (jecP (concat8_ac [[UInt8.ofNat tag.toNat], lenL body.length, body] (by simp [sumL]; omega) (by simp)) ?_)
    refine jyq jrm ?_
    refine jyq jrm ?_
    refine jyd ?_
    refine jtn ?_
    refine code_ret (jrt (hv := CEnt.tup2 (CEnt.bs (by rw [he, if_pos rfl]; simp [putL])) (CEnt.nilE he)))
end Am
end Go.Proofs.YtjckfbpdieijeaaGreatDoor

/- Bytes in order, and rows of bytes sorted: plain. -/
namespace Go.Proofs.YtjckfbpdieijeaaGreatDoor
set_option linter.unusedVariables false
namespace Am

theorem cmp8_swap (a b : UInt8) : cmp8 b a = - cmp8 a b := by
  unfold cmp8
  rcases Nat.lt_trichotomy a.toNat b.toNat with h | h | h
  · rw [if_neg (by omega), if_pos h, if_pos h]; rfl
  · rw [if_neg (by omega), if_neg (by omega), if_neg (by omega), if_neg (by omega)]; rfl
  · rw [if_pos h, if_neg (by omega), if_pos h]
theorem cmp8_zero {a b : UInt8} (h : cmp8 a b = 0) : a = b := by
  unfold cmp8 at h
  split at h
  · omega
  · split at h
    · omega
    · exact UInt8.toNat_inj.1 (by omega)
theorem cmp8_iff (a b : UInt8) : (cmp8 a b < 0 ↔ a.toNat < b.toNat) ∧ (cmp8 a b ≤ 0 ↔ a.toNat ≤ b.toNat) := by
  unfold cmp8
  split
  · omega
  · split <;> omega
theorem cmpL_swap : ∀ l r : List UInt8, cmpL r l = - cmpL l r
  | [], [] => rfl
  | [], _ :: _ => rfl
  | _ :: _, [] => rfl
  | a :: l, b :: r => by
    have h := cmp8_swap a b
    have ih := cmpL_swap l r
    rw [cmpL, cmpL]
    by_cases e : cmp8 a b = 0
    · rw [if_neg (by omega), if_neg (by omega), ih]
    · rw [if_pos (by omega), if_pos e, h]
theorem cmpL_zero : ∀ {l r : List UInt8}, cmpL l r = 0 → l = r
  | [], [], _ => rfl
  | [], _ :: _, h => by simp [cmpL] at h
  | _ :: _, [], h => by simp [cmpL] at h
  | a :: l, b :: r, h => by
    rw [cmpL] at h
    by_cases e : cmp8 a b = 0
    · rw [if_neg (fun x => x e)] at h
      rw [cmp8_zero e, cmpL_zero h]
    · rw [if_pos e] at h; exact absurd h e
theorem cmpL_trans : ∀ {a b c : List UInt8}, cmpL a b ≤ 0 → cmpL b c ≤ 0 → cmpL a c ≤ 0
  | [], _, [], _, _ => Int.le_refl 0
  | [], _, _ :: _, _, _ => by show (-1 : Int) ≤ 0; decide
  | _ :: _, [], _, h, _ => by simp [cmpL] at h
  | _ :: _, _ :: _, [], _, h => by simp [cmpL] at h
  | x :: a, y :: b, z :: c, h1, h2 => by
    rw [cmpL] at h1 h2 ⊢
    have k1 := cmp8_iff x y; have k2 := cmp8_iff y z; have k3 := cmp8_iff x z
    by_cases e1 : cmp8 x y = 0
    · have e := cmp8_zero e1
      subst e
      rw [if_neg (fun q => q e1)] at h1
      by_cases e2 : cmp8 x z = 0
      · rw [if_neg (fun q => q e2)] at h2 ⊢
        exact cmpL_trans h1 h2
      · rw [if_pos e2] at h2 ⊢; exact h2
    · rw [if_pos e1] at h1
      by_cases e2 : cmp8 y z = 0
      · have e := cmp8_zero e2
        subst e
        rw [if_pos e1]; exact h1
      · rw [if_pos e2] at h2
        have e3 : cmp8 x z ≠ 0 := fun e => by
          have := cmp8_zero e
          subst this
          have := cmp8_swap x y
          omega
        rw [if_pos e3]
        omega
theorem cmpL_self (l : List UInt8) : cmpL l l = 0 := by have := cmpL_swap l l; omega
theorem cmpL_swo {α : Type} (L : α → List UInt8) : Go.Sort.SWO (fun x y : α => decide (cmpL (L x) (L y) < 0)) where
  irrefl := fun x => by rw [cmpL_self]; rfl
  trans := fun x y z h1 h2 => by
    simp only [decide_eq_true_eq] at h1 h2 ⊢
    have h3 := cmpL_trans (a := L x) (b := L y) (c := L z) (by omega) (by omega)
    by_cases e : cmpL (L x) (L z) = 0
    · have := cmpL_zero e
      have h4 := cmpL_swap (L y) (L z)
      rw [this] at h1
      omega
    · omega
  ntrans := fun x y z h1 h2 => by
    simp only [decide_eq_false_iff_not, Int.not_lt] at h1 h2 ⊢
    have s1 := cmpL_swap (L x) (L y); have s2 := cmpL_swap (L y) (L z); have s3 := cmpL_swap (L x) (L z)
    have h3 := cmpL_trans (a := L z) (b := L y) (c := L x) (by omega) (by omega)
    omega
def leL (a b : List UInt8) : Bool := decide (cmpL a b ≤ 0)
theorem leL_total (a b : List UInt8) : (leL a b || leL b a) = true := by
  have := cmpL_swap a b
  unfold leL
  by_cases h : cmpL a b ≤ 0
  · simp [h]
  · have : cmpL b a ≤ 0 := by omega
    simp [this]
theorem leL_trans (a b c : List UInt8) (h1 : leL a b = true) (h2 : leL b c = true) : leL a c = true := by
  unfold leL at h1 h2 ⊢
  simp only [decide_eq_true_eq] at h1 h2 ⊢
  exact cmpL_trans h1 h2
theorem leL_anti {a b : List UInt8} (h1 : leL a b = true) (h2 : leL b a = true) : a = b := by
  unfold leL at h1 h2
  simp only [decide_eq_true_eq] at h1 h2
  have := cmpL_swap a b
  exact cmpL_zero (by omega)
/-- rows of bytes, sorted -/
def sortL (ls : List (List UInt8)) : List (List UInt8) := ls.mergeSort leL
theorem sortL_perm (ls : List (List UInt8)) : (sortL ls).Perm ls := List.mergeSort_perm ls leL
theorem sortL_sorted (ls : List (List UInt8)) : (sortL ls).Pairwise fun a b => leL a b = true := List.pairwise_mergeSort leL_trans leL_total ls
theorem sorted_eq : ∀ {l r : List (List UInt8)}, l.Perm r → (l.Pairwise fun a b => leL a b = true) → (r.Pairwise fun a b => leL a b = true) → l = r
  | [], r, hp, _, _ => (List.nil_perm.1 hp).symm
  | a :: l, [], hp, _, _ => absurd hp.symm.nil_eq (by simp)
  | a :: l, b :: r, hp, h1, h2 => by
    have ha := List.pairwise_cons.1 h1
    have hb := List.pairwise_cons.1 h2
    have e : a = b := by
      have m1 : a ∈ b :: r := hp.subset (List.mem_cons_self ..)
      have m2 : b ∈ a :: l := hp.symm.subset (List.mem_cons_self ..)
      rcases List.mem_cons.1 m1 with h | h
      · exact h
      · rcases List.mem_cons.1 m2 with k | k
        · exact k.symm
        · exact leL_anti (ha.1 b k) (hb.1 a h)
    subst e
    rw [sorted_eq (List.perm_cons a |>.1 hp) ha.2 hb.2]
theorem sortL_of {l r : List (List UInt8)} (hp : l.Perm r) (h : l.Pairwise fun a b => leL a b = true) : l = sortL r := sorted_eq (hp.trans (sortL_perm r).symm) h (sortL_sorted r)
theorem sortL_length (ls : List (List UInt8)) : (sortL ls).length = ls.length := (sortL_perm ls).length_eq
end Am
end Go.Proofs.YtjckfbpdieijeaaGreatDoor

/- Chapter 7, plain: runes and their bytes: which texts are plain. -/
namespace Go.Proofs.YtjckfbpdieijeaaGreatDoor
namespace Am
open Go.RowKit Go.Lib
set_option linter.unusedVariables false

/-! ### runes and their bytes -/
def bt (l : List UInt8) (i : Nat) : Nat := (l.getD i 0).toNat
def dec1 (l : List UInt8) : Nat × Nat := Lib.decodeN l.length (bt l 0) (bt l 1) (bt l 2) (bt l 3)
def badR (c : Nat) : Bool := decide (c < 32) || decide (c = 127)
/-- is a text plain -/
def plainGo : Nat → List UInt8 → Bool
  | 0, _ => true
  | n + 1, l => if l = [] then true else if ((dec1 l).1 = 65533 ∧ (dec1 l).2 = 1) ∨ badR (dec1 l).1 = true then false else plainGo n (l.drop (dec1 l).2)
def plainM (l : List UInt8) : Bool := plainGo l.length l
/-- are there no runes that may not be -/
def noBad : Nat → List UInt8 → Bool
  | 0, _ => true
  | n + 1, l => if l = [] then true else if badR (dec1 l).1 = true then false else noBad n (l.drop (dec1 l).2)
def noBadM (l : List UInt8) : Bool := noBad l.length l
/-! what the reference asks, rune by rune -/
/-- what may be a text's body; the error's number -/
def askedM (l : List UInt8) (most : Int) : Nat := if l.length = 0 then 2 else if most < l.length then 3 else if plainM l = false then 8 else 0
end Am
end Go.Proofs.YtjckfbpdieijeaaGreatDoor

/- Chapter 7, plain: bits in turn: the body of a mask, the mask of a body. -/
namespace Go.Proofs.YtjckfbpdieijeaaGreatDoor
namespace Am
open Go.RowKit
set_option linter.unusedVariables false
set_option maxRecDepth 100000

def rev8T : List UInt8 := [0, 128, 64, 192, 32, 160, 96, 224, 16, 144, 80, 208, 48, 176, 112, 240, 8, 136, 72, 200, 40, 168, 104, 232, 24, 152, 88, 216, 56, 184, 120, 248, 4, 132, 68, 196, 36, 164, 100, 228, 20, 148, 84, 212, 52, 180, 116, 244, 12, 140, 76, 204, 44, 172, 108, 236, 28, 156, 92, 220, 60, 188, 124, 252, 2, 130, 66, 194, 34, 162, 98, 226, 18, 146, 82, 210, 50, 178, 114, 242, 10, 138, 74, 202, 42, 170, 106, 234, 26, 154, 90, 218, 58, 186, 122, 250, 6, 134, 70, 198, 38, 166, 102, 230, 22, 150, 86, 214, 54, 182, 118, 246, 14, 142, 78, 206, 46, 174, 110, 238, 30, 158, 94, 222, 62, 190, 126, 254, 1, 129, 65, 193, 33, 161, 97, 225, 17, 145, 81, 209, 49, 177, 113, 241, 9, 137, 73, 201, 41, 169, 105, 233, 25, 153, 89, 217, 57, 185, 121, 249, 5, 133, 69, 197, 37, 165, 101, 229, 21, 149, 85, 213, 53, 181, 117, 245, 13, 141, 77, 205, 45, 173, 109, 237, 29, 157, 93, 221, 61, 189, 125, 253, 3, 131, 67, 195, 35, 163, 99, 227, 19, 147, 83, 211, 51, 179, 115, 243, 11, 139, 75, 203, 43, 171, 107, 235, 27, 155, 91, 219, 59, 187, 123, 251, 7, 135, 71, 199, 39, 167, 103, 231, 23, 151, 87, 215, 55, 183, 119, 247, 15, 143, 79, 207, 47, 175, 111, 239, 31, 159, 95, 223, 63, 191, 127, 255]
def len8T : List UInt8 := [0, 1, 2, 2, 3, 3, 3, 3, 4, 4, 4, 4, 4, 4, 4, 4, 5, 5, 5, 5, 5, 5, 5, 5, 5, 5, 5, 5, 5, 5, 5, 5, 6, 6, 6, 6, 6, 6, 6, 6, 6, 6, 6, 6, 6, 6, 6, 6, 6, 6, 6, 6, 6, 6, 6, 6, 6, 6, 6, 6, 6, 6, 6, 6, 7, 7, 7, 7, 7, 7, 7, 7, 7, 7, 7, 7, 7, 7, 7, 7, 7, 7, 7, 7, 7, 7, 7, 7, 7, 7, 7, 7, 7, 7, 7, 7, 7, 7, 7, 7, 7, 7, 7, 7, 7, 7, 7, 7, 7, 7, 7, 7, 7, 7, 7, 7, 7, 7, 7, 7, 7, 7, 7, 7, 7, 7, 7, 7, 8, 8, 8, 8, 8, 8, 8, 8, 8, 8, 8, 8, 8, 8, 8, 8, 8, 8, 8, 8, 8, 8, 8, 8, 8, 8, 8, 8, 8, 8, 8, 8, 8, 8, 8, 8, 8, 8, 8, 8, 8, 8, 8, 8, 8, 8, 8, 8, 8, 8, 8, 8, 8, 8, 8, 8, 8, 8, 8, 8, 8, 8, 8, 8, 8, 8, 8, 8, 8, 8, 8, 8, 8, 8, 8, 8, 8, 8, 8, 8, 8, 8, 8, 8, 8, 8, 8, 8, 8, 8, 8, 8, 8, 8, 8, 8, 8, 8, 8, 8, 8, 8, 8, 8, 8, 8, 8, 8, 8, 8, 8, 8, 8, 8, 8, 8, 8, 8, 8, 8, 8, 8, 8, 8, 8, 8, 8, 8]
def ntz8T : List UInt8 := [8, 0, 1, 0, 2, 0, 1, 0, 3, 0, 1, 0, 2, 0, 1, 0, 4, 0, 1, 0, 2, 0, 1, 0, 3, 0, 1, 0, 2, 0, 1, 0, 5, 0, 1, 0, 2, 0, 1, 0, 3, 0, 1, 0, 2, 0, 1, 0, 4, 0, 1, 0, 2, 0, 1, 0, 3, 0, 1, 0, 2, 0, 1, 0, 6, 0, 1, 0, 2, 0, 1, 0, 3, 0, 1, 0, 2, 0, 1, 0, 4, 0, 1, 0, 2, 0, 1, 0, 3, 0, 1, 0, 2, 0, 1, 0, 5, 0, 1, 0, 2, 0, 1, 0, 3, 0, 1, 0, 2, 0, 1, 0, 4, 0, 1, 0, 2, 0, 1, 0, 3, 0, 1, 0, 2, 0, 1, 0, 7, 0, 1, 0, 2, 0, 1, 0, 3, 0, 1, 0, 2, 0, 1, 0, 4, 0, 1, 0, 2, 0, 1, 0, 3, 0, 1, 0, 2, 0, 1, 0, 5, 0, 1, 0, 2, 0, 1, 0, 3, 0, 1, 0, 2, 0, 1, 0, 4, 0, 1, 0, 2, 0, 1, 0, 3, 0, 1, 0, 2, 0, 1, 0, 6, 0, 1, 0, 2, 0, 1, 0, 3, 0, 1, 0, 2, 0, 1, 0, 4, 0, 1, 0, 2, 0, 1, 0, 3, 0, 1, 0, 2, 0, 1, 0, 5, 0, 1, 0, 2, 0, 1, 0, 3, 0, 1, 0, 2, 0, 1, 0, 4, 0, 1, 0, 2, 0, 1, 0, 3, 0, 1, 0, 2, 0, 1, 0]
/-- a byte's bits in turn -/
def rev8 (n : Nat) : Nat := (List.range 8).foldl (fun a i => a + n / 2 ^ i % 2 * 2 ^ (7 - i)) 0
def len8 (n : Nat) : Nat := (List.range 8).foldl (fun a i => if n / 2 ^ i % 2 = 1 then i + 1 else a) 0
def ntz8 (n : Nat) : Nat := (List.range 8).foldr (fun i a => if n / 2 ^ i % 2 = 1 then i else a) 8
theorem all_lt {n : Nat} {p : Nat → Bool} (h : (List.range n).all p = true) {i : Nat} (hi : i < n) : p i = true := List.all_eq_true.1 h i (List.mem_range.2 hi)
theorem len8_bd {i : Nat} (h : i < 256) : i < 2 ^ len8 i ∧ len8 i ≤ 8 ∧ (len8 i = 0 ∨ 2 ^ (len8 i - 1) ≤ i) := by
  have := all_lt (n := 256) (p := fun i => decide (i < 2 ^ len8 i ∧ len8 i ≤ 8 ∧ (len8 i = 0 ∨ 2 ^ (len8 i - 1) ≤ i))) (by decide +kernel) h
  simpa using this
/-- how many bits a number has -/
def IsBl (m n : Nat) : Prop := m < 2 ^ n ∧ (n = 0 ∨ 2 ^ (n - 1) ≤ m)
def bl (m : Nat) : Nat := if 256 ≤ m then 8 + len8 (m / 256) else len8 m
theorem bl_is {m : Nat} (h : m < 65536) : IsBl m (bl m) ∧ bl m ≤ 16 := by
  unfold bl
  split
  · obtain ⟨h1, h2, h3⟩ := len8_bd (i := m / 256) (by omega)
    refine ⟨⟨?_, ?_⟩, by omega⟩
    · rw [Nat.pow_add]; omega
    · right
      rcases h3 with h3 | h3
      · rw [h3] at h1; simp at h1; omega
      · rw [show 8 + len8 (m / 256) - 1 = 8 + (len8 (m / 256) - 1) by
          have : len8 (m / 256) ≠ 0 := fun h => by rw [h] at h1; simp at h1; omega
          omega, Nat.pow_add]
        omega
  · obtain ⟨h1, h2, h3⟩ := len8_bd (i := m) (by omega)
    exact ⟨⟨h1, h3⟩, by omega⟩
def rev16 (x : Nat) : Nat := rev8 (x / 256) + 256 * rev8 (x % 256)
/-- a mask's body -/
def flagsL (m : Nat) : List UInt8 := UInt8.ofNat ((8 - bl m % 8) % 8) :: (if bl m = 0 then [] else if bl m ≤ 8 then [UInt8.ofNat (rev8 (m % 256))] else [UInt8.ofNat (rev8 (m % 256)), UInt8.ofNat (rev8 (m / 256))])
/-- a body's mask, the error's number -/
def maskM (b : List UInt8) : Nat × Nat :=
  if b.length = 0 then (0, 2) else
  if 8 ≤ (b.getD 0 0).toNat ∨ 3 < b.length ∨ (b.length = 1 ∧ 0 < (b.getD 0 0).toNat) then (0, 4) else
  if b.length = 1 then (0, 0) else
  if ntz8 (b.getD (b.length - 1) 0).toNat ≠ (b.getD 0 0).toNat then (0, 4) else
  let m := rev8 (b.getD 1 0).toNat + 256 * (if b.length = 3 then rev8 (b.getD 2 0).toNat else 0)
  if 32768 ≤ m then (0, 1) else (m, 0)
end Am
end Go.Proofs.YtjckfbpdieijeaaGreatDoor

/- Chapter 7, plain: masks and bodies tell one another; bit by bit. -/
namespace Go.Proofs.YtjckfbpdieijeaaGreatDoor
namespace Am
open Go.RowKit
set_option linter.unusedVariables false
set_option maxRecDepth 100000

theorem flags_len {m : Nat} (h : m < 65536) : (flagsL m).length = 1 + (bl m + 7) / 8 := by
  have := (bl_is h).2
  unfold flagsL
  split
  · rename_i e; rw [e]; rfl
  · split
    · simp; omega
    · simp; omega
/-! ### bit by bit -/
def lo8 (M i : Nat) : Nat := M % 2 ^ (min i 8)
def hi8 (M i : Nat) : Nat := M / 256 % 2 ^ (i - 8)
/-- the body while its bits are laid, up to bit i -/
def gF (M n i j : Nat) : Nat := if j = 0 then (8 - n % 8) % 8 else if j = 1 then rev8 (lo8 M i) else rev8 (hi8 M i)
end Am
end Go.Proofs.YtjckfbpdieijeaaGreatDoor

/- Plain facts on numbers as bytes (chapter 4): no program in sight. -/
namespace Go.Proofs.YtjckfbpdieijeaaGreatDoor
open Go.RowKit

def byte (n : Int) : UInt8 := UInt8.ofNat (n % 256).toNat
theorem byte_toNat (n : Int) : ((byte n).toNat : Int) = n % 256 := by
  have h0 : 0 ≤ n % 256 := Int.emod_nonneg _ (by decide)
  have h1 : n % 256 < 256 := Int.emod_lt_of_pos _ (by decide)
  have : (byte n).toNat = (n % 256).toNat := by
    unfold byte
    rw [UInt8.toNat_ofNat']
    omega
  omega
/-- n shifted k bytes to the right -/
def sh : Nat → Int → Int
  | 0, n => n
  | k + 1, n => sh k n / 256
/-- the k low bytes, the lowest first -/
def digs (k : Nat) (n : Int) : List UInt8 := (List.range k).map fun j => byte (sh j n)
theorem digs_length (k : Nat) (n : Int) : (digs k n).length = k := by simp [digs]
theorem digs_succ (k : Nat) (n : Int) : digs (k + 1) n = digs k n ++ [byte (sh k n)] := by simp [digs, List.range_succ]
theorem digs_get (k : Nat) (n : Int) (j : Nat) (h : j < k) : (digs k n).getD j 0 = byte (sh j n) := by simp [digs, List.getD, h]
/-- the byte j tells all that is left -/
def stp (j : Nat) (n : Int) : Bool := (sh (j + 1) n == 0 && decide (sh j n % 256 < 128)) || (sh (j + 1) n == -1 && decide (128 ≤ sh j n % 256))
theorem stp_iff (j : Nat) (n : Int) : stp j n = true ↔ -128 ≤ sh j n ∧ sh j n < 128 := by
  simp only [stp, sh, Bool.or_eq_true, Bool.and_eq_true, beq_iff_eq, decide_eq_true_eq]
  constructor
  · intro h; omega
  · intro h; omega
theorem stp_mono (j : Nat) (n : Int) (h : stp j n = true) : stp (j + 1) n = true := by
  rw [stp_iff] at h ⊢
  simp only [sh]
  omega
theorem stp_mono' (n : Int) (j m : Nat) (hjm : j ≤ m) (h : stp j n = true) : stp m n = true := by
  induction m with
  | zero => obtain rfl : j = 0 := by omega
            exact h
  | succ m ih =>
    by_cases e : j = m + 1
    · subst e; exact h
    · exact stp_mono m n (ih (by omega))
theorem stp_seven (n : Int) (h1 : -9223372036854775808 ≤ n) (h2 : n ≤ 9223372036854775807) : stp 7 n = true := by
  rw [stp_iff]
  simp only [sh]
  omega
/-- k + 1 bytes are n's body -/
def IsLen (n : Int) (k : Nat) : Prop := k ≤ 7 ∧ stp k n = true ∧ ∀ j, j < k → stp j n = false
theorem IsLen.unique {n : Int} {k m : Nat} (h : IsLen n k) (g : IsLen n m) : k = m := by
  rcases Nat.lt_trichotomy k m with h1 | h1 | h1
  · have := g.2.2 k h1; rw [h.2.1] at this; cases this
  · exact h1
  · have := h.2.2 m h1; rw [g.2.1] at this; cases this

/-- a number of bytes, the highest first, with its sign -/
def sgn (c : UInt8) : Int := if c.toNat < 128 then c.toNat else (c.toNat : Int) - 256
def valS (l : List UInt8) : Int := match l with
  | [] => 0
  | c :: r => r.foldl (fun a b => a * 256 + b.toNat) (sgn c)
theorem valS_snoc (l : List UInt8) (hl : l ≠ []) (c : UInt8) : valS (l ++ [c]) = valS l * 256 + c.toNat := by
  cases l with
  | nil => exact absurd rfl hl
  | cons x r => simp [valS, List.foldl_append]
theorem valS_bound (l : List UInt8) : ∀ m, l.length = m + 1 → -(128 * 256 ^ m) ≤ valS l ∧ valS l < 128 * 256 ^ m := by
  intro m
  induction m generalizing l with
  | zero =>
    intro h
    match l, h with
    | [c], _ =>
      have := c.toNat_lt
      simp only [valS, List.foldl_nil, sgn]
      split <;> omega
  | succ m ih =>
    intro h
    have hne : l ≠ [] := by intro e; subst e; simp at h
    have e : l = l.dropLast ++ [l.getLast hne] := (List.dropLast_concat_getLast hne).symm
    have hl : l.dropLast.length = m + 1 := by simp; omega
    have hd : l.dropLast ≠ [] := by intro e; rw [e] at hl; simp at hl
    have := ih l.dropLast hl
    have hc := (l.getLast hne).toNat_lt
    rw [e, valS_snoc _ hd]
    have hp : (256 : Int) ^ (m + 1) = 256 ^ m * 256 := Int.pow_succ _ _
    rw [hp]
    generalize (256 : Int) ^ m = p at this ⊢
    omega
theorem valS_small (l : List UInt8) (h : l.length ≤ 7) : -36028797018963968 ≤ valS l ∧ valS l < 36028797018963968 := by
  match l, h with
  | [], _ => show -36028797018963968 ≤ (0 : Int) ∧ (0 : Int) < 36028797018963968; omega
  | c :: r, h =>
    simp only [List.length_cons] at h
    have := valS_bound (c :: r) r.length rfl
    have hp : ((256 : Int) ^ r.length) ≤ 256 ^ 6 := by
      have : r.length = 0 ∨ r.length = 1 ∨ r.length = 2 ∨ r.length = 3 ∨ r.length = 4 ∨ r.length = 5 ∨ r.length = 6 := by omega
      rcases this with h | h | h | h | h | h | h <;> rw [h] <;> decide
    have e6 : (256 : Int) ^ 6 = 281474976710656 := by decide
    omega
/-- needless first byte -/
def idle (l : List UInt8) : Bool := match l with
  | a :: b :: _ => (a.toNat == 0 && decide (b.toNat < 128)) || (a.toNat == 255 && decide (128 ≤ b.toNat))
  | _ => false
/-- what whole.Get answers: the number, the error's number -/
def getM (l : List UInt8) : Int × Nat :=
  if l.length = 0 then (0, 2) else if idle l = true then (0, 4) else if 8 < l.length then (0, 1) else (valS l, 0)

theorem digs_rev_cons (k : Nat) (n : Int) : (digs (k + 2) n).reverse = byte (sh (k + 1) n) :: byte (sh k n) :: (digs k n).reverse := by
  rw [digs_succ, digs_succ]
  simp
theorem idle_digs (n : Int) (k : Nat) (h : stp (k + 1) n = true) : idle (digs (k + 2) n).reverse = stp k n := by
  rw [digs_rev_cons]
  rw [stp_iff] at h
  have e := stp_iff k n
  rw [Bool.eq_iff_iff, e]
  simp only [idle, Bool.or_eq_true, Bool.and_eq_true, beq_iff_eq, decide_eq_true_eq]
  have h1 := byte_toNat (sh (k + 1) n)
  have h2 := byte_toNat (sh k n)
  simp only [sh] at h h1 h2 ⊢
  omega
/-- a byte joined behind a number -/
theorem i64_join (m c : Int) (h1 : -36028797018963968 ≤ m) (h2 : m < 36028797018963968) (h3 : 0 ≤ c) (h4 : c < 256) : bits .or .i64 (m * 256) c = m * 256 + c := by
  show IntKind.i64.wrap ((BitVec.ofInt 64 (m * 256) ||| BitVec.ofInt 64 c).toNat : Int) = _
  rw [BitVec.toNat_or, BitVec.toNat_ofInt, BitVec.toNat_ofInt]
  have e1 : (c % ((2 ^ 64 : Nat) : Int)).toNat = c.toNat := by
    have : ((2 ^ 64 : Nat) : Int) = 18446744073709551616 := by decide
    rw [this]; omega
  have e2 : (m * 256 % ((2 ^ 64 : Nat) : Int)).toNat = (m * 256 % 18446744073709551616).toNat := by
    have : ((2 ^ 64 : Nat) : Int) = 18446744073709551616 := by decide
    rw [this]
  rw [e1, e2, nat_join 8 _ _ (by omega) (by omega), IntKind.wrap_i64]
  omega
theorem digs_rev_get (n : Int) (k i : Nat) (h : i < k) : (digs k n).reverse.getD i 0 = byte (sh (k - 1 - i) n) := by
  have hl : i < (digs k n).length := by rw [digs_length]; exact h
  simp only [List.getD, List.getElem?_reverse hl, digs_length]
  have := digs_get k n (k - 1 - i) (by omega)
  simpa [List.getD] using this
end Go.Proofs.YtjckfbpdieijeaaGreatDoor

/- Plain facts on figures: a number's decimal text. -/
namespace Go.Proofs.YtjckfbpdieijeaaGreatDoor
open Go.RowKit

def fig (d : Nat) : UInt8 := byte (48 + d : Nat)
/-- the figures of a number -/
def dec (n : Nat) : List UInt8 := if n < 10 then [fig n] else dec (n / 10) ++ [fig (n % 10)]
termination_by n

def isFig (c : UInt8) : Bool := decide (48 ≤ c.toNat) && decide (c.toNat ≤ 57)
/-- the number of a row of figures -/
def valD (l : List UInt8) : Nat := l.foldl (fun a c => 10 * a + (c.toNat - 48)) 0
def figM (l : List UInt8) : Nat × Nat := if l.length = 0 ∨ 18 < l.length ∨ (1 < l.length ∧ (l.getD 0 0).toNat = 48) ∨ l.all isFig = false then (0, 4) else (valD l, 0)

end Go.Proofs.YtjckfbpdieijeaaGreatDoor

/- Chapter 5, plain: parts between dots, arcs, numbers of seven bits a byte, bodies, texts, order. -/
namespace Go.Proofs.YtjckfbpdieijeaaGreatDoor
namespace Am
open Go.RowKit
set_option linter.unusedVariables false

/-! ### parts between separators -/
def consHead (x : UInt8) : List (List UInt8) → List (List UInt8)
  | [] => [[x]]
  | p :: r => (x :: p) :: r
/-- the parts of a text between the bytes c -/
def splitC (c : UInt8) : List UInt8 → List (List UInt8)
  | [] => [[]]
  | x :: l => if x = c then [] :: splitC c l else consHead x (splitC c l)
def joinC (c : UInt8) : List (List UInt8) → List UInt8
  | [] => []
  | [p] => p
  | p :: q :: r => p ++ c :: joinC c (q :: r)
/-! ### arcs -/
def okP (p : List UInt8) : Bool := decide ((figM p).2 = 0) && decide (p.length ≤ 10)
def valP (p : List UInt8) : Int := ((figM p).1 : Nat)
def rightA (l : List Int) : Bool := decide (2 ≤ l.length) && decide (l.length ≤ 16) && l.all (fun n => decide (0 ≤ n) && decide (n ≤ 2147483647)) && decide (l.getD 0 0 ≤ 2) && (decide (l.getD 0 0 = 2) || decide (l.getD 1 0 < 40))
/-- a text's arcs; the error's number -/
def parseM (s : List UInt8) : List Int × Nat :=
  if ((splitC 46 s).all okP) = false then ([], 4) else if rightA ((splitC 46 s).map valP) = false then ([], 1) else ((splitC 46 s).map valP, 0)

/-! ### a number's bytes, of seven bits each -/
def sepHi (m : Nat) : List UInt8 := if h : m = 0 then [] else sepHi (m / 128) ++ [UInt8.ofNat (m % 128 + 128)]
termination_by m
decreasing_by omega
def sepL (n : Nat) : List UInt8 := sepHi (n / 128) ++ [UInt8.ofNat (n % 128)]
theorem sepHi_zero : sepHi 0 = [] := by rw [sepHi]; simp
theorem sepHi_pos {m : Nat} (h : m ≠ 0) : sepHi m = sepHi (m / 128) ++ [UInt8.ofNat (m % 128 + 128)] := by rw [sepHi, dif_neg h]
theorem sepHi_len (k : Nat) : ∀ m, m < 128 ^ k → (sepHi m).length ≤ k := by
  induction k with
  | zero => intro m h; have : m = 0 := by simpa using h
            subst this; rw [sepHi_zero]; simp
  | succ k ih =>
    intro m h
    by_cases h0 : m = 0
    · subst h0; rw [sepHi_zero]; simp
    · rw [sepHi_pos h0, List.length_append]
      have := ih (m / 128) (Nat.div_lt_of_lt_mul (by rw [Nat.pow_succ] at h; omega))
      simp; omega
theorem sepL_len {n : Nat} (h : n < 34359738368) : (sepL n).length ≤ 5 := by
  have := sepHi_len 4 (n / 128) (by omega)
  simp [sepL]; omega
/-- the number of bytes of seven bits each -/
def valSO (l : List UInt8) : Nat := l.foldl (fun a c => a * 128 + c.toNat % 128) 0
/-- a row's first run: up to the first byte below 128 -/
def runLen : List UInt8 → Nat
  | [] => 0
  | c :: l => if c.toNat < 128 then 1 else 1 + runLen l
theorem runLen_pos {l : List UInt8} (h : l ≠ []) : 0 < runLen l := by
  cases l with
  | nil => exact absurd rfl h
  | cons c l => rw [runLen]; split <;> omega
/-- the number of a run, up to the most; the error's number -/
def numM (run : List UInt8) (most : Nat) : Nat × Nat :=
  if 128 ≤ (run.getD (run.length - 1) 0).toNat then (0, 2) else if (run.getD 0 0).toNat = 128 then (0, 4) else if most < valSO run then (0, 1) else (valSO run, 0)
/-- a body's numbers from one on; the error's number -/
def numsM (most : Nat) (b : List UInt8) : List Nat × Nat :=
  if h : b = [] then ([], 0) else
    if (numM (b.take (runLen b)) most).2 ≠ 0 then ([], (numM (b.take (runLen b)) most).2) else
      if (numsM 2147483647 (b.drop (runLen b))).2 ≠ 0 then ([], (numsM 2147483647 (b.drop (runLen b))).2) else
        ((numM (b.take (runLen b)) most).1 :: (numsM 2147483647 (b.drop (runLen b))).1, 0)
termination_by b.length
decreasing_by
  all_goals
    have := runLen_pos h
    have := List.length_pos_iff.2 h
    simp; omega
def arcsOf : List Nat → List Int
  | [] => []
  | n :: r => (min (n / 40) 2 : Nat) :: ((n : Int) - 40 * (min (n / 40) 2 : Nat)) :: r.map Int.ofNat
/-- a body's arcs; the error's number -/
def getA (b : List UInt8) : List Int × Nat :=
  if b = [] then ([], 2) else if (numsM 2147483727 b).2 ≠ 0 then ([], (numsM 2147483727 b).2) else
    if rightA (arcsOf (numsM 2147483727 b).1) = false then ([], 1) else (arcsOf (numsM 2147483727 b).1, 0)
/-- the body of arcs -/
def putA (l : List Int) : List UInt8 := sepL (40 * l.getD 0 0 + l.getD 1 0).toNat ++ ((l.drop 2).map fun n => sepL n.toNat).flatten
theorem right_at {l : List Int} (h : rightA l = true) : 2 ≤ l.length ∧ l.length ≤ 16 ∧ (∀ n ∈ l, 0 ≤ n ∧ n ≤ 2147483647) ∧ l.getD 0 0 ≤ 2 ∧ (l.getD 0 0 = 2 ∨ l.getD 1 0 < 40) := by
  simp only [rightA, Bool.and_eq_true, Bool.or_eq_true, decide_eq_true_eq, List.all_eq_true] at h
  obtain ⟨⟨⟨⟨h1, h2⟩, h3⟩, h4⟩, h5⟩ := h
  exact ⟨h1, h2, fun n hn => h3 n hn, h4, h5⟩
/-! ### a run is the bytes of its number -/
/-! ### texts of arcs -/
def textL (l : List Int) : List UInt8 := joinC 46 (l.map fun n => dec n.toNat)
theorem parse_right {s : List UInt8} {l : List Int} (h : parseM s = (l, 0)) : rightA l = true ∧ (splitC 46 s).all okP = true ∧ l = (splitC 46 s).map valP := by
  unfold parseM at h
  split at h
  · simp at h
  rename_i h1
  split at h
  · simp at h
  rename_i h2
  simp at h
  subst h
  exact ⟨by simpa using h2, by simpa using h1, rfl⟩
/-! ### their order -/
def cmpA : List Int → List Int → Int
  | [], [] => 0
  | [], _ :: _ => -1
  | _ :: _, [] => 1
  | a :: l, b :: r => if a < b then -1 else if b < a then 1 else cmpA l r
/-- does an identifier begin with another one -/
def underA (x y : List Int) : Bool := decide (y.length ≤ x.length) && decide (x.take y.length = y)
end Am
end Go.Proofs.YtjckfbpdieijeaaGreatDoor

/- Chapter 5, plain: a body's runs, one by one; a text's answer out of a body. -/
namespace Go.Proofs.YtjckfbpdieijeaaGreatDoor
namespace Am
open Go.RowKit
set_option linter.unusedVariables false

/-- a body's runs -/
def runsL (b : List UInt8) : List (List UInt8) := if h : b = [] then [] else b.take (runLen b) :: runsL (b.drop (runLen b))
termination_by b.length
decreasing_by
  have := runLen_pos h
  have := List.length_pos_iff.2 h
  simp; omega
/-- each run's number, the first one's most apart -/
def resL (most : Nat) : List (List UInt8) → List (Nat × Nat)
  | [] => []
  | r :: t => numM r most :: resL 2147483647 t
/-- the first error -/
def errL : List (Nat × Nat) → Nat
  | [] => 0
  | x :: t => if x.2 = 0 then errL t else x.2
/-- a body's numbers and their first error -/
def putM (s : List UInt8) : List UInt8 := if (parseM s).2 = 0 then putA (parseM s).1 else []
def resB (b : List UInt8) : List (Nat × Nat) := resL 2147483727 (runsL b)
/-- the text of arcs, where they are an identifier's; the error's number -/
def textM (l : List Int) : List UInt8 × Nat := if rightA l = true then (textL l, 0) else ([], 1)
/-- a body's text; the error's number -/
def ogetM (b : List UInt8) : List UInt8 × Nat := if (getA b).2 = 0 then (textL (getA b).1, 0) else ([], (getA b).2)
end Am
end Go.Proofs.YtjckfbpdieijeaaGreatDoor

/- Chapter 6, plain: the calendar: leap years, months, days since 1970, dates of moments; what both texts compute is the same. -/
namespace Go.Proofs.YtjckfbpdieijeaaGreatDoor.Cal
set_option linter.unusedVariables false

structure D6 where
  y : Int
  m : Int
  d : Int
  h : Int
  mi : Int
  s : Int

def leapM (y : Int) : Bool := y % 4 == 0 && (y % 100 != 0 || y % 400 == 0)
def daysM (y m : Int) : Int :=
  if m = 4 ∨ m = 6 ∨ m = 9 ∨ m = 11 then 30 else if m = 2 then (if leapM y then 29 else 28) else if m < 1 ∨ m > 12 then 0 else 31
/-- days from the beginning of 1970 to that of a year -/
def bf (y : Int) : Int := 365 * (y - 1) + (y - 1) / 4 - (y - 1) / 100 + (y - 1) / 400 + 306 - 719468
/-- days of a year before a month -/
def cum (y m : Int) : Int :=
  if m ≤ 2 then 31 * (m - 1) else (153 * (m - 3) + 2) / 5 + 59 + (if leapM y then 1 else 0)
/-- the number of a day -/
def dn (y m d : Int) : Int := bf y + cum y m + d - 1

/-- right dates -/
def RightP (x : D6) : Prop := 1970 ≤ x.y ∧ x.y ≤ 9999 ∧ 1 ≤ x.d ∧ x.d ≤ daysM x.y x.m ∧ 0 ≤ x.h ∧ x.h < 24 ∧ 0 ≤ x.mi ∧ x.mi < 60 ∧ 0 ≤ x.s ∧ x.s < 60
instance (x : D6) : Decidable (RightP x) := by unfold RightP; infer_instance
def secM (x : D6) : Int := ((dn x.y x.m x.d * 24 + x.h) * 60 + x.mi) * 60 + x.s

def yr (n : Int) : Int := (n - n / 1460 + n / 36524 - n / 146096) / 365
/-- the program's date of a day's number -/
structure Parts where
  ages : Int
  y : Int
  m : Int
  d : Int
def partsM (N : Int) : Parts :=
  let n := N + 719468
  let r := n % 146097
  let y := yr r
  let n2 := r - (365 * y + y / 4 - y / 100)
  let m := (5 * n2 + 2) / 153
  ⟨n / 146097, y, m, n2 - (153 * m + 2) / 5 + 1⟩
def yOf (N : Int) : Int := (partsM N).ages * 400 + (partsM N).y + if (partsM N).m + 3 > 12 then 1 else 0
def mOf (N : Int) : Int := if (partsM N).m + 3 > 12 then (partsM N).m + 3 - 12 else (partsM N).m + 3
def dOf (N : Int) : Int := (partsM N).d

def inT (t : Int) : Prop := 0 ≤ t ∧ t ≤ 253402300799
instance (t : Int) : Decidable (inT t) := by unfold inT; infer_instance
def D6.zero : D6 := ⟨0, 0, 0, 0, 0, 0⟩
def ofR6 (t : Int) : D6 := ⟨yOf (t / 86400), mOf (t / 86400), dOf (t / 86400), t % 86400 / 3600, t % 86400 % 3600 / 60, t % 86400 % 60⟩
def ofM (t : Int) : D6 := if inT t then ofR6 t else D6.zero
def ofE (t : Int) : Nat := if inT t then 0 else 1
end Go.Proofs.YtjckfbpdieijeaaGreatDoor.Cal

/- Chapter 6: the contracts of package moments and of its reference: leap years, months, dates, moments. -/
namespace Go.Proofs.YtjckfbpdieijeaaGreatDoor
set_option linter.unusedVariables false
namespace Am
variable {gs : List Nat} [OkG gs]
open Go.RowKit Cal
set_option linter.unusedVariables false
set_option maxRecDepth 100000

/-- a date's cells -/
def dF (x : D6) (i : Nat) : CV := match i with | 0 => .c (.int .i64 x.y) | 1 => .c (.int .i64 x.m) | 2 => .c (.int .i64 x.d) | 3 => .c (.int .i64 x.h) | 4 => .c (.int .i64 x.mi) | _ => .c (.int .i64 x.s)
def dateC (x : D6) : CV := .agg 6 (dF x)

end Am
end Go.Proofs.YtjckfbpdieijeaaGreatDoor

/- Chapter 6: bodies. -/
namespace Go.Proofs.YtjckfbpdieijeaaGreatDoor
set_option linter.unusedVariables false
namespace Am
variable {gs : List Nat} [OkG gs]
open Go.RowKit Cal
set_option linter.unusedVariables false
set_option maxRecDepth 100000

def figc (n p : Int) : UInt8 := UInt8.ofNat (48 + n / p % 10).toNat
def figL (n : Int) (ps : List Int) : List UInt8 := ps.map (figc n)
/-- a moment's body -/
def bodyL (x : D6) : List UInt8 := figL x.y [1000, 100, 10, 1] ++ figL x.m [10, 1] ++ figL x.d [10, 1] ++ figL x.h [10, 1] ++ figL x.mi [10, 1] ++ figL x.s [10, 1] ++ [90]
def putF (x : D6) : List Int := [x.m, x.d, x.h, x.mi, x.s]
def putL6 (x : D6) (i : Nat) : List UInt8 := figL x.y [1000, 100, 10, 1] ++ ((putF x).take i).flatMap fun n => figL n [10, 1]
end Am
end Go.Proofs.YtjckfbpdieijeaaGreatDoor

/- Plain facts of chapter 4, more: bodies of truth, numbers byte by byte. -/
namespace Go.Proofs.YtjckfbpdieijeaaGreatDoor
set_option linter.unusedVariables false

def isTrueM (l : List UInt8) : Bool × Nat :=
  if l.length = 0 then (false, 2) else if 1 < l.length ∨ ((l.getD 0 0).toNat ≠ 255 ∧ (l.getD 0 0).toNat ≠ 0) then (false, 4) else (decide ((l.getD 0 0).toNat = 255), 0)
theorem idle_get (l : List UInt8) (h : 1 < l.length) : idle l = (((l.getD 0 0).toNat == 0 && decide ((l.getD 1 0).toNat < 128)) || ((l.getD 0 0).toNat == 255 && decide (128 ≤ (l.getD 1 0).toNat))) := by
  match l, h with
  | x :: y :: r, _ => rfl
theorem idle_short (l : List UInt8) (h : l.length ≤ 1) : idle l = false := by
  match l, h with
  | [], _ => rfl
  | [x], _ => rfl
  | x :: y :: r, h => simp at h
theorem valS_take_one (l : List UInt8) (h : 0 < l.length) : valS (l.take 1) = sgn (l.getD 0 0) := by
  match l, h with
  | x :: r, _ => simp [valS]
theorem valS_take_succ (l : List UInt8) (k : Nat) (h : k + 1 < l.length) : valS (l.take (k + 1 + 1)) = valS (l.take (k + 1)) * 256 + (l.getD (k + 1) 0).toNat := by
  rw [List.take_succ_eq_append_getElem h, valS_snoc _ (by
    intro e
    have := congrArg List.length e
    simp at this
    rw [this] at h
    simp at h)]
  simp [List.getD, h]
/-- what whole.Range answers -/
def rangeM (l : List UInt8) (least most : Int) : Int × Nat :=
  if (getM l).2 ≠ 0 then (0, (getM l).2) else if (getM l).1 < least ∨ most < (getM l).1 then (0, 1) else ((getM l).1, 0)
theorem u64_step (V c : Int) : IntKind.u64.wrap (IntKind.u64.wrap (V % 18446744073709551616 * 256) + c) = (V * 256 + c) % 18446744073709551616 := by
  rw [IntKind.wrap_u64, IntKind.wrap_u64]
  omega
/-- the number of the first k bytes, with the sign ahead -/
def vk (l : List UInt8) (k : Nat) : Int := if k = 0 then (if (l.getD 0 0).toNat < 128 then 0 else -1) else valS (l.take k)
theorem vk_succ (l : List UInt8) (k : Nat) (h : k < l.length) : vk l (k + 1) = vk l k * 256 + (l.getD k 0).toNat := by
  cases k with
  | zero =>
    simp only [vk, if_true, Nat.zero_add, Nat.one_ne_zero, if_false]
    rw [valS_take_one l (by omega)]
    unfold sgn
    split <;> omega
  | succ k =>
    simp only [vk, Nat.add_one_ne_zero, if_false]
    exact valS_take_succ l k h
theorem valS_bd8 (l : List UInt8) (h : l.length ≤ 8) : -9223372036854775808 ≤ valS l ∧ valS l < 9223372036854775808 := by
  by_cases h7 : l.length ≤ 7
  · have := valS_small l h7
    omega
  · have e : l = l.take 7 ++ [l.getD 7 0] := by
      have : l.take (7 + 1) = l.take 7 ++ [l[7]] := List.take_succ_eq_append_getElem (by omega)
      rw [List.take_of_length_le (by omega)] at this
      have e7 : l.getD 7 0 = l[7] := by simp [List.getD, show 7 < l.length by omega]
      rw [e7]
      exact this
    have h2 := valS_small (l.take 7) (by simp; omega)
    have hc := (l.getD 7 0).toNat_lt
    rw [e, valS_snoc _ (by intro e; have := congrArg List.length e; simp at this; rw [this] at h7; simp at h7)]
    omega
end Go.Proofs.YtjckfbpdieijeaaGreatDoor

/- Plain facts on whole.Get: what is read is written so (chapter 4). -/
namespace Go.Proofs.YtjckfbpdieijeaaGreatDoor
open Go.RowKit

end Go.Proofs.YtjckfbpdieijeaaGreatDoor

/- Chapter 4 in the abstract walk: numbers' and truths' bodies. -/
namespace Go.Proofs.YtjckfbpdieijeaaGreatDoor
set_option linter.unusedVariables false
namespace Am
variable {gs : List Nat} [OkG gs]
open Go.RowKit
set_option maxRecDepth 100000

theorem settled_ac {gs : List Nat} (h r : Int) : ACp gs Tryz.prog 127 [.c (.int .u8 h), .c (.int .i64 r)] (.c (.bool ((r == 0 && decide (h < 128)) || (r == -1 && decide (128 ≤ h))))) := by
  refine ac_of 19 Tryz.func127 rfl rfl rfl (fun al w0 F0 St0 => ?_)
  refine jcr ?_
  refine jq jrm ?_
  refine seq_nil ?_
  refine jcr ?_
  refine jq jrm ?_
  refine jq jrc ?_
  refine jq jrm ?_
  refine jqsp 7 (fun g28 => ?_) fun g28 => ?_
  rotate_left
  · refine jqs ?_
    refine jqs ?_
    refine jq jrpF ?_
    refine jq jrm ?_
    refine jq jrm ?_
    refine jq jrc ?_
    refine jq jrm ?_
    refine jqsp 14 (fun g28_2 => ?_) fun g28_2 => ?_
    · refine jq jrm ?_
      refine jq jrc ?_
      refine jq jrpT ?_
      refine jq jrpF ?_
      refine jq jrm ?_
      refine seq_nil ?_
      refine code_ret (jrt (hv := ?_))
      (refine CEnt.bool ?_; simp [*]; done)
    refine jqs ?_
    refine jqs ?_
    refine jq jrpF ?_
    refine jq jrpF ?_
    refine jq jrm ?_
    refine seq_nil ?_
    refine code_ret (jrt (hv := ?_))
    (refine CEnt.bool ?_; simp [*]; done)
  refine jq jrm ?_
  refine jq jrc ?_
  refine jq jrpT ?_
  refine jq jrm ?_
  refine jqsp 11 (fun g28_2 => ?_) fun g28_2 => ?_
  · refine jqs ?_
    refine jqs ?_
    refine jqs ?_
    refine jqs ?_
    refine jqs ?_
    refine jqs ?_
    refine jq jrpT ?_
    refine jq jrm ?_
    refine seq_nil ?_
    refine code_ret (jrt (hv := ?_))
    (refine CEnt.bool ?_; simp [*]; done)
  refine jq jrm ?_
  refine jq jrc ?_
  refine jq jrm ?_
  refine jqsp 14 (fun g28_3 => ?_) fun g28_3 => ?_
  · refine jq jrm ?_
    refine jq jrc ?_
    refine jq jrpT ?_
    refine jq jrpF ?_
    refine jq jrm ?_
    refine seq_nil ?_
    refine code_ret (jrt (hv := ?_))
    omega
  refine jqs ?_
  refine jqs ?_
  refine jq jrpF ?_
  refine jq jrpF ?_
  refine jq jrm ?_
  refine seq_nil ?_
  refine code_ret (jrt (hv := ?_))
  (refine CEnt.bool ?_; simp [*]; done)
theorem istrue_ac (l : List UInt8) : ACp gs Tryz.prog 116 [bsC l] (.tup 2 (fl [.c (.bool (isTrueM l).1), .err (isTrueM l).2])) := by
  refine ac_len 0 rfl fun hlen => ?_
  refine ac_of 30 Tryz.func116 rfl rfl rfl (fun al w0 F0 St0 => ?_)
  refine jcr ?_
  refine jq jrm ?_
  refine jq jrm ?_
  refine seq_nil ?_
  refine jcs ?_
  refine code_block ?_
  refine jcr ?_
  refine jq jrm ?_
  refine jq jrl ?_
  refine jq jrc ?_
  refine jq jrm ?_
  refine seq_nil ?_
  refine jcc (fun h71 => ?_) fun h71 => ?_
  · refine jcs ?_
    refine jcd (.rd 0 (.rd 1 (.rd 2 .done))) ?_
    refine jyq (jrde 1) ?_
    refine jyq jrm ?_
    refine jyq jrm ?_
    refine jyd ?_
    refine jtn ?_
    refine code_ret (jbr (jtr (jrt (hv := ?_))))
    have hb : isTrueM l = (false, 2) := by unfold isTrueM; rw [if_pos (by omega)]
    rw [hb]; exact CEnt.refl _
  refine jcr ?_
  refine jq jrm ?_
  refine jq jrl ?_
  refine jq jrc ?_
  refine jq jrm ?_
  refine jqsp 13 (fun g73 => ?_) fun g73 => ?_
  · refine jqs ?_
    refine jqs ?_
    refine jqs ?_
    refine jqs ?_
    refine jqs ?_
    refine jqs ?_
    refine jqs ?_
    refine jqs ?_
    refine jqs ?_
    refine jqs ?_
    refine jq jrpT ?_
    refine jq jrm ?_
    refine seq_nil ?_
    refine jcT ?_
    refine jcs ?_
    refine jcd (.rd 0 (.rd 1 (.rd 2 .done))) ?_
    refine jyq (jrde 3) ?_
    refine jyq jrm ?_
    refine jyq jrm ?_
    refine jyd ?_
    refine jtn ?_
    refine code_ret (jbr (jtr (jrt (hv := ?_))))
    have hb : isTrueM l = (false, 4) := by unfold isTrueM; rw [if_neg (by omega), if_pos (by omega)]
    rw [hb]; exact CEnt.refl _
  refine jq jrm ?_
  refine jq (jri (i := 0)) ?_
  refine jq jrdr ?_
  refine jq jrc ?_
  refine jq jrm ?_
  refine jqsp 18 (fun g73_2 => ?_) fun g73_2 => ?_
  rotate_left
  · refine jqs ?_
    refine jqs ?_
    refine jqs ?_
    refine jqs ?_
    refine jq jrpF ?_
    refine jq jrpF ?_
    refine jq jrm ?_
    refine seq_nil ?_
    refine jcF ?_
    refine code_skip (jbn (jtn ?_))
    refine jcr ?_
    refine jq jrm ?_
    refine jq (jri (i := 0)) ?_
    refine jq jrdr ?_
    refine jq jrc ?_
    refine jq jrm ?_
    refine jq jrm ?_
    refine seq_nil ?_
    refine code_ret (jrt (hv := ?_))
    have hb : isTrueM l = (decide ((l.getD 0 0).toNat = 255), 0) := by unfold isTrueM; rw [if_neg (by omega), if_neg (by omega)]
    rw [hb]; exact CEnt.tup2 (CEnt.bool (by simp only [decide_eq_decide]; omega)) (CEnt.nilE rfl)
  refine jq jrm ?_
  refine jq (jri (i := 0)) ?_
  refine jq jrdr ?_
  refine jq jrc ?_
  refine jq jrpT ?_
  refine jq jrpF ?_
  refine jq jrm ?_
  refine seq_nil ?_
  refine jcc (fun h73 => ?_) fun h73 => ?_
  · refine jcs ?_
    refine jcd (.rd 0 (.rd 1 (.rd 2 .done))) ?_
    refine jyq (jrde 3) ?_
    refine jyq jrm ?_
    refine jyq jrm ?_
    refine jyd ?_
    refine jtn ?_
    refine code_ret (jbr (jtr (jrt (hv := ?_))))
    have hb : isTrueM l = (false, 4) := by unfold isTrueM; rw [if_neg (by omega), if_pos (by omega)]
    rw [hb]; exact CEnt.refl _
  refine code_skip (jbn (jtn ?_))
  refine jcr ?_
  refine jq jrm ?_
  refine jq (jri (i := 0)) ?_
  refine jq jrdr ?_
  refine jq jrc ?_
  refine jq jrm ?_
  refine jq jrm ?_
  refine seq_nil ?_
  refine code_ret (jrt (hv := ?_))
  have hb : isTrueM l = (decide ((l.getD 0 0).toNat = 255), 0) := by unfold isTrueM; rw [if_neg (by omega), if_neg (by omega)]
  rw [hb]; exact CEnt.tup2 (CEnt.bool (by simp only [decide_eq_decide]; omega)) (CEnt.nilE rfl)
theorem i8_sgn (c : UInt8) : IntKind.i8.wrap ((c.toNat : Nat) : Int) = sgn c := by
  have := c.toNat_lt
  have e : IntKind.i8.wrap (c.toNat : Int) = ((c.toNat : Int) + 128) % 256 - 128 := by simp [IntKind.wrap, IntKind.bits, IntKind.signed]; omega
  rw [e]
  unfold sgn
  split <;> omega
theorem sgn_bd (c : UInt8) : -128 ≤ sgn c ∧ sgn c ≤ 127 := by
  have := c.toNat_lt
  unfold sgn
  split <;> omega
theorem idle_of {l : List UInt8} (h : 1 < l.length) : idle l = true ↔ ((l.getD 0 0).toNat = 0 ∧ (l.getD 1 0).toNat < 128) ∨ ((l.getD 0 0).toNat = 255 ∧ 128 ≤ (l.getD 1 0).toNat) := by
  rw [idle_get l h]
  simp only [Bool.or_eq_true, Bool.and_eq_true, beq_iff_eq, decide_eq_true_eq]
set_option maxHeartbeats 1000000 in
theorem wget_ac (l : List UInt8) : ACp gs Tryz.prog 125 [bsC l] (.tup 2 (fl [.c (.int .i64 (getM l).1), .err (getM l).2])) := by
  refine ac_len 0 rfl fun hlen => ?_
  have hsg := sgn_bd (l.getD 0 0)
  have hid := fun h => idle_of (l := l) h
  refine ac_of 65 Tryz.func125 rfl rfl rfl (fun al w0 F0 St0 => ?_)
  refine jcr ?_
  refine jq jrm ?_
  refine jq jrm ?_
  refine seq_nil ?_
  refine jcs ?_
  refine code_block ?_
  refine jcr ?_
  refine jq jrm ?_
  refine jq jrl ?_
  refine jq jrc ?_
  refine jq jrm ?_
  refine seq_nil ?_
  refine jcc (fun h34 => ?_) fun h34 => ?_
  · refine jcs ?_
    refine jcd (.rd 0 (.rd 1 (.rd 2 .done))) ?_
    refine jyq (jrde 1) ?_
    refine jyq jrm ?_
    refine jyq jrm ?_
    refine jyd ?_
    refine jtn ?_
    refine code_ret (jbr (jtr (jrt (hv := ?_))))
    have hb : getM l = (0, 2) := by unfold getM; rw [if_pos (by omega)]
    rw [hb]; exact CEnt.refl _
  refine jcr ?_
  refine jq jrm ?_
  refine jq jrl ?_
  refine jq jrc ?_
  refine jq jrm ?_
  refine jqsp 16 (fun g36 => ?_) fun g36 => ?_
  rotate_left
  · refine jqs ?_
    refine jqs ?_
    refine jqs ?_
    refine jqs ?_
    refine jqs ?_
    refine jqs ?_
    refine jqs ?_
    refine jqs ?_
    refine jqs ?_
    refine jqs ?_
    refine jqs ?_
    refine jqs ?_
    refine jqs ?_
    refine jqs ?_
    refine jqs ?_
    refine jqs ?_
    refine jqs ?_
    refine jqs ?_
    refine jqs ?_
    refine jqs ?_
    refine jqs ?_
    refine jqs ?_
    refine jq jrpF ?_
    refine jq jrm ?_
    refine seq_nil ?_
    refine jcF ?_
    have hni : ¬ idle l = true := by
      by_cases h1 : 1 < l.length
      · rw [hid h1]; omega
      · rw [idle_short l (by omega)]; exact Bool.noConfusion
    refine jcr ?_
    refine jq jrm ?_
    refine jq jrl ?_
    refine jq jrc ?_
    refine jq jrm ?_
    refine seq_nil ?_
    refine jcc (fun h38 => ?_) fun h38 => ?_
    · refine jcs ?_
      refine jcd (.rd 0 (.rd 1 (.rd 2 .done))) ?_
      refine jyq (jrde 0) ?_
      refine jyq jrm ?_
      refine jyq jrm ?_
      refine jyd ?_
      refine jtn ?_
      refine code_ret (jbr (jtr (jrt (hv := ?_))))
      have hb : getM l = (0, 1) := by unfold getM; rw [if_neg (by omega), if_neg hni, if_pos (by omega)]
      rw [hb]; exact CEnt.refl _
    refine code_skip (jbn (jtn ?_))
    refine jcr ?_
    refine jq jrm ?_
    refine jq (jri (i := 0)) ?_
    refine jq jrdr ?_
    refine jq (rd_convI rfl rfl Tryz.underlying5 Tryz.underlying195 (sgn (l.getD 0 0)) (i8_sgn _)) ?_
    refine jq (rd_convI rfl rfl Tryz.underlying195 Tryz.underlying3 (sgn (l.getD 0 0)) (wrap_id (k := .i64) (by show _ ∧ _; omega))) ?_
    refine jq jrm ?_
    refine seq_nil ?_
    refine jcs ?_
    have hb : getM l = (valS l, 0) := by unfold getM; rw [if_neg (by omega), if_neg hni, if_neg (by omega)]
    have hv1 := valS_take_one l (by omega)
    refine jcr ?_
    refine jq jrm ?_
    refine jq (jrsf (hz1 := (show (1 : Int) = ((1 : Nat) : Int) from rfl))) ?_
    refine jq jrl ?_
    refine jq jrm ?_
    refine seq_nil ?_
    refine code_block ?_
    refine l_loop (α := Nat) [4, 6, 54, 55, 56, 57, 58, 59, 60, 61, 62, 63] (fun i => [(54, .c (.int .i64 (i : Nat))), (4, .c (.int .i64 (valS (l.take (i + 1)))))]) (fun _ => []) (fun i => i + 1 ≤ l.length) (fun i => l.length - i) (0) ?_ (fun _ => rfl) ?_ ?_ ?_
    · show 0 + 1 ≤ l.length; omega
    · exact .cons (CEnt.refl _) (.cons (CEnt.int hv1.symm) .nil)
    · (repeat (first | exact HEnt.nil | refine HEnt.same ?_ | refine HEnt.blk rfl (fun j hj => by rcases j with _|_|_|_|_|_|_|_|j <;> first | exact CEnt.refl _ | exact CEnt.int (by omega) | omega) ?_))
    · rintro i (hi : i + 1 ≤ l.length)
      have hb : getM l = (valS l, 0) := by unfold getM; rw [if_neg (by omega), if_neg hni, if_neg (by omega)]
      have hv1 := valS_take_one l (by omega)
      refine jcr ?_
      refine jq jrc ?_
      refine seq_nil ?_
      refine jcs ?_
      refine jcc (fun h42 => ?_) fun h42 => ?_
      rotate_left
      · refine code_exit (jte (jte (jbx (jtn ?_))))
        refine jcr ?_
        refine jq jrm ?_
        refine jq jrm ?_
        refine jq jrm ?_
        refine seq_nil ?_
        refine code_ret (jrt (hv := ?_))
        have hil : i + 1 = l.length := by simp only [List.length_drop] at *; omega
        rw [hb, hil, List.take_length]; exact CEnt.tup2 (CEnt.refl _) (CEnt.nilE rfl)
      refine code_skip (jtn ?_)
      refine jcs ?_
      refine code_block ?_
      have hb : getM l = (valS l, 0) := by unfold getM; rw [if_neg (by omega), if_neg hni, if_neg (by omega)]
      have hv1 := valS_take_one l (by omega)
      refine jcr ?_
      refine jq (jri (i := i) (hz := by omega)) ?_
      refine jq jrdr ?_
      refine jq jrm ?_
      refine seq_nil ?_
      have hdl : (l.drop 1).length = l.length - 1 := List.length_drop
      have hde : (l.drop 1).getD i 0 = l.getD (i + 1) 0 := by simp [List.getD, Nat.add_comm]
      have hvs := valS_take_succ l i (by omega)
      have hsm := valS_small (l.take (i + 1)) (by rw [List.length_take]; omega)
      have hcl := (l.getD (i + 1) 0).toNat_lt
      have hcd := ((l.drop 1).getD i 0).toNat_lt
      refine jcg ?_
      refine jq jrm ?_
      refine jq (rd_shl rfl rfl rfl (by (omega)) ((valS (l.take (i + 1)) * 256)) ((by show IntKind.i64.wrap (valS (l.take (i + 1)) * 256) = _; exact wrap_id (k := .i64) (by show _ ∧ _; omega)))) ?_
      refine jq jrm ?_
      refine jq (rd_convI rfl rfl Tryz.underlying5 Tryz.underlying3 ((((l.drop 1).getD i 0).toNat : Nat)) (wrap_id (k := .i64) (by show _ ∧ _; omega))) ?_
      refine jq (rd_or rfl rfl rfl (valS (l.take (i + 1 + 1))) ((by rw [hde, hvs]; exact i64_join _ _ (by omega) (by omega) (by omega) (by omega)))) ?_
      refine jq jrm ?_
      refine seq_nil ?_
      refine jbn (jtn ?_)
      have hb : getM l = (valS l, 0) := by unfold getM; rw [if_neg (by omega), if_neg hni, if_neg (by omega)]
      have hv1 := valS_take_one l (by omega)
      refine jcg ?_
      refine jq jra ?_
      refine jq jrm ?_
      refine seq_nil ?_
      refine jtn ?_
      refine jlend (i + 1) ?_ ?_ (h5 := ?_)
      · show i + 1 + 1 ≤ l.length; omega
      · show l.length - (i + 1) < l.length - i; omega
      · exact .cons (CEnt.int (by omega)) (.cons (CEnt.refl _) .nil)
  refine jq jrm ?_
  refine jq (jri (i := 0)) ?_
  refine jq jrdr ?_
  refine jq jrc ?_
  refine jq jrm ?_
  refine jqsp 21 (fun g36_2 => ?_) fun g36_2 => ?_
  rotate_left
  · refine jqs ?_
    refine jqs ?_
    refine jqs ?_
    refine jqs ?_
    refine jq jrpF ?_
    refine jq jrm ?_
    refine jq jrm ?_
    refine jq (jri (i := 0)) ?_
    refine jq jrdr ?_
    refine jq jrc ?_
    refine jq jrm ?_
    refine jqsp 32 (fun g36_3 => ?_) fun g36_3 => ?_
    rotate_left
    · refine jqs ?_
      refine jqs ?_
      refine jqs ?_
      refine jqs ?_
      refine jq jrpF ?_
      refine jq jrpF ?_
      refine jq jrpT ?_
      refine jq jrm ?_
      refine seq_nil ?_
      refine jcF ?_
      have hni : ¬ idle l = true := by
        by_cases h1 : 1 < l.length
        · rw [hid h1]; omega
        · rw [idle_short l (by omega)]; exact Bool.noConfusion
      refine jcr ?_
      refine jq jrm ?_
      refine jq jrl ?_
      refine jq jrc ?_
      refine jq jrm ?_
      refine seq_nil ?_
      refine jcc (fun h38 => ?_) fun h38 => ?_
      · refine jcs ?_
        refine jcd (.rd 0 (.rd 1 (.rd 2 .done))) ?_
        refine jyq (jrde 0) ?_
        refine jyq jrm ?_
        refine jyq jrm ?_
        refine jyd ?_
        refine jtn ?_
        refine code_ret (jbr (jtr (jrt (hv := ?_))))
        have hb : getM l = (0, 1) := by unfold getM; rw [if_neg (by omega), if_neg hni, if_pos (by omega)]
        rw [hb]; exact CEnt.refl _
      refine code_skip (jbn (jtn ?_))
      refine jcr ?_
      refine jq jrm ?_
      refine jq (jri (i := 0)) ?_
      refine jq jrdr ?_
      refine jq (rd_convI rfl rfl Tryz.underlying5 Tryz.underlying195 (sgn (l.getD 0 0)) (i8_sgn _)) ?_
      refine jq (rd_convI rfl rfl Tryz.underlying195 Tryz.underlying3 (sgn (l.getD 0 0)) (wrap_id (k := .i64) (by show _ ∧ _; omega))) ?_
      refine jq jrm ?_
      refine seq_nil ?_
      refine jcs ?_
      have hb : getM l = (valS l, 0) := by unfold getM; rw [if_neg (by omega), if_neg hni, if_neg (by omega)]
      have hv1 := valS_take_one l (by omega)
      refine jcr ?_
      refine jq jrm ?_
      refine jq (jrsf (hz1 := (show (1 : Int) = ((1 : Nat) : Int) from rfl))) ?_
      refine jq jrl ?_
      refine jq jrm ?_
      refine seq_nil ?_
      refine code_block ?_
      refine l_loop (α := Nat) [4, 6, 54, 55, 56, 57, 58, 59, 60, 61, 62, 63] (fun i => [(54, .c (.int .i64 (i : Nat))), (4, .c (.int .i64 (valS (l.take (i + 1)))))]) (fun _ => []) (fun i => i + 1 ≤ l.length) (fun i => l.length - i) (0) ?_ (fun _ => rfl) ?_ ?_ ?_
      · show 0 + 1 ≤ l.length; omega
      · exact .cons (CEnt.refl _) (.cons (CEnt.int hv1.symm) .nil)
      · (repeat (first | exact HEnt.nil | refine HEnt.same ?_ | refine HEnt.blk rfl (fun j hj => by rcases j with _|_|_|_|_|_|_|_|j <;> first | exact CEnt.refl _ | exact CEnt.int (by omega) | omega) ?_))
      · rintro i (hi : i + 1 ≤ l.length)
        have hb : getM l = (valS l, 0) := by unfold getM; rw [if_neg (by omega), if_neg hni, if_neg (by omega)]
        have hv1 := valS_take_one l (by omega)
        refine jcr ?_
        refine jq jrc ?_
        refine seq_nil ?_
        refine jcs ?_
        refine jcc (fun h42 => ?_) fun h42 => ?_
        rotate_left
        · refine code_exit (jte (jte (jbx (jtn ?_))))
          refine jcr ?_
          refine jq jrm ?_
          refine jq jrm ?_
          refine jq jrm ?_
          refine seq_nil ?_
          refine code_ret (jrt (hv := ?_))
          have hil : i + 1 = l.length := by simp only [List.length_drop] at *; omega
          rw [hb, hil, List.take_length]; exact CEnt.tup2 (CEnt.refl _) (CEnt.nilE rfl)
        refine code_skip (jtn ?_)
        refine jcs ?_
        refine code_block ?_
        have hb : getM l = (valS l, 0) := by unfold getM; rw [if_neg (by omega), if_neg hni, if_neg (by omega)]
        have hv1 := valS_take_one l (by omega)
        refine jcr ?_
        refine jq (jri (i := i) (hz := by omega)) ?_
        refine jq jrdr ?_
        refine jq jrm ?_
        refine seq_nil ?_
        have hdl : (l.drop 1).length = l.length - 1 := List.length_drop
        have hde : (l.drop 1).getD i 0 = l.getD (i + 1) 0 := by simp [List.getD, Nat.add_comm]
        have hvs := valS_take_succ l i (by omega)
        have hsm := valS_small (l.take (i + 1)) (by rw [List.length_take]; omega)
        have hcl := (l.getD (i + 1) 0).toNat_lt
        have hcd := ((l.drop 1).getD i 0).toNat_lt
        refine jcg ?_
        refine jq jrm ?_
        refine jq (rd_shl rfl rfl rfl (by (omega)) ((valS (l.take (i + 1)) * 256)) ((by show IntKind.i64.wrap (valS (l.take (i + 1)) * 256) = _; exact wrap_id (k := .i64) (by show _ ∧ _; omega)))) ?_
        refine jq jrm ?_
        refine jq (rd_convI rfl rfl Tryz.underlying5 Tryz.underlying3 ((((l.drop 1).getD i 0).toNat : Nat)) (wrap_id (k := .i64) (by show _ ∧ _; omega))) ?_
        refine jq (rd_or rfl rfl rfl (valS (l.take (i + 1 + 1))) ((by rw [hde, hvs]; exact i64_join _ _ (by omega) (by omega) (by omega) (by omega)))) ?_
        refine jq jrm ?_
        refine seq_nil ?_
        refine jbn (jtn ?_)
        have hb : getM l = (valS l, 0) := by unfold getM; rw [if_neg (by omega), if_neg hni, if_neg (by omega)]
        have hv1 := valS_take_one l (by omega)
        refine jcg ?_
        refine jq jra ?_
        refine jq jrm ?_
        refine seq_nil ?_
        refine jtn ?_
        refine jlend (i + 1) ?_ ?_ (h5 := ?_)
        · show i + 1 + 1 ≤ l.length; omega
        · show l.length - (i + 1) < l.length - i; omega
        · exact .cons (CEnt.int (by omega)) (.cons (CEnt.refl _) .nil)
    refine jq jrm ?_
    refine jq (jri (i := 1)) ?_
    refine jq jrdr ?_
    refine jq jrc ?_
    refine jq jrpT ?_
    refine jq jrpF ?_
    refine jq jrpT ?_
    refine jq jrm ?_
    refine seq_nil ?_
    refine jcc (fun h36 => ?_) fun h36 => ?_
    · refine jcs ?_
      refine jcd (.rd 0 (.rd 1 (.rd 2 .done))) ?_
      refine jyq (jrde 3) ?_
      refine jyq jrm ?_
      refine jyq jrm ?_
      refine jyd ?_
      refine jtn ?_
      refine code_ret (jbr (jtr (jrt (hv := ?_))))
      have hb : getM l = (0, 4) := by unfold getM; rw [if_neg (by omega), if_pos ((hid (by omega)).2 (by omega))]
      rw [hb]; exact CEnt.refl _
    have hni : ¬ idle l = true := by
      by_cases h1 : 1 < l.length
      · rw [hid h1]; omega
      · rw [idle_short l (by omega)]; exact Bool.noConfusion
    refine jcr ?_
    refine jq jrm ?_
    refine jq jrl ?_
    refine jq jrc ?_
    refine jq jrm ?_
    refine seq_nil ?_
    refine jcc (fun h38 => ?_) fun h38 => ?_
    · refine jcs ?_
      refine jcd (.rd 0 (.rd 1 (.rd 2 .done))) ?_
      refine jyq (jrde 0) ?_
      refine jyq jrm ?_
      refine jyq jrm ?_
      refine jyd ?_
      refine jtn ?_
      refine code_ret (jbr (jtr (jrt (hv := ?_))))
      have hb : getM l = (0, 1) := by unfold getM; rw [if_neg (by omega), if_neg hni, if_pos (by omega)]
      rw [hb]; exact CEnt.refl _
    refine code_skip (jbn (jtn ?_))
    refine jcr ?_
    refine jq jrm ?_
    refine jq (jri (i := 0)) ?_
    refine jq jrdr ?_
    refine jq (rd_convI rfl rfl Tryz.underlying5 Tryz.underlying195 (sgn (l.getD 0 0)) (i8_sgn _)) ?_
    refine jq (rd_convI rfl rfl Tryz.underlying195 Tryz.underlying3 (sgn (l.getD 0 0)) (wrap_id (k := .i64) (by show _ ∧ _; omega))) ?_
    refine jq jrm ?_
    refine seq_nil ?_
    refine jcs ?_
    have hb : getM l = (valS l, 0) := by unfold getM; rw [if_neg (by omega), if_neg hni, if_neg (by omega)]
    have hv1 := valS_take_one l (by omega)
    refine jcr ?_
    refine jq jrm ?_
    refine jq (jrsf (hz1 := (show (1 : Int) = ((1 : Nat) : Int) from rfl))) ?_
    refine jq jrl ?_
    refine jq jrm ?_
    refine seq_nil ?_
    refine code_block ?_
    refine l_loop (α := Nat) [4, 6, 54, 55, 56, 57, 58, 59, 60, 61, 62, 63] (fun i => [(54, .c (.int .i64 (i : Nat))), (4, .c (.int .i64 (valS (l.take (i + 1)))))]) (fun _ => []) (fun i => i + 1 ≤ l.length) (fun i => l.length - i) (0) ?_ (fun _ => rfl) ?_ ?_ ?_
    · show 0 + 1 ≤ l.length; omega
    · exact .cons (CEnt.refl _) (.cons (CEnt.int hv1.symm) .nil)
    · (repeat (first | exact HEnt.nil | refine HEnt.same ?_ | refine HEnt.blk rfl (fun j hj => by rcases j with _|_|_|_|_|_|_|_|j <;> first | exact CEnt.refl _ | exact CEnt.int (by omega) | omega) ?_))
    · rintro i (hi : i + 1 ≤ l.length)
      have hb : getM l = (valS l, 0) := by unfold getM; rw [if_neg (by omega), if_neg hni, if_neg (by omega)]
      have hv1 := valS_take_one l (by omega)
      refine jcr ?_
      refine jq jrc ?_
      refine seq_nil ?_
      refine jcs ?_
      refine jcc (fun h42 => ?_) fun h42 => ?_
      rotate_left
      · refine code_exit (jte (jte (jbx (jtn ?_))))
        refine jcr ?_
        refine jq jrm ?_
        refine jq jrm ?_
        refine jq jrm ?_
        refine seq_nil ?_
        refine code_ret (jrt (hv := ?_))
        have hil : i + 1 = l.length := by simp only [List.length_drop] at *; omega
        rw [hb, hil, List.take_length]; exact CEnt.tup2 (CEnt.refl _) (CEnt.nilE rfl)
      refine code_skip (jtn ?_)
      refine jcs ?_
      refine code_block ?_
      have hb : getM l = (valS l, 0) := by unfold getM; rw [if_neg (by omega), if_neg hni, if_neg (by omega)]
      have hv1 := valS_take_one l (by omega)
      refine jcr ?_
      refine jq (jri (i := i) (hz := by omega)) ?_
      refine jq jrdr ?_
      refine jq jrm ?_
      refine seq_nil ?_
      have hdl : (l.drop 1).length = l.length - 1 := List.length_drop
      have hde : (l.drop 1).getD i 0 = l.getD (i + 1) 0 := by simp [List.getD, Nat.add_comm]
      have hvs := valS_take_succ l i (by omega)
      have hsm := valS_small (l.take (i + 1)) (by rw [List.length_take]; omega)
      have hcl := (l.getD (i + 1) 0).toNat_lt
      have hcd := ((l.drop 1).getD i 0).toNat_lt
      refine jcg ?_
      refine jq jrm ?_
      refine jq (rd_shl rfl rfl rfl (by (omega)) ((valS (l.take (i + 1)) * 256)) ((by show IntKind.i64.wrap (valS (l.take (i + 1)) * 256) = _; exact wrap_id (k := .i64) (by show _ ∧ _; omega)))) ?_
      refine jq jrm ?_
      refine jq (rd_convI rfl rfl Tryz.underlying5 Tryz.underlying3 ((((l.drop 1).getD i 0).toNat : Nat)) (wrap_id (k := .i64) (by show _ ∧ _; omega))) ?_
      refine jq (rd_or rfl rfl rfl (valS (l.take (i + 1 + 1))) ((by rw [hde, hvs]; exact i64_join _ _ (by omega) (by omega) (by omega) (by omega)))) ?_
      refine jq jrm ?_
      refine seq_nil ?_
      refine jbn (jtn ?_)
      have hb : getM l = (valS l, 0) := by unfold getM; rw [if_neg (by omega), if_neg hni, if_neg (by omega)]
      have hv1 := valS_take_one l (by omega)
      refine jcg ?_
      refine jq jra ?_
      refine jq jrm ?_
      refine seq_nil ?_
      refine jtn ?_
      refine jlend (i + 1) ?_ ?_ (h5 := ?_)
      · show i + 1 + 1 ≤ l.length; omega
      · show l.length - (i + 1) < l.length - i; omega
      · exact .cons (CEnt.int (by omega)) (.cons (CEnt.refl _) .nil)
  refine jq jrm ?_
  refine jq (jri (i := 1)) ?_
  refine jq jrdr ?_
  refine jq jrc ?_
  refine jq jrpT ?_
  refine jq jrm ?_
  refine jqsp 27 (fun g36_3 => ?_) fun g36_3 => ?_
  · refine jqs ?_
    refine jqs ?_
    refine jqs ?_
    refine jqs ?_
    refine jqs ?_
    refine jqs ?_
    refine jqs ?_
    refine jqs ?_
    refine jqs ?_
    refine jqs ?_
    refine jq jrpT ?_
    refine jq jrpT ?_
    refine jq jrm ?_
    refine seq_nil ?_
    refine jcT ?_
    refine jcs ?_
    refine jcd (.rd 0 (.rd 1 (.rd 2 .done))) ?_
    refine jyq (jrde 3) ?_
    refine jyq jrm ?_
    refine jyq jrm ?_
    refine jyd ?_
    refine jtn ?_
    refine code_ret (jbr (jtr (jrt (hv := ?_))))
    have hb : getM l = (0, 4) := by unfold getM; rw [if_neg (by omega), if_pos ((hid (by omega)).2 (by omega))]
    rw [hb]; exact CEnt.refl _
  refine jq jrm ?_
  refine jq (jri (i := 0)) ?_
  refine jq jrdr ?_
  refine jq jrc ?_
  refine jq jrm ?_
  refine jqsp 32 (fun g36_4 => ?_) fun g36_4 => ?_
  rotate_left
  · refine jqs ?_
    refine jqs ?_
    refine jqs ?_
    refine jqs ?_
    refine jq jrpF ?_
    refine jq jrpF ?_
    refine jq jrpT ?_
    refine jq jrm ?_
    refine seq_nil ?_
    refine jcF ?_
    have hni : ¬ idle l = true := by
      by_cases h1 : 1 < l.length
      · rw [hid h1]; omega
      · rw [idle_short l (by omega)]; exact Bool.noConfusion
    refine jcr ?_
    refine jq jrm ?_
    refine jq jrl ?_
    refine jq jrc ?_
    refine jq jrm ?_
    refine seq_nil ?_
    refine jcc (fun h38 => ?_) fun h38 => ?_
    · refine jcs ?_
      refine jcd (.rd 0 (.rd 1 (.rd 2 .done))) ?_
      refine jyq (jrde 0) ?_
      refine jyq jrm ?_
      refine jyq jrm ?_
      refine jyd ?_
      refine jtn ?_
      refine code_ret (jbr (jtr (jrt (hv := ?_))))
      have hb : getM l = (0, 1) := by unfold getM; rw [if_neg (by omega), if_neg hni, if_pos (by omega)]
      rw [hb]; exact CEnt.refl _
    refine code_skip (jbn (jtn ?_))
    refine jcr ?_
    refine jq jrm ?_
    refine jq (jri (i := 0)) ?_
    refine jq jrdr ?_
    refine jq (rd_convI rfl rfl Tryz.underlying5 Tryz.underlying195 (sgn (l.getD 0 0)) (i8_sgn _)) ?_
    refine jq (rd_convI rfl rfl Tryz.underlying195 Tryz.underlying3 (sgn (l.getD 0 0)) (wrap_id (k := .i64) (by show _ ∧ _; omega))) ?_
    refine jq jrm ?_
    refine seq_nil ?_
    refine jcs ?_
    have hb : getM l = (valS l, 0) := by unfold getM; rw [if_neg (by omega), if_neg hni, if_neg (by omega)]
    have hv1 := valS_take_one l (by omega)
    refine jcr ?_
    refine jq jrm ?_
    refine jq (jrsf (hz1 := (show (1 : Int) = ((1 : Nat) : Int) from rfl))) ?_
    refine jq jrl ?_
    refine jq jrm ?_
    refine seq_nil ?_
    refine code_block ?_
    refine l_loop (α := Nat) [4, 6, 54, 55, 56, 57, 58, 59, 60, 61, 62, 63] (fun i => [(54, .c (.int .i64 (i : Nat))), (4, .c (.int .i64 (valS (l.take (i + 1)))))]) (fun _ => []) (fun i => i + 1 ≤ l.length) (fun i => l.length - i) (0) ?_ (fun _ => rfl) ?_ ?_ ?_
    · show 0 + 1 ≤ l.length; omega
    · exact .cons (CEnt.refl _) (.cons (CEnt.int hv1.symm) .nil)
    · (repeat (first | exact HEnt.nil | refine HEnt.same ?_ | refine HEnt.blk rfl (fun j hj => by rcases j with _|_|_|_|_|_|_|_|j <;> first | exact CEnt.refl _ | exact CEnt.int (by omega) | omega) ?_))
    · rintro i (hi : i + 1 ≤ l.length)
      have hb : getM l = (valS l, 0) := by unfold getM; rw [if_neg (by omega), if_neg hni, if_neg (by omega)]
      have hv1 := valS_take_one l (by omega)
      refine jcr ?_
      refine jq jrc ?_
      refine seq_nil ?_
      refine jcs ?_
      refine jcc (fun h42 => ?_) fun h42 => ?_
      rotate_left
      · refine code_exit (jte (jte (jbx (jtn ?_))))
        refine jcr ?_
        refine jq jrm ?_
        refine jq jrm ?_
        refine jq jrm ?_
        refine seq_nil ?_
        refine code_ret (jrt (hv := ?_))
        have hil : i + 1 = l.length := by simp only [List.length_drop] at *; omega
        rw [hb, hil, List.take_length]; exact CEnt.tup2 (CEnt.refl _) (CEnt.nilE rfl)
      refine code_skip (jtn ?_)
      refine jcs ?_
      refine code_block ?_
      have hb : getM l = (valS l, 0) := by unfold getM; rw [if_neg (by omega), if_neg hni, if_neg (by omega)]
      have hv1 := valS_take_one l (by omega)
      refine jcr ?_
      refine jq (jri (i := i) (hz := by omega)) ?_
      refine jq jrdr ?_
      refine jq jrm ?_
      refine seq_nil ?_
      have hdl : (l.drop 1).length = l.length - 1 := List.length_drop
      have hde : (l.drop 1).getD i 0 = l.getD (i + 1) 0 := by simp [List.getD, Nat.add_comm]
      have hvs := valS_take_succ l i (by omega)
      have hsm := valS_small (l.take (i + 1)) (by rw [List.length_take]; omega)
      have hcl := (l.getD (i + 1) 0).toNat_lt
      have hcd := ((l.drop 1).getD i 0).toNat_lt
      refine jcg ?_
      refine jq jrm ?_
      refine jq (rd_shl rfl rfl rfl (by (omega)) ((valS (l.take (i + 1)) * 256)) ((by show IntKind.i64.wrap (valS (l.take (i + 1)) * 256) = _; exact wrap_id (k := .i64) (by show _ ∧ _; omega)))) ?_
      refine jq jrm ?_
      refine jq (rd_convI rfl rfl Tryz.underlying5 Tryz.underlying3 ((((l.drop 1).getD i 0).toNat : Nat)) (wrap_id (k := .i64) (by show _ ∧ _; omega))) ?_
      refine jq (rd_or rfl rfl rfl (valS (l.take (i + 1 + 1))) ((by rw [hde, hvs]; exact i64_join _ _ (by omega) (by omega) (by omega) (by omega)))) ?_
      refine jq jrm ?_
      refine seq_nil ?_
      refine jbn (jtn ?_)
      have hb : getM l = (valS l, 0) := by unfold getM; rw [if_neg (by omega), if_neg hni, if_neg (by omega)]
      have hv1 := valS_take_one l (by omega)
      refine jcg ?_
      refine jq jra ?_
      refine jq jrm ?_
      refine seq_nil ?_
      refine jtn ?_
      refine jlend (i + 1) ?_ ?_ (h5 := ?_)
      · show i + 1 + 1 ≤ l.length; omega
      · show l.length - (i + 1) < l.length - i; omega
      · exact .cons (CEnt.int (by omega)) (.cons (CEnt.refl _) .nil)
  refine jq jrm ?_
  refine jq (jri (i := 1)) ?_
  refine jq jrdr ?_
  refine jq jrc ?_
  refine jq jrpT ?_
  refine jq jrpF ?_
  refine jq jrpT ?_
  refine jq jrm ?_
  refine seq_nil ?_
  refine jcc (fun h36 => ?_) fun h36 => ?_
  · refine jcs ?_
    refine jcd (.rd 0 (.rd 1 (.rd 2 .done))) ?_
    refine jyq (jrde 3) ?_
    refine jyq jrm ?_
    refine jyq jrm ?_
    refine jyd ?_
    refine jtn ?_
    refine code_ret (jbr (jtr (jrt (hv := ?_))))
    have hb : getM l = (0, 4) := by unfold getM; rw [if_neg (by omega), if_pos ((hid (by omega)).2 (by omega))]
    rw [hb]; exact CEnt.refl _
  have hni : ¬ idle l = true := by
    by_cases h1 : 1 < l.length
    · rw [hid h1]; omega
    · rw [idle_short l (by omega)]; exact Bool.noConfusion
  refine jcr ?_
  refine jq jrm ?_
  refine jq jrl ?_
  refine jq jrc ?_
  refine jq jrm ?_
  refine seq_nil ?_
  refine jcc (fun h38 => ?_) fun h38 => ?_
  · refine jcs ?_
    refine jcd (.rd 0 (.rd 1 (.rd 2 .done))) ?_
    refine jyq (jrde 0) ?_
    refine jyq jrm ?_
    refine jyq jrm ?_
    refine jyd ?_
    refine jtn ?_
    refine code_ret (jbr (jtr (jrt (hv := ?_))))
    have hb : getM l = (0, 1) := by unfold getM; rw [if_neg (by omega), if_neg hni, if_pos (by omega)]
    rw [hb]; exact CEnt.refl _
  refine code_skip (jbn (jtn ?_))
  refine jcr ?_
  refine jq jrm ?_
  refine jq (jri (i := 0)) ?_
  refine jq jrdr ?_
  refine jq (rd_convI rfl rfl Tryz.underlying5 Tryz.underlying195 (sgn (l.getD 0 0)) (i8_sgn _)) ?_
  refine jq (rd_convI rfl rfl Tryz.underlying195 Tryz.underlying3 (sgn (l.getD 0 0)) (wrap_id (k := .i64) (by show _ ∧ _; omega))) ?_
  refine jq jrm ?_
  refine seq_nil ?_
  refine jcs ?_
  have hb : getM l = (valS l, 0) := by unfold getM; rw [if_neg (by omega), if_neg hni, if_neg (by omega)]
  have hv1 := valS_take_one l (by omega)
  refine jcr ?_
  refine jq jrm ?_
  refine jq (jrsf (hz1 := (show (1 : Int) = ((1 : Nat) : Int) from rfl))) ?_
  refine jq jrl ?_
  refine jq jrm ?_
  refine seq_nil ?_
  refine code_block ?_
  refine l_loop (α := Nat) [4, 6, 54, 55, 56, 57, 58, 59, 60, 61, 62, 63] (fun i => [(54, .c (.int .i64 (i : Nat))), (4, .c (.int .i64 (valS (l.take (i + 1)))))]) (fun _ => []) (fun i => i + 1 ≤ l.length) (fun i => l.length - i) (0) ?_ (fun _ => rfl) ?_ ?_ ?_
  · show 0 + 1 ≤ l.length; omega
  · exact .cons (CEnt.refl _) (.cons (CEnt.int hv1.symm) .nil)
  · (repeat (first | exact HEnt.nil | refine HEnt.same ?_ | refine HEnt.blk rfl (fun j hj => by rcases j with _|_|_|_|_|_|_|_|j <;> first | exact CEnt.refl _ | exact CEnt.int (by omega) | omega) ?_))
  · rintro i (hi : i + 1 ≤ l.length)
    have hb : getM l = (valS l, 0) := by unfold getM; rw [if_neg (by omega), if_neg hni, if_neg (by omega)]
    have hv1 := valS_take_one l (by omega)
    refine jcr ?_
    refine jq jrc ?_
    refine seq_nil ?_
    refine jcs ?_
    refine jcc (fun h42 => ?_) fun h42 => ?_
    rotate_left
    · refine code_exit (jte (jte (jbx (jtn ?_))))
      refine jcr ?_
      refine jq jrm ?_
      refine jq jrm ?_
      refine jq jrm ?_
      refine seq_nil ?_
      refine code_ret (jrt (hv := ?_))
      have hil : i + 1 = l.length := by simp only [List.length_drop] at *; omega
      rw [hb, hil, List.take_length]; exact CEnt.tup2 (CEnt.refl _) (CEnt.nilE rfl)
    refine code_skip (jtn ?_)
    refine jcs ?_
    refine code_block ?_
    have hb : getM l = (valS l, 0) := by unfold getM; rw [if_neg (by omega), if_neg hni, if_neg (by omega)]
    have hv1 := valS_take_one l (by omega)
    refine jcr ?_
    refine jq (jri (i := i) (hz := by omega)) ?_
    refine jq jrdr ?_
    refine jq jrm ?_
    refine seq_nil ?_
    have hdl : (l.drop 1).length = l.length - 1 := List.length_drop
    have hde : (l.drop 1).getD i 0 = l.getD (i + 1) 0 := by simp [List.getD, Nat.add_comm]
    have hvs := valS_take_succ l i (by omega)
    have hsm := valS_small (l.take (i + 1)) (by rw [List.length_take]; omega)
    have hcl := (l.getD (i + 1) 0).toNat_lt
    have hcd := ((l.drop 1).getD i 0).toNat_lt
    refine jcg ?_
    refine jq jrm ?_
    refine jq (rd_shl rfl rfl rfl (by (omega)) ((valS (l.take (i + 1)) * 256)) ((by show IntKind.i64.wrap (valS (l.take (i + 1)) * 256) = _; exact wrap_id (k := .i64) (by show _ ∧ _; omega)))) ?_
    refine jq jrm ?_
    refine jq (rd_convI rfl rfl Tryz.underlying5 Tryz.underlying3 ((((l.drop 1).getD i 0).toNat : Nat)) (wrap_id (k := .i64) (by show _ ∧ _; omega))) ?_
    refine jq (rd_or rfl rfl rfl (valS (l.take (i + 1 + 1))) ((by rw [hde, hvs]; exact i64_join _ _ (by omega) (by omega) (by omega) (by omega)))) ?_
    refine jq jrm ?_
    refine seq_nil ?_
    refine jbn (jtn ?_)
    have hb : getM l = (valS l, 0) := by unfold getM; rw [if_neg (by omega), if_neg hni, if_neg (by omega)]
    have hv1 := valS_take_one l (by omega)
    refine jcg ?_
    refine jq jra ?_
    refine jq jrm ?_
    refine seq_nil ?_
    refine jtn ?_
    refine jlend (i + 1) ?_ ?_ (h5 := ?_)
    · show i + 1 + 1 ≤ l.length; omega
    · show l.length - (i + 1) < l.length - i; omega
    · exact .cons (CEnt.int (by omega)) (.cons (CEnt.refl _) .nil)
theorem wrange_ac (l : List UInt8) (least most : Int) : ACp gs Tryz.prog 81 [bsC l, .c (.int .i64 least), .c (.int .i64 most)] (.tup 2 (fl [.c (.int .i64 (rangeM l least most).1), .err (rangeM l least most).2])) := by
  refine ac_of 30 Tryz.func81 rfl rfl rfl (fun al w0 F0 St0 => ?_)
  refine jcr ?_
  refine jq jrm ?_
  refine jq jrm ?_
  refine seq_nil ?_
  refine jcr ?_
  refine jq jrm ?_
  refine jqe (jecP (wget_ac l) ?_)
  refine jq jrm ?_
  refine jq jrx ?_
  refine jq jrx ?_
  refine jq jrm ?_
  refine jq jrm ?_
  refine seq_nil ?_
  refine jcs ?_
  refine code_block ?_
  refine jcr ?_
  refine jq jrm ?_
  refine jq jre ?_
  refine jq jrm ?_
  refine seq_nil ?_
  refine jcc (fun h52 => ?_) fun h52 => ?_
  · refine jcr ?_
    refine jq jrm ?_
    refine jq jrm ?_
    refine jq jrm ?_
    refine seq_nil ?_
    refine code_ret (jbr (jtr (jrt (hv := ?_))))
    have hb : rangeM l least most = (0, (getM l).2) := by unfold rangeM; rw [if_pos (by omega)]
    rw [hb]; exact CEnt.refl _
  refine jcr ?_
  refine jq jrm ?_
  refine jq jrm ?_
  refine jq jrc ?_
  refine jq jrm ?_
  refine jqsp 23 (fun g54 => ?_) fun g54 => ?_
  · refine jqs ?_
    refine jqs ?_
    refine jqs ?_
    refine jq jrpT ?_
    refine jq jrm ?_
    refine seq_nil ?_
    refine jcT ?_
    refine jcs ?_
    refine jcd (.rd 0 (.rd 1 (.rd 2 .done))) ?_
    refine jyq (jrde 0) ?_
    refine jyq jrm ?_
    refine jyq jrm ?_
    refine jyd ?_
    refine jtn ?_
    refine code_ret (jbr (jtr (jrt (hv := ?_))))
    have hb : rangeM l least most = (0, 1) := by unfold rangeM; rw [if_neg (by omega), if_pos (by omega)]
    rw [hb]; exact CEnt.refl _
  refine jq jrm ?_
  refine jq jrm ?_
  refine jq jrc ?_
  refine jq jrpF ?_
  refine jq jrm ?_
  refine seq_nil ?_
  refine jcc (fun h54 => ?_) fun h54 => ?_
  rotate_left
  · refine code_skip (jbn (jtn ?_))
    refine jcr ?_
    refine jq jrm ?_
    refine jq jrm ?_
    refine jq jrm ?_
    refine seq_nil ?_
    refine code_ret (jrt (hv := ?_))
    have hb : rangeM l least most = ((getM l).1, 0) := by unfold rangeM; rw [if_neg (by omega), if_neg (by omega)]
    rw [hb]; exact CEnt.tup2 (CEnt.refl _) (CEnt.nilE rfl)
  refine jcs ?_
  refine jcd (.rd 0 (.rd 1 (.rd 2 .done))) ?_
  refine jyq (jrde 0) ?_
  refine jyq jrm ?_
  refine jyq jrm ?_
  refine jyd ?_
  refine jtn ?_
  refine code_ret (jbr (jtr (jrt (hv := ?_))))
  have hb : rangeM l least most = (0, 1) := by unfold rangeM; rw [if_neg (by omega), if_pos (by omega)]
  rw [hb]; exact CEnt.refl _
/-- how many bytes a number's body has, less one; the body -/
def lenN (n : Int) : Nat := ((List.range 8).find? fun k => stp k n).getD 7
def putN (n : Int) : List UInt8 := (digs (lenN n + 1) n).reverse
theorem lenN_is {n : Int} (h1 : -9223372036854775808 ≤ n) (h2 : n ≤ 9223372036854775807) : IsLen n (lenN n) := by
  unfold lenN
  have h7 := stp_seven n h1 h2
  cases e : (List.range 8).find? fun k => stp k n with
  | none =>
    have := List.find?_eq_none.1 e 7 (by simp)
    exact absurd h7 this
  | some k =>
    rw [List.find?_range_eq_some] at e
    obtain ⟨e1, e2, e3⟩ := e
    have := List.mem_range.1 e2
    exact ⟨by show k ≤ 7; omega, e1, fun j hj => by have := e3 j hj; simpa using this⟩
theorem putN_of {n : Int} {k : Nat} (h1 : -9223372036854775808 ≤ n) (h2 : n ≤ 9223372036854775807) (h : IsLen n k) : (digs (k + 1) n).reverse = putN n := by
  unfold putN
  rw [h.unique (lenN_is h1 h2)]
theorem putN_len (n : Int) (h1 : -9223372036854775808 ≤ n) (h2 : n ≤ 9223372036854775807) : 1 ≤ (putN n).length ∧ (putN n).length ≤ 8 := by
  have := (lenN_is h1 h2).1
  unfold putN
  rw [List.length_reverse, digs_length]
  omega
theorem shr8 (a : Int) : a.fdiv (2 ^ (min (8 : Int).toNat IntKind.i64.bits)) = a / 256 := by
  show a.fdiv 256 = a / 256
  rw [Int.fdiv_eq_ediv_of_nonneg a (by decide)]
theorem byte_wrap (a : Int) : IntKind.u8.wrap a = ((byte a).toNat : Nat) := by rw [IntKind.wrap_u8, byte_toNat]
theorem digs_last (k : Nat) (n : Int) : (((digs (k + 1) n).getD k 0).toNat : Int) = sh k n % 256 := by rw [digs_get _ _ _ (by omega), byte_toNat]
set_option maxHeartbeats 1000000 in
theorem wput_ac {gs : List Nat} (n : Int) (h1 : -9223372036854775808 ≤ n) (h2 : n ≤ 9223372036854775807) : ACp gs Tryz.prog 84 [.c (.int .i64 n)] (bsC (putN n)) := by
  have h7 := stp_seven n h1 h2
  refine ac_of 29 Tryz.func84 rfl rfl rfl (fun al w0 F0 St0 => ?_)
  refine jcr ?_
  refine jq jrm ?_
  refine seq_nil ?_
  refine jcr ?_
  refine jq jrm ?_
  refine jq (rd_convI rfl rfl Tryz.underlying3 Tryz.underlying5 ((((byte n).toNat : Nat) : Int)) (byte_wrap n)) ?_
  refine jqe (jebl 1 1 zr5 fun p1 => ?_)
  refine jq jrm ?_
  refine seq_nil ?_
  refine jcs ?_
  refine jcr ?_
  refine jq jrm ?_
  refine jq (rd_shr rfl rfl rfl (by (omega)) (_) (rfl)) ?_
  refine jq jrm ?_
  refine seq_nil ?_
  refine code_block ?_
  refine l_loop (α := Nat × Option Nat) [3, 4, 10, 11, 12, 13, 14, 15, 16, 17, 18, 19, 20, 21, 22, 23, 24, 25] (fun (k, g) => [(3, .os 0 g 0 (digs (k + 1) n).length 1), (4, .c (.int .i64 (sh (k + 1) n)))]) (fun (k, g) => [(g, .blk (digs (k + 1) n).length (byF (digs (k + 1) n)))]) (fun (k, g) => k ≤ 7 ∧ ∀ j, j < k → stp j n = false) (fun (k, g) => 8 - k) ((0, p1)) ?_ (fun _ => rfl) ?_ ?_ ?_
  · exact ⟨Nat.zero_le _, fun j hj => absurd hj (Nat.not_lt_zero j)⟩
  · exact .cons (CEnt.refl _) (.cons (CEnt.int (shr8 n)) .nil)
  · exact .blk rfl (fun j hj => by obtain rfl : j = 0 := (by rw [digs_length] at hj; omega); exact CEnt.refl _) .nil
  · rintro ⟨k, g⟩ ⟨(hk : k ≤ 7), hno⟩
    have hdl := digs_last k n
    have hdn := digs_length (k + 1) n
    refine jcs ?_
    refine jcr ?_
    refine jq jrm ?_
    refine jq jrm ?_
    refine jq jrl ?_
    refine jq jra ?_
    refine jq (jri (i := k) (hz := by omega)) ?_
    refine jqo jrdo ?_
    refine jq jrm ?_
    refine jqe (jecP (settled_ac (((digs (k + 1) n).getD k 0).toNat : Nat) (sh (k + 1) n)) ?_)
    refine jq jrn ?_
    refine seq_nil ?_
    refine jcc (fun h19 => ?_) fun h19 => ?_
    rotate_left
    · refine code_exit (jte (jte (jbx (jtn ?_))))
      have hst : stp k n = true := by
        unfold stp
        have hh := h19
        rw [hdl] at hh
        (simp at hh ⊢; omega)
      refine jcr ?_
      refine jq jrm ?_
      refine jqm (jmcH 0 (reverse8_ac _ (digs (k + 1) n) (by omega)) ?_)
      rintro _ _ ⟨rfl, rfl⟩
      refine ⟨_, _, rfl, CEnt.refl _, ?_⟩
      refine seq_nil ?_
      refine jcr ?_
      refine jq jrm ?_
      refine jq jrm ?_
      refine seq_nil ?_
      refine code_ent (freeze 0 rfl) ?_
      refine code_ent (thawB 2 ((digs (k + 1) n).reverse) rfl rfl (by simp) rfl) ?_
      refine code_ret (jrt (hv := CEnt.bs (putN_of h1 h2 ⟨hk, hst, hno⟩)))
    refine code_skip (jtn ?_)
    refine jcs ?_
    refine code_block ?_
    have hst : stp k n = false := by
      unfold stp
      have hh := h19
      rw [hdl] at hh
      (simp at hh ⊢; omega)
    refine jcg ?_
    refine jq jrm ?_
    refine jq jrm ?_
    refine jq (rd_convI rfl rfl Tryz.underlying3 Tryz.underlying5 ((((byte (sh (k + 1) n)).toNat : Nat) : Int)) (byte_wrap _)) ?_
    refine jqe (jebl 1 1 zr5 fun p2 => ?_)
    refine jqm (m_appendB (l2 := [byte (sh (k + 1) n)]) rfl rfl rfl (Nat.le_refl _) (fun _ _ => CEnt.refl _) (src_os rfl (.inl rfl) (by decide)) rfl (hh_bytes (.cons (CEnt.int (rfl)) .nil)) Tryz.underlying26 nu26 sz5 zr5 by5 rfl (by (simp; omega)) (leaf_fl rfl rfl) rfl rfl (fun p3 => ?_))
    refine jq jrm ?_
    refine seq_nil ?_
    refine jbn (jtn ?_)
    refine jcg ?_
    refine jq jrm ?_
    refine jq (rd_shr rfl rfl rfl (by (omega)) (_) (rfl)) ?_
    refine jq jrm ?_
    refine seq_nil ?_
    refine jtn ?_
    refine jlend ((k + 1, p3)) ?_ ?_ (h5 := ?_) (h7 := ?_)
    · have hk7 : k ≠ 7 := fun e => by
        rw [e] at hst; rw [hst] at h7; cases h7
      refine ⟨by omega, fun j hj => ?_⟩
      by_cases e : j = k
      · rw [e]; exact hst
      · exact hno j (by omega)
    · show 8 - (k + 1) < 8 - k; omega
    · exact .cons (CEnt.osI (by rw [← digs_succ])) (.cons (CEnt.int (shr8 _)) .nil)
    · exact .blk (by rw [← digs_succ]) (fun j hj => CEnt.of_eq (by rw [← digs_succ])) .nil
end Am
end Go.Proofs.YtjckfbpdieijeaaGreatDoor

/- Chapter 3, plain: what the reference says of the first element and of whole elements, by the program's words. -/
namespace Go.Proofs.YtjckfbpdieijeaaGreatDoor
namespace Am
open Go.RowKit
set_option linter.unusedVariables false

/-- where the first element's body begins, and where it ends -/
def fromM (b : List UInt8) : Nat := if (nextM b).e = 0 then b.length - (nextM b).rest.length - (nextM b).body.length else 0
def toM (b : List UInt8) : Nat := if (nextM b).e = 0 then b.length - (nextM b).rest.length else 0

theorem b8_self (a : UInt8) (n : Nat) (h : n % 256 = a.toNat) : b8 n = a := by
  apply UInt8.toNat_inj.1
  rw [b8_mod, h]
theorem lenL_iff {c : UInt8} {l : List UInt8} (hl : 1 ≤ l.length ∧ l.length ≤ 4) (hc : c.toNat = 128 + l.length) : lenL (beN l) = c :: l ↔ ¬(beN l ≤ 127 ∨ (l.getD 0 0).toNat = 0) := by
  match l, hl with
  | [x], _ =>
    have hx := x.toNat_lt
    have e : beN [x] = x.toNat := by simp [beN]
    rw [e]
    have c1 : c = 129 := UInt8.toNat_inj.1 (by rw [hc]; rfl)
    subst c1
    unfold lenL
    split
    · exact ⟨fun h => by simp at h, fun h => absurd (Or.inl (by omega)) h⟩
    · exact ⟨fun _ => by simp; omega, fun _ => by rw [b8_self x _ (by omega)]⟩
  | [x, y], _ =>
    have hx := x.toNat_lt
    have hy := y.toNat_lt
    have e : beN [x, y] = x.toNat * 256 + y.toNat := by simp [beN]
    rw [e]
    have c1 : c = 130 := UInt8.toNat_inj.1 (by rw [hc]; rfl)
    subst c1
    unfold lenL
    split
    · exact ⟨fun h => by simp at h, fun h => absurd (Or.inl (by omega)) h⟩
    · split
      · exact ⟨fun h => by simp at h, fun h => absurd (Or.inr (by simp; omega)) h⟩
      · rw [if_pos (by omega)]
        exact ⟨fun _ => by simp; omega, fun _ => by rw [b8_self x _ (by omega), b8_self y _ (by omega)]⟩
  | [x, y, z], _ =>
    have hx := x.toNat_lt
    have hy := y.toNat_lt
    have hz := z.toNat_lt
    have e : beN [x, y, z] = (x.toNat * 256 + y.toNat) * 256 + z.toNat := by simp [beN]
    rw [e]
    have c1 : c = 131 := UInt8.toNat_inj.1 (by rw [hc]; rfl)
    subst c1
    unfold lenL
    split
    · exact ⟨fun h => by simp at h, fun h => absurd (Or.inl (by omega)) h⟩
    · split
      · exact ⟨fun h => by simp at h, fun h => absurd (Or.inr (by simp; omega)) h⟩
      · split
        · exact ⟨fun h => by simp at h, fun h => absurd (Or.inr (by simp; omega)) h⟩
        · rw [if_pos (by omega)]
          exact ⟨fun _ => by simp; omega, fun _ => by rw [b8_self x _ (by omega), b8_self y _ (by omega), b8_self z _ (by omega)]⟩
  | [x, y, z, t], _ =>
    have hx := x.toNat_lt
    have hy := y.toNat_lt
    have hz := z.toNat_lt
    have ht := t.toNat_lt
    have e : beN [x, y, z, t] = ((x.toNat * 256 + y.toNat) * 256 + z.toNat) * 256 + t.toNat := by simp [beN]
    rw [e]
    have c1 : c = 132 := UInt8.toNat_inj.1 (by rw [hc]; rfl)
    subst c1
    unfold lenL
    split
    · exact ⟨fun h => by simp at h, fun h => absurd (Or.inl (by omega)) h⟩
    · split
      · exact ⟨fun h => by simp at h, fun h => absurd (Or.inr (by simp; omega)) h⟩
      · split
        · exact ⟨fun h => by simp at h, fun h => absurd (Or.inr (by simp; omega)) h⟩
        · split
          · exact ⟨fun h => by simp at h, fun h => absurd (Or.inr (by simp; omega)) h⟩
          · exact ⟨fun _ => by simp; omega, fun _ => by rw [b8_self x _ (by omega), b8_self y _ (by omega), b8_self z _ (by omega), b8_self t _ (by omega)]⟩
theorem at_cons {b : List UInt8} {k : Nat} (h : 1 < b.length) : (b.take (2 + k)).drop 1 = b.getD 1 0 :: (b.drop 2).take k := by
  match b, h with
  | x :: y :: r, _ => simp [show 2 + k = (k + 1) + 1 by omega]
theorem get_take {b : List UInt8} {k i : Nat} (h : i < k) : ((b.drop 2).take k).getD i 0 = b.getD (2 + i) 0 := by
  simp [List.getD, h]
/-- the length as the reference reads it -/
theorem meas_short {b : List UInt8} (h : 1 < b.length) (hc : (b.getD 1 0).toNat < 128) : measM (b.drop 1) = ⟨0, (b.getD 1 0).toNat, b.drop 2⟩ := by
  rw [measM_ne (c := (b.getD 1 0).toNat) (r := b.drop 2) (by simp; omega) (by simp [List.getD]) (by simp), if_pos (by omega)]
theorem meas_long {b : List UInt8} {k : Nat} (h : 1 < b.length) (hc : (b.getD 1 0).toNat = 128 + k) : measM (b.drop 1) = if k = 0 ∨ 4 < k then ⟨4, 0, []⟩ else if b.length - 2 < k then ⟨2, 0, []⟩ else
    if lenL (beN ((b.drop 2).take k)) = (b.take (2 + k)).drop 1 then ⟨0, beN ((b.drop 2).take k), b.drop (2 + k)⟩ else ⟨4, 0, []⟩ := by
  rw [measM_ne (c := (b.getD 1 0).toNat) (r := b.drop 2) (by simp; omega) (by simp [List.getD]) (by simp), if_neg (by omega)]
  by_cases h1 : k = 0 ∨ 4 < k
  · rw [if_pos h1, if_pos (by omega)]
  · rw [if_neg h1, if_neg (by omega), List.length_drop, hc, show 128 + k - 128 = k by omega]
    by_cases h2 : b.length - 2 < k
    · rw [if_pos h2, if_pos h2]
    · rw [if_neg h2, if_neg h2, at_cons h, List.drop_drop]
      have hl : ((b.drop 2).take k).length = k := by simp; omega
      have hg : ((b.drop 2).take k).getD 0 0 = (b.drop 2).getD 0 0 := by simp [List.getD, show 0 < k by omega]
      have := lenL_iff (c := b.getD 1 0) (l := (b.drop 2).take k) (by omega) (by rw [hl]; exact hc)
      rw [hg] at this
      by_cases h3 : beN ((b.drop 2).take k) ≤ 127 ∨ ((b.drop 2).getD 0 0).toNat = 0
      · rw [if_pos h3, if_neg (fun h => this.1 h h3)]
      · rw [if_neg h3, if_pos (this.2 h3)]
end Am
end Go.Proofs.YtjckfbpdieijeaaGreatDoor

/- Chapter 8, plain: what is written, value by value: the program's writer and the reference's. -/
namespace Go.Proofs.YtjckfbpdieijeaaGreatDoor
set_option linter.unusedVariables false
namespace Am
open Go.RowKit Cal
set_option maxRecDepth 100000

/-- a value as the laws tell it -/
structure VV where
  kind : Int
  n : Int
  is : Bool
  b : List UInt8
  t : List UInt8
def VV.none : VV := ⟨0, 0, false, [], []⟩
/-- a writer: the elements that are under way, the innermost one first; what is done; the error -/
structure W8 where
  fr : List (Int × List (List UInt8))
  d : List UInt8
  k : Nat
def failW (e : Nat) (s : W8) : W8 := if s.k = 0 then ⟨s.fr, s.d, e⟩ else s
def addW (b : List UInt8) (s : W8) : W8 := match s.fr with
  | [] => ⟨[], s.d ++ b, s.k⟩
  | x :: r => ⟨(x.1, x.2 ++ [b]) :: r, s.d, s.k⟩
def putW (tag : Int) (body : List UInt8) (e : Nat) (s : W8) : W8 :=
  if (failW e s).k ≠ 0 then failW e s else if putE tag body ≠ 0 then ⟨s.fr, s.d, putE tag body⟩ else addW (putL tag body) s
def openW (tag : Int) (s : W8) : W8 := if s.k ≠ 0 then s else if madeM tag = false then ⟨s.fr, s.d, 5⟩ else if s.fr.length = 16 then ⟨s.fr, s.d, 6⟩ else ⟨(tag, []) :: s.fr, s.d, s.k⟩
def bodyF (x : Int × List (List UInt8)) : List UInt8 := if x.1 = 49 then (sortL x.2).flatten else x.2.flatten
def closeV (s : W8) : W8 := if s.k ≠ 0 then s else match s.fr with
  | [] => ⟨[], s.d, 24⟩
  | x :: r => putW x.1 (bodyF x) 0 ⟨r, s.d, s.k⟩
def rawW (b : List UInt8) (s : W8) : W8 := if (failW (depthM b).2 s).k = 0 then addW b s else failW (depthM b).2 s
def doneK (s : W8) : Nat := if s.k ≠ 0 then s.k else if s.fr ≠ [] then 24 else if 65536 < s.d.length then 3 else 0
def doneB (s : W8) : List UInt8 := if doneK s = 0 then s.d else []
/-- the bits' body, and its error -/
def bitsL (n : Int) : List UInt8 := if n < 0 ∨ 32767 < n then [] else flagsL n.toNat
def bitsE (n : Int) : Nat := if n < 0 ∨ 32767 < n then 1 else 0
/-- a value's tag, body, error -/
def bodyV (v : VV) : Int × List UInt8 × Nat :=
  if v.kind = 3 then (2, putN v.n, 0) else
  if v.kind = 4 then (10, putN v.n, 0) else
  if v.kind = 5 then (1, [if v.is then 255 else 0], 0) else
  if v.kind = 6 then (4, v.b, 0) else
  if v.kind = 7 then (12, if askedM v.t v.n = 0 then v.t else [], askedM v.t v.n) else
  if v.kind = 8 then (6, putM v.t, (parseM v.t).2) else
  if v.kind = 9 then (24, if inT v.n then bodyL (ofM v.n) else [], ofE v.n) else (3, bitsL v.n, bitsE v.n)
/-- a value is written -/
def doW (v : VV) (s : W8) : W8 :=
  if v.kind = 1 then openW v.n s else if v.kind = 2 then closeV s else if v.kind = 11 then rawW v.b s else putW (bodyV v).1 (bodyV v).2.1 (bodyV v).2.2 s
/-! ### the reference's writer -/
structure R8 where
  tags : List Int
  rows : List (List (List UInt8))
  e : Nat
def padR (m : Nat) (r : List (List (List UInt8))) : List (List (List UInt8)) := r ++ List.replicate (m - r.length) []
def raddS (b : List UInt8) (s : R8) : R8 := ⟨s.tags, (padR (s.tags.length + 1) s.rows).set s.tags.length ((padR (s.tags.length + 1) s.rows).getD s.tags.length [] ++ [b]), s.e⟩
def rputS (tag : Int) (b : List UInt8) (s : R8) : R8 := if 65530 < b.length then ⟨s.tags, s.rows, 3⟩ else raddS (putL tag b) s
def ropenS (n : Int) (s : R8) : R8 := if madeM n = false then ⟨s.tags, s.rows, 5⟩ else if 16 ≤ s.tags.length then ⟨s.tags, s.rows, 6⟩ else ⟨s.tags ++ [n], (padR (s.tags.length + 2) s.rows).set (s.tags.length + 1) [], s.e⟩
def rcloseS (s : R8) : R8 := if s.tags.length = 0 then ⟨s.tags, s.rows, 24⟩ else
  rputS (s.tags.getD (s.tags.length - 1) 0) (bodyF (s.tags.getD (s.tags.length - 1) 0, s.rows.getD s.tags.length [])) ⟨s.tags.take (s.tags.length - 1), s.rows, s.e⟩
def rdoS (v : VV) (s : R8) : R8 :=
  if s.e ≠ 0 then s else if v.kind = 1 then ropenS v.n s else if v.kind = 2 then rcloseS s else
  if v.kind = 11 then (if (depthM v.b).2 ≠ 0 then ⟨s.tags, s.rows, (depthM v.b).2⟩ else raddS v.b s) else
  if (bodyV v).2.2 ≠ 0 then ⟨s.tags, s.rows, (bodyV v).2.2⟩ else rputS (bodyV v).1 (bodyV v).2.1 s
def rdoneE (s : R8) : Nat := if s.e ≠ 0 then s.e else if 0 < s.tags.length then 24 else if 65536 < (s.rows.getD 0 []).flatten.length then 3 else 0
def rdoneB (s : R8) : List UInt8 := if rdoneE s = 0 then (s.rows.getD 0 []).flatten else []
/-! ### they are the same -/
structure Same8 (r : R8) (s : W8) : Prop where
  tags : r.tags = (s.fr.map Prod.fst).reverse
  e : r.e = s.k
  row0 : (r.rows.getD 0 []).flatten = s.d
  row : ∀ j, j < s.fr.length → r.rows.getD (j + 1) [] = ((s.fr.map Prod.snd).reverse).getD j []
  len : r.tags.length ≠ 0 → r.tags.length < r.rows.length
  known : ∀ x ∈ s.fr, madeM x.1 = true
  lim : s.fr.length ≤ 16
theorem same_zero : Same8 ⟨[], [], 0⟩ ⟨[], [], 0⟩ := ⟨rfl, rfl, rfl, fun j h => by simp at h, fun h => by simp at h, fun _ h => (by cases h), by decide⟩
theorem pad_len (m : Nat) (r : List (List (List UInt8))) : (padR m r).length = max m r.length := by simp [padR]; omega
theorem pad_get (m : Nat) (r : List (List (List UInt8))) (j : Nat) : (padR m r).getD j [] = r.getD j [] := by
  simp only [padR, List.getD_eq_getElem?_getD, List.getElem?_append]
  split
  · rfl
  · rename_i h
    rw [List.getElem?_eq_none (l := r) (by omega), List.getElem?_replicate]
    split <;> rfl
theorem set_get (l : List (List (List UInt8))) (i j : Nat) (x : List (List UInt8)) (hi : i < l.length) : (l.set i x).getD j [] = if j = i then x else l.getD j [] := by
  simp only [List.getD_eq_getElem?_getD, List.getElem?_set]
  by_cases h : i = j
  · subst h; simp [hi]
  · rw [if_neg h, if_neg (Ne.symm h)]
theorem same_add {r : R8} {s : W8} (h : Same8 r s) (b : List UInt8) : Same8 (raddS b r) (addW b s) := by
  have hl : r.tags.length = s.fr.length := by rw [h.tags]; simp
  have hp : r.tags.length < (padR (r.tags.length + 1) r.rows).length := by rw [pad_len]; omega
  obtain ⟨fr, d, k⟩ := s
  cases fr with
  | nil =>
    refine ⟨h.tags, h.e, ?_, fun j hj => by simp [addW] at hj, fun h0 => ?_, h.known, h.lim⟩
    · have h0 : r.tags.length = 0 := hl
      show List.flatten (List.getD (List.set _ _ _) _ _) = _
      rw [set_get _ _ _ _ hp, if_pos h0.symm, h0, pad_get, List.flatten_append, h.row0]
      simp [addW]
    · exact absurd hl h0
  | cons x fr =>
    have hl' : r.tags.length = fr.length + 1 := hl
    refine ⟨?_, h.e, ?_, fun j hj => ?_, fun _ => ?_, fun y hy => ?_, h.lim⟩
    · show r.tags = _
      rw [h.tags]
      simp [addW]
    · show List.flatten (List.getD (List.set _ _ _) _ _) = _
      rw [set_get _ _ _ _ hp, if_neg (by omega), pad_get, h.row0]
      rfl
    · have hj : j < fr.length + 1 := hj
      show List.getD (List.set _ _ _) _ _ = _
      rw [set_get _ _ _ _ hp]
      simp only [addW, List.map_cons, List.reverse_cons]
      have hr := h.row j hj
      simp only [List.map_cons, List.reverse_cons] at hr
      by_cases e : j = fr.length
      · rw [if_pos (by omega), pad_get, hl', ← e, hr]
        simp [List.getD_eq_getElem?_getD, e]
      · rw [if_neg (by omega), pad_get, hr]
        simp only [List.getD_eq_getElem?_getD]
        rw [List.getElem?_append_left (by simp; omega), List.getElem?_append_left (by simp; omega)]
    · show r.tags.length < (List.set _ _ _).length
      rw [List.length_set]
      exact hp
    · rcases List.mem_cons.1 hy with rfl | hy
      · exact h.known x List.mem_cons_self
      · exact h.known y (List.mem_cons_of_mem _ hy)
theorem made_known {t : Int} (h : madeM t = true) : knownM t = true := by unfold knownM; rw [h]; rfl
theorem same_put {r : R8} {s : W8} (h : Same8 r s) (hk : s.k = 0) {tag : Int} (ht : knownM tag = true) (b : List UInt8) : Same8 (rputS tag b r) (putW tag b 0 s) := by
  have e0 : failW 0 s = s := by
    obtain ⟨fr, d, k⟩ := s
    obtain rfl : k = 0 := hk
    rfl
  unfold putW
  rw [e0, if_neg (by omega)]
  unfold putE rputS
  rw [ht]
  simp only [Bool.true_eq_false, if_false]
  by_cases hb : 65530 < b.length
  · rw [if_pos hb, if_pos hb, if_pos (by decide)]
    exact ⟨h.tags, rfl, h.row0, h.row, h.len, h.known, h.lim⟩
  · rw [if_neg hb, if_neg hb, if_neg (by decide)]
    exact same_add h _
theorem same_open {r : R8} {s : W8} (h : Same8 r s) (hk : s.k = 0) (n : Int) : Same8 (ropenS n r) (openW n s) := by
  have hl : r.tags.length = s.fr.length := by rw [h.tags]; simp
  have hlim := h.lim
  unfold ropenS openW
  rw [if_neg (show ¬ s.k ≠ 0 by omega)]
  by_cases hm : madeM n = false
  · rw [if_pos hm, if_pos hm]
    exact ⟨h.tags, rfl, h.row0, h.row, h.len, h.known, h.lim⟩
  · rw [if_neg hm, if_neg hm]
    by_cases h16 : s.fr.length = 16
    · rw [if_pos (by omega), if_pos h16]
      exact ⟨h.tags, rfl, h.row0, h.row, h.len, h.known, h.lim⟩
    · rw [if_neg (by omega), if_neg h16]
      have hp : r.tags.length + 1 < (padR (r.tags.length + 2) r.rows).length := by rw [pad_len]; omega
      refine ⟨?_, h.e, ?_, fun j hj => ?_, fun _ => ?_, fun y hy => ?_, ?_⟩
      · show r.tags ++ [n] = _
        rw [h.tags]
        simp
      · show List.flatten (List.getD (List.set _ _ _) _ _) = _
        rw [set_get _ _ _ _ hp, if_neg (by omega), pad_get, h.row0]
      · have hj : j < s.fr.length + 1 := hj
        show List.getD (List.set _ _ _) _ _ = _
        rw [set_get _ _ _ _ hp]
        simp only [List.map_cons, List.reverse_cons]
        by_cases e : j = s.fr.length
        · rw [if_pos (by omega)]
          simp [List.getD_eq_getElem?_getD, e]
        · rw [if_neg (by omega), pad_get, h.row j (by omega)]
          simp only [List.getD_eq_getElem?_getD]
          rw [List.getElem?_append_left (by simp; omega)]
      · show (r.tags ++ [n]).length < (List.set _ _ _).length
        rw [List.length_set, List.length_append]
        exact hp
      · rcases List.mem_cons.1 hy with rfl | hy
        · simpa using hm
        · exact h.known y hy
      · show s.fr.length + 1 ≤ 16
        omega
theorem same_close {r : R8} {s : W8} (h : Same8 r s) (hk : s.k = 0) : Same8 (rcloseS r) (closeV s) := by
  have hl : r.tags.length = s.fr.length := by rw [h.tags]; simp
  unfold rcloseS closeV
  rw [if_neg (show ¬ s.k ≠ 0 by omega)]
  obtain ⟨fr, d, k⟩ := s
  cases fr with
  | nil =>
    rw [if_pos (show r.tags.length = 0 from hl)]
    exact ⟨h.tags, rfl, h.row0, h.row, h.len, h.known, h.lim⟩
  | cons x fr =>
    have hl : r.tags.length = fr.length + 1 := hl
    rw [if_neg (by omega)]
    have ht : r.tags = (fr.map Prod.fst).reverse ++ [x.1] := by rw [h.tags]; simp
    have e1 : r.tags.getD (r.tags.length - 1) 0 = x.1 := by
      rw [hl, ht]
      simp [List.getD_eq_getElem?_getD]
    have e2 : r.rows.getD r.tags.length [] = x.2 := by
      rw [hl, h.row fr.length (by simp)]
      simp [List.getD_eq_getElem?_getD]
    rw [e1, e2]
    refine same_put (r := ⟨r.tags.take (r.tags.length - 1), r.rows, r.e⟩) (s := ⟨fr, d, k⟩) ⟨?_, h.e, h.row0, fun j hj => ?_, fun h0 => ?_, fun y hy => h.known y (List.mem_cons_of_mem _ hy), ?_⟩ hk (made_known (h.known x List.mem_cons_self)) _
    · show r.tags.take _ = _
      rw [hl, ht]
      simp
    · have hj : j < fr.length := hj
      show r.rows.getD (j + 1) [] = _
      rw [h.row j (by simp; omega)]
      simp only [List.map_cons, List.reverse_cons, List.getD_eq_getElem?_getD]
      rw [List.getElem?_append_left (by simp; omega)]
    · show (r.tags.take _).length < r.rows.length
      have := h.len (by omega)
      simp only [List.length_take]
      omega
    · have := h.lim
      simp at this ⊢
      omega
theorem same_do {r : R8} {s : W8} (h : Same8 r s) (v : VV) : Same8 (rdoS v r) (doW v s) := by
  unfold rdoS doW
  have he := h.e
  by_cases hk : s.k = 0
  · rw [if_neg (show ¬ r.e ≠ 0 by omega)]
    split
    · exact same_open h hk _
    · split
      · exact same_close h hk
      · split
        · unfold rawW
          have e : (failW (depthM v.b).2 s).k = (depthM v.b).2 := by unfold failW; rw [if_pos hk]
          rw [e]
          by_cases h0 : (depthM v.b).2 = 0
          · rw [if_neg (by omega), if_pos h0]
            exact same_add h _
          · rw [if_pos h0, if_neg h0]
            unfold failW
            rw [if_pos hk]
            exact ⟨h.tags, rfl, h.row0, h.row, h.len, h.known, h.lim⟩
        · by_cases h0 : (bodyV v).2.2 = 0
          · rw [if_neg (by omega), h0]
            refine same_put h hk ?_ _
            unfold bodyV
            repeat' split
            all_goals (first | rfl | decide)
          · rw [if_pos h0]
            have e : failW (bodyV v).2.2 s = ⟨s.fr, s.d, (bodyV v).2.2⟩ := by unfold failW; rw [if_pos hk]
            unfold putW
            rw [e, if_pos h0]
            exact ⟨h.tags, rfl, h.row0, h.row, h.len, h.known, h.lim⟩
  · rw [if_pos (show r.e ≠ 0 by omega)]
    have e1 : ∀ e, failW e s = s := fun e => by unfold failW; rw [if_neg hk]
    have e2 : ∀ t b e, putW t b e s = s := fun t b e => by unfold putW; rw [e1, if_pos hk]
    have e3 : openW v.n s = s := by unfold openW; rw [if_pos hk]
    have e4 : closeV s = s := by unfold closeV; rw [if_pos hk]
    have e5 : rawW v.b s = s := by unfold rawW; rw [e1, if_neg hk]
    rw [e2, e3, e4, e5, ite_self, ite_self, ite_self]
    exact h
theorem same_done {r : R8} {s : W8} (h : Same8 r s) : rdoneE r = doneK s ∧ rdoneB r = doneB s := by
  have hl : r.tags.length = s.fr.length := by rw [h.tags]; simp
  have e : rdoneE r = doneK s := by
    unfold rdoneE doneK
    rw [h.e, h.row0, hl]
    cases s.fr <;> simp
  exact ⟨e, by unfold rdoneB doneB; rw [e, h.row0]⟩
end Am
end Go.Proofs.YtjckfbpdieijeaaGreatDoor

/- Chapter 3, the reference: the first element of bytes. -/
namespace Go.Proofs.YtjckfbpdieijeaaGreatDoor
set_option linter.unusedVariables false
namespace Am
open Go.RowKit
set_option maxRecDepth 100000

theorem nxE {b : List UInt8} {k : Nat} (h : nextM b = ⟨k, 0, [], []⟩) (hk : k ≠ 0) : CEnt (.tup 4 (fl [.c (.int .i64 0), .c (.int .i64 0), .c (.int .i64 0), .c (.int .i64 (k : Nat))])) (.tup 4 (fl [.c (.int .i64 (nextM b).tag), .c (.int .i64 (fromM b)), .c (.int .i64 (toM b)), .c (.int .i64 (nextM b).e)])) := by
  unfold fromM toM
  rw [h, if_neg hk, if_neg hk]
  exact CEnt.refl _
theorem nxO {b body rest : List UInt8} {t : Nat} {x y z : Int} (h : nextM b = ⟨0, t, body, rest⟩) (hx : x = (t : Nat)) (hy : y = ((b.length - rest.length - body.length : Nat) : Int)) (hz : z = ((b.length - rest.length : Nat) : Int)) : CEnt (.tup 4 (fl [.c (.int .i64 x), .c (.int .i64 y), .c (.int .i64 z), .c (.int .i64 0)])) (.tup 4 (fl [.c (.int .i64 (nextM b).tag), .c (.int .i64 (fromM b)), .c (.int .i64 (toM b)), .c (.int .i64 (nextM b).e)])) := by
  unfold fromM toM
  rw [h, if_pos rfl, if_pos rfl, hx, hy, hz]
  exact CEnt.refl _
theorem rnext_ac {gs : List Nat} (b : List UInt8) (hb : b.length ≤ 10000000) : ACp gs Tryz.prog 88 [bsC b] (.tup 4 (fl [.c (.int .i64 (nextM b).tag), .c (.int .i64 (fromM b)), .c (.int .i64 (toM b)), .c (.int .i64 (nextM b).e)])) := by
  refine ac_of 81 Tryz.func88 rfl rfl rfl (fun al w0 F0 St0 => ?_)
  refine jcr ?_
  refine jq jrm ?_
  refine jq jrm ?_
  refine jq jrm ?_
  refine jq jrm ?_
  refine seq_nil ?_
  refine jcs ?_
  refine jcr ?_
  refine jq jrm ?_
  refine jq jrl ?_
  refine jq jrc ?_
  refine seq_nil ?_
  refine jcc (fun h43 => ?_) fun h43 => ?_
  · refine jcr ?_
    refine jq jrm ?_
    refine jq jrm ?_
    refine jq jrm ?_
    refine jq jrm ?_
    refine seq_nil ?_
    refine code_ret (jtr (jrt (hv := nxE (k := 2) (by unfold nextM; rw [if_pos (by omega)]) (by decide))))
  refine code_skip (jtn ?_)
  refine jcs ?_
  refine jcr ?_
  refine jq jrm ?_
  refine jq (jri (i := 0)) ?_
  refine jq jrdr ?_
  refine jq (jrv8 .i64) ?_
  refine jqe (jecP (rknown_ac _) ?_)
  refine jq jrn ?_
  refine seq_nil ?_
  refine jcc (fun h46 => ?_) fun h46 => ?_
  · refine jcr ?_
    refine jq jrm ?_
    refine jq jrm ?_
    refine jq jrm ?_
    refine jq jrm ?_
    refine seq_nil ?_
    refine code_ret (jtr (jrt (hv := nxE (k := 5) (by unfold nextM; rw [if_neg (by omega), if_pos (by simpa using h46)]) (by decide))))
  refine code_skip (jtn ?_)
  refine jcs ?_
  obtain ⟨t, ht⟩ : ∃ t, t = (b.getD 0 0).toNat := ⟨_, rfl⟩
  have hk : knownM (t : Nat) = true := by rw [ht]; simpa using h46
  have hN := nextM_ne (by omega) ht hk rfl
  refine jcr ?_
  refine jq jrm ?_
  refine jq jrl ?_
  refine jq jrc ?_
  refine seq_nil ?_
  refine jcc (fun h49 => ?_) fun h49 => ?_
  · refine jcr ?_
    refine jq jrm ?_
    refine jq jrm ?_
    refine jq jrm ?_
    refine jq jrm ?_
    refine seq_nil ?_
    refine code_ret (jtr (jrt (hv := ?_)))
    have hm : measM (b.drop 1) = ⟨2, 0, []⟩ := by unfold measM; rw [if_pos (by rw [List.length_drop]; omega)]
    exact nxE (k := 2) (by rw [hN, hm]; rfl) (by decide)
  refine code_skip (jtn ?_)
  refine jcr ?_
  refine jq jrm ?_
  refine jq (jri (i := 1)) ?_
  refine jq jrdr ?_
  refine jq (jrv8 .i64) ?_
  refine jq jrm ?_
  refine jq jrm ?_
  refine seq_nil ?_
  refine jcs ?_
  obtain ⟨c, hc⟩ : ∃ c, c = (b.getD 1 0).toNat := ⟨_, rfl⟩
  have c8 : c < 256 := by rw [hc]; exact (b.getD 1 0).toNat_lt
  refine code_ent (weaken 6 (.c (.int .i64 (c : Nat))) (CEnt.int (by rw [hc]))) ?_
  refine jcr ?_
  refine jq jrm ?_
  refine jq jrc ?_
  refine seq_nil ?_
  refine jcc (fun h53 => ?_) fun h53 => ?_
  rotate_left
  · refine code_skip (jtn ?_)
    refine jcs ?_
    first
      | have hM2 := meas_short (b := b) (by omega) (by omega)
      | (rw [if_neg (by omega), if_neg (by omega), if_pos (Classical.not_not.1 h66)] at hM; have hM2 := hM)
    rw [hM2] at hN
    dsimp only at hN
    rw [if_neg (by decide)] at hN
    refine jcr ?_
    refine jq jrm ?_
    refine jq jrc ?_
    refine seq_nil ?_
    refine jcc (fun h70 => ?_) fun h70 => ?_
    · refine jcr ?_
      refine jq jrm ?_
      refine jq jrm ?_
      refine jq jrm ?_
      refine jq jrm ?_
      refine seq_nil ?_
      refine code_ret (jtr (jrt (hv := nxE (k := 3) (by rw [hN, if_pos (by omega)]) (by decide))))
    refine code_skip (jtn ?_)
    refine jcs ?_
    refine jcr ?_
    refine jq jrm ?_
    refine jq jrm ?_
    refine jq jrl ?_
    refine jq jrm ?_
    refine jq jra ?_
    refine jq jrc ?_
    refine seq_nil ?_
    refine jcc (fun h73 => ?_) fun h73 => ?_
    · refine jcr ?_
      refine jq jrm ?_
      refine jq jrm ?_
      refine jq jrm ?_
      refine jq jrm ?_
      refine seq_nil ?_
      refine code_ret (jtr (jrt (hv := nxE (k := 2) (by rw [hN, if_neg (by omega), if_pos (by rw [List.length_drop]; omega)]) (by decide))))
    refine code_skip (jtn ?_)
    refine jcr ?_
    refine jq jrm ?_
    refine jq (jri (i := 0)) ?_
    refine jq jrdr ?_
    refine jq (jrv8 .i64) ?_
    refine jq jrm ?_
    refine jq jrm ?_
    refine jq jrm ?_
    refine jq jra ?_
    refine jq jrm ?_
    refine jq jrm ?_
    refine jq jrm ?_
    refine jq jrm ?_
    refine seq_nil ?_
    refine code_ret (jrt (hv := nxO (by rw [hN, if_neg (by omega), if_neg (by rw [List.length_drop]; omega)]) (by rw [ht]) (by simp only [List.length_drop, List.length_take]; omega) (by simp only [List.length_drop]; omega)))
  refine jcr ?_
  refine jq jrm ?_
  refine jq jra ?_
  refine jq jrm ?_
  refine seq_nil ?_
  refine jcs ?_
  obtain ⟨k, hk8⟩ : ∃ k, c = 128 + k := ⟨c - 128, by omega⟩
  have hM := meas_long (b := b) (k := k) (by omega) (by omega)
  refine code_ent (weaken 8 (.c (.int .i64 (k : Nat))) (CEnt.int (by omega))) ?_
  refine jcr ?_
  refine jq jrm ?_
  refine jq jrc ?_
  refine jq jrm ?_
  refine jqsp 32 (fun g55 => ?_) fun g55 => ?_
  · refine jqs ?_
    refine jqs ?_
    refine jq jrpT ?_
    refine seq_nil ?_
    refine jcT ?_
    refine jcr ?_
    refine jq jrm ?_
    refine jq jrm ?_
    refine jq jrm ?_
    refine jq jrm ?_
    refine seq_nil ?_
    refine code_ret (jtr (jtr (jrt (hv := ?_))))
    rw [if_pos (by omega)] at hM
    exact nxE (k := 4) (by rw [hN, hM]; rfl) (by decide)
  refine jq jrm ?_
  refine jq jrc ?_
  refine jq jrpF ?_
  refine seq_nil ?_
  refine jcc (fun h55 => ?_) fun h55 => ?_
  · refine jcr ?_
    refine jq jrm ?_
    refine jq jrm ?_
    refine jq jrm ?_
    refine jq jrm ?_
    refine seq_nil ?_
    refine code_ret (jtr (jtr (jrt (hv := ?_))))
    rw [if_pos (by omega)] at hM
    exact nxE (k := 4) (by rw [hN, hM]; rfl) (by decide)
  refine code_skip (jtn ?_)
  refine jcs ?_
  refine jcr ?_
  refine jq jrm ?_
  refine jq jrl ?_
  refine jq jra ?_
  refine jq jrm ?_
  refine jq jrc ?_
  refine seq_nil ?_
  refine jcc (fun h58 => ?_) fun h58 => ?_
  · refine jcr ?_
    refine jq jrm ?_
    refine jq jrm ?_
    refine jq jrm ?_
    refine jq jrm ?_
    refine seq_nil ?_
    refine code_ret (jtr (jtr (jrt (hv := ?_))))
    rw [if_neg (by omega), if_pos (by omega)] at hM
    exact nxE (k := 2) (by rw [hN, hM]; rfl) (by decide)
  refine code_skip (jtn ?_)
  have hk4 : 1 ≤ k ∧ k ≤ 4 := by omega
  have htl : ((b.drop 2).take k).length = k := by simp; omega
  refine jcr ?_
  refine jq jrm ?_
  refine seq_nil ?_
  refine jcs ?_
  refine jcr ?_
  refine jq jrm ?_
  refine seq_nil ?_
  refine code_block ?_
  refine l_loop (α := Nat) [6, 9, 41, 42, 43, 44, 45, 46, 47, 48, 49, 50, 51, 52, 53, 54] (fun i => [(6, .c (.int .i64 (beN (((b.drop 2).take k).take i) : Nat))), (9, .c (.int .i64 (i : Nat)))]) (fun _ => []) (fun i => i ≤ k) (fun i => k - i) (0) ?_ (fun _ => rfl) ?_ ?_ ?_
  · exact Nat.zero_le _
  · (repeat (first | exact EntE.nil | refine EntE.cons (CEnt.refl _) ?_ | refine EntE.cons (CEnt.int (by omega)) ?_))
  · (repeat (first | exact HEnt.nil | refine HEnt.same ?_ | refine HEnt.blk rfl (fun j hj => by rcases j with _|_|_|_|_|_|_|_|j <;> first | exact CEnt.refl _ | exact CEnt.int (by omega) | omega) ?_))
  · rintro i (hi : i ≤ k)
    refine jcs ?_
    refine jcr ?_
    refine jq jrm ?_
    refine jq jrm ?_
    refine jq jrc ?_
    refine seq_nil ?_
    refine jcc (fun h62 => ?_) fun h62 => ?_
    · refine code_skip (jtn ?_)
      refine jcs ?_
      refine code_block ?_
      have hbn := beN_lt (((b.drop 2).take k).take i)
      have hbl : (((b.drop 2).take k).take i).length = i := by simp; omega
      have hb3 : beN (((b.drop 2).take k).take i) < 16777216 := by
        rw [hbl] at hbn
        have : i ≤ 3 := by omega
        have := Nat.pow_le_pow_right (n := 256) (by decide) this
        omega
      have hc8 := (b.getD (2 + i) 0).toNat_lt
      refine jcg ?_
      refine jq jrm ?_
      refine jq jra ?_
      refine jq jrm ?_
      refine jq jrm ?_
      refine jq jra ?_
      refine jq (jri (i := (2 + i)) (hz := by omega)) ?_
      refine jq jrdr ?_
      refine jq (jrv8 .i64) ?_
      refine jq jra ?_
      refine jq jrm ?_
      refine seq_nil ?_
      refine jbn (jtn ?_)
      refine jcg ?_
      refine jq jrm ?_
      refine jq jra ?_
      refine jq jrm ?_
      refine seq_nil ?_
      refine jtn ?_
      refine jlend (i + 1) ?_ ?_ (h5 := ?_)
      · show i + 1 ≤ k; omega
      · omega
      · exact .cons (CEnt.int (by rw [beN_take (by omega), get_take (by omega)]; omega)) (.cons (CEnt.refl _) .nil)
    refine code_exit (jte (jte (jbx (jtn ?_))))
    obtain rfl : k = i := by omega
    have hb4 : beN ((b.drop 2).take k) < 4294967296 := by
      have h := beN_lt ((b.drop 2).take k)
      rw [htl] at h
      have := Nat.pow_le_pow_right (n := 256) (by decide) hk4.2
      omega
    refine code_ent (weaken 6 (.c (.int .i64 (beN ((b.drop 2).take k) : Nat))) (CEnt.int (by rw [List.take_take, Nat.min_self]))) ?_
    refine jcr ?_
    refine jq jrm ?_
    refine jq jra ?_
    refine jq jrm ?_
    refine seq_nil ?_
    refine jcs ?_
    refine jcd (.rd 0 (.rd 3 (.rd 4 (.rd 5 (.rd 6 (.one 1 (.rd 2 (.rd 7 .done)))))))) ?_
    refine jyq jrm ?_
    refine jyq jrm ?_
    refine jyq jrm ?_
    refine jyq (jrsb (hz1 := (show (1 : Int) = ((1 : Nat) : Int) from rfl))) ?_
    refine jyq jrbs ?_
    refine jye (jecP (rlen_ac (beN ((b.drop 2).take k)) (by omega)) ?_ (ho := rfl) (he := (.cons (se rfl (CEnt.int (by omega))) .nil)))
    refine jyq jrbs ?_
    refine jyq jrcs ?_
    refine jyd ?_
    refine jtn ?_
    refine jcc (fun h66 => ?_) fun h66 => ?_
    · refine jcr ?_
      refine jq jrm ?_
      refine jq jrm ?_
      refine jq jrm ?_
      refine jq jrm ?_
      refine seq_nil ?_
      refine code_ret (jtr (jrt (hv := ?_)))
      rw [if_neg (by omega), if_neg (by omega), if_neg h66] at hM
      exact nxE (k := 4) (by rw [hN, hM]; rfl) (by decide)
    refine code_skip (jtn ?_)
    refine jcs ?_
    first
      | have hM2 := meas_short (b := b) (by omega) (by omega)
      | (rw [if_neg (by omega), if_neg (by omega), if_pos (Classical.not_not.1 h66)] at hM; have hM2 := hM)
    rw [hM2] at hN
    dsimp only at hN
    rw [if_neg (by decide)] at hN
    refine jcr ?_
    refine jq jrm ?_
    refine jq jrc ?_
    refine seq_nil ?_
    refine jcc (fun h70 => ?_) fun h70 => ?_
    · refine jcr ?_
      refine jq jrm ?_
      refine jq jrm ?_
      refine jq jrm ?_
      refine jq jrm ?_
      refine seq_nil ?_
      refine code_ret (jtr (jrt (hv := nxE (k := 3) (by rw [hN, if_pos (by omega)]) (by decide))))
    refine code_skip (jtn ?_)
    refine jcs ?_
    refine jcr ?_
    refine jq jrm ?_
    refine jq jrm ?_
    refine jq jrl ?_
    refine jq jrm ?_
    refine jq jra ?_
    refine jq jrc ?_
    refine seq_nil ?_
    refine jcc (fun h73 => ?_) fun h73 => ?_
    · refine jcr ?_
      refine jq jrm ?_
      refine jq jrm ?_
      refine jq jrm ?_
      refine jq jrm ?_
      refine seq_nil ?_
      refine code_ret (jtr (jrt (hv := nxE (k := 2) (by rw [hN, if_neg (by omega), if_pos (by rw [List.length_drop]; omega)]) (by decide))))
    refine code_skip (jtn ?_)
    refine jcr ?_
    refine jq jrm ?_
    refine jq (jri (i := 0)) ?_
    refine jq jrdr ?_
    refine jq (jrv8 .i64) ?_
    refine jq jrm ?_
    refine jq jrm ?_
    refine jq jrm ?_
    refine jq jra ?_
    refine jq jrm ?_
    refine jq jrm ?_
    refine jq jrm ?_
    refine jq jrm ?_
    refine seq_nil ?_
    refine code_ret (jrt (hv := nxO (by rw [hN, if_neg (by omega), if_neg (by rw [List.length_drop]; omega)]) (by rw [ht]) (by simp only [List.length_drop, List.length_take]; omega) (by simp only [List.length_drop]; omega)))
end Am
end Go.Proofs.YtjckfbpdieijeaaGreatDoor

/- Chapter 3, the reference: how many levels the elements of a body have. -/
namespace Go.Proofs.YtjckfbpdieijeaaGreatDoor
set_option linter.unusedVariables false
namespace Am
open Go.RowKit
set_option maxRecDepth 100000

theorem loopW_err {rec : Nat → List UInt8 → Nat × Nat} {set : Bool} {lv : Nat} : ∀ {fuel : Nat} {b last : List UInt8} {dp : Nat}, (loopW rec set lv fuel b last dp).2 ≠ 0 → (loopW rec set lv fuel b last dp).1 = 0
  | 0, b, last, dp, h => by simp [loopW] at h
  | fuel + 1, b, last, dp, h => by
    unfold loopW at h ⊢
    split
    · rename_i h1; rw [if_pos h1] at h; exact absurd rfl h
    · rename_i h1; rw [if_neg h1] at h
      split
      · rfl
      · rename_i h2; rw [if_neg h2] at h
        split
        · rfl
        · rename_i h3; rw [if_neg h3] at h
          split
          · rfl
          · rename_i h4; rw [if_neg h4] at h
            split
            · rfl
            · rename_i h5; rw [if_neg h5] at h
              exact loopW_err h
theorem loopW_pos {rec : Nat → List UInt8 → Nat × Nat} {set : Bool} {lv : Nat} : ∀ {fuel : Nat} {b last : List UInt8} {dp : Nat}, 1 ≤ dp → (loopW rec set lv fuel b last dp).2 = 0 → 1 ≤ (loopW rec set lv fuel b last dp).1
  | 0, b, last, dp, hd, h => hd
  | fuel + 1, b, last, dp, hd, h => by
    have hn := nextM_bd b
    unfold loopW at h ⊢
    split
    · exact hd
    · rename_i h1; rw [if_neg h1] at h
      split
      · rename_i h2; rw [if_pos h2] at h; exact absurd h h2
      · rename_i h2; rw [if_neg h2] at h
        split
        · rename_i h3; rw [if_pos h3] at h; exact absurd h (by decide)
        · rename_i h3; rw [if_neg h3] at h
          split
          · rename_i h4; rw [if_pos h4] at h; exact absurd h h4
          · rename_i h4; rw [if_neg h4] at h
            split
            · rename_i h5; rw [if_pos h5] at h; exact absurd h (by decide)
            · rename_i h5; rw [if_neg h5] at h
              exact loopW_pos (by omega) h
theorem wholeM_pos {lv tag : Nat} {body : List UInt8} (h : (wholeM lv tag body).2 = 0) : 1 ≤ (wholeM lv tag body).1 := by
  match lv with
  | 0 => simp [wholeM]
  | lv + 1 =>
    unfold wholeM at h ⊢
    split
    · simp
    · rename_i h1; rw [if_neg h1] at h
      exact loopW_pos (Nat.le_refl _) h
/-- all levels of a body's elements, as the reference has them -/
def allW (lv : Nat) (set : Bool) (body : List UInt8) : Nat × Nat := loopW (wholeM lv) set (lv + 1) body.length body [] 1
theorem take_toM {b : List UInt8} (h : (nextM b).e = 0) : toM b = b.length - (nextM b).rest.length := by unfold toM; rw [if_pos h]
theorem nextM_cut {b : List UInt8} (h : (nextM b).e = 0) : (nextM b).body = (b.take (toM b)).drop (fromM b) ∧ (nextM b).rest = b.drop (toM b) ∧ fromM b ≤ toM b ∧ toM b ≤ b.length := by
  obtain ⟨n, k, hk, hr, hn, hkl, hb⟩ : ∃ n k, k ≤ b.length ∧ (nextM b).rest = (b.drop k).drop n ∧ n ≤ b.length - k ∧ k ≤ b.length ∧ (nextM b).body = (b.drop k).take n := by
    have hm : ∀ c : List UInt8, (measM c).e = 0 → ∃ k, k ≤ c.length ∧ (measM c).rest = c.drop k := by
      intro c
      unfold measM
      split
      · intro h; exact absurd h (by decide)
      · dsimp only
        split
        · exact fun _ => ⟨1, by omega, rfl⟩
        · split
          · intro h; exact absurd h (by decide)
          · split
            · intro h; exact absurd h (by decide)
            · split
              · intro h; exact absurd h (by decide)
              · rename_i h1 h2 h3 h4 h5
                rw [List.length_drop] at h4
                exact fun _ => ⟨1 + ((c.getD 0 0).toNat - 128), by omega, by dsimp only; rw [List.drop_drop]⟩
    unfold nextM at h ⊢
    split
    · rename_i h1; rw [if_pos h1] at h; exact absurd h (by decide)
    · rename_i h1; rw [if_neg h1] at h
      split
      · rename_i h2; rw [if_pos h2] at h; exact absurd h (by decide)
      · rename_i h2; rw [if_neg h2] at h
        dsimp only at h ⊢
        split
        · rename_i h3; rw [if_pos h3] at h; exact absurd h h3
        · rename_i h3; rw [if_neg h3] at h
          split
          · rename_i h4; rw [if_pos h4] at h; exact absurd h (by decide)
          · rename_i h4; rw [if_neg h4] at h
            split
            · rename_i h5; rw [if_pos h5] at h; exact absurd h (by decide)
            · rename_i h5
              obtain ⟨k, hk, hr⟩ := hm (b.drop 1) (by omega)
              rw [List.length_drop] at hk
              rw [hr, List.length_drop, List.length_drop] at h5
              exact ⟨(measM (b.drop 1)).n, 1 + k, by omega, by rw [hr, List.drop_drop], by omega, by omega, by rw [hr, List.drop_drop]⟩
  have e1 : toM b = k + n := by
    rw [take_toM h, hr, List.length_drop, List.length_drop]
    omega
  have e2 : fromM b = k := by
    unfold fromM
    rw [if_pos h, hb, hr, List.length_take, List.length_drop, List.length_drop]
    omega
  rw [e1, e2, hb, hr]
  refine ⟨?_, by rw [List.drop_drop], by omega, by omega⟩
  rw [List.drop_take]
  congr 1
  omega

theorem wholeM_not {lv tag : Nat} {body : List UInt8} (h : madeM tag = false) : wholeM lv tag body = (1, 0) := by
  match lv with
  | 0 => rfl
  | lv + 1 => unfold wholeM; rw [if_pos h]
theorem rwhole_ac {gs : List Nat} : ∀ (lv : Nat) (set : Bool) (body : List UInt8), lv ≤ 16 → body.length ≤ 1000000 → ACp gs Tryz.prog 89 [bsC body, .c (.int .i64 (lv : Nat)), .c (.bool set)] (.tup 2 (fl [.c (.int .i64 ((allW lv set body).1 - 1 : Nat)), .c (.int .i64 (allW lv set body).2)])) := by
  intro lv
  induction lv using Nat.strongRecOn with
  | _ lv ih =>
  intro set body hlv hbody
  have ih' : 1 ≤ lv → ∀ (tag : Nat) (body : List UInt8), madeM tag = true → body.length ≤ 1000000 → ACp gs Tryz.prog 89 [bsC body, .c (.int .i64 ((lv : Int) - 1)), .c (.bool (decide (tag = 49)))] (.tup 2 (fl [.c (.int .i64 ((wholeM lv tag body).1 - 1 : Nat)), .c (.int .i64 (wholeM lv tag body).2)])) := fun h tag body hm hb => by
    have := ih (lv - 1) (by omega) (decide (tag = 49)) body (by omega) hb
    have e : wholeM lv tag body = allW (lv - 1) (decide (tag = 49)) body := by
      obtain ⟨m, rfl⟩ : ∃ m, lv = m + 1 := ⟨lv - 1, by omega⟩
      unfold wholeM allW
      rw [if_neg (by rw [hm]; exact Bool.noConfusion)]
      rfl
    rw [e, show (lv : Int) - 1 = ((lv - 1 : Nat) : Int) by omega]
    exact this
  have hR : ∀ t b, (wholeM lv t b).1 ≤ lv + 1 ∧ (wholeM lv t b).2 ≤ 7 := fun t b => wholeM_bd lv t b
  refine ac_of 73 Tryz.func89 rfl rfl rfl (fun al w0 F0 St0 => ?_)
  refine jcr ?_
  refine jq jrm ?_
  refine jq jrm ?_
  refine seq_nil ?_
  refine jcr ?_
  refine jq jrm ?_
  refine seq_nil ?_
  refine jcr ?_
  refine jqe (jebl 0 1 zr5 fun p1 => ?_)
  refine jq jrm ?_
  refine seq_nil ?_
  refine jcs ?_
  refine code_block ?_
  refine code_ent (freeze 0 rfl) ?_
  refine code_ent (thaw 9 (fun i _ => byF [] i) rfl rfl (by omega) (fun a b ha hb => absurd ha (Nat.not_lt_zero a))) ?_
  refine code_ent (pick_ent (H' := []) [] (by decide) rfl) ?_
  refine l_loop (α := WS) [0, 6, 7, 8, 9, 10, 11, 12, 13, 14, 15, 16, 18, 19, 20, 21, 22, 23, 24, 25, 26, 27, 28, 29, 30, 31, 32, 33, 34, 35, 36, 37, 38, 39, 40, 41, 42, 43, 44, 45, 46, 47, 48, 49, 50, 51, 52, 53, 54, 55, 56, 57, 58, 59, 60, 61, 62, 63, 64, 65, 66, 67, 68, 69, 70, 71] (fun x => [(0, bsC x.b), (8, .c (.int .i64 ((x.dp - 1 : Nat) : Int))), (9, bsC x.last)]) (fun _ => []) (fun x => 1 ≤ x.dp ∧ x.b.length ≤ x.f ∧ x.b.length ≤ 1000000 ∧ x.dp ≤ lv + 2 ∧ loopW (wholeM lv) set (lv + 1) x.f x.b x.last x.dp = allW lv set body) (fun x => x.f) (⟨body.length, body, [], 1⟩) ?_ (fun _ => rfl) ?_ ?_ ?_
  · exact ⟨Nat.le_refl _, Nat.le_refl _, hbody, by show 1 ≤ lv + 2; omega, rfl⟩
  · (repeat (first | exact EntE.nil | refine EntE.cons (CEnt.refl _) ?_ | refine EntE.cons (CEnt.int (by omega)) ?_))
  · (repeat (first | exact HEnt.nil | refine HEnt.same ?_ | refine HEnt.blk rfl (fun j hj => by rcases j with _|_|_|_|_|_|_|_|j <;> first | exact CEnt.refl _ | exact CEnt.int (by omega) | omega) ?_))
  · rintro x ⟨hd1, hxf, hxb', hdp, hw⟩
    have hxb : x.b.length ≤ 10000000 := by omega
    have hnb := nextM_bd x.b
    refine jcs ?_
    refine jcr ?_
    refine jq jrm ?_
    refine jq jrl ?_
    refine jq jrc ?_
    refine seq_nil ?_
    refine jcc (fun h97 => ?_) fun h97 => ?_
    rotate_left
    · refine code_exit (jte (jte (jbx (jtn ?_))))
      refine jcr ?_
      refine jq jrm ?_
      refine jq jrm ?_
      refine jq jrm ?_
      refine seq_nil ?_
      refine code_ret (jrt (hv := ?_))
      obtain hnil : x.b = [] := List.eq_nil_of_length_eq_zero (by omega)
      rw [hnil, loopW_nil] at hw
      rw [← hw]
      exact CEnt.refl _
    refine code_skip (jtn ?_)
    refine code_block ?_
    refine jcr ?_
    refine jq jrm ?_
    refine jqe (jecP (rnext_ac x.b hxb) ?_)
    refine jq jrm ?_
    refine jq jrx ?_
    refine jq jrx ?_
    refine jq jrx ?_
    refine jq jrx ?_
    refine jq jrm ?_
    refine jq jrm ?_
    refine jq jrm ?_
    refine jq jrm ?_
    refine seq_nil ?_
    refine jcs ?_
    refine jcr ?_
    refine jq jrm ?_
    refine jq jrc ?_
    refine seq_nil ?_
    refine jcc (fun h99 => ?_) fun h99 => ?_
    · refine jcr ?_
      refine jq jrm ?_
      refine jq jrm ?_
      refine jq jrm ?_
      refine seq_nil ?_
      refine code_ret (jtr (jbr (jtr (jbr (jtr (jrt (hv := ?_)))))))
      rw [← hw, loopW_step _ _ _ _ _ _ _ (by omega) hxf, if_pos (by omega)]
      exact CEnt.refl _
    refine code_skip (jtn ?_)
    refine jcs ?_
    have he : ¬(nextM x.b).e ≠ 0 := by omega
    have hcut := nextM_cut (b := x.b) (by omega)
    have htm := take_toM (b := x.b) (by omega)
    refine jcr ?_
    refine jq jrm ?_
    refine jq jrc ?_
    refine seq_nil ?_
    refine jcc (fun h102 => ?_) fun h102 => ?_
    · refine jcr ?_
      refine jq jrm ?_
      refine jq jrm ?_
      refine seq_nil ?_
      refine code_ret (jtr (jbr (jtr (jbr (jtr (jrt (hv := ?_)))))))
      rw [← hw, loopW_step _ _ _ _ _ _ _ (by omega) hxf, if_neg he, if_pos (by omega)]
      exact CEnt.refl _
    refine code_skip (jtn ?_)
    have hW := hR (nextM x.b).tag (nextM x.b).body
    refine jcr ?_
    refine jq jrm ?_
    refine seq_nil ?_
    refine jcs ?_
    refine jcr ?_
    refine jq jrm ?_
    refine jqe (jecP (rmade_ac _) ?_)
    refine seq_nil ?_
    refine jcc (fun h106 => ?_) fun h106 => ?_
    rotate_left
    · refine code_skip (jtn ?_)
      refine jcs ?_
      refine jcs ?_
      have hw0 : ¬(wholeM lv (nextM x.b).tag (nextM x.b).body).2 ≠ 0 := by (rw [wholeM_not (decide_eq_false h106)]; decide)
      have hw1 := wholeM_pos (Classical.not_not.1 hw0)
      refine code_ent (weaken 14 (.c (.int .i64 ((wholeM lv (nextM x.b).tag (nextM x.b).body).1 : Nat))) (CEnt.int (by (rw [wholeM_not (decide_eq_false h106)]; rfl)))) ?_
      refine jcd (.rd 0 (.rd 1 (.rd 2 (.rd 3 (.rd 4 (.rd 5 (.rd 6 (.rd 7 (.rd 8 (.rd 9 .done)))))))))) ?_
      refine jyq jrm ?_
      refine jyq jrm ?_
      refine jysp 53 (fun g113 => ?_) fun g113 => ?_
      rotate_left
      · refine jys ?_
        refine jys ?_
        refine jys ?_
        refine jys ?_
        refine jys ?_
        refine jys ?_
        refine jys ?_
        refine jyq jrpF ?_
        refine jyd ?_
        refine jtn ?_
        refine jcF ?_
        refine code_skip (jtn ?_)
        refine jcs ?_
        have hset : ¬(set = true ∧ Op.bytesLess (x.b.take (x.b.length - (nextM x.b).rest.length)) x.last = true) := by
          rintro ⟨h1, h2⟩
          rw [← htm] at h2
          (rw [h1] at g113; exact absurd g113 (by decide))
        refine jcr ?_
        refine jq jrm ?_
        refine jq jrm ?_
        refine jq jrc ?_
        refine seq_nil ?_
        refine jcc (fun h116 => ?_) fun h116 => ?_
        rotate_left
        · refine code_skip (jtn ?_)
          refine jcr ?_
          refine jq jrm ?_
          refine jq jrm ?_
          refine jq jrst ?_
          refine jq jrm ?_
          refine seq_nil ?_
          refine jcg ?_
          refine jq jrm ?_
          refine jq jrm ?_
          refine jq jrsf ?_
          refine jq jrm ?_
          refine seq_nil ?_
          refine jbn (jtn ?_)
          refine jlend (⟨x.f - 1, (nextM x.b).rest, x.b.take (x.b.length - (nextM x.b).rest.length), max x.dp ((wholeM lv (nextM x.b).tag (nextM x.b).body).1 + 1)⟩) ?_ ?_ (h5 := ?_)
          · exact ⟨by dsimp only; omega, by dsimp only; omega, by dsimp only; omega, by dsimp only; omega, by
              dsimp only
              rw [← hw, loopW_step _ _ _ _ _ _ _ (by omega) hxf, if_neg he, if_neg (by omega), if_neg hw0, if_neg hset]⟩
          · dsimp only
            omega
          · exact .cons (CEnt.bs hcut.2.1.symm) (.cons (CEnt.int (by dsimp only; omega)) (.cons (CEnt.bs (by rw [htm])) .nil))
        refine jcg ?_
        refine jq jrm ?_
        refine jq jrm ?_
        refine seq_nil ?_
        refine jtn ?_
        refine jcr ?_
        refine jq jrm ?_
        refine jq jrm ?_
        refine jq jrst ?_
        refine jq jrm ?_
        refine seq_nil ?_
        refine jcg ?_
        refine jq jrm ?_
        refine jq jrm ?_
        refine jq jrsf ?_
        refine jq jrm ?_
        refine seq_nil ?_
        refine jbn (jtn ?_)
        refine jlend (⟨x.f - 1, (nextM x.b).rest, x.b.take (x.b.length - (nextM x.b).rest.length), max x.dp ((wholeM lv (nextM x.b).tag (nextM x.b).body).1 + 1)⟩) ?_ ?_ (h5 := ?_)
        · exact ⟨by dsimp only; omega, by dsimp only; omega, by dsimp only; omega, by dsimp only; omega, by
            dsimp only
            rw [← hw, loopW_step _ _ _ _ _ _ _ (by omega) hxf, if_neg he, if_neg (by omega), if_neg hw0, if_neg hset]⟩
        · dsimp only
          omega
        · exact .cons (CEnt.bs hcut.2.1.symm) (.cons (CEnt.int (by dsimp only; omega)) (.cons (CEnt.bs (by rw [htm])) .nil))
      refine jyq jrm ?_
      refine jyq jrm ?_
      refine jyq jrst ?_
      refine jyq jrbs ?_
      refine jyq jrm ?_
      refine jyq jrbs ?_
      refine jyq jrcs ?_
      refine jyq jrpT ?_
      refine jyd ?_
      refine jtn ?_
      refine jcc (fun h113 => ?_) fun h113 => ?_
      · refine jcr ?_
        refine jq jrm ?_
        refine jq jrm ?_
        refine seq_nil ?_
        refine code_ret (jtr (jbr (jtr (jbr (jtr (jrt (hv := ?_)))))))
        rw [← hw, loopW_step _ _ _ _ _ _ _ (by omega) hxf, if_neg he, if_neg (by omega), if_neg hw0, if_pos ⟨by assumption, by rw [← htm]; simpa using h113⟩]
        exact CEnt.refl _
      refine code_skip (jtn ?_)
      refine jcs ?_
      have hset : ¬(set = true ∧ Op.bytesLess (x.b.take (x.b.length - (nextM x.b).rest.length)) x.last = true) := by
        rintro ⟨h1, h2⟩
        rw [← htm] at h2
        (rw [h2] at h113; exact absurd h113 (by decide))
      refine jcr ?_
      refine jq jrm ?_
      refine jq jrm ?_
      refine jq jrc ?_
      refine seq_nil ?_
      refine jcc (fun h116 => ?_) fun h116 => ?_
      rotate_left
      · refine code_skip (jtn ?_)
        refine jcr ?_
        refine jq jrm ?_
        refine jq jrm ?_
        refine jq jrst ?_
        refine jq jrm ?_
        refine seq_nil ?_
        refine jcg ?_
        refine jq jrm ?_
        refine jq jrm ?_
        refine jq jrsf ?_
        refine jq jrm ?_
        refine seq_nil ?_
        refine jbn (jtn ?_)
        refine jlend (⟨x.f - 1, (nextM x.b).rest, x.b.take (x.b.length - (nextM x.b).rest.length), max x.dp ((wholeM lv (nextM x.b).tag (nextM x.b).body).1 + 1)⟩) ?_ ?_ (h5 := ?_)
        · exact ⟨by dsimp only; omega, by dsimp only; omega, by dsimp only; omega, by dsimp only; omega, by
            dsimp only
            rw [← hw, loopW_step _ _ _ _ _ _ _ (by omega) hxf, if_neg he, if_neg (by omega), if_neg hw0, if_neg hset]⟩
        · dsimp only
          omega
        · exact .cons (CEnt.bs hcut.2.1.symm) (.cons (CEnt.int (by dsimp only; omega)) (.cons (CEnt.bs (by rw [htm])) .nil))
      refine jcg ?_
      refine jq jrm ?_
      refine jq jrm ?_
      refine seq_nil ?_
      refine jtn ?_
      refine jcr ?_
      refine jq jrm ?_
      refine jq jrm ?_
      refine jq jrst ?_
      refine jq jrm ?_
      refine seq_nil ?_
      refine jcg ?_
      refine jq jrm ?_
      refine jq jrm ?_
      refine jq jrsf ?_
      refine jq jrm ?_
      refine seq_nil ?_
      refine jbn (jtn ?_)
      refine jlend (⟨x.f - 1, (nextM x.b).rest, x.b.take (x.b.length - (nextM x.b).rest.length), max x.dp ((wholeM lv (nextM x.b).tag (nextM x.b).body).1 + 1)⟩) ?_ ?_ (h5 := ?_)
      · exact ⟨by dsimp only; omega, by dsimp only; omega, by dsimp only; omega, by dsimp only; omega, by
          dsimp only
          rw [← hw, loopW_step _ _ _ _ _ _ _ (by omega) hxf, if_neg he, if_neg (by omega), if_neg hw0, if_neg hset]⟩
      · dsimp only
        omega
      · exact .cons (CEnt.bs hcut.2.1.symm) (.cons (CEnt.int (by dsimp only; omega)) (.cons (CEnt.bs (by rw [htm])) .nil))
    refine jcr ?_
    refine jq jrm ?_
    refine jq jrm ?_
    refine jq jrm ?_
    refine jq jrsb ?_
    refine jq jrm ?_
    refine jq jra ?_
    refine jq jrm ?_
    refine jq jrc ?_
    refine jqe (jecP (ih' (by omega) (nextM x.b).tag (nextM x.b).body (decide_eq_true h106) (by omega)) ?_ (ho := rfl) (he := (.cons (se rfl (CEnt.bs hcut.1.symm)) (.cons (se rfl (CEnt.refl _)) (.cons (se rfl (CEnt.bool (decide_eq_decide.2 (by omega)))) .nil)))))
    refine jq jrm ?_
    refine jq jrx ?_
    refine jq jrx ?_
    refine jq jrm ?_
    refine jq jrm ?_
    refine seq_nil ?_
    refine jcs ?_
    refine jcr ?_
    refine jq jrm ?_
    refine jq jrc ?_
    refine seq_nil ?_
    refine jcc (fun h108 => ?_) fun h108 => ?_
    · refine jcr ?_
      refine jq jrm ?_
      refine jq jrm ?_
      refine jq jrm ?_
      refine seq_nil ?_
      refine code_ret (jtr (jtr (jbr (jtr (jbr (jtr (jrt (hv := ?_))))))))
      rw [← hw, loopW_step _ _ _ _ _ _ _ (by omega) hxf, if_neg he, if_neg (by omega), if_pos (by omega)]
      exact CEnt.refl _
    refine code_skip (jtn ?_)
    refine jcg ?_
    refine jq jrm ?_
    refine jq jra ?_
    refine jq jrm ?_
    refine seq_nil ?_
    refine jtn ?_
    refine jcs ?_
    refine jcs ?_
    have hw0 : ¬(wholeM lv (nextM x.b).tag (nextM x.b).body).2 ≠ 0 := by omega
    have hw1 := wholeM_pos (Classical.not_not.1 hw0)
    refine code_ent (weaken 14 (.c (.int .i64 ((wholeM lv (nextM x.b).tag (nextM x.b).body).1 : Nat))) (CEnt.int (by omega))) ?_
    refine jcd (.rd 0 (.rd 1 (.rd 2 (.rd 3 (.rd 4 (.rd 5 (.rd 6 (.rd 7 (.rd 8 (.rd 9 .done)))))))))) ?_
    refine jyq jrm ?_
    refine jyq jrm ?_
    refine jysp 53 (fun g113 => ?_) fun g113 => ?_
    rotate_left
    · refine jys ?_
      refine jys ?_
      refine jys ?_
      refine jys ?_
      refine jys ?_
      refine jys ?_
      refine jys ?_
      refine jyq jrpF ?_
      refine jyd ?_
      refine jtn ?_
      refine jcF ?_
      refine code_skip (jtn ?_)
      refine jcs ?_
      have hset : ¬(set = true ∧ Op.bytesLess (x.b.take (x.b.length - (nextM x.b).rest.length)) x.last = true) := by
        rintro ⟨h1, h2⟩
        rw [← htm] at h2
        (rw [h1] at g113; exact absurd g113 (by decide))
      refine jcr ?_
      refine jq jrm ?_
      refine jq jrm ?_
      refine jq jrc ?_
      refine seq_nil ?_
      refine jcc (fun h116 => ?_) fun h116 => ?_
      rotate_left
      · refine code_skip (jtn ?_)
        refine jcr ?_
        refine jq jrm ?_
        refine jq jrm ?_
        refine jq jrst ?_
        refine jq jrm ?_
        refine seq_nil ?_
        refine jcg ?_
        refine jq jrm ?_
        refine jq jrm ?_
        refine jq jrsf ?_
        refine jq jrm ?_
        refine seq_nil ?_
        refine jbn (jtn ?_)
        refine jlend (⟨x.f - 1, (nextM x.b).rest, x.b.take (x.b.length - (nextM x.b).rest.length), max x.dp ((wholeM lv (nextM x.b).tag (nextM x.b).body).1 + 1)⟩) ?_ ?_ (h5 := ?_)
        · exact ⟨by dsimp only; omega, by dsimp only; omega, by dsimp only; omega, by dsimp only; omega, by
            dsimp only
            rw [← hw, loopW_step _ _ _ _ _ _ _ (by omega) hxf, if_neg he, if_neg (by omega), if_neg hw0, if_neg hset]⟩
        · dsimp only
          omega
        · exact .cons (CEnt.bs hcut.2.1.symm) (.cons (CEnt.int (by dsimp only; omega)) (.cons (CEnt.bs (by rw [htm])) .nil))
      refine jcg ?_
      refine jq jrm ?_
      refine jq jrm ?_
      refine seq_nil ?_
      refine jtn ?_
      refine jcr ?_
      refine jq jrm ?_
      refine jq jrm ?_
      refine jq jrst ?_
      refine jq jrm ?_
      refine seq_nil ?_
      refine jcg ?_
      refine jq jrm ?_
      refine jq jrm ?_
      refine jq jrsf ?_
      refine jq jrm ?_
      refine seq_nil ?_
      refine jbn (jtn ?_)
      refine jlend (⟨x.f - 1, (nextM x.b).rest, x.b.take (x.b.length - (nextM x.b).rest.length), max x.dp ((wholeM lv (nextM x.b).tag (nextM x.b).body).1 + 1)⟩) ?_ ?_ (h5 := ?_)
      · exact ⟨by dsimp only; omega, by dsimp only; omega, by dsimp only; omega, by dsimp only; omega, by
          dsimp only
          rw [← hw, loopW_step _ _ _ _ _ _ _ (by omega) hxf, if_neg he, if_neg (by omega), if_neg hw0, if_neg hset]⟩
      · dsimp only
        omega
      · exact .cons (CEnt.bs hcut.2.1.symm) (.cons (CEnt.int (by dsimp only; omega)) (.cons (CEnt.bs (by rw [htm])) .nil))
    refine jyq jrm ?_
    refine jyq jrm ?_
    refine jyq jrst ?_
    refine jyq jrbs ?_
    refine jyq jrm ?_
    refine jyq jrbs ?_
    refine jyq jrcs ?_
    refine jyq jrpT ?_
    refine jyd ?_
    refine jtn ?_
    refine jcc (fun h113 => ?_) fun h113 => ?_
    · refine jcr ?_
      refine jq jrm ?_
      refine jq jrm ?_
      refine seq_nil ?_
      refine code_ret (jtr (jbr (jtr (jbr (jtr (jrt (hv := ?_)))))))
      rw [← hw, loopW_step _ _ _ _ _ _ _ (by omega) hxf, if_neg he, if_neg (by omega), if_neg hw0, if_pos ⟨by assumption, by rw [← htm]; simpa using h113⟩]
      exact CEnt.refl _
    refine code_skip (jtn ?_)
    refine jcs ?_
    have hset : ¬(set = true ∧ Op.bytesLess (x.b.take (x.b.length - (nextM x.b).rest.length)) x.last = true) := by
      rintro ⟨h1, h2⟩
      rw [← htm] at h2
      (rw [h2] at h113; exact absurd h113 (by decide))
    refine jcr ?_
    refine jq jrm ?_
    refine jq jrm ?_
    refine jq jrc ?_
    refine seq_nil ?_
    refine jcc (fun h116 => ?_) fun h116 => ?_
    rotate_left
    · refine code_skip (jtn ?_)
      refine jcr ?_
      refine jq jrm ?_
      refine jq jrm ?_
      refine jq jrst ?_
      refine jq jrm ?_
      refine seq_nil ?_
      refine jcg ?_
      refine jq jrm ?_
      refine jq jrm ?_
      refine jq jrsf ?_
      refine jq jrm ?_
      refine seq_nil ?_
      refine jbn (jtn ?_)
      refine jlend (⟨x.f - 1, (nextM x.b).rest, x.b.take (x.b.length - (nextM x.b).rest.length), max x.dp ((wholeM lv (nextM x.b).tag (nextM x.b).body).1 + 1)⟩) ?_ ?_ (h5 := ?_)
      · exact ⟨by dsimp only; omega, by dsimp only; omega, by dsimp only; omega, by dsimp only; omega, by
          dsimp only
          rw [← hw, loopW_step _ _ _ _ _ _ _ (by omega) hxf, if_neg he, if_neg (by omega), if_neg hw0, if_neg hset]⟩
      · dsimp only
        omega
      · exact .cons (CEnt.bs hcut.2.1.symm) (.cons (CEnt.int (by dsimp only; omega)) (.cons (CEnt.bs (by rw [htm])) .nil))
    refine jcg ?_
    refine jq jrm ?_
    refine jq jrm ?_
    refine seq_nil ?_
    refine jtn ?_
    refine jcr ?_
    refine jq jrm ?_
    refine jq jrm ?_
    refine jq jrst ?_
    refine jq jrm ?_
    refine seq_nil ?_
    refine jcg ?_
    refine jq jrm ?_
    refine jq jrm ?_
    refine jq jrsf ?_
    refine jq jrm ?_
    refine seq_nil ?_
    refine jbn (jtn ?_)
    refine jlend (⟨x.f - 1, (nextM x.b).rest, x.b.take (x.b.length - (nextM x.b).rest.length), max x.dp ((wholeM lv (nextM x.b).tag (nextM x.b).body).1 + 1)⟩) ?_ ?_ (h5 := ?_)
    · exact ⟨by dsimp only; omega, by dsimp only; omega, by dsimp only; omega, by dsimp only; omega, by
        dsimp only
        rw [← hw, loopW_step _ _ _ _ _ _ _ (by omega) hxf, if_neg he, if_neg (by omega), if_neg hw0, if_neg hset]⟩
    · dsimp only
      omega
    · exact .cons (CEnt.bs hcut.2.1.symm) (.cons (CEnt.int (by dsimp only; omega)) (.cons (CEnt.bs (by rw [htm])) .nil))
theorem allW_one {b : List UInt8} (h : (nextM b).e = 0) (hr : (nextM b).rest = []) : ((allW 16 false b).1 - 1, (allW 16 false b).2) = wholeM 16 (nextM b).tag (nextM b).body := by
  have hb : b ≠ [] := by rintro rfl; exact absurd h (by decide)
  have hl : 0 < b.length := List.length_pos_iff.2 hb
  unfold allW
  rw [loopW_step _ _ _ _ _ _ _ hl (Nat.le_refl _), if_neg (by omega), if_neg (by decide)]
  by_cases hw : (wholeM 16 (nextM b).tag (nextM b).body).2 = 0
  · have := wholeM_pos hw
    rw [if_neg (by omega), if_neg (by simp), hr, loopW_nil]
    refine Prod.ext ?_ hw.symm
    show max 1 _ - 1 = _
    omega
  · rw [if_pos hw]
    refine Prod.ext ?_ rfl
    show 0 - 1 = _
    have : (wholeM 16 (nextM b).tag (nextM b).body).1 = 0 := by
      unfold wholeM at hw ⊢
      split
      · rename_i h1; rw [if_pos h1] at hw; exact absurd rfl hw
      · rename_i h1; rw [if_neg h1] at hw; exact loopW_err hw
    omega
theorem rcheck_ac {gs : List Nat} (b : List UInt8) (hb : b.length ≤ 1000000) : ACp gs Tryz.prog 50 [bsC b] (.tup 2 (fl [.c (.int .i64 (depthM b).1), .c (.int .i64 (depthM b).2)])) := by
  have hnb := nextM_bd b
  refine ac_of 29 Tryz.func50 rfl rfl rfl (fun al w0 F0 St0 => ?_)
  refine jcr ?_
  refine jq jrm ?_
  refine jq jrm ?_
  refine seq_nil ?_
  refine jcs ?_
  refine jcr ?_
  refine jq jrm ?_
  refine jq jrl ?_
  refine jq jrc ?_
  refine seq_nil ?_
  refine jcc (fun h127 => ?_) fun h127 => ?_
  · refine jcr ?_
    refine jq jrm ?_
    refine jq jrm ?_
    refine seq_nil ?_
    refine code_ret (jtr (jrt (hv := ?_)))
    unfold depthM
    rw [if_pos (by omega)]
    exact CEnt.refl _
  refine code_skip (jtn ?_)
  refine jcr ?_
  refine jq jrm ?_
  refine jqe (jecP (rnext_ac b (by omega)) ?_)
  refine jq jrm ?_
  refine jq jrx ?_
  refine jq jrx ?_
  refine jq jrx ?_
  refine jq jrx ?_
  refine jq jrm ?_
  refine jq jrm ?_
  refine jq jrm ?_
  refine jq jrm ?_
  refine seq_nil ?_
  refine jcs ?_
  refine jcr ?_
  refine jq jrm ?_
  refine jq jrc ?_
  refine seq_nil ?_
  refine jcc (fun h131 => ?_) fun h131 => ?_
  · refine jcr ?_
    refine jq jrm ?_
    refine jq jrm ?_
    refine jq jrm ?_
    refine seq_nil ?_
    refine code_ret (jtr (jrt (hv := ?_)))
    unfold depthM
    rw [if_neg (by omega), if_pos (by omega)]
    exact CEnt.refl _
  refine code_skip (jtn ?_)
  refine jcs ?_
  refine jcr ?_
  refine jq jrm ?_
  refine jq jrm ?_
  refine jq jrl ?_
  refine jq jrc ?_
  refine seq_nil ?_
  refine jcc (fun h134 => ?_) fun h134 => ?_
  · refine jcr ?_
    refine jq jrm ?_
    refine jq jrm ?_
    refine seq_nil ?_
    refine code_ret (jtr (jrt (hv := ?_)))
    have htm := take_toM (b := b) (by omega)
    unfold depthM
    rw [if_neg (by omega), if_neg (by omega), if_pos (by omega)]
    exact CEnt.refl _
  refine code_skip (jtn ?_)
  refine jcr ?_
  refine jq jrm ?_
  refine jqe (jecP (rwhole_ac 16 false b (by omega) hb) ?_)
  refine jq jrx ?_
  refine jq jrx ?_
  refine jq jrm ?_
  refine jq jrm ?_
  refine seq_nil ?_
  refine code_ret (jrt (hv := ?_))
  have htm := take_toM (b := b) (by omega)
  have hr : (nextM b).rest = [] := List.eq_nil_of_length_eq_zero (by omega)
  have := allW_one (b := b) (by omega) hr
  have hd : depthM b = ((allW 16 false b).1 - 1, (allW 16 false b).2) := by
    unfold depthM
    rw [if_neg (by omega), if_neg (by omega), if_neg (by omega), this]
  rw [hd]
  exact CEnt.refl _
end Am
end Go.Proofs.YtjckfbpdieijeaaGreatDoor

/- slices.Compare at bytes: what it answers, and that the world is as it was. -/
namespace Go.Proofs.YtjckfbpdieijeaaGreatDoor
set_option linter.unusedVariables false
open Go.RowKit
namespace Am
set_option maxRecDepth 100000

theorem isNaN8_run (x : Int) (w : World) : Calls Tryz.prog 176 #[.int .u8 x] w fun e w' => e = .returned (.bool false) ∧ w' = w := by
  go_enter Tryz.func176, Tryz.ntmps176
  go_wp2
  go_ret
  exact ⟨rfl, rfl⟩
set_option maxHeartbeats 1000000 in
theorem cmp8_run (a b : UInt8) (w : World) : Calls Tryz.prog 164 #[.int .u8 (a.toNat : Nat), .int .u8 (b.toNat : Nat)] w fun e w' => e = .returned (.int .i64 (cmp8 a b)) ∧ w' = w := by
  rcases Nat.lt_trichotomy a.toNat b.toNat with h | h | h
  · have HF : Hid (cmp8 a b = -1) := by unfold cmp8; rw [if_pos h]; rfl
    have h1 : decide (((a.toNat : Nat) : Int) < (b.toNat : Nat)) = true := by simp; omega
    go_enter Tryz.func164, Tryz.ntmps164
    go_wp2_with (go_at_call 176; refine (isNaN8_run _ _).mono ?_; rintro e w' ⟨rfl, rfl⟩)
    go_ret
    exact ⟨by rw [HF.out]; rfl, rfl⟩
  · have HF : Hid (cmp8 a b = 0) := by unfold cmp8; rw [if_neg (by omega), if_neg (by omega)]; rfl
    have h1 : decide (((a.toNat : Nat) : Int) < (b.toNat : Nat)) = false := by simp; omega
    have h2 : decide (((b.toNat : Nat) : Int) < (a.toNat : Nat)) = false := by simp; omega
    go_enter Tryz.func164, Tryz.ntmps164
    go_wp2_with (go_at_call 176; refine (isNaN8_run _ _).mono ?_; rintro e w' ⟨rfl, rfl⟩)
    go_ret
    exact ⟨by rw [HF.out]; rfl, rfl⟩
  · have HF : Hid (cmp8 a b = 1) := by unfold cmp8; rw [if_neg (by omega), if_pos h]; rfl
    have h1 : decide (((a.toNat : Nat) : Int) < (b.toNat : Nat)) = false := by simp; omega
    have h2 : decide (((b.toNat : Nat) : Int) < (a.toNat : Nat)) = true := by simp; omega
    go_enter Tryz.func164, Tryz.ntmps164
    go_wp2_with (go_at_call 176; refine (isNaN8_run _ _).mono ?_; rintro e w' ⟨rfl, rfl⟩)
    go_ret
    exact ⟨by rw [HF.out]; rfl, rfl⟩
theorem bs_cell {w : World} {ao : Option Addr} {n cap : Nat} {l : List UInt8} (h : Bs w (.slice ao n cap) l) {k : Nat} (hk : k < l.length) : ∃ b o, ao = some ⟨b, o, none⟩ ∧ w.cell? ⟨b, o + k, none⟩ = some (.int .u8 (l.getD k 0).toNat) := by
  obtain ⟨b, o, cap', e, h1, h2, h3⟩ := h.cons (by omega)
  injection e with e1 e2 e3
  exact ⟨b, o, e1, h3 k hk⟩
set_option maxHeartbeats 2000000 in
theorem compare8_run {w : World} {v1 v2 : Value} {l r : List UInt8} (h1 : Bs w v1 l) (h2 : Bs w v2 r) : Calls Tryz.prog 148 #[v1, v2] w fun e w' => e = .returned (.int .i64 (cmpL l r)) ∧ w' = w := by
  obtain ⟨ao1, cap1, rfl, a1, a2, -, -⟩ := id h1
  obtain ⟨ao2, cap2, rfl, b1, b2, -, -⟩ := id h2
  have H1 := Lib.hid h1
  have H2 := Lib.hid h2
  clear h1 h2
  have L1 : (l.length : Int) ≤ 9223372036854775807 := by omega
  have A1 := Lib.hid a1; have A2 := Lib.hid a2; have B1 := Lib.hid b1; have B2 := Lib.hid b2
  clear a1 a2 b1 b2
  go_enter Tryz.func148, Tryz.ntmps148
  go_wp2
  go_loopw [11] (fun i wr => ∃ k : Nat, Hid (k ≤ l.length ∧ k ≤ r.length ∧ cmpL (l.drop k) (r.drop k) = cmpL l r) ∧ i = .int .i64 k ∧ wr = w) (fun i _ => l.length - (intOf i).toNat)
  case atStart => exact ⟨0, ⟨Nat.zero_le _, Nat.zero_le _, rfl⟩, rfl, rfl⟩
  case round =>
    obtain ⟨k, HK, rfl, rfl⟩ := hrel
    by_cases hk : k < l.length
    · have q1 : decide ((k : Int) < (l.length : Int)) = true := by simp; omega
      obtain ⟨p1, o1, rfl, c1⟩ := bs_cell H1.out hk
      by_cases hr : k < r.length
      · have q2 : decide ((r.length : Int) ≤ (k : Int)) = false := by simp; omega
        obtain ⟨p2, o2, rfl, c2⟩ := bs_cell H2.out hr
        have HS := Lib.hid (cmpL_drop (l := l) (r := r) (i := k) hk hr)
        have i1 : (0 : Int) ≤ (k : Int) := by omega
        have i2 : (k : Int) < (l.length : Int) := by omega
        have i3 : (k : Int) < (r.length : Int) := by omega
        generalize l.getD k 0 = x at c1 HS
        generalize r.getD k 0 = y at c2 HS
        by_cases hz : cmp8 x y = 0
        · have HZ := Lib.hid hz
          have q3 : (cmp8 x y != 0) = false := by rw [hz]; rfl
          clear hz
          go_wp2_with (go_at_call 164; refine (cmp8_run _ _ _).mono ?_; rintro e w' ⟨rfl, rfl⟩)
          case roundEnd => exact ⟨⟨k + 1, ⟨by omega, by omega, by rw [← HK.out.2.2, HS.out, if_neg (fun e => e HZ.out)]⟩, by simp, trivial⟩, by simp [intOf]; omega⟩
        · have HF : Hid (cmpL l r = cmp8 x y) := by show _ = _; rw [← HK.out.2.2, HS.out, if_pos hz]
          have q3 : (cmp8 x y != 0) = true := by simp [hz]
          clear hz
          go_wp2_with (go_at_call 164; refine (cmp8_run _ _ _).mono ?_; rintro e w' ⟨rfl, rfl⟩)
          all_goals (go_ret; exact ⟨by rw [HF.out]; rfl, rfl⟩)
      · have HF : Hid (cmpL l r = 1) := by
          show _ = _
          rw [← HK.out.2.2, List.drop_eq_nil_of_le (by omega : r.length ≤ k), List.drop_eq_getElem_cons hk]; rfl
        have q2 : decide ((r.length : Int) ≤ (k : Int)) = true := by simp; omega
        have i1 : (0 : Int) ≤ (k : Int) := by omega
        have i2 : (k : Int) < (l.length : Int) := by omega
        go_wp2
        all_goals (go_ret; exact ⟨by rw [HF.out]; rfl, rfl⟩)
    · have q1 : decide ((k : Int) < (l.length : Int)) = false := by simp; omega
      have hkl : k = l.length := by have := HK.out.1; omega
      by_cases hr : l.length < r.length
      · have HF : Hid (cmpL l r = -1) := by
          show _ = _
          rw [← HK.out.2.2, hkl, List.drop_length, List.drop_eq_getElem_cons hr]; rfl
        have q2 : decide ((l.length : Int) < (r.length : Int)) = true := by simp; omega
        go_wp2
        all_goals (go_ret; exact ⟨by rw [HF.out]; rfl, rfl⟩)
      · have HF : Hid (cmpL l r = 0) := by
          show _ = _
          have e : r.length = l.length := by have := HK.out.2.1; omega
          rw [← HK.out.2.2, hkl, List.drop_length, ← e, List.drop_length]; rfl
        have q2 : decide ((l.length : Int) < (r.length : Int)) = false := by simp; omega
        go_wp2
        all_goals (go_ret; exact ⟨by rw [HF.out]; rfl, rfl⟩)
end Am
end Go.Proofs.YtjckfbpdieijeaaGreatDoor

/- slices.SortFunc with slices.Compare, at a call's own row of bytes. -/
namespace Go.Proofs.YtjckfbpdieijeaaGreatDoor
set_option linter.unusedVariables false
open Go.RowKit
namespace Am
set_option maxRecDepth 100000
open Go.Sort (SWO PermIn SortedIn putCells putRow mapBlock ahead grow onCells)

def lbF (ls : List (List UInt8)) (j : Nat) : CV := bsC (ls.getD j [])
section
variable {α : Type} [Inhabited α] {enc : α → Value} {w : World} {g n : Nat} {d : Array α} {os : Array Obj}
theorem sortW_other {b : Nat} (hb : b < w.heap.size) (hn : b ≠ g) : (sortWorld enc w g 0 n d os).heap[b]? = w.heap[b]? := by
  show ((w.heap.modify g (onCells (putCells enc 0 d))) ++ os)[b]? = _
  rw [Array.getElem?_append_left (by simpa using hb), Array.getElem?_modify, if_neg (fun e => hn e.symm)]
theorem sortW_at {cur : Array Value} {t : TypeId} {z : Nat × Nat} (h : w.heap[g]? = some (.cells cur t z)) : (sortWorld enc w g 0 n d os).heap[g]? = some (.cells (putCells enc 0 d cur) t z) := by
  have hb : g < w.heap.size := (Array.getElem?_eq_some_iff.1 h).1
  show ((w.heap.modify g (onCells (putCells enc 0 d))) ++ os)[g]? = _
  rw [Array.getElem?_append_left (by simpa using hb), Array.getElem?_modify, if_pos rfl, h]
  rfl
theorem sortW_size : w.heap.size ≤ (sortWorld enc w g 0 n d os).heap.size := by
  show _ ≤ ((w.heap.modify g (onCells (putCells enc 0 d))) ++ os).size
  rw [Array.size_append, Array.size_modify]
  omega
end
theorem row_get {cs : Array Value} {m : Nat} {enc : Fin (m + 1) → Value} {d : Array (Fin (m + 1))} {i : Nat} (hi : i < d.size) (hc : d.size ≤ cs.size) : (putCells enc 0 d cs).getD i undef = enc d[i]! := by
  have h2 : i < (putCells enc 0 d cs).size := by simp [putCells]; omega
  rw [Array.getD_eq_getD_getElem?, Array.getElem?_eq_getElem h2]
  simp [putCells, hi]
theorem sort8_of {gs : List Nat} {P : Program} {fs fc : FuncId}
    (hnone : ∀ (p : Option Addr) (cap : Nat) (fv : Value) (w : World), Calls P fs #[.slice p 0 cap, fv] w fun e w' => e = .returned (.tuple #[]) ∧ w' = w)
    (hsort : ∀ (m : Nat) (enc : Fin (m + 1) → Value) (h1 : OneCell enc) (cf : Fin (m + 1) → Fin (m + 1) → Int) (hO : SWO (ltOf cf)) (blk cap : Nat) (d : Array (Fin (m + 1))) (w : World), CmpLays1 P fc #[] enc cf blk 0 d.size w → Go.Sort.Holds enc w blk 0 d → blk < w.heap.size → d.size < 4611686018427387904 →
      Calls P fs #[.slice (some ⟨blk, 0, none⟩) d.size cap, .func (.func fc) #[] #[]] w fun e w' => e = .returned (.tuple #[]) ∧ ∃ d' n os, PermIn 0 d.size d d' ∧ SortedIn (ltOf cf) 0 d.size d' ∧ w' = sortWorld enc w blk 0 n d' os)
    (hcmp : ∀ (w : World) (v1 v2 : Value) (l r : List UInt8), Bs w v1 l → Bs w v2 r → Calls P fc #[v1, v2] w fun e w' => e = .returned (.int .i64 (cmpL l r)) ∧ w' = w)
    (g : Option Nat) (ls : List (List UInt8)) (hl : ls.length ≤ 1000000000) : AC gs P fs [(g, .blk ls.length (lbF ls))] [.os 0 g 0 ls.length 1, .c (.func (.func fc) #[] #[])] (fun r H' => r = .c (.tuple #[]) ∧ H' = [(g, .blk ls.length (lbF (sortL ls)))]) := by
  intro al w St F0 vals he hs hv
  obtain ⟨fp, hp⟩ := he.hp
  have v0 := hv 0
  have v1 : vals.getD 1 undef = .func (.func fc) #[] #[] := hv 1
  have hnil : ls.length = 0 → sortL ls = ls := fun h => by
    have : ls = [] := List.eq_nil_of_length_eq_zero h
    subst this; simp [sortL]
  have same : ls.length = 0 → HRel al St w w.heap.size F0 [(g, .blk ls.length (lbF (sortL ls)))] := fun h => ⟨fp, by rw [hnil h]; exact hp⟩
  rw [vals2 hs, v1]
  by_cases hz : ls.length = 0
  · have hx : ∃ p cap, vals.getD 0 undef = .slice p 0 cap := by
      cases g with
      | none => exact ⟨none, 0, v0.2⟩
      | some b => obtain ⟨cap, h1, _⟩ := v0; exact ⟨_, cap, by rw [h1, hz]⟩
    obtain ⟨p, cap, hx⟩ := hx
    rw [hx]
    refine (hnone p cap _ w).mono ?_
    rintro e w' ⟨rfl, rfl⟩
    exact ⟨_, _, _, St, rfl, ⟨rfl, rfl⟩, rfl, Under.refl _ _, fun _ h => h, fun _ h => .inl h, he.s3, same hz⟩
  · cases g with
    | none => exact absurd v0.1 hz
    | some b =>
      obtain ⟨cap, h1, h2, h3, cur0, t0, z0, h4, h5⟩ := v0
      obtain ⟨hF, cur, t, k1, k2, k3⟩ := hp.rep 0 (some b) _ rfl
      have hF0 : F0 b := by
        rcases (hp.own 0 b ((hF b).2 rfl)).2.2 with h | h
        · have := (hp.own 0 b ((hF b).2 rfl)).1; omega
        · exact h
      have hSt : ∀ x, St x → x ≠ b := fun x hx e => (hp.own 0 b ((hF b).2 rfl)).2.1 (e ▸ hx)
      have hb : b < w.heap.size := (Array.getElem?_eq_some_iff.1 k1).1
      obtain ⟨m, hm⟩ : ∃ m, ls.length = m + 1 := ⟨ls.length - 1, by omega⟩
      let enc : Fin (m + 1) → Value := fun i => cur.getD i.val undef
      let d : Array (Fin (m + 1)) := Array.ofFn id
      have hd : d.size = ls.length := by simp [d, hm]
      have hrep : ∀ i : Fin (m + 1), RepC al St w (bsC (ls.getD i.val [])) (enc i) := fun i => k3 i.val (by omega)
      have hbs : ∀ (w' : World), KeepS St w w' → ∀ i : Fin (m + 1), Bs w' (enc i) (ls.getD i.val []) := fun w' hk i => bs_of_rep (rep_bs_keep (hrep i) hk)
      have hone : OneCell enc := fun i => by
        obtain ⟨ao, cap, e, _⟩ := hbs w (KeepS.refl _ _) i
        rw [e]; rfl
      have hkeep : ∀ (n : Nat) (d' : Array (Fin (m + 1))) (os : Array Obj), KeepS St w (sortWorld enc w b 0 n d' os) := fun n d' os x hx => sortW_other (he.s3 x hx) (hSt x hx)
      have hO := cmpL_swo (fun i : Fin (m + 1) => ls.getD i.val [])
      have hH : Go.Sort.Holds enc w b 0 d := fun j hj => by
        have hj2 : j < cur.size := by omega
        have e1 : d[j]! = ⟨j, by omega⟩ := by simp [d, show j < m + 1 by omega]
        refine ⟨?_, ?_⟩
        · simp only [World.cell?, k1, Nat.zero_add]
          rw [if_neg (by simp), e1]
          simp [enc, hj2]
        · simp [World.frozen?, k1]
      have key := hsort m enc hone (fun x y => cmpL (ls.getD x.val []) (ls.getD y.val [])) hO b cap d w (fun n os dk hdk x y => (hcmp _ _ _ _ _ (hbs _ (hkeep n dk os) x) (hbs _ (hkeep n dk os) y)).mono (by rintro e w' ⟨rfl, rfl⟩; exact ⟨rfl, 0, #[], by simp [World.drewN]⟩)) hH hb (by omega)
      rw [h1, ← hd]
      refine key.mono ?_
      rintro e w' ⟨rfl, d', n, os, hP, hS, rfl⟩
      have hd' : d'.size = ls.length := hP.1.trans hd
      have hms : (d'.toList.map fun i => ls.getD i.val []) = sortL ls := by
        refine sortL_of ?_ ?_
        · have h6 := hP.2.2
          have e1 : (d'.extract 0 d.size).toList = d'.toList := by rw [← hP.1]; simp
          have e2 : (d.extract 0 d.size).toList = d.toList := by simp
          rw [e1, e2] at h6
          refine (h6.map _).trans ?_
          have e3 : d.toList.map (fun i : Fin (m + 1) => ls.getD i.val []) = ls := by
            apply List.ext_getElem
            · simp [d, hm]
            · intro i h7 h8
              rw [List.getElem_map, Array.getElem_toList]
              have e4 : d[i]'(by rw [hd]; exact h8) = ⟨i, by omega⟩ := by simp only [d, Array.getElem_ofFn]; rfl
              rw [e4]; simp only [List.getD, List.getElem?_eq_getElem h8, Option.getD_some]
          rw [e3]
        · rw [List.pairwise_map, List.pairwise_iff_getElem]
          intro i j hi hj hij
          have h7 := hS i j (Nat.zero_le _) hij (by rw [← hP.1]; simpa using hj)
          have hi2 : i < d'.size := by simpa using hi
          have hj2 : j < d'.size := by simpa using hj
          rw [getElem!_pos d' i hi2, getElem!_pos d' j hj2] at h7
          unfold ltOf at h7
          simp only [decide_eq_false_iff_not, Int.not_lt] at h7
          have h8 := cmpL_swap (ls.getD (d'[j]).val []) (ls.getD (d'[i]).val [])
          unfold leL
          rw [decide_eq_true_eq]
          simp only [Array.getElem_toList]
          omega
      have hw := sortW_at (enc := enc) (n := n) (d := d') (os := os) k1
      have hsz := sortW_size (enc := enc) (w := w) (g := b) (n := n) (d := d') (os := os)
      have hput : (putCells enc 0 d' cur).size = cur.size := by simp [putCells]
      refine ⟨_, _, _, St, rfl, ⟨rfl, rfl⟩, rfl, ⟨rfl, rfl, rfl, hsz, fun x hx hn => sortW_other hx (fun e => hn (e ▸ hF0)), fun x cx tx zx hx => ?_⟩, fun _ h => h, fun _ h => .inl h, fun x hx => Nat.lt_of_lt_of_le (he.s3 x hx) hsz, fp, fun i g' r hi => ?_, hp.dis, fun i x hx => ?_, hp.out⟩
      · by_cases e : x = b
        · subst e
          rw [k1] at hx
          cases hx
          exact ⟨_, _, hw, hput⟩
        · exact ⟨cx, zx, (sortW_other (Array.getElem?_eq_some_iff.1 hx).1 e).trans hx, rfl⟩
      · cases i with
        | zero =>
          cases hi
          refine ⟨hF, _, t, hw, by rw [hput]; omega, fun i hi => ?_⟩
          have hi' : i < d'.size := by omega
          rw [row_get hi' (by omega)]
          have e : lbF (sortL ls) i = bsC (ls.getD (d'[i]!).val []) := by
            unfold lbF
            rw [← hms]
            simp [List.getD, hi']
          rw [e]
          exact rep_bs_keep (hrep _) (hkeep n d' os)
        | succ i => simp at hi
      · exact ⟨Nat.lt_of_lt_of_le (hp.own i x hx).1 hsz, (hp.own i x hx).2⟩
end Am
end Go.Proofs.YtjckfbpdieijeaaGreatDoor

/- Chapter 7: rows of bytes: cloned, sorted, told to be sorted, the same. -/
namespace Go.Proofs.YtjckfbpdieijeaaGreatDoor
set_option linter.unusedVariables false
namespace Am
open Go.RowKit
set_option maxRecDepth 100000

theorem rowC_lb : RowC 1 lbF := fun l l2 j hj => by
  simp only [lbF, List.getD_eq_getElem?_getD]
  split
  · rw [List.getElem?_append_left (by omega)]
  · rw [List.getElem?_append_right (by omega), Nat.mul_one]
theorem lb_thaw {ls : List (List UInt8)} : ∀ a b, a < ls.length → b < 1 → CEnt (lbF ls (0 + (a * 1 + b))) (bsC (ls.getD a [])) := fun a b ha hb => CEnt.of_eq (by rw [show 0 + (a * 1 + b) = a by omega]; rfl)
theorem cloneL_ac {gs : List Nat} (l : List (List UInt8)) (hl : l.length ≤ 1000000) : AC gs Tryz.prog 154 [] [lbC l] (OwnQ l.length 1 l.length (lbF l)) := by
  refine ac_of 8 Tryz.func154 rfl rfl rfl (fun al w0 F0 St0 => ?_)
  refine jcr ?_
  refine jq jrm ?_
  refine seq_nil ?_
  refine jcs ?_
  refine jcr ?_
  refine jq jrm ?_
  refine seq_eqNil (wanted_none rfl) rfl rfl rfl Tryz.underlying56 rfl rfl (fun h357 => ?_) ?_
  · refine seq_nil ?_
    refine jcT ?_
    refine jcr ?_
    refine jq jrm ?_
    refine seq_nil ?_
    refine code_ent (own_nil 2 1 (lbF l) rfl) ?_
    refine code_ret (jtr ?_)
    exact end_O 0 (.inl rfl) (res_1 rfl (arv_tmp rfl)) rfl (by omega) (by omega) (fun _ => by omega) (fun j hj => by omega)
  · refine seq_nil ?_
    refine jcF ?_
    refine code_skip (jtn ?_)
    refine jcr ?_
    refine jqe (jebl 0 1 zr26 fun p1 => ?_)
    refine jq jrm ?_
    refine jqm (m_appendC (l := []) ( rowC_lb) rfl rfl rfl rfl (Nat.le_of_eq (Nat.zero_mul _)) (fun j hj => absurd hj (by simp)) (src_rs rfl) rfl (fun j hj => by (simp only [Nat.div_one]; exact CEnt.refl _)) Tryz.underlying56 nu56 sz26 zr26 by26 rfl (by (simp; omega)) (by (simp; omega)) (fun j hj => rfl) rfl rfl rfl (fun p2 => ?_))
    refine jq jrm ?_
    refine seq_nil ?_
    refine code_ret ?_
    exact end_O 0 (.inl rfl) (res_1 rfl (arv_tmp rfl)) rfl (by simp) (by simp) (fun _ => by simp) (fun j hj => CEnt.refl _)
theorem leL_cmp {a b : List UInt8} : leL a b = true ↔ 0 ≤ cmpL b a := by
  have := cmpL_swap a b
  unfold leL
  rw [decide_eq_true_eq]
  omega
end Am
end Go.Proofs.YtjckfbpdieijeaaGreatDoor

/- Chapter 8: the writer as one thing. -/
namespace Go.Proofs.YtjckfbpdieijeaaGreatDoor
set_option linter.unusedVariables false
namespace Am
open Go.RowKit
set_option maxRecDepth 100000

/-- an element that is under way: its tag, what was written into it; where its row stands -/
abbrev FrG := (Int × List (List UInt8)) × Option Nat
def frD : FrG := ((0, []), none)
def frF (x : FrG) : Nat → CV := fl [.c (.int .i64 x.1.1), .os 0 x.2 0 x.1.2.length 1]
def kidE (x : FrG) : Option Nat × Res := (x.2, .blk x.1.2.length (lbF x.1.2))
abbrev WZ8 (fr : List (Int × List (List UInt8))) := { z : Nat × Option Nat × Option Nat × List FrG // z.2.2.2.map Prod.fst = fr }
def wrB (s : W8) (io jd : Nat) (go gd : Option Nat) : Nat → CV := fl [.os io go 0 s.fr.length 2, .os jd gd 0 s.d.length 1, .err s.k]
def wrE (s : W8) (z : WZ8 s.fr) : List (Option Nat × Res) := [(some z.1.1, .blk 3 (wrB s 1 2 z.1.2.1 z.1.2.2.1)), (z.1.2.1, .blk (s.fr.length * 2) (rowF 2 frF frD z.1.2.2.2.reverse)), (z.1.2.2.1, .blk s.d.length (byF s.d)), bagE (z.1.2.2.2.map kidE)]
def wrO (n : Nat) (s : W8) : Option Nat × Res := objE n (fun z : WZ8 s.fr => z.1.1) (wrE s)
section
variable {P : Program} {G : Gh} {c : Code} {R : Exit → AS → Prop} {n : Nat} {s : W8} {env : List (Nat × CV)} {b0 : Nat → CV} {H : List (Option Nat × Res)}
theorem code_openW (i : Nat) (hi : H[i]? = some (wrO n s)) (h : ∀ go gd (zs : List FrG), zs.map Prod.fst = s.fr → ACode P G c ⟨env, b0, H.set i (some n, .blk 3 (wrB s H.length (H.length + 1) go gd)) ++ [(go, .blk (s.fr.length * 2) (rowF 2 frF frD zs.reverse)), (gd, .blk s.d.length (byF s.d)), bagE (zs.map kidE)]⟩ R) : ACode P G c ⟨env, b0, H⟩ R := by
  have hlt := (List.getElem?_eq_some_iff.1 hi).1
  refine code_unpack i hi fun z hz => ?_
  obtain ⟨⟨n', go, gd, zs⟩, hzs⟩ := z
  obtain rfl : n' = n := hz
  refine code_ent (weakH i 3 (wrB s H.length (H.length + 1) go gd) (n := 3) (g := some n') (f := wrB s 1 2 go gd) ?_ (Nat.le_refl _) fun j hj => ?_) ?_
  · show (H.set i _ ++ _)[i]? = _
    rw [List.getElem?_append_left (by simpa using hlt)]
    simp [hlt]
  · rcases j with _ | _ | _ | j
    · exact CEnt.osI rfl
    · exact CEnt.osI rfl
    · exact CEnt.refl _
    · omega
  · have := h go gd zs hzs
    rw [← List.set_set (a := (some n', Res.blk 3 (wrB s 1 2 go gd))), ← List.set_append_left _ _ (by simpa using hlt)] at this
    exact this
theorem closeWh (n : Nat) (s : W8) (zs : List FrG) (i jo jd jb : Nat) (hzs : zs.map Prod.fst = s.fr) {go gd : Option Nat} {No Nd : Nat} {f Fo Fd : Nat → CV} (hi : H[i]? = some (some n, .blk 3 f)) (ho : H[jo]? = some (go, .blk No Fo)) (hd : H[jd]? = some (gd, .blk Nd Fd)) (hb : H[jb]? = some (bagE (zs.map kidE))) (hij : [i, jo, jd, jb].Nodup)
    (h0 : CEnt (f 0) (.os 1 go 0 s.fr.length 2)) (h1 : CEnt (f 1) (.os 1 gd 0 s.d.length 1)) (h2 : CEnt (f 2) (.err s.k)) (hNo : s.fr.length * 2 ≤ No) (hFo : ∀ a, a < s.fr.length * 2 → CEnt (Fo a) (rowF 2 frF frD zs.reverse a)) (hNd : s.d.length ≤ Nd) (hFd : ∀ a, a < s.d.length → CEnt (Fd a) (byF s.d a)) :
    ∀ {al : List Addr} {St : Nat → Prop} {w : World} {base : Nat} {F0 : Nat → Prop}, HRel al St w base F0 H → HRel al St w base F0 ((((H.set i (wrO n s)).set jo (none, .dead)).set jd (none, .dead)).set jb (none, .dead)) := by
  intro al St w base F0 h
  simp only [List.nodup_cons, List.mem_cons, List.not_mem_nil, or_false, not_or, not_false_iff, List.nodup_nil, and_true] at hij
  obtain ⟨⟨e1, e2, e3⟩, ⟨e4, e5⟩, e6⟩ := hij
  have hil := (List.getElem?_eq_some_iff.1 hi).1
  have hol := (List.getElem?_eq_some_iff.1 ho).1
  have hdl := (List.getElem?_eq_some_iff.1 hd).1
  have hbl := (List.getElem?_eq_some_iff.1 hb).1
  have k1 := h.weak (F := wrB s 1 2 go gd) hi (Nat.le_refl _) fun a ha => by
    rcases a with _ | _ | _ | a
    · exact h0.trans (CEnt.osI rfl)
    · exact h1.trans (CEnt.osI rfl)
    · exact h2
    · omega
  have k2 := k1.weak (i := jo) (F := rowF 2 frF frD zs.reverse) (by rw [List.getElem?_set_ne e1]; exact ho) hNo hFo
  have k3 := k2.weak (i := jd) (F := byF s.d) (by rw [List.getElem?_set_ne e4, List.getElem?_set_ne e2]; exact hd) hNd hFd
  have k4 := k3.closeN (gd := fun z : WZ8 s.fr => z.1.1) (E := wrE s) ⟨(n, go, gd, zs), hzs⟩ i [jo, jd, jb] (by simp [e1, e2, e3, e4, e5, e6]) (by simp [hil, hol, hdl, hbl]) (by
    have g1 : ∀ {x}, ((H.set i x).set jo (go, Res.blk (s.fr.length * 2) (rowF 2 frF frD zs.reverse))).set jd (gd, Res.blk s.d.length (byF s.d)) = ((H.set i x).set jo (go, Res.blk (s.fr.length * 2) (rowF 2 frF frD zs.reverse))).set jd (gd, Res.blk s.d.length (byF s.d)) := rfl
    simp only [pickL, List.map_cons, List.map_nil, List.getD_eq_getElem?_getD]
    rw [List.getElem?_set_ne (Ne.symm e2), List.getElem?_set_ne (Ne.symm e1), List.getElem?_set_ne (Ne.symm e4), List.getElem?_set_ne e6, List.getElem?_set_ne e5, List.getElem?_set_ne e3, hb]
    simp [hil, hol, hdl, wrE])
  have e : killL ((((H.set i (some n, Res.blk 3 (wrB s 1 2 go gd))).set jo (go, Res.blk (s.fr.length * 2) (rowF 2 frF frD zs.reverse))).set jd (gd, Res.blk s.d.length (byF s.d))).set i (objE n (fun z : WZ8 s.fr => z.1.1) (wrE s))) [jo, jd, jb] = (((H.set i (wrO n s)).set jo (none, .dead)).set jd (none, .dead)).set jb (none, .dead) := by
    show ((((((H.set i _).set jo _).set jd _).set i _).set jo _).set jd _).set jb _ = _
    rw [List.set_comm _ _ (Ne.symm e2), List.set_comm _ _ (Ne.symm e1), List.set_set, List.set_comm _ _ (Ne.symm e4), List.set_set, List.set_set]
    rfl
  rw [← e]
  exact k4
theorem closeW (n : Nat) (s : W8) (zs : List FrG) (i jo jd jb : Nat) (hzs : zs.map Prod.fst = s.fr) {go gd : Option Nat} {No Nd : Nat} {f Fo Fd : Nat → CV} (hi : H[i]? = some (some n, .blk 3 f)) (ho : H[jo]? = some (go, .blk No Fo)) (hd : H[jd]? = some (gd, .blk Nd Fd)) (hb : H[jb]? = some (bagE (zs.map kidE))) (hij : [i, jo, jd, jb].Nodup)
    (h0 : CEnt (f 0) (.os 1 go 0 s.fr.length 2)) (h1 : CEnt (f 1) (.os 1 gd 0 s.d.length 1)) (h2 : CEnt (f 2) (.err s.k)) (hNo : s.fr.length * 2 ≤ No) (hFo : ∀ a, a < s.fr.length * 2 → CEnt (Fo a) (rowF 2 frF frD zs.reverse a)) (hNd : s.d.length ≤ Nd) (hFd : ∀ a, a < s.d.length → CEnt (Fd a) (byF s.d a)) :
    EntS G ⟨env, b0, H⟩ ⟨env, b0, (((H.set i (wrO n s)).set jo (none, .dead)).set jd (none, .dead)).set jb (none, .dead)⟩ := EntS.hrel (closeWh n s zs i jo jd jb hzs hi ho hd hb hij h0 h1 h2 hNo hFo hNd hFd)
end
end Am
end Go.Proofs.YtjckfbpdieijeaaGreatDoor
