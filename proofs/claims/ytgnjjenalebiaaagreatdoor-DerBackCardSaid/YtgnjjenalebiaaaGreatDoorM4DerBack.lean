/- What the law leans on, part 4: W04n, P03n, P08, W03r, W03s, W07s, W07t, W07u, W08j, W04r, W08u, W08k, Shelf, ShelfS, W07v, W08l, W04s, W05, W05b, W05c, W05d, W05e, Laid, Tab, V8, P07e, W07p, P07c -/
import Derived.Test.YtgnjjenalebiaaaGreatDoorM3DerBack
import Derived.Shelf.SlSortCmp.Kit1
import Derived.Shelf.Strings.Builder1
import Derived.Shelf.Strings.Builder2
import Derived.Shelf.Strings.OnBuilder
import Derived.Shelf.Small.Bits
import Derived.Shelf.Strconv.Itoa0
import Derived.Shelf.Strings.Search1
import Derived.Shelf.Strings.Search2
import Derived.Shelf.Strings.Search3
import Derived.Shelf.LaysM
import Derived.Shelf.Strings.Shaped
import Derived.Shelf.Unicode.Decode
import Derived.Shelf.Unicode.DecodeSlow
import Derived.Shelf.Unicode.DecodeAny
import Derived.Test.YtgnjjenalebiaaaGreatDoorProg
import Derived.Shelf.SlSortCmp.NoneTotal
import Derived.Ground.SlsfProg
import Derived.Test.YtgnjjenalebiaaaGreatDoorRows
import Derived.LaidLaws
import Derived.MakeChecks
import Derived.Lib.LaidU8T
import Derived.Shelf.Unicode.ValidAny

/- Chapter 4 in the abstract walk: numbers' and truths' bodies. -/
namespace Go.Proofs.YtgnjjenalebiaaaGreatDoor
set_option linter.unusedVariables false
namespace Am
variable {gs : List Nat} [Ok9 gs]
open Go.RowKit
set_option maxRecDepth 100000

theorem settled_ac {gs : List Nat} (h r : Int) : ACp gs Tryz.prog 127 [.c (.int .u8 h), .c (.int .i64 r)] (.c (.bool ((r == 0 && decide (h < 128)) || (r == -1 && decide (128 ≤ h))))) := by
  refine ac_of 19 Tryz.func127 rfl rfl rfl (fun al w0 F0 St0 => ?_)
  refine jcr ?_
  refine jq jrm ?_
  refine seq_nil ?_
  refine jcr ?_
  refine jq jrm ?_
  refine jq jrc ?_
  refine jq jrm ?_
  refine jqsp 7 (fun g28 => ?_) fun g28 => ?_
  rotate_left
  · refine jqs ?_
    refine jqs ?_
    refine jq jrpF ?_
    refine jq jrm ?_
    refine jq jrm ?_
    refine jq jrc ?_
    refine jq jrm ?_
    refine jqsp 14 (fun g28_2 => ?_) fun g28_2 => ?_
    · refine jq jrm ?_
      refine jq jrc ?_
      refine jq jrpT ?_
      refine jq jrpF ?_
      refine jq jrm ?_
      refine seq_nil ?_
      refine code_ret (jrt (hv := ?_))
      (refine CEnt.bool ?_; simp [*]; done)
    refine jqs ?_
    refine jqs ?_
    refine jq jrpF ?_
    refine jq jrpF ?_
    refine jq jrm ?_
    refine seq_nil ?_
    refine code_ret (jrt (hv := ?_))
    (refine CEnt.bool ?_; simp [*]; done)
  refine jq jrm ?_
  refine jq jrc ?_
  refine jq jrpT ?_
  refine jq jrm ?_
  refine jqsp 11 (fun g28_2 => ?_) fun g28_2 => ?_
  · refine jqs ?_
    refine jqs ?_
    refine jqs ?_
    refine jqs ?_
    refine jqs ?_
    refine jqs ?_
    refine jq jrpT ?_
    refine jq jrm ?_
    refine seq_nil ?_
    refine code_ret (jrt (hv := ?_))
    (refine CEnt.bool ?_; simp [*]; done)
  refine jq jrm ?_
  refine jq jrc ?_
  refine jq jrm ?_
  refine jqsp 14 (fun g28_3 => ?_) fun g28_3 => ?_
  · refine jq jrm ?_
    refine jq jrc ?_
    refine jq jrpT ?_
    refine jq jrpF ?_
    refine jq jrm ?_
    refine seq_nil ?_
    refine code_ret (jrt (hv := ?_))
    omega
  refine jqs ?_
  refine jqs ?_
  refine jq jrpF ?_
  refine jq jrpF ?_
  refine jq jrm ?_
  refine seq_nil ?_
  refine code_ret (jrt (hv := ?_))
  (refine CEnt.bool ?_; simp [*]; done)
theorem truth_ac {gs : List Nat} (b : Bool) : ACp gs Tryz.prog 102 [.c (.bool b)] (bsC [if b then 255 else 0]) := by
  refine ac_of 6 Tryz.func102 rfl rfl rfl (fun al w0 F0 St0 => ?_)
  refine jcr ?_
  refine jq jrm ?_
  refine seq_nil ?_
  refine jcs ?_
  refine jcr ?_
  refine jq jrm ?_
  refine seq_nil ?_
  refine jcc (fun h62 => ?_) fun h62 => ?_
  · refine jcr ?_
    refine jqe (jebl 1 1 zr5 fun p1 => ?_)
    refine jq jrm ?_
    refine seq_nil ?_
    refine code_ent (freeze 0 rfl) ?_
    refine code_ent (thawBL 2 ([255]) rfl rfl rfl rfl (.cons (CEnt.int (rfl)) .nil)) ?_
    refine code_ret (jtr (jrt (hv := CEnt.bs (by (rw [h62]; rfl)))))
  refine code_skip (jtn ?_)
  refine jcr ?_
  refine jqe (jebl 1 1 zr5 fun p1 => ?_)
  refine jq jrm ?_
  refine seq_nil ?_
  refine code_ent (freeze 0 rfl) ?_
  refine code_ent (thawBL 2 ([0]) rfl rfl rfl rfl (.cons (CEnt.int (rfl)) .nil)) ?_
  refine code_ret (jrt (hv := CEnt.bs (by (rw [h62]; rfl))))
theorem istrue_ac (l : List UInt8) : ACp gs Tryz.prog 116 [bsC l] (.tup 2 (fl [.c (.bool (isTrueM l).1), .err (isTrueM l).2])) := by
  refine ac_len 0 rfl fun hlen => ?_
  refine ac_of 30 Tryz.func116 rfl rfl rfl (fun al w0 F0 St0 => ?_)
  refine jcr ?_
  refine jq jrm ?_
  refine jq jrm ?_
  refine seq_nil ?_
  refine jcs ?_
  refine code_block ?_
  refine jcr ?_
  refine jq jrm ?_
  refine jq jrl ?_
  refine jq jrc ?_
  refine jq jrm ?_
  refine seq_nil ?_
  refine jcc (fun h71 => ?_) fun h71 => ?_
  · refine jcs ?_
    refine jcd (.rd 0 (.rd 1 (.rd 2 .done))) ?_
    refine jyq (jrde 1) ?_
    refine jyq jrm ?_
    refine jyq jrm ?_
    refine jyd ?_
    refine jtn ?_
    refine code_ret (jbr (jtr (jrt (hv := ?_))))
    have hb : isTrueM l = (false, 2) := by unfold isTrueM; rw [if_pos (by omega)]
    rw [hb]; exact CEnt.refl _
  refine jcr ?_
  refine jq jrm ?_
  refine jq jrl ?_
  refine jq jrc ?_
  refine jq jrm ?_
  refine jqsp 13 (fun g73 => ?_) fun g73 => ?_
  · refine jqs ?_
    refine jqs ?_
    refine jqs ?_
    refine jqs ?_
    refine jqs ?_
    refine jqs ?_
    refine jqs ?_
    refine jqs ?_
    refine jqs ?_
    refine jqs ?_
    refine jq jrpT ?_
    refine jq jrm ?_
    refine seq_nil ?_
    refine jcT ?_
    refine jcs ?_
    refine jcd (.rd 0 (.rd 1 (.rd 2 .done))) ?_
    refine jyq (jrde 3) ?_
    refine jyq jrm ?_
    refine jyq jrm ?_
    refine jyd ?_
    refine jtn ?_
    refine code_ret (jbr (jtr (jrt (hv := ?_))))
    have hb : isTrueM l = (false, 4) := by unfold isTrueM; rw [if_neg (by omega), if_pos (by omega)]
    rw [hb]; exact CEnt.refl _
  refine jq jrm ?_
  refine jq (jri (i := 0)) ?_
  refine jq jrdr ?_
  refine jq jrc ?_
  refine jq jrm ?_
  refine jqsp 18 (fun g73_2 => ?_) fun g73_2 => ?_
  rotate_left
  · refine jqs ?_
    refine jqs ?_
    refine jqs ?_
    refine jqs ?_
    refine jq jrpF ?_
    refine jq jrpF ?_
    refine jq jrm ?_
    refine seq_nil ?_
    refine jcF ?_
    refine code_skip (jbn (jtn ?_))
    refine jcr ?_
    refine jq jrm ?_
    refine jq (jri (i := 0)) ?_
    refine jq jrdr ?_
    refine jq jrc ?_
    refine jq jrm ?_
    refine jq jrm ?_
    refine seq_nil ?_
    refine code_ret (jrt (hv := ?_))
    have hb : isTrueM l = (decide ((l.getD 0 0).toNat = 255), 0) := by unfold isTrueM; rw [if_neg (by omega), if_neg (by omega)]
    rw [hb]; exact CEnt.tup2 (CEnt.bool (by simp only [decide_eq_decide]; omega)) (CEnt.nilE rfl)
  refine jq jrm ?_
  refine jq (jri (i := 0)) ?_
  refine jq jrdr ?_
  refine jq jrc ?_
  refine jq jrpT ?_
  refine jq jrpF ?_
  refine jq jrm ?_
  refine seq_nil ?_
  refine jcc (fun h73 => ?_) fun h73 => ?_
  · refine jcs ?_
    refine jcd (.rd 0 (.rd 1 (.rd 2 .done))) ?_
    refine jyq (jrde 3) ?_
    refine jyq jrm ?_
    refine jyq jrm ?_
    refine jyd ?_
    refine jtn ?_
    refine code_ret (jbr (jtr (jrt (hv := ?_))))
    have hb : isTrueM l = (false, 4) := by unfold isTrueM; rw [if_neg (by omega), if_pos (by omega)]
    rw [hb]; exact CEnt.refl _
  refine code_skip (jbn (jtn ?_))
  refine jcr ?_
  refine jq jrm ?_
  refine jq (jri (i := 0)) ?_
  refine jq jrdr ?_
  refine jq jrc ?_
  refine jq jrm ?_
  refine jq jrm ?_
  refine seq_nil ?_
  refine code_ret (jrt (hv := ?_))
  have hb : isTrueM l = (decide ((l.getD 0 0).toNat = 255), 0) := by unfold isTrueM; rw [if_neg (by omega), if_neg (by omega)]
  rw [hb]; exact CEnt.tup2 (CEnt.bool (by simp only [decide_eq_decide]; omega)) (CEnt.nilE rfl)
theorem i8_sgn (c : UInt8) : IntKind.i8.wrap ((c.toNat : Nat) : Int) = sgn c := by
  have := c.toNat_lt
  have e : IntKind.i8.wrap (c.toNat : Int) = ((c.toNat : Int) + 128) % 256 - 128 := by simp [IntKind.wrap, IntKind.bits, IntKind.signed]; omega
  rw [e]
  unfold sgn
  split <;> omega
theorem sgn_bd (c : UInt8) : -128 ≤ sgn c ∧ sgn c ≤ 127 := by
  have := c.toNat_lt
  unfold sgn
  split <;> omega
theorem idle_of {l : List UInt8} (h : 1 < l.length) : idle l = true ↔ ((l.getD 0 0).toNat = 0 ∧ (l.getD 1 0).toNat < 128) ∨ ((l.getD 0 0).toNat = 255 ∧ 128 ≤ (l.getD 1 0).toNat) := by
  rw [idle_get l h]
  simp only [Bool.or_eq_true, Bool.and_eq_true, beq_iff_eq, decide_eq_true_eq]
set_option maxHeartbeats 1000000 in
theorem wget_ac (l : List UInt8) : ACp gs Tryz.prog 125 [bsC l] (.tup 2 (fl [.c (.int .i64 (getM l).1), .err (getM l).2])) := by
  refine ac_len 0 rfl fun hlen => ?_
  have hsg := sgn_bd (l.getD 0 0)
  have hid := fun h => idle_of (l := l) h
  refine ac_of 65 Tryz.func125 rfl rfl rfl (fun al w0 F0 St0 => ?_)
  refine jcr ?_
  refine jq jrm ?_
  refine jq jrm ?_
  refine seq_nil ?_
  refine jcs ?_
  refine code_block ?_
  refine jcr ?_
  refine jq jrm ?_
  refine jq jrl ?_
  refine jq jrc ?_
  refine jq jrm ?_
  refine seq_nil ?_
  refine jcc (fun h34 => ?_) fun h34 => ?_
  · refine jcs ?_
    refine jcd (.rd 0 (.rd 1 (.rd 2 .done))) ?_
    refine jyq (jrde 1) ?_
    refine jyq jrm ?_
    refine jyq jrm ?_
    refine jyd ?_
    refine jtn ?_
    refine code_ret (jbr (jtr (jrt (hv := ?_))))
    have hb : getM l = (0, 2) := by unfold getM; rw [if_pos (by omega)]
    rw [hb]; exact CEnt.refl _
  refine jcr ?_
  refine jq jrm ?_
  refine jq jrl ?_
  refine jq jrc ?_
  refine jq jrm ?_
  refine jqsp 16 (fun g36 => ?_) fun g36 => ?_
  rotate_left
  · refine jqs ?_
    refine jqs ?_
    refine jqs ?_
    refine jqs ?_
    refine jqs ?_
    refine jqs ?_
    refine jqs ?_
    refine jqs ?_
    refine jqs ?_
    refine jqs ?_
    refine jqs ?_
    refine jqs ?_
    refine jqs ?_
    refine jqs ?_
    refine jqs ?_
    refine jqs ?_
    refine jqs ?_
    refine jqs ?_
    refine jqs ?_
    refine jqs ?_
    refine jqs ?_
    refine jqs ?_
    refine jq jrpF ?_
    refine jq jrm ?_
    refine seq_nil ?_
    refine jcF ?_
    have hni : ¬ idle l = true := by
      by_cases h1 : 1 < l.length
      · rw [hid h1]; omega
      · rw [idle_short l (by omega)]; exact Bool.noConfusion
    refine jcr ?_
    refine jq jrm ?_
    refine jq jrl ?_
    refine jq jrc ?_
    refine jq jrm ?_
    refine seq_nil ?_
    refine jcc (fun h38 => ?_) fun h38 => ?_
    · refine jcs ?_
      refine jcd (.rd 0 (.rd 1 (.rd 2 .done))) ?_
      refine jyq (jrde 0) ?_
      refine jyq jrm ?_
      refine jyq jrm ?_
      refine jyd ?_
      refine jtn ?_
      refine code_ret (jbr (jtr (jrt (hv := ?_))))
      have hb : getM l = (0, 1) := by unfold getM; rw [if_neg (by omega), if_neg hni, if_pos (by omega)]
      rw [hb]; exact CEnt.refl _
    refine code_skip (jbn (jtn ?_))
    refine jcr ?_
    refine jq jrm ?_
    refine jq (jri (i := 0)) ?_
    refine jq jrdr ?_
    refine jq (rd_convI rfl rfl Tryz.underlying5 Tryz.underlying195 (sgn (l.getD 0 0)) (i8_sgn _)) ?_
    refine jq (rd_convI rfl rfl Tryz.underlying195 Tryz.underlying3 (sgn (l.getD 0 0)) (wrap_id (k := .i64) (by show _ ∧ _; omega))) ?_
    refine jq jrm ?_
    refine seq_nil ?_
    refine jcs ?_
    have hb : getM l = (valS l, 0) := by unfold getM; rw [if_neg (by omega), if_neg hni, if_neg (by omega)]
    have hv1 := valS_take_one l (by omega)
    refine jcr ?_
    refine jq jrm ?_
    refine jq (jrsf (hz1 := (show (1 : Int) = ((1 : Nat) : Int) from rfl))) ?_
    refine jq jrl ?_
    refine jq jrm ?_
    refine seq_nil ?_
    refine code_block ?_
    refine l_loop (α := Nat) [4, 6, 54, 55, 56, 57, 58, 59, 60, 61, 62, 63] (fun i => [(54, .c (.int .i64 (i : Nat))), (4, .c (.int .i64 (valS (l.take (i + 1)))))]) (fun _ => []) (fun i => i + 1 ≤ l.length) (fun i => l.length - i) (0) ?_ (fun _ => rfl) ?_ ?_ ?_
    · show 0 + 1 ≤ l.length; omega
    · exact .cons (CEnt.refl _) (.cons (CEnt.int hv1.symm) .nil)
    · (repeat (first | exact HEnt.nil | refine HEnt.same ?_ | refine HEnt.blk rfl (fun j hj => by rcases j with _|_|_|_|_|_|_|_|j <;> first | exact CEnt.refl _ | exact CEnt.int (by omega) | omega) ?_))
    · rintro i (hi : i + 1 ≤ l.length)
      have hb : getM l = (valS l, 0) := by unfold getM; rw [if_neg (by omega), if_neg hni, if_neg (by omega)]
      have hv1 := valS_take_one l (by omega)
      refine jcr ?_
      refine jq jrc ?_
      refine seq_nil ?_
      refine jcs ?_
      refine jcc (fun h42 => ?_) fun h42 => ?_
      rotate_left
      · refine code_exit (jte (jte (jbx (jtn ?_))))
        refine jcr ?_
        refine jq jrm ?_
        refine jq jrm ?_
        refine jq jrm ?_
        refine seq_nil ?_
        refine code_ret (jrt (hv := ?_))
        have hil : i + 1 = l.length := by simp only [List.length_drop] at *; omega
        rw [hb, hil, List.take_length]; exact CEnt.tup2 (CEnt.refl _) (CEnt.nilE rfl)
      refine code_skip (jtn ?_)
      refine jcs ?_
      refine code_block ?_
      have hb : getM l = (valS l, 0) := by unfold getM; rw [if_neg (by omega), if_neg hni, if_neg (by omega)]
      have hv1 := valS_take_one l (by omega)
      refine jcr ?_
      refine jq (jri (i := i) (hz := by omega)) ?_
      refine jq jrdr ?_
      refine jq jrm ?_
      refine seq_nil ?_
      have hdl : (l.drop 1).length = l.length - 1 := List.length_drop
      have hde : (l.drop 1).getD i 0 = l.getD (i + 1) 0 := by simp [List.getD, Nat.add_comm]
      have hvs := valS_take_succ l i (by omega)
      have hsm := valS_small (l.take (i + 1)) (by rw [List.length_take]; omega)
      have hcl := (l.getD (i + 1) 0).toNat_lt
      have hcd := ((l.drop 1).getD i 0).toNat_lt
      refine jcg ?_
      refine jq jrm ?_
      refine jq (rd_shl rfl rfl rfl (by (omega)) ((valS (l.take (i + 1)) * 256)) ((by show IntKind.i64.wrap (valS (l.take (i + 1)) * 256) = _; exact wrap_id (k := .i64) (by show _ ∧ _; omega)))) ?_
      refine jq jrm ?_
      refine jq (rd_convI rfl rfl Tryz.underlying5 Tryz.underlying3 ((((l.drop 1).getD i 0).toNat : Nat)) (wrap_id (k := .i64) (by show _ ∧ _; omega))) ?_
      refine jq (rd_or rfl rfl rfl (valS (l.take (i + 1 + 1))) ((by rw [hde, hvs]; exact i64_join _ _ (by omega) (by omega) (by omega) (by omega)))) ?_
      refine jq jrm ?_
      refine seq_nil ?_
      refine jbn (jtn ?_)
      have hb : getM l = (valS l, 0) := by unfold getM; rw [if_neg (by omega), if_neg hni, if_neg (by omega)]
      have hv1 := valS_take_one l (by omega)
      refine jcg ?_
      refine jq jra ?_
      refine jq jrm ?_
      refine seq_nil ?_
      refine jtn ?_
      refine jlend (i + 1) ?_ ?_ (h5 := ?_)
      · show i + 1 + 1 ≤ l.length; omega
      · show l.length - (i + 1) < l.length - i; omega
      · exact .cons (CEnt.int (by omega)) (.cons (CEnt.refl _) .nil)
  refine jq jrm ?_
  refine jq (jri (i := 0)) ?_
  refine jq jrdr ?_
  refine jq jrc ?_
  refine jq jrm ?_
  refine jqsp 21 (fun g36_2 => ?_) fun g36_2 => ?_
  rotate_left
  · refine jqs ?_
    refine jqs ?_
    refine jqs ?_
    refine jqs ?_
    refine jq jrpF ?_
    refine jq jrm ?_
    refine jq jrm ?_
    refine jq (jri (i := 0)) ?_
    refine jq jrdr ?_
    refine jq jrc ?_
    refine jq jrm ?_
    refine jqsp 32 (fun g36_3 => ?_) fun g36_3 => ?_
    rotate_left
    · refine jqs ?_
      refine jqs ?_
      refine jqs ?_
      refine jqs ?_
      refine jq jrpF ?_
      refine jq jrpF ?_
      refine jq jrpT ?_
      refine jq jrm ?_
      refine seq_nil ?_
      refine jcF ?_
      have hni : ¬ idle l = true := by
        by_cases h1 : 1 < l.length
        · rw [hid h1]; omega
        · rw [idle_short l (by omega)]; exact Bool.noConfusion
      refine jcr ?_
      refine jq jrm ?_
      refine jq jrl ?_
      refine jq jrc ?_
      refine jq jrm ?_
      refine seq_nil ?_
      refine jcc (fun h38 => ?_) fun h38 => ?_
      · refine jcs ?_
        refine jcd (.rd 0 (.rd 1 (.rd 2 .done))) ?_
        refine jyq (jrde 0) ?_
        refine jyq jrm ?_
        refine jyq jrm ?_
        refine jyd ?_
        refine jtn ?_
        refine code_ret (jbr (jtr (jrt (hv := ?_))))
        have hb : getM l = (0, 1) := by unfold getM; rw [if_neg (by omega), if_neg hni, if_pos (by omega)]
        rw [hb]; exact CEnt.refl _
      refine code_skip (jbn (jtn ?_))
      refine jcr ?_
      refine jq jrm ?_
      refine jq (jri (i := 0)) ?_
      refine jq jrdr ?_
      refine jq (rd_convI rfl rfl Tryz.underlying5 Tryz.underlying195 (sgn (l.getD 0 0)) (i8_sgn _)) ?_
      refine jq (rd_convI rfl rfl Tryz.underlying195 Tryz.underlying3 (sgn (l.getD 0 0)) (wrap_id (k := .i64) (by show _ ∧ _; omega))) ?_
      refine jq jrm ?_
      refine seq_nil ?_
      refine jcs ?_
      have hb : getM l = (valS l, 0) := by unfold getM; rw [if_neg (by omega), if_neg hni, if_neg (by omega)]
      have hv1 := valS_take_one l (by omega)
      refine jcr ?_
      refine jq jrm ?_
      refine jq (jrsf (hz1 := (show (1 : Int) = ((1 : Nat) : Int) from rfl))) ?_
      refine jq jrl ?_
      refine jq jrm ?_
      refine seq_nil ?_
      refine code_block ?_
      refine l_loop (α := Nat) [4, 6, 54, 55, 56, 57, 58, 59, 60, 61, 62, 63] (fun i => [(54, .c (.int .i64 (i : Nat))), (4, .c (.int .i64 (valS (l.take (i + 1)))))]) (fun _ => []) (fun i => i + 1 ≤ l.length) (fun i => l.length - i) (0) ?_ (fun _ => rfl) ?_ ?_ ?_
      · show 0 + 1 ≤ l.length; omega
      · exact .cons (CEnt.refl _) (.cons (CEnt.int hv1.symm) .nil)
      · (repeat (first | exact HEnt.nil | refine HEnt.same ?_ | refine HEnt.blk rfl (fun j hj => by rcases j with _|_|_|_|_|_|_|_|j <;> first | exact CEnt.refl _ | exact CEnt.int (by omega) | omega) ?_))
      · rintro i (hi : i + 1 ≤ l.length)
        have hb : getM l = (valS l, 0) := by unfold getM; rw [if_neg (by omega), if_neg hni, if_neg (by omega)]
        have hv1 := valS_take_one l (by omega)
        refine jcr ?_
        refine jq jrc ?_
        refine seq_nil ?_
        refine jcs ?_
        refine jcc (fun h42 => ?_) fun h42 => ?_
        rotate_left
        · refine code_exit (jte (jte (jbx (jtn ?_))))
          refine jcr ?_
          refine jq jrm ?_
          refine jq jrm ?_
          refine jq jrm ?_
          refine seq_nil ?_
          refine code_ret (jrt (hv := ?_))
          have hil : i + 1 = l.length := by simp only [List.length_drop] at *; omega
          rw [hb, hil, List.take_length]; exact CEnt.tup2 (CEnt.refl _) (CEnt.nilE rfl)
        refine code_skip (jtn ?_)
        refine jcs ?_
        refine code_block ?_
        have hb : getM l = (valS l, 0) := by unfold getM; rw [if_neg (by omega), if_neg hni, if_neg (by omega)]
        have hv1 := valS_take_one l (by omega)
        refine jcr ?_
        refine jq (jri (i := i) (hz := by omega)) ?_
        refine jq jrdr ?_
        refine jq jrm ?_
        refine seq_nil ?_
        have hdl : (l.drop 1).length = l.length - 1 := List.length_drop
        have hde : (l.drop 1).getD i 0 = l.getD (i + 1) 0 := by simp [List.getD, Nat.add_comm]
        have hvs := valS_take_succ l i (by omega)
        have hsm := valS_small (l.take (i + 1)) (by rw [List.length_take]; omega)
        have hcl := (l.getD (i + 1) 0).toNat_lt
        have hcd := ((l.drop 1).getD i 0).toNat_lt
        refine jcg ?_
        refine jq jrm ?_
        refine jq (rd_shl rfl rfl rfl (by (omega)) ((valS (l.take (i + 1)) * 256)) ((by show IntKind.i64.wrap (valS (l.take (i + 1)) * 256) = _; exact wrap_id (k := .i64) (by show _ ∧ _; omega)))) ?_
        refine jq jrm ?_
        refine jq (rd_convI rfl rfl Tryz.underlying5 Tryz.underlying3 ((((l.drop 1).getD i 0).toNat : Nat)) (wrap_id (k := .i64) (by show _ ∧ _; omega))) ?_
        refine jq (rd_or rfl rfl rfl (valS (l.take (i + 1 + 1))) ((by rw [hde, hvs]; exact i64_join _ _ (by omega) (by omega) (by omega) (by omega)))) ?_
        refine jq jrm ?_
        refine seq_nil ?_
        refine jbn (jtn ?_)
        have hb : getM l = (valS l, 0) := by unfold getM; rw [if_neg (by omega), if_neg hni, if_neg (by omega)]
        have hv1 := valS_take_one l (by omega)
        refine jcg ?_
        refine jq jra ?_
        refine jq jrm ?_
        refine seq_nil ?_
        refine jtn ?_
        refine jlend (i + 1) ?_ ?_ (h5 := ?_)
        · show i + 1 + 1 ≤ l.length; omega
        · show l.length - (i + 1) < l.length - i; omega
        · exact .cons (CEnt.int (by omega)) (.cons (CEnt.refl _) .nil)
    refine jq jrm ?_
    refine jq (jri (i := 1)) ?_
    refine jq jrdr ?_
    refine jq jrc ?_
    refine jq jrpT ?_
    refine jq jrpF ?_
    refine jq jrpT ?_
    refine jq jrm ?_
    refine seq_nil ?_
    refine jcc (fun h36 => ?_) fun h36 => ?_
    · refine jcs ?_
      refine jcd (.rd 0 (.rd 1 (.rd 2 .done))) ?_
      refine jyq (jrde 3) ?_
      refine jyq jrm ?_
      refine jyq jrm ?_
      refine jyd ?_
      refine jtn ?_
      refine code_ret (jbr (jtr (jrt (hv := ?_))))
      have hb : getM l = (0, 4) := by unfold getM; rw [if_neg (by omega), if_pos ((hid (by omega)).2 (by omega))]
      rw [hb]; exact CEnt.refl _
    have hni : ¬ idle l = true := by
      by_cases h1 : 1 < l.length
      · rw [hid h1]; omega
      · rw [idle_short l (by omega)]; exact Bool.noConfusion
    refine jcr ?_
    refine jq jrm ?_
    refine jq jrl ?_
    refine jq jrc ?_
    refine jq jrm ?_
    refine seq_nil ?_
    refine jcc (fun h38 => ?_) fun h38 => ?_
    · refine jcs ?_
      refine jcd (.rd 0 (.rd 1 (.rd 2 .done))) ?_
      refine jyq (jrde 0) ?_
      refine jyq jrm ?_
      refine jyq jrm ?_
      refine jyd ?_
      refine jtn ?_
      refine code_ret (jbr (jtr (jrt (hv := ?_))))
      have hb : getM l = (0, 1) := by unfold getM; rw [if_neg (by omega), if_neg hni, if_pos (by omega)]
      rw [hb]; exact CEnt.refl _
    refine code_skip (jbn (jtn ?_))
    refine jcr ?_
    refine jq jrm ?_
    refine jq (jri (i := 0)) ?_
    refine jq jrdr ?_
    refine jq (rd_convI rfl rfl Tryz.underlying5 Tryz.underlying195 (sgn (l.getD 0 0)) (i8_sgn _)) ?_
    refine jq (rd_convI rfl rfl Tryz.underlying195 Tryz.underlying3 (sgn (l.getD 0 0)) (wrap_id (k := .i64) (by show _ ∧ _; omega))) ?_
    refine jq jrm ?_
    refine seq_nil ?_
    refine jcs ?_
    have hb : getM l = (valS l, 0) := by unfold getM; rw [if_neg (by omega), if_neg hni, if_neg (by omega)]
    have hv1 := valS_take_one l (by omega)
    refine jcr ?_
    refine jq jrm ?_
    refine jq (jrsf (hz1 := (show (1 : Int) = ((1 : Nat) : Int) from rfl))) ?_
    refine jq jrl ?_
    refine jq jrm ?_
    refine seq_nil ?_
    refine code_block ?_
    refine l_loop (α := Nat) [4, 6, 54, 55, 56, 57, 58, 59, 60, 61, 62, 63] (fun i => [(54, .c (.int .i64 (i : Nat))), (4, .c (.int .i64 (valS (l.take (i + 1)))))]) (fun _ => []) (fun i => i + 1 ≤ l.length) (fun i => l.length - i) (0) ?_ (fun _ => rfl) ?_ ?_ ?_
    · show 0 + 1 ≤ l.length; omega
    · exact .cons (CEnt.refl _) (.cons (CEnt.int hv1.symm) .nil)
    · (repeat (first | exact HEnt.nil | refine HEnt.same ?_ | refine HEnt.blk rfl (fun j hj => by rcases j with _|_|_|_|_|_|_|_|j <;> first | exact CEnt.refl _ | exact CEnt.int (by omega) | omega) ?_))
    · rintro i (hi : i + 1 ≤ l.length)
      have hb : getM l = (valS l, 0) := by unfold getM; rw [if_neg (by omega), if_neg hni, if_neg (by omega)]
      have hv1 := valS_take_one l (by omega)
      refine jcr ?_
      refine jq jrc ?_
      refine seq_nil ?_
      refine jcs ?_
      refine jcc (fun h42 => ?_) fun h42 => ?_
      rotate_left
      · refine code_exit (jte (jte (jbx (jtn ?_))))
        refine jcr ?_
        refine jq jrm ?_
        refine jq jrm ?_
        refine jq jrm ?_
        refine seq_nil ?_
        refine code_ret (jrt (hv := ?_))
        have hil : i + 1 = l.length := by simp only [List.length_drop] at *; omega
        rw [hb, hil, List.take_length]; exact CEnt.tup2 (CEnt.refl _) (CEnt.nilE rfl)
      refine code_skip (jtn ?_)
      refine jcs ?_
      refine code_block ?_
      have hb : getM l = (valS l, 0) := by unfold getM; rw [if_neg (by omega), if_neg hni, if_neg (by omega)]
      have hv1 := valS_take_one l (by omega)
      refine jcr ?_
      refine jq (jri (i := i) (hz := by omega)) ?_
      refine jq jrdr ?_
      refine jq jrm ?_
      refine seq_nil ?_
      have hdl : (l.drop 1).length = l.length - 1 := List.length_drop
      have hde : (l.drop 1).getD i 0 = l.getD (i + 1) 0 := by simp [List.getD, Nat.add_comm]
      have hvs := valS_take_succ l i (by omega)
      have hsm := valS_small (l.take (i + 1)) (by rw [List.length_take]; omega)
      have hcl := (l.getD (i + 1) 0).toNat_lt
      have hcd := ((l.drop 1).getD i 0).toNat_lt
      refine jcg ?_
      refine jq jrm ?_
      refine jq (rd_shl rfl rfl rfl (by (omega)) ((valS (l.take (i + 1)) * 256)) ((by show IntKind.i64.wrap (valS (l.take (i + 1)) * 256) = _; exact wrap_id (k := .i64) (by show _ ∧ _; omega)))) ?_
      refine jq jrm ?_
      refine jq (rd_convI rfl rfl Tryz.underlying5 Tryz.underlying3 ((((l.drop 1).getD i 0).toNat : Nat)) (wrap_id (k := .i64) (by show _ ∧ _; omega))) ?_
      refine jq (rd_or rfl rfl rfl (valS (l.take (i + 1 + 1))) ((by rw [hde, hvs]; exact i64_join _ _ (by omega) (by omega) (by omega) (by omega)))) ?_
      refine jq jrm ?_
      refine seq_nil ?_
      refine jbn (jtn ?_)
      have hb : getM l = (valS l, 0) := by unfold getM; rw [if_neg (by omega), if_neg hni, if_neg (by omega)]
      have hv1 := valS_take_one l (by omega)
      refine jcg ?_
      refine jq jra ?_
      refine jq jrm ?_
      refine seq_nil ?_
      refine jtn ?_
      refine jlend (i + 1) ?_ ?_ (h5 := ?_)
      · show i + 1 + 1 ≤ l.length; omega
      · show l.length - (i + 1) < l.length - i; omega
      · exact .cons (CEnt.int (by omega)) (.cons (CEnt.refl _) .nil)
  refine jq jrm ?_
  refine jq (jri (i := 1)) ?_
  refine jq jrdr ?_
  refine jq jrc ?_
  refine jq jrpT ?_
  refine jq jrm ?_
  refine jqsp 27 (fun g36_3 => ?_) fun g36_3 => ?_
  · refine jqs ?_
    refine jqs ?_
    refine jqs ?_
    refine jqs ?_
    refine jqs ?_
    refine jqs ?_
    refine jqs ?_
    refine jqs ?_
    refine jqs ?_
    refine jqs ?_
    refine jq jrpT ?_
    refine jq jrpT ?_
    refine jq jrm ?_
    refine seq_nil ?_
    refine jcT ?_
    refine jcs ?_
    refine jcd (.rd 0 (.rd 1 (.rd 2 .done))) ?_
    refine jyq (jrde 3) ?_
    refine jyq jrm ?_
    refine jyq jrm ?_
    refine jyd ?_
    refine jtn ?_
    refine code_ret (jbr (jtr (jrt (hv := ?_))))
    have hb : getM l = (0, 4) := by unfold getM; rw [if_neg (by omega), if_pos ((hid (by omega)).2 (by omega))]
    rw [hb]; exact CEnt.refl _
  refine jq jrm ?_
  refine jq (jri (i := 0)) ?_
  refine jq jrdr ?_
  refine jq jrc ?_
  refine jq jrm ?_
  refine jqsp 32 (fun g36_4 => ?_) fun g36_4 => ?_
  rotate_left
  · refine jqs ?_
    refine jqs ?_
    refine jqs ?_
    refine jqs ?_
    refine jq jrpF ?_
    refine jq jrpF ?_
    refine jq jrpT ?_
    refine jq jrm ?_
    refine seq_nil ?_
    refine jcF ?_
    have hni : ¬ idle l = true := by
      by_cases h1 : 1 < l.length
      · rw [hid h1]; omega
      · rw [idle_short l (by omega)]; exact Bool.noConfusion
    refine jcr ?_
    refine jq jrm ?_
    refine jq jrl ?_
    refine jq jrc ?_
    refine jq jrm ?_
    refine seq_nil ?_
    refine jcc (fun h38 => ?_) fun h38 => ?_
    · refine jcs ?_
      refine jcd (.rd 0 (.rd 1 (.rd 2 .done))) ?_
      refine jyq (jrde 0) ?_
      refine jyq jrm ?_
      refine jyq jrm ?_
      refine jyd ?_
      refine jtn ?_
      refine code_ret (jbr (jtr (jrt (hv := ?_))))
      have hb : getM l = (0, 1) := by unfold getM; rw [if_neg (by omega), if_neg hni, if_pos (by omega)]
      rw [hb]; exact CEnt.refl _
    refine code_skip (jbn (jtn ?_))
    refine jcr ?_
    refine jq jrm ?_
    refine jq (jri (i := 0)) ?_
    refine jq jrdr ?_
    refine jq (rd_convI rfl rfl Tryz.underlying5 Tryz.underlying195 (sgn (l.getD 0 0)) (i8_sgn _)) ?_
    refine jq (rd_convI rfl rfl Tryz.underlying195 Tryz.underlying3 (sgn (l.getD 0 0)) (wrap_id (k := .i64) (by show _ ∧ _; omega))) ?_
    refine jq jrm ?_
    refine seq_nil ?_
    refine jcs ?_
    have hb : getM l = (valS l, 0) := by unfold getM; rw [if_neg (by omega), if_neg hni, if_neg (by omega)]
    have hv1 := valS_take_one l (by omega)
    refine jcr ?_
    refine jq jrm ?_
    refine jq (jrsf (hz1 := (show (1 : Int) = ((1 : Nat) : Int) from rfl))) ?_
    refine jq jrl ?_
    refine jq jrm ?_
    refine seq_nil ?_
    refine code_block ?_
    refine l_loop (α := Nat) [4, 6, 54, 55, 56, 57, 58, 59, 60, 61, 62, 63] (fun i => [(54, .c (.int .i64 (i : Nat))), (4, .c (.int .i64 (valS (l.take (i + 1)))))]) (fun _ => []) (fun i => i + 1 ≤ l.length) (fun i => l.length - i) (0) ?_ (fun _ => rfl) ?_ ?_ ?_
    · show 0 + 1 ≤ l.length; omega
    · exact .cons (CEnt.refl _) (.cons (CEnt.int hv1.symm) .nil)
    · (repeat (first | exact HEnt.nil | refine HEnt.same ?_ | refine HEnt.blk rfl (fun j hj => by rcases j with _|_|_|_|_|_|_|_|j <;> first | exact CEnt.refl _ | exact CEnt.int (by omega) | omega) ?_))
    · rintro i (hi : i + 1 ≤ l.length)
      have hb : getM l = (valS l, 0) := by unfold getM; rw [if_neg (by omega), if_neg hni, if_neg (by omega)]
      have hv1 := valS_take_one l (by omega)
      refine jcr ?_
      refine jq jrc ?_
      refine seq_nil ?_
      refine jcs ?_
      refine jcc (fun h42 => ?_) fun h42 => ?_
      rotate_left
      · refine code_exit (jte (jte (jbx (jtn ?_))))
        refine jcr ?_
        refine jq jrm ?_
        refine jq jrm ?_
        refine jq jrm ?_
        refine seq_nil ?_
        refine code_ret (jrt (hv := ?_))
        have hil : i + 1 = l.length := by simp only [List.length_drop] at *; omega
        rw [hb, hil, List.take_length]; exact CEnt.tup2 (CEnt.refl _) (CEnt.nilE rfl)
      refine code_skip (jtn ?_)
      refine jcs ?_
      refine code_block ?_
      have hb : getM l = (valS l, 0) := by unfold getM; rw [if_neg (by omega), if_neg hni, if_neg (by omega)]
      have hv1 := valS_take_one l (by omega)
      refine jcr ?_
      refine jq (jri (i := i) (hz := by omega)) ?_
      refine jq jrdr ?_
      refine jq jrm ?_
      refine seq_nil ?_
      have hdl : (l.drop 1).length = l.length - 1 := List.length_drop
      have hde : (l.drop 1).getD i 0 = l.getD (i + 1) 0 := by simp [List.getD, Nat.add_comm]
      have hvs := valS_take_succ l i (by omega)
      have hsm := valS_small (l.take (i + 1)) (by rw [List.length_take]; omega)
      have hcl := (l.getD (i + 1) 0).toNat_lt
      have hcd := ((l.drop 1).getD i 0).toNat_lt
      refine jcg ?_
      refine jq jrm ?_
      refine jq (rd_shl rfl rfl rfl (by (omega)) ((valS (l.take (i + 1)) * 256)) ((by show IntKind.i64.wrap (valS (l.take (i + 1)) * 256) = _; exact wrap_id (k := .i64) (by show _ ∧ _; omega)))) ?_
      refine jq jrm ?_
      refine jq (rd_convI rfl rfl Tryz.underlying5 Tryz.underlying3 ((((l.drop 1).getD i 0).toNat : Nat)) (wrap_id (k := .i64) (by show _ ∧ _; omega))) ?_
      refine jq (rd_or rfl rfl rfl (valS (l.take (i + 1 + 1))) ((by rw [hde, hvs]; exact i64_join _ _ (by omega) (by omega) (by omega) (by omega)))) ?_
      refine jq jrm ?_
      refine seq_nil ?_
      refine jbn (jtn ?_)
      have hb : getM l = (valS l, 0) := by unfold getM; rw [if_neg (by omega), if_neg hni, if_neg (by omega)]
      have hv1 := valS_take_one l (by omega)
      refine jcg ?_
      refine jq jra ?_
      refine jq jrm ?_
      refine seq_nil ?_
      refine jtn ?_
      refine jlend (i + 1) ?_ ?_ (h5 := ?_)
      · show i + 1 + 1 ≤ l.length; omega
      · show l.length - (i + 1) < l.length - i; omega
      · exact .cons (CEnt.int (by omega)) (.cons (CEnt.refl _) .nil)
  refine jq jrm ?_
  refine jq (jri (i := 1)) ?_
  refine jq jrdr ?_
  refine jq jrc ?_
  refine jq jrpT ?_
  refine jq jrpF ?_
  refine jq jrpT ?_
  refine jq jrm ?_
  refine seq_nil ?_
  refine jcc (fun h36 => ?_) fun h36 => ?_
  · refine jcs ?_
    refine jcd (.rd 0 (.rd 1 (.rd 2 .done))) ?_
    refine jyq (jrde 3) ?_
    refine jyq jrm ?_
    refine jyq jrm ?_
    refine jyd ?_
    refine jtn ?_
    refine code_ret (jbr (jtr (jrt (hv := ?_))))
    have hb : getM l = (0, 4) := by unfold getM; rw [if_neg (by omega), if_pos ((hid (by omega)).2 (by omega))]
    rw [hb]; exact CEnt.refl _
  have hni : ¬ idle l = true := by
    by_cases h1 : 1 < l.length
    · rw [hid h1]; omega
    · rw [idle_short l (by omega)]; exact Bool.noConfusion
  refine jcr ?_
  refine jq jrm ?_
  refine jq jrl ?_
  refine jq jrc ?_
  refine jq jrm ?_
  refine seq_nil ?_
  refine jcc (fun h38 => ?_) fun h38 => ?_
  · refine jcs ?_
    refine jcd (.rd 0 (.rd 1 (.rd 2 .done))) ?_
    refine jyq (jrde 0) ?_
    refine jyq jrm ?_
    refine jyq jrm ?_
    refine jyd ?_
    refine jtn ?_
    refine code_ret (jbr (jtr (jrt (hv := ?_))))
    have hb : getM l = (0, 1) := by unfold getM; rw [if_neg (by omega), if_neg hni, if_pos (by omega)]
    rw [hb]; exact CEnt.refl _
  refine code_skip (jbn (jtn ?_))
  refine jcr ?_
  refine jq jrm ?_
  refine jq (jri (i := 0)) ?_
  refine jq jrdr ?_
  refine jq (rd_convI rfl rfl Tryz.underlying5 Tryz.underlying195 (sgn (l.getD 0 0)) (i8_sgn _)) ?_
  refine jq (rd_convI rfl rfl Tryz.underlying195 Tryz.underlying3 (sgn (l.getD 0 0)) (wrap_id (k := .i64) (by show _ ∧ _; omega))) ?_
  refine jq jrm ?_
  refine seq_nil ?_
  refine jcs ?_
  have hb : getM l = (valS l, 0) := by unfold getM; rw [if_neg (by omega), if_neg hni, if_neg (by omega)]
  have hv1 := valS_take_one l (by omega)
  refine jcr ?_
  refine jq jrm ?_
  refine jq (jrsf (hz1 := (show (1 : Int) = ((1 : Nat) : Int) from rfl))) ?_
  refine jq jrl ?_
  refine jq jrm ?_
  refine seq_nil ?_
  refine code_block ?_
  refine l_loop (α := Nat) [4, 6, 54, 55, 56, 57, 58, 59, 60, 61, 62, 63] (fun i => [(54, .c (.int .i64 (i : Nat))), (4, .c (.int .i64 (valS (l.take (i + 1)))))]) (fun _ => []) (fun i => i + 1 ≤ l.length) (fun i => l.length - i) (0) ?_ (fun _ => rfl) ?_ ?_ ?_
  · show 0 + 1 ≤ l.length; omega
  · exact .cons (CEnt.refl _) (.cons (CEnt.int hv1.symm) .nil)
  · (repeat (first | exact HEnt.nil | refine HEnt.same ?_ | refine HEnt.blk rfl (fun j hj => by rcases j with _|_|_|_|_|_|_|_|j <;> first | exact CEnt.refl _ | exact CEnt.int (by omega) | omega) ?_))
  · rintro i (hi : i + 1 ≤ l.length)
    have hb : getM l = (valS l, 0) := by unfold getM; rw [if_neg (by omega), if_neg hni, if_neg (by omega)]
    have hv1 := valS_take_one l (by omega)
    refine jcr ?_
    refine jq jrc ?_
    refine seq_nil ?_
    refine jcs ?_
    refine jcc (fun h42 => ?_) fun h42 => ?_
    rotate_left
    · refine code_exit (jte (jte (jbx (jtn ?_))))
      refine jcr ?_
      refine jq jrm ?_
      refine jq jrm ?_
      refine jq jrm ?_
      refine seq_nil ?_
      refine code_ret (jrt (hv := ?_))
      have hil : i + 1 = l.length := by simp only [List.length_drop] at *; omega
      rw [hb, hil, List.take_length]; exact CEnt.tup2 (CEnt.refl _) (CEnt.nilE rfl)
    refine code_skip (jtn ?_)
    refine jcs ?_
    refine code_block ?_
    have hb : getM l = (valS l, 0) := by unfold getM; rw [if_neg (by omega), if_neg hni, if_neg (by omega)]
    have hv1 := valS_take_one l (by omega)
    refine jcr ?_
    refine jq (jri (i := i) (hz := by omega)) ?_
    refine jq jrdr ?_
    refine jq jrm ?_
    refine seq_nil ?_
    have hdl : (l.drop 1).length = l.length - 1 := List.length_drop
    have hde : (l.drop 1).getD i 0 = l.getD (i + 1) 0 := by simp [List.getD, Nat.add_comm]
    have hvs := valS_take_succ l i (by omega)
    have hsm := valS_small (l.take (i + 1)) (by rw [List.length_take]; omega)
    have hcl := (l.getD (i + 1) 0).toNat_lt
    have hcd := ((l.drop 1).getD i 0).toNat_lt
    refine jcg ?_
    refine jq jrm ?_
    refine jq (rd_shl rfl rfl rfl (by (omega)) ((valS (l.take (i + 1)) * 256)) ((by show IntKind.i64.wrap (valS (l.take (i + 1)) * 256) = _; exact wrap_id (k := .i64) (by show _ ∧ _; omega)))) ?_
    refine jq jrm ?_
    refine jq (rd_convI rfl rfl Tryz.underlying5 Tryz.underlying3 ((((l.drop 1).getD i 0).toNat : Nat)) (wrap_id (k := .i64) (by show _ ∧ _; omega))) ?_
    refine jq (rd_or rfl rfl rfl (valS (l.take (i + 1 + 1))) ((by rw [hde, hvs]; exact i64_join _ _ (by omega) (by omega) (by omega) (by omega)))) ?_
    refine jq jrm ?_
    refine seq_nil ?_
    refine jbn (jtn ?_)
    have hb : getM l = (valS l, 0) := by unfold getM; rw [if_neg (by omega), if_neg hni, if_neg (by omega)]
    have hv1 := valS_take_one l (by omega)
    refine jcg ?_
    refine jq jra ?_
    refine jq jrm ?_
    refine seq_nil ?_
    refine jtn ?_
    refine jlend (i + 1) ?_ ?_ (h5 := ?_)
    · show i + 1 + 1 ≤ l.length; omega
    · show l.length - (i + 1) < l.length - i; omega
    · exact .cons (CEnt.int (by omega)) (.cons (CEnt.refl _) .nil)
theorem wrange_ac (l : List UInt8) (least most : Int) : ACp gs Tryz.prog 81 [bsC l, .c (.int .i64 least), .c (.int .i64 most)] (.tup 2 (fl [.c (.int .i64 (rangeM l least most).1), .err (rangeM l least most).2])) := by
  refine ac_of 30 Tryz.func81 rfl rfl rfl (fun al w0 F0 St0 => ?_)
  refine jcr ?_
  refine jq jrm ?_
  refine jq jrm ?_
  refine seq_nil ?_
  refine jcr ?_
  refine jq jrm ?_
  refine jqe (jecP (wget_ac l) ?_)
  refine jq jrm ?_
  refine jq jrx ?_
  refine jq jrx ?_
  refine jq jrm ?_
  refine jq jrm ?_
  refine seq_nil ?_
  refine jcs ?_
  refine code_block ?_
  refine jcr ?_
  refine jq jrm ?_
  refine jq jre ?_
  refine jq jrm ?_
  refine seq_nil ?_
  refine jcc (fun h52 => ?_) fun h52 => ?_
  · refine jcr ?_
    refine jq jrm ?_
    refine jq jrm ?_
    refine jq jrm ?_
    refine seq_nil ?_
    refine code_ret (jbr (jtr (jrt (hv := ?_))))
    have hb : rangeM l least most = (0, (getM l).2) := by unfold rangeM; rw [if_pos (by omega)]
    rw [hb]; exact CEnt.refl _
  refine jcr ?_
  refine jq jrm ?_
  refine jq jrm ?_
  refine jq jrc ?_
  refine jq jrm ?_
  refine jqsp 23 (fun g54 => ?_) fun g54 => ?_
  · refine jqs ?_
    refine jqs ?_
    refine jqs ?_
    refine jq jrpT ?_
    refine jq jrm ?_
    refine seq_nil ?_
    refine jcT ?_
    refine jcs ?_
    refine jcd (.rd 0 (.rd 1 (.rd 2 .done))) ?_
    refine jyq (jrde 0) ?_
    refine jyq jrm ?_
    refine jyq jrm ?_
    refine jyd ?_
    refine jtn ?_
    refine code_ret (jbr (jtr (jrt (hv := ?_))))
    have hb : rangeM l least most = (0, 1) := by unfold rangeM; rw [if_neg (by omega), if_pos (by omega)]
    rw [hb]; exact CEnt.refl _
  refine jq jrm ?_
  refine jq jrm ?_
  refine jq jrc ?_
  refine jq jrpF ?_
  refine jq jrm ?_
  refine seq_nil ?_
  refine jcc (fun h54 => ?_) fun h54 => ?_
  rotate_left
  · refine code_skip (jbn (jtn ?_))
    refine jcr ?_
    refine jq jrm ?_
    refine jq jrm ?_
    refine jq jrm ?_
    refine seq_nil ?_
    refine code_ret (jrt (hv := ?_))
    have hb : rangeM l least most = ((getM l).1, 0) := by unfold rangeM; rw [if_neg (by omega), if_neg (by omega)]
    rw [hb]; exact CEnt.tup2 (CEnt.refl _) (CEnt.nilE rfl)
  refine jcs ?_
  refine jcd (.rd 0 (.rd 1 (.rd 2 .done))) ?_
  refine jyq (jrde 0) ?_
  refine jyq jrm ?_
  refine jyq jrm ?_
  refine jyd ?_
  refine jtn ?_
  refine code_ret (jbr (jtr (jrt (hv := ?_))))
  have hb : rangeM l least most = (0, 1) := by unfold rangeM; rw [if_neg (by omega), if_pos (by omega)]
  rw [hb]; exact CEnt.refl _
/-- how many bytes a number's body has, less one; the body -/
def lenN (n : Int) : Nat := ((List.range 8).find? fun k => stp k n).getD 7
def putN (n : Int) : List UInt8 := (digs (lenN n + 1) n).reverse
theorem lenN_is {n : Int} (h1 : -9223372036854775808 ≤ n) (h2 : n ≤ 9223372036854775807) : IsLen n (lenN n) := by
  unfold lenN
  have h7 := stp_seven n h1 h2
  cases e : (List.range 8).find? fun k => stp k n with
  | none =>
    have := List.find?_eq_none.1 e 7 (by simp)
    exact absurd h7 this
  | some k =>
    rw [List.find?_range_eq_some] at e
    obtain ⟨e1, e2, e3⟩ := e
    have := List.mem_range.1 e2
    exact ⟨by show k ≤ 7; omega, e1, fun j hj => by have := e3 j hj; simpa using this⟩
theorem putN_of {n : Int} {k : Nat} (h1 : -9223372036854775808 ≤ n) (h2 : n ≤ 9223372036854775807) (h : IsLen n k) : (digs (k + 1) n).reverse = putN n := by
  unfold putN
  rw [h.unique (lenN_is h1 h2)]
theorem putN_get {n : Int} (h1 : -9223372036854775808 ≤ n) (h2 : n ≤ 9223372036854775807) : getM (putN n) = (n, 0) := getM_put n _ (lenN_is h1 h2)
theorem putN_len (n : Int) (h1 : -9223372036854775808 ≤ n) (h2 : n ≤ 9223372036854775807) : 1 ≤ (putN n).length ∧ (putN n).length ≤ 8 := by
  have := (lenN_is h1 h2).1
  unfold putN
  rw [List.length_reverse, digs_length]
  omega
theorem shr8 (a : Int) : a.fdiv (2 ^ (min (8 : Int).toNat IntKind.i64.bits)) = a / 256 := by
  show a.fdiv 256 = a / 256
  rw [Int.fdiv_eq_ediv_of_nonneg a (by decide)]
theorem byte_wrap (a : Int) : IntKind.u8.wrap a = ((byte a).toNat : Nat) := by rw [IntKind.wrap_u8, byte_toNat]
theorem digs_last (k : Nat) (n : Int) : (((digs (k + 1) n).getD k 0).toNat : Int) = sh k n % 256 := by rw [digs_get _ _ _ (by omega), byte_toNat]
set_option maxHeartbeats 1000000 in
theorem wput_ac {gs : List Nat} (n : Int) (h1 : -9223372036854775808 ≤ n) (h2 : n ≤ 9223372036854775807) : ACp gs Tryz.prog 84 [.c (.int .i64 n)] (bsC (putN n)) := by
  have h7 := stp_seven n h1 h2
  refine ac_of 29 Tryz.func84 rfl rfl rfl (fun al w0 F0 St0 => ?_)
  refine jcr ?_
  refine jq jrm ?_
  refine seq_nil ?_
  refine jcr ?_
  refine jq jrm ?_
  refine jq (rd_convI rfl rfl Tryz.underlying3 Tryz.underlying5 ((((byte n).toNat : Nat) : Int)) (byte_wrap n)) ?_
  refine jqe (jebl 1 1 zr5 fun p1 => ?_)
  refine jq jrm ?_
  refine seq_nil ?_
  refine jcs ?_
  refine jcr ?_
  refine jq jrm ?_
  refine jq (rd_shr rfl rfl rfl (by (omega)) (_) (rfl)) ?_
  refine jq jrm ?_
  refine seq_nil ?_
  refine code_block ?_
  refine l_loop (α := Nat × Option Nat) [3, 4, 10, 11, 12, 13, 14, 15, 16, 17, 18, 19, 20, 21, 22, 23, 24, 25] (fun (k, g) => [(3, .os 0 g 0 (digs (k + 1) n).length 1), (4, .c (.int .i64 (sh (k + 1) n)))]) (fun (k, g) => [(g, .blk (digs (k + 1) n).length (byF (digs (k + 1) n)))]) (fun (k, g) => k ≤ 7 ∧ ∀ j, j < k → stp j n = false) (fun (k, g) => 8 - k) ((0, p1)) ?_ (fun _ => rfl) ?_ ?_ ?_
  · exact ⟨Nat.zero_le _, fun j hj => absurd hj (Nat.not_lt_zero j)⟩
  · exact .cons (CEnt.refl _) (.cons (CEnt.int (shr8 n)) .nil)
  · exact .blk rfl (fun j hj => by obtain rfl : j = 0 := (by rw [digs_length] at hj; omega); exact CEnt.refl _) .nil
  · rintro ⟨k, g⟩ ⟨(hk : k ≤ 7), hno⟩
    have hdl := digs_last k n
    have hdn := digs_length (k + 1) n
    refine jcs ?_
    refine jcr ?_
    refine jq jrm ?_
    refine jq jrm ?_
    refine jq jrl ?_
    refine jq jra ?_
    refine jq (jri (i := k) (hz := by omega)) ?_
    refine jqo jrdo ?_
    refine jq jrm ?_
    refine jqe (jecP (settled_ac (((digs (k + 1) n).getD k 0).toNat : Nat) (sh (k + 1) n)) ?_)
    refine jq jrn ?_
    refine seq_nil ?_
    refine jcc (fun h19 => ?_) fun h19 => ?_
    rotate_left
    · refine code_exit (jte (jte (jbx (jtn ?_))))
      have hst : stp k n = true := by
        unfold stp
        have hh := h19
        rw [hdl] at hh
        (simp at hh ⊢; omega)
      refine jcr ?_
      refine jq jrm ?_
      refine jqm (jmcH 0 (reverse8_ac _ (digs (k + 1) n) (by omega)) ?_)
      rintro _ _ ⟨rfl, rfl⟩
      refine ⟨_, _, rfl, CEnt.refl _, ?_⟩
      refine seq_nil ?_
      refine jcr ?_
      refine jq jrm ?_
      refine jq jrm ?_
      refine seq_nil ?_
      refine code_ent (freeze 0 rfl) ?_
      refine code_ent (thawB 2 ((digs (k + 1) n).reverse) rfl rfl (by simp) rfl) ?_
      refine code_ret (jrt (hv := CEnt.bs (putN_of h1 h2 ⟨hk, hst, hno⟩)))
    refine code_skip (jtn ?_)
    refine jcs ?_
    refine code_block ?_
    have hst : stp k n = false := by
      unfold stp
      have hh := h19
      rw [hdl] at hh
      (simp at hh ⊢; omega)
    refine jcg ?_
    refine jq jrm ?_
    refine jq jrm ?_
    refine jq (rd_convI rfl rfl Tryz.underlying3 Tryz.underlying5 ((((byte (sh (k + 1) n)).toNat : Nat) : Int)) (byte_wrap _)) ?_
    refine jqe (jebl 1 1 zr5 fun p2 => ?_)
    refine jqm (m_appendB (l2 := [byte (sh (k + 1) n)]) rfl rfl rfl (Nat.le_refl _) (fun _ _ => CEnt.refl _) (src_os rfl (.inl rfl) (by decide)) rfl (hh_bytes (.cons (CEnt.int (rfl)) .nil)) Tryz.underlying26 nu26 sz5 zr5 by5 rfl (by (simp; omega)) (leaf_fl rfl rfl) rfl rfl (fun p3 => ?_))
    refine jq jrm ?_
    refine seq_nil ?_
    refine jbn (jtn ?_)
    refine jcg ?_
    refine jq jrm ?_
    refine jq (rd_shr rfl rfl rfl (by (omega)) (_) (rfl)) ?_
    refine jq jrm ?_
    refine seq_nil ?_
    refine jtn ?_
    refine jlend ((k + 1, p3)) ?_ ?_ (h5 := ?_) (h7 := ?_)
    · have hk7 : k ≠ 7 := fun e => by
        rw [e] at hst; rw [hst] at h7; cases h7
      refine ⟨by omega, fun j hj => ?_⟩
      by_cases e : j = k
      · rw [e]; exact hst
      · exact hno j (by omega)
    · show 8 - (k + 1) < 8 - k; omega
    · exact .cons (CEnt.osI (by rw [← digs_succ])) (.cons (CEnt.int (shr8 _)) .nil)
    · exact .blk (by rw [← digs_succ]) (fun j hj => CEnt.of_eq (by rw [← digs_succ])) .nil
end Am
end Go.Proofs.YtgnjjenalebiaaaGreatDoor

/- Chapter 3, plain: what the reference says of the first element and of whole elements, by the program's words. -/
namespace Go.Proofs.YtgnjjenalebiaaaGreatDoor
namespace Am
open Go.RowKit
set_option linter.unusedVariables false

/-- where the first element's body begins, and where it ends -/
def fromM (b : List UInt8) : Nat := if (nextM b).e = 0 then b.length - (nextM b).rest.length - (nextM b).body.length else 0
def toM (b : List UInt8) : Nat := if (nextM b).e = 0 then b.length - (nextM b).rest.length else 0

end Am
end Go.Proofs.YtgnjjenalebiaaaGreatDoor

/- Chapter 8, plain: what is written, value by value: the program's writer and the reference's. -/
namespace Go.Proofs.YtgnjjenalebiaaaGreatDoor
set_option linter.unusedVariables false
namespace Am
open Go.RowKit Cal
set_option maxRecDepth 100000

/-- a value as the laws tell it -/
structure VV where
  kind : Int
  n : Int
  is : Bool
  b : List UInt8
  t : List UInt8
def VV.none : VV := ⟨0, 0, false, [], []⟩
/-- a writer: the elements that are under way, the innermost one first; what is done; the error -/
structure W8 where
  fr : List (Int × List (List UInt8))
  d : List UInt8
  k : Nat
def failW (e : Nat) (s : W8) : W8 := if s.k = 0 then ⟨s.fr, s.d, e⟩ else s
def addW (b : List UInt8) (s : W8) : W8 := match s.fr with
  | [] => ⟨[], s.d ++ b, s.k⟩
  | x :: r => ⟨(x.1, x.2 ++ [b]) :: r, s.d, s.k⟩
def putW (tag : Int) (body : List UInt8) (e : Nat) (s : W8) : W8 :=
  if (failW e s).k ≠ 0 then failW e s else if putE tag body ≠ 0 then ⟨s.fr, s.d, putE tag body⟩ else addW (putL tag body) s
def openW (tag : Int) (s : W8) : W8 := if s.k ≠ 0 then s else if madeM tag = false then ⟨s.fr, s.d, 5⟩ else if s.fr.length = 16 then ⟨s.fr, s.d, 6⟩ else ⟨(tag, []) :: s.fr, s.d, s.k⟩
def bodyF (x : Int × List (List UInt8)) : List UInt8 := if x.1 = 49 then (sortL x.2).flatten else x.2.flatten
def closeV (s : W8) : W8 := if s.k ≠ 0 then s else match s.fr with
  | [] => ⟨[], s.d, 24⟩
  | x :: r => putW x.1 (bodyF x) 0 ⟨r, s.d, s.k⟩
def rawW (b : List UInt8) (s : W8) : W8 := if (failW (depthM b).2 s).k = 0 then addW b s else failW (depthM b).2 s
def doneK (s : W8) : Nat := if s.k ≠ 0 then s.k else if s.fr ≠ [] then 24 else if 65536 < s.d.length then 3 else 0
def doneB (s : W8) : List UInt8 := if doneK s = 0 then s.d else []
/-- the bits' body, and its error -/
def bitsL (n : Int) : List UInt8 := if n < 0 ∨ 32767 < n then [] else flagsL n.toNat
def bitsE (n : Int) : Nat := if n < 0 ∨ 32767 < n then 1 else 0
/-- a value's tag, body, error -/
def bodyV (v : VV) : Int × List UInt8 × Nat :=
  if v.kind = 3 then (2, putN v.n, 0) else
  if v.kind = 4 then (10, putN v.n, 0) else
  if v.kind = 5 then (1, [if v.is then 255 else 0], 0) else
  if v.kind = 6 then (4, v.b, 0) else
  if v.kind = 7 then (12, if askedM v.t v.n = 0 then v.t else [], askedM v.t v.n) else
  if v.kind = 8 then (6, putM v.t, (parseM v.t).2) else
  if v.kind = 9 then (24, if inT v.n then bodyL (ofM v.n) else [], ofE v.n) else (3, bitsL v.n, bitsE v.n)
/-- a value is written -/
def doW (v : VV) (s : W8) : W8 :=
  if v.kind = 1 then openW v.n s else if v.kind = 2 then closeV s else if v.kind = 11 then rawW v.b s else putW (bodyV v).1 (bodyV v).2.1 (bodyV v).2.2 s
/-! ### the reference's writer -/
structure R8 where
  tags : List Int
  rows : List (List (List UInt8))
  e : Nat
def padR (m : Nat) (r : List (List (List UInt8))) : List (List (List UInt8)) := r ++ List.replicate (m - r.length) []
def raddS (b : List UInt8) (s : R8) : R8 := ⟨s.tags, (padR (s.tags.length + 1) s.rows).set s.tags.length ((padR (s.tags.length + 1) s.rows).getD s.tags.length [] ++ [b]), s.e⟩
def rputS (tag : Int) (b : List UInt8) (s : R8) : R8 := if 65530 < b.length then ⟨s.tags, s.rows, 3⟩ else raddS (putL tag b) s
def ropenS (n : Int) (s : R8) : R8 := if madeM n = false then ⟨s.tags, s.rows, 5⟩ else if 16 ≤ s.tags.length then ⟨s.tags, s.rows, 6⟩ else ⟨s.tags ++ [n], (padR (s.tags.length + 2) s.rows).set (s.tags.length + 1) [], s.e⟩
def rcloseS (s : R8) : R8 := if s.tags.length = 0 then ⟨s.tags, s.rows, 24⟩ else
  rputS (s.tags.getD (s.tags.length - 1) 0) (bodyF (s.tags.getD (s.tags.length - 1) 0, s.rows.getD s.tags.length [])) ⟨s.tags.take (s.tags.length - 1), s.rows, s.e⟩
def rdoS (v : VV) (s : R8) : R8 :=
  if s.e ≠ 0 then s else if v.kind = 1 then ropenS v.n s else if v.kind = 2 then rcloseS s else
  if v.kind = 11 then (if (depthM v.b).2 ≠ 0 then ⟨s.tags, s.rows, (depthM v.b).2⟩ else raddS v.b s) else
  if (bodyV v).2.2 ≠ 0 then ⟨s.tags, s.rows, (bodyV v).2.2⟩ else rputS (bodyV v).1 (bodyV v).2.1 s
def rdoneE (s : R8) : Nat := if s.e ≠ 0 then s.e else if 0 < s.tags.length then 24 else if 65536 < (s.rows.getD 0 []).flatten.length then 3 else 0
def rdoneB (s : R8) : List UInt8 := if rdoneE s = 0 then (s.rows.getD 0 []).flatten else []
/-! ### they are the same -/
structure Same8 (r : R8) (s : W8) : Prop where
  tags : r.tags = (s.fr.map Prod.fst).reverse
  e : r.e = s.k
  row0 : (r.rows.getD 0 []).flatten = s.d
  row : ∀ j, j < s.fr.length → r.rows.getD (j + 1) [] = ((s.fr.map Prod.snd).reverse).getD j []
  len : r.tags.length ≠ 0 → r.tags.length < r.rows.length
  known : ∀ x ∈ s.fr, madeM x.1 = true
  lim : s.fr.length ≤ 16
theorem same_zero : Same8 ⟨[], [], 0⟩ ⟨[], [], 0⟩ := ⟨rfl, rfl, rfl, fun j h => by simp at h, fun h => by simp at h, fun _ h => (by cases h), by decide⟩
theorem pad_len (m : Nat) (r : List (List (List UInt8))) : (padR m r).length = max m r.length := by simp [padR]; omega
theorem pad_get (m : Nat) (r : List (List (List UInt8))) (j : Nat) : (padR m r).getD j [] = r.getD j [] := by
  simp only [padR, List.getD_eq_getElem?_getD, List.getElem?_append]
  split
  · rfl
  · rename_i h
    rw [List.getElem?_eq_none (l := r) (by omega), List.getElem?_replicate]
    split <;> rfl
theorem set_get (l : List (List (List UInt8))) (i j : Nat) (x : List (List UInt8)) (hi : i < l.length) : (l.set i x).getD j [] = if j = i then x else l.getD j [] := by
  simp only [List.getD_eq_getElem?_getD, List.getElem?_set]
  by_cases h : i = j
  · subst h; simp [hi]
  · rw [if_neg h, if_neg (Ne.symm h)]
theorem same_add {r : R8} {s : W8} (h : Same8 r s) (b : List UInt8) : Same8 (raddS b r) (addW b s) := by
  have hl : r.tags.length = s.fr.length := by rw [h.tags]; simp
  have hp : r.tags.length < (padR (r.tags.length + 1) r.rows).length := by rw [pad_len]; omega
  obtain ⟨fr, d, k⟩ := s
  cases fr with
  | nil =>
    refine ⟨h.tags, h.e, ?_, fun j hj => by simp [addW] at hj, fun h0 => ?_, h.known, h.lim⟩
    · have h0 : r.tags.length = 0 := hl
      show List.flatten (List.getD (List.set _ _ _) _ _) = _
      rw [set_get _ _ _ _ hp, if_pos h0.symm, h0, pad_get, List.flatten_append, h.row0]
      simp [addW]
    · exact absurd hl h0
  | cons x fr =>
    have hl' : r.tags.length = fr.length + 1 := hl
    refine ⟨?_, h.e, ?_, fun j hj => ?_, fun _ => ?_, fun y hy => ?_, h.lim⟩
    · show r.tags = _
      rw [h.tags]
      simp [addW]
    · show List.flatten (List.getD (List.set _ _ _) _ _) = _
      rw [set_get _ _ _ _ hp, if_neg (by omega), pad_get, h.row0]
      rfl
    · have hj : j < fr.length + 1 := hj
      show List.getD (List.set _ _ _) _ _ = _
      rw [set_get _ _ _ _ hp]
      simp only [addW, List.map_cons, List.reverse_cons]
      have hr := h.row j hj
      simp only [List.map_cons, List.reverse_cons] at hr
      by_cases e : j = fr.length
      · rw [if_pos (by omega), pad_get, hl', ← e, hr]
        simp [List.getD_eq_getElem?_getD, e]
      · rw [if_neg (by omega), pad_get, hr]
        simp only [List.getD_eq_getElem?_getD]
        rw [List.getElem?_append_left (by simp; omega), List.getElem?_append_left (by simp; omega)]
    · show r.tags.length < (List.set _ _ _).length
      rw [List.length_set]
      exact hp
    · rcases List.mem_cons.1 hy with rfl | hy
      · exact h.known x List.mem_cons_self
      · exact h.known y (List.mem_cons_of_mem _ hy)
theorem made_known {t : Int} (h : madeM t = true) : knownM t = true := by unfold knownM; rw [h]; rfl
theorem same_put {r : R8} {s : W8} (h : Same8 r s) (hk : s.k = 0) {tag : Int} (ht : knownM tag = true) (b : List UInt8) : Same8 (rputS tag b r) (putW tag b 0 s) := by
  have e0 : failW 0 s = s := by
    obtain ⟨fr, d, k⟩ := s
    obtain rfl : k = 0 := hk
    rfl
  unfold putW
  rw [e0, if_neg (by omega)]
  unfold putE rputS
  rw [ht]
  simp only [Bool.true_eq_false, if_false]
  by_cases hb : 65530 < b.length
  · rw [if_pos hb, if_pos hb, if_pos (by decide)]
    exact ⟨h.tags, rfl, h.row0, h.row, h.len, h.known, h.lim⟩
  · rw [if_neg hb, if_neg hb, if_neg (by decide)]
    exact same_add h _
theorem same_open {r : R8} {s : W8} (h : Same8 r s) (hk : s.k = 0) (n : Int) : Same8 (ropenS n r) (openW n s) := by
  have hl : r.tags.length = s.fr.length := by rw [h.tags]; simp
  have hlim := h.lim
  unfold ropenS openW
  rw [if_neg (show ¬ s.k ≠ 0 by omega)]
  by_cases hm : madeM n = false
  · rw [if_pos hm, if_pos hm]
    exact ⟨h.tags, rfl, h.row0, h.row, h.len, h.known, h.lim⟩
  · rw [if_neg hm, if_neg hm]
    by_cases h16 : s.fr.length = 16
    · rw [if_pos (by omega), if_pos h16]
      exact ⟨h.tags, rfl, h.row0, h.row, h.len, h.known, h.lim⟩
    · rw [if_neg (by omega), if_neg h16]
      have hp : r.tags.length + 1 < (padR (r.tags.length + 2) r.rows).length := by rw [pad_len]; omega
      refine ⟨?_, h.e, ?_, fun j hj => ?_, fun _ => ?_, fun y hy => ?_, ?_⟩
      · show r.tags ++ [n] = _
        rw [h.tags]
        simp
      · show List.flatten (List.getD (List.set _ _ _) _ _) = _
        rw [set_get _ _ _ _ hp, if_neg (by omega), pad_get, h.row0]
      · have hj : j < s.fr.length + 1 := hj
        show List.getD (List.set _ _ _) _ _ = _
        rw [set_get _ _ _ _ hp]
        simp only [List.map_cons, List.reverse_cons]
        by_cases e : j = s.fr.length
        · rw [if_pos (by omega)]
          simp [List.getD_eq_getElem?_getD, e]
        · rw [if_neg (by omega), pad_get, h.row j (by omega)]
          simp only [List.getD_eq_getElem?_getD]
          rw [List.getElem?_append_left (by simp; omega)]
      · show (r.tags ++ [n]).length < (List.set _ _ _).length
        rw [List.length_set, List.length_append]
        exact hp
      · rcases List.mem_cons.1 hy with rfl | hy
        · simpa using hm
        · exact h.known y hy
      · show s.fr.length + 1 ≤ 16
        omega
theorem same_close {r : R8} {s : W8} (h : Same8 r s) (hk : s.k = 0) : Same8 (rcloseS r) (closeV s) := by
  have hl : r.tags.length = s.fr.length := by rw [h.tags]; simp
  unfold rcloseS closeV
  rw [if_neg (show ¬ s.k ≠ 0 by omega)]
  obtain ⟨fr, d, k⟩ := s
  cases fr with
  | nil =>
    rw [if_pos (show r.tags.length = 0 from hl)]
    exact ⟨h.tags, rfl, h.row0, h.row, h.len, h.known, h.lim⟩
  | cons x fr =>
    have hl : r.tags.length = fr.length + 1 := hl
    rw [if_neg (by omega)]
    have ht : r.tags = (fr.map Prod.fst).reverse ++ [x.1] := by rw [h.tags]; simp
    have e1 : r.tags.getD (r.tags.length - 1) 0 = x.1 := by
      rw [hl, ht]
      simp [List.getD_eq_getElem?_getD]
    have e2 : r.rows.getD r.tags.length [] = x.2 := by
      rw [hl, h.row fr.length (by simp)]
      simp [List.getD_eq_getElem?_getD]
    rw [e1, e2]
    refine same_put (r := ⟨r.tags.take (r.tags.length - 1), r.rows, r.e⟩) (s := ⟨fr, d, k⟩) ⟨?_, h.e, h.row0, fun j hj => ?_, fun h0 => ?_, fun y hy => h.known y (List.mem_cons_of_mem _ hy), ?_⟩ hk (made_known (h.known x List.mem_cons_self)) _
    · show r.tags.take _ = _
      rw [hl, ht]
      simp
    · have hj : j < fr.length := hj
      show r.rows.getD (j + 1) [] = _
      rw [h.row j (by simp; omega)]
      simp only [List.map_cons, List.reverse_cons, List.getD_eq_getElem?_getD]
      rw [List.getElem?_append_left (by simp; omega)]
    · show (r.tags.take _).length < r.rows.length
      have := h.len (by omega)
      simp only [List.length_take]
      omega
    · have := h.lim
      simp at this ⊢
      omega
theorem same_do {r : R8} {s : W8} (h : Same8 r s) (v : VV) : Same8 (rdoS v r) (doW v s) := by
  unfold rdoS doW
  have he := h.e
  by_cases hk : s.k = 0
  · rw [if_neg (show ¬ r.e ≠ 0 by omega)]
    split
    · exact same_open h hk _
    · split
      · exact same_close h hk
      · split
        · unfold rawW
          have e : (failW (depthM v.b).2 s).k = (depthM v.b).2 := by unfold failW; rw [if_pos hk]
          rw [e]
          by_cases h0 : (depthM v.b).2 = 0
          · rw [if_neg (by omega), if_pos h0]
            exact same_add h _
          · rw [if_pos h0, if_neg h0]
            unfold failW
            rw [if_pos hk]
            exact ⟨h.tags, rfl, h.row0, h.row, h.len, h.known, h.lim⟩
        · by_cases h0 : (bodyV v).2.2 = 0
          · rw [if_neg (by omega), h0]
            refine same_put h hk ?_ _
            unfold bodyV
            repeat' split
            all_goals (first | rfl | decide)
          · rw [if_pos h0]
            have e : failW (bodyV v).2.2 s = ⟨s.fr, s.d, (bodyV v).2.2⟩ := by unfold failW; rw [if_pos hk]
            unfold putW
            rw [e, if_pos h0]
            exact ⟨h.tags, rfl, h.row0, h.row, h.len, h.known, h.lim⟩
  · rw [if_pos (show r.e ≠ 0 by omega)]
    have e1 : ∀ e, failW e s = s := fun e => by unfold failW; rw [if_neg hk]
    have e2 : ∀ t b e, putW t b e s = s := fun t b e => by unfold putW; rw [e1, if_pos hk]
    have e3 : openW v.n s = s := by unfold openW; rw [if_pos hk]
    have e4 : closeV s = s := by unfold closeV; rw [if_pos hk]
    have e5 : rawW v.b s = s := by unfold rawW; rw [e1, if_neg hk]
    rw [e2, e3, e4, e5, ite_self, ite_self, ite_self]
    exact h
end Am
end Go.Proofs.YtgnjjenalebiaaaGreatDoor

/- Chapter 3, the reference: the first element of bytes. -/
namespace Go.Proofs.YtgnjjenalebiaaaGreatDoor
set_option linter.unusedVariables false
namespace Am
open Go.RowKit
set_option maxRecDepth 100000

end Am
end Go.Proofs.YtgnjjenalebiaaaGreatDoor

/- Chapter 3, the reference: how many levels the elements of a body have. -/
namespace Go.Proofs.YtgnjjenalebiaaaGreatDoor
set_option linter.unusedVariables false
namespace Am
open Go.RowKit
set_option maxRecDepth 100000

/-- all levels of a body's elements, as the reference has them -/
def allW (lv : Nat) (set : Bool) (body : List UInt8) : Nat × Nat := loopW (wholeM lv) set (lv + 1) body.length body [] 1
theorem wholeM_not {lv tag : Nat} {body : List UInt8} (h : madeM tag = false) : wholeM lv tag body = (1, 0) := by
  match lv with
  | 0 => rfl
  | lv + 1 => unfold wholeM; rw [if_pos h]
end Am
end Go.Proofs.YtgnjjenalebiaaaGreatDoor

/- slices.Compare at bytes: what it answers, and that the world is as it was. -/
namespace Go.Proofs.YtgnjjenalebiaaaGreatDoor
set_option linter.unusedVariables false
open Go.RowKit
namespace Am
set_option maxRecDepth 100000

theorem isNaN8_run (x : Int) (w : World) : Calls Tryz.prog 176 #[.int .u8 x] w fun e w' => e = .returned (.bool false) ∧ w' = w := by
  go_enter Tryz.func176, Tryz.ntmps176
  go_wp2
  go_ret
  exact ⟨rfl, rfl⟩
set_option maxHeartbeats 1000000 in
theorem cmp8_run (a b : UInt8) (w : World) : Calls Tryz.prog 164 #[.int .u8 (a.toNat : Nat), .int .u8 (b.toNat : Nat)] w fun e w' => e = .returned (.int .i64 (cmp8 a b)) ∧ w' = w := by
  rcases Nat.lt_trichotomy a.toNat b.toNat with h | h | h
  · have HF : Hid (cmp8 a b = -1) := by unfold cmp8; rw [if_pos h]; rfl
    have h1 : decide (((a.toNat : Nat) : Int) < (b.toNat : Nat)) = true := by simp; omega
    go_enter Tryz.func164, Tryz.ntmps164
    go_wp2_with (go_at_call 176; refine (isNaN8_run _ _).mono ?_; rintro e w' ⟨rfl, rfl⟩)
    go_ret
    exact ⟨by rw [HF.out]; rfl, rfl⟩
  · have HF : Hid (cmp8 a b = 0) := by unfold cmp8; rw [if_neg (by omega), if_neg (by omega)]; rfl
    have h1 : decide (((a.toNat : Nat) : Int) < (b.toNat : Nat)) = false := by simp; omega
    have h2 : decide (((b.toNat : Nat) : Int) < (a.toNat : Nat)) = false := by simp; omega
    go_enter Tryz.func164, Tryz.ntmps164
    go_wp2_with (go_at_call 176; refine (isNaN8_run _ _).mono ?_; rintro e w' ⟨rfl, rfl⟩)
    go_ret
    exact ⟨by rw [HF.out]; rfl, rfl⟩
  · have HF : Hid (cmp8 a b = 1) := by unfold cmp8; rw [if_neg (by omega), if_pos h]; rfl
    have h1 : decide (((a.toNat : Nat) : Int) < (b.toNat : Nat)) = false := by simp; omega
    have h2 : decide (((b.toNat : Nat) : Int) < (a.toNat : Nat)) = true := by simp; omega
    go_enter Tryz.func164, Tryz.ntmps164
    go_wp2_with (go_at_call 176; refine (isNaN8_run _ _).mono ?_; rintro e w' ⟨rfl, rfl⟩)
    go_ret
    exact ⟨by rw [HF.out]; rfl, rfl⟩
theorem bs_cell {w : World} {ao : Option Addr} {n cap : Nat} {l : List UInt8} (h : Bs w (.slice ao n cap) l) {k : Nat} (hk : k < l.length) : ∃ b o, ao = some ⟨b, o, none⟩ ∧ w.cell? ⟨b, o + k, none⟩ = some (.int .u8 (l.getD k 0).toNat) := by
  obtain ⟨b, o, cap', e, h1, h2, h3⟩ := h.cons (by omega)
  injection e with e1 e2 e3
  exact ⟨b, o, e1, h3 k hk⟩
set_option maxHeartbeats 2000000 in
theorem compare8_run {w : World} {v1 v2 : Value} {l r : List UInt8} (h1 : Bs w v1 l) (h2 : Bs w v2 r) : Calls Tryz.prog 148 #[v1, v2] w fun e w' => e = .returned (.int .i64 (cmpL l r)) ∧ w' = w := by
  obtain ⟨ao1, cap1, rfl, a1, a2, -, -⟩ := id h1
  obtain ⟨ao2, cap2, rfl, b1, b2, -, -⟩ := id h2
  have H1 := Lib.hid h1
  have H2 := Lib.hid h2
  clear h1 h2
  have L1 : (l.length : Int) ≤ 9223372036854775807 := by omega
  have A1 := Lib.hid a1; have A2 := Lib.hid a2; have B1 := Lib.hid b1; have B2 := Lib.hid b2
  clear a1 a2 b1 b2
  go_enter Tryz.func148, Tryz.ntmps148
  go_wp2
  go_loopw [11] (fun i wr => ∃ k : Nat, Hid (k ≤ l.length ∧ k ≤ r.length ∧ cmpL (l.drop k) (r.drop k) = cmpL l r) ∧ i = .int .i64 k ∧ wr = w) (fun i _ => l.length - (intOf i).toNat)
  case atStart => exact ⟨0, ⟨Nat.zero_le _, Nat.zero_le _, rfl⟩, rfl, rfl⟩
  case round =>
    obtain ⟨k, HK, rfl, rfl⟩ := hrel
    by_cases hk : k < l.length
    · have q1 : decide ((k : Int) < (l.length : Int)) = true := by simp; omega
      obtain ⟨p1, o1, rfl, c1⟩ := bs_cell H1.out hk
      by_cases hr : k < r.length
      · have q2 : decide ((r.length : Int) ≤ (k : Int)) = false := by simp; omega
        obtain ⟨p2, o2, rfl, c2⟩ := bs_cell H2.out hr
        have HS := Lib.hid (cmpL_drop (l := l) (r := r) (i := k) hk hr)
        have i1 : (0 : Int) ≤ (k : Int) := by omega
        have i2 : (k : Int) < (l.length : Int) := by omega
        have i3 : (k : Int) < (r.length : Int) := by omega
        generalize l.getD k 0 = x at c1 HS
        generalize r.getD k 0 = y at c2 HS
        by_cases hz : cmp8 x y = 0
        · have HZ := Lib.hid hz
          have q3 : (cmp8 x y != 0) = false := by rw [hz]; rfl
          clear hz
          go_wp2_with (go_at_call 164; refine (cmp8_run _ _ _).mono ?_; rintro e w' ⟨rfl, rfl⟩)
          case roundEnd => exact ⟨⟨k + 1, ⟨by omega, by omega, by rw [← HK.out.2.2, HS.out, if_neg (fun e => e HZ.out)]⟩, by simp, trivial⟩, by simp [intOf]; omega⟩
        · have HF : Hid (cmpL l r = cmp8 x y) := by show _ = _; rw [← HK.out.2.2, HS.out, if_pos hz]
          have q3 : (cmp8 x y != 0) = true := by simp [hz]
          clear hz
          go_wp2_with (go_at_call 164; refine (cmp8_run _ _ _).mono ?_; rintro e w' ⟨rfl, rfl⟩)
          all_goals (go_ret; exact ⟨by rw [HF.out]; rfl, rfl⟩)
      · have HF : Hid (cmpL l r = 1) := by
          show _ = _
          rw [← HK.out.2.2, List.drop_eq_nil_of_le (by omega : r.length ≤ k), List.drop_eq_getElem_cons hk]; rfl
        have q2 : decide ((r.length : Int) ≤ (k : Int)) = true := by simp; omega
        have i1 : (0 : Int) ≤ (k : Int) := by omega
        have i2 : (k : Int) < (l.length : Int) := by omega
        go_wp2
        all_goals (go_ret; exact ⟨by rw [HF.out]; rfl, rfl⟩)
    · have q1 : decide ((k : Int) < (l.length : Int)) = false := by simp; omega
      have hkl : k = l.length := by have := HK.out.1; omega
      by_cases hr : l.length < r.length
      · have HF : Hid (cmpL l r = -1) := by
          show _ = _
          rw [← HK.out.2.2, hkl, List.drop_length, List.drop_eq_getElem_cons hr]; rfl
        have q2 : decide ((l.length : Int) < (r.length : Int)) = true := by simp; omega
        go_wp2
        all_goals (go_ret; exact ⟨by rw [HF.out]; rfl, rfl⟩)
      · have HF : Hid (cmpL l r = 0) := by
          show _ = _
          have e : r.length = l.length := by have := HK.out.2.1; omega
          rw [← HK.out.2.2, hkl, List.drop_length, ← e, List.drop_length]; rfl
        have q2 : decide ((l.length : Int) < (r.length : Int)) = false := by simp; omega
        go_wp2
        all_goals (go_ret; exact ⟨by rw [HF.out]; rfl, rfl⟩)
end Am
end Go.Proofs.YtgnjjenalebiaaaGreatDoor

/- slices.SortFunc with slices.Compare, at a call's own row of bytes. -/
namespace Go.Proofs.YtgnjjenalebiaaaGreatDoor
set_option linter.unusedVariables false
open Go.RowKit
namespace Am
set_option maxRecDepth 100000
open Go.Sort (SWO PermIn SortedIn putCells putRow mapBlock ahead grow onCells)

def lbF (ls : List (List UInt8)) (j : Nat) : CV := bsC (ls.getD j [])
section
variable {α : Type} [Inhabited α] {enc : α → Value} {w : World} {g n : Nat} {d : Array α} {os : Array Obj}
theorem sortW_other {b : Nat} (hb : b < w.heap.size) (hn : b ≠ g) : (sortWorld enc w g 0 n d os).heap[b]? = w.heap[b]? := by
  show ((w.heap.modify g (onCells (putCells enc 0 d))) ++ os)[b]? = _
  rw [Array.getElem?_append_left (by simpa using hb), Array.getElem?_modify, if_neg (fun e => hn e.symm)]
theorem sortW_at {cur : Array Value} {t : TypeId} {z : Nat × Nat} (h : w.heap[g]? = some (.cells cur t z)) : (sortWorld enc w g 0 n d os).heap[g]? = some (.cells (putCells enc 0 d cur) t z) := by
  have hb : g < w.heap.size := (Array.getElem?_eq_some_iff.1 h).1
  show ((w.heap.modify g (onCells (putCells enc 0 d))) ++ os)[g]? = _
  rw [Array.getElem?_append_left (by simpa using hb), Array.getElem?_modify, if_pos rfl, h]
  rfl
theorem sortW_size : w.heap.size ≤ (sortWorld enc w g 0 n d os).heap.size := by
  show _ ≤ ((w.heap.modify g (onCells (putCells enc 0 d))) ++ os).size
  rw [Array.size_append, Array.size_modify]
  omega
end
theorem row_get {cs : Array Value} {m : Nat} {enc : Fin (m + 1) → Value} {d : Array (Fin (m + 1))} {i : Nat} (hi : i < d.size) (hc : d.size ≤ cs.size) : (putCells enc 0 d cs).getD i undef = enc d[i]! := by
  have h2 : i < (putCells enc 0 d cs).size := by simp [putCells]; omega
  rw [Array.getD_eq_getD_getElem?, Array.getElem?_eq_getElem h2]
  simp [putCells, hi]
theorem sort8_of {gs : List Nat} {P : Program} {fs fc : FuncId}
    (hnone : ∀ (p : Option Addr) (cap : Nat) (fv : Value) (w : World), Calls P fs #[.slice p 0 cap, fv] w fun e w' => e = .returned (.tuple #[]) ∧ w' = w)
    (hsort : ∀ (m : Nat) (enc : Fin (m + 1) → Value) (h1 : OneCell enc) (cf : Fin (m + 1) → Fin (m + 1) → Int) (hO : SWO (ltOf cf)) (blk cap : Nat) (d : Array (Fin (m + 1))) (w : World), CmpLays1 P fc #[] enc cf blk 0 d.size w → Go.Sort.Holds enc w blk 0 d → blk < w.heap.size → d.size < 4611686018427387904 →
      Calls P fs #[.slice (some ⟨blk, 0, none⟩) d.size cap, .func (.func fc) #[] #[]] w fun e w' => e = .returned (.tuple #[]) ∧ ∃ d' n os, PermIn 0 d.size d d' ∧ SortedIn (ltOf cf) 0 d.size d' ∧ w' = sortWorld enc w blk 0 n d' os)
    (hcmp : ∀ (w : World) (v1 v2 : Value) (l r : List UInt8), Bs w v1 l → Bs w v2 r → Calls P fc #[v1, v2] w fun e w' => e = .returned (.int .i64 (cmpL l r)) ∧ w' = w)
    (g : Option Nat) (ls : List (List UInt8)) (hl : ls.length ≤ 1000000000) : AC gs P fs [(g, .blk ls.length (lbF ls))] [.os 0 g 0 ls.length 1, .c (.func (.func fc) #[] #[])] (fun r H' => r = .c (.tuple #[]) ∧ H' = [(g, .blk ls.length (lbF (sortL ls)))]) := by
  intro al w St F0 vals he hs hv
  obtain ⟨fp, hp⟩ := he.hp
  have v0 := hv 0
  have v1 : vals.getD 1 undef = .func (.func fc) #[] #[] := hv 1
  have hnil : ls.length = 0 → sortL ls = ls := fun h => by
    have : ls = [] := List.eq_nil_of_length_eq_zero h
    subst this; simp [sortL]
  have same : ls.length = 0 → HRel al St w w.heap.size F0 [(g, .blk ls.length (lbF (sortL ls)))] := fun h => ⟨fp, by rw [hnil h]; exact hp⟩
  rw [vals2 hs, v1]
  by_cases hz : ls.length = 0
  · have hx : ∃ p cap, vals.getD 0 undef = .slice p 0 cap := by
      cases g with
      | none => exact ⟨none, 0, v0.2⟩
      | some b => obtain ⟨cap, h1, _⟩ := v0; exact ⟨_, cap, by rw [h1, hz]⟩
    obtain ⟨p, cap, hx⟩ := hx
    rw [hx]
    refine (hnone p cap _ w).mono ?_
    rintro e w' ⟨rfl, rfl⟩
    exact ⟨_, _, _, St, rfl, ⟨rfl, rfl⟩, rfl, Under.refl _ _, fun _ h => h, fun _ h => .inl h, he.s3, same hz⟩
  · cases g with
    | none => exact absurd v0.1 hz
    | some b =>
      obtain ⟨cap, h1, h2, h3, cur0, t0, z0, h4, h5⟩ := v0
      obtain ⟨hF, cur, t, k1, k2, k3⟩ := hp.rep 0 (some b) _ rfl
      have hF0 : F0 b := by
        rcases (hp.own 0 b ((hF b).2 rfl)).2.2 with h | h
        · have := (hp.own 0 b ((hF b).2 rfl)).1; omega
        · exact h
      have hSt : ∀ x, St x → x ≠ b := fun x hx e => (hp.own 0 b ((hF b).2 rfl)).2.1 (e ▸ hx)
      have hb : b < w.heap.size := (Array.getElem?_eq_some_iff.1 k1).1
      obtain ⟨m, hm⟩ : ∃ m, ls.length = m + 1 := ⟨ls.length - 1, by omega⟩
      let enc : Fin (m + 1) → Value := fun i => cur.getD i.val undef
      let d : Array (Fin (m + 1)) := Array.ofFn id
      have hd : d.size = ls.length := by simp [d, hm]
      have hrep : ∀ i : Fin (m + 1), RepC al St w (bsC (ls.getD i.val [])) (enc i) := fun i => k3 i.val (by omega)
      have hbs : ∀ (w' : World), KeepS St w w' → ∀ i : Fin (m + 1), Bs w' (enc i) (ls.getD i.val []) := fun w' hk i => bs_of_rep (rep_bs_keep (hrep i) hk)
      have hone : OneCell enc := fun i => by
        obtain ⟨ao, cap, e, _⟩ := hbs w (KeepS.refl _ _) i
        rw [e]; rfl
      have hkeep : ∀ (n : Nat) (d' : Array (Fin (m + 1))) (os : Array Obj), KeepS St w (sortWorld enc w b 0 n d' os) := fun n d' os x hx => sortW_other (he.s3 x hx) (hSt x hx)
      have hO := cmpL_swo (fun i : Fin (m + 1) => ls.getD i.val [])
      have hH : Go.Sort.Holds enc w b 0 d := fun j hj => by
        have hj2 : j < cur.size := by omega
        have e1 : d[j]! = ⟨j, by omega⟩ := by simp [d, show j < m + 1 by omega]
        refine ⟨?_, ?_⟩
        · simp only [World.cell?, k1, Nat.zero_add]
          rw [if_neg (by simp), e1]
          simp [enc, hj2]
        · simp [World.frozen?, k1]
      have key := hsort m enc hone (fun x y => cmpL (ls.getD x.val []) (ls.getD y.val [])) hO b cap d w (fun n os dk hdk x y => (hcmp _ _ _ _ _ (hbs _ (hkeep n dk os) x) (hbs _ (hkeep n dk os) y)).mono (by rintro e w' ⟨rfl, rfl⟩; exact ⟨rfl, 0, #[], by simp [World.drewN]⟩)) hH hb (by omega)
      rw [h1, ← hd]
      refine key.mono ?_
      rintro e w' ⟨rfl, d', n, os, hP, hS, rfl⟩
      have hd' : d'.size = ls.length := hP.1.trans hd
      have hms : (d'.toList.map fun i => ls.getD i.val []) = sortL ls := by
        refine sortL_of ?_ ?_
        · have h6 := hP.2.2
          have e1 : (d'.extract 0 d.size).toList = d'.toList := by rw [← hP.1]; simp
          have e2 : (d.extract 0 d.size).toList = d.toList := by simp
          rw [e1, e2] at h6
          refine (h6.map _).trans ?_
          have e3 : d.toList.map (fun i : Fin (m + 1) => ls.getD i.val []) = ls := by
            apply List.ext_getElem
            · simp [d, hm]
            · intro i h7 h8
              rw [List.getElem_map, Array.getElem_toList]
              have e4 : d[i]'(by rw [hd]; exact h8) = ⟨i, by omega⟩ := by simp only [d, Array.getElem_ofFn]; rfl
              rw [e4]; simp only [List.getD, List.getElem?_eq_getElem h8, Option.getD_some]
          rw [e3]
        · rw [List.pairwise_map, List.pairwise_iff_getElem]
          intro i j hi hj hij
          have h7 := hS i j (Nat.zero_le _) hij (by rw [← hP.1]; simpa using hj)
          have hi2 : i < d'.size := by simpa using hi
          have hj2 : j < d'.size := by simpa using hj
          rw [getElem!_pos d' i hi2, getElem!_pos d' j hj2] at h7
          unfold ltOf at h7
          simp only [decide_eq_false_iff_not, Int.not_lt] at h7
          have h8 := cmpL_swap (ls.getD (d'[j]).val []) (ls.getD (d'[i]).val [])
          unfold leL
          rw [decide_eq_true_eq]
          simp only [Array.getElem_toList]
          omega
      have hw := sortW_at (enc := enc) (n := n) (d := d') (os := os) k1
      have hsz := sortW_size (enc := enc) (w := w) (g := b) (n := n) (d := d') (os := os)
      have hput : (putCells enc 0 d' cur).size = cur.size := by simp [putCells]
      refine ⟨_, _, _, St, rfl, ⟨rfl, rfl⟩, rfl, ⟨rfl, rfl, rfl, hsz, fun x hx hn => sortW_other hx (fun e => hn (e ▸ hF0)), fun x cx tx zx hx => ?_⟩, fun _ h => h, fun _ h => .inl h, fun x hx => Nat.lt_of_lt_of_le (he.s3 x hx) hsz, fp, fun i g' r hi => ?_, hp.dis, fun i x hx => ?_, hp.out⟩
      · by_cases e : x = b
        · subst e
          rw [k1] at hx
          cases hx
          exact ⟨_, _, hw, hput⟩
        · exact ⟨cx, zx, (sortW_other (Array.getElem?_eq_some_iff.1 hx).1 e).trans hx, rfl⟩
      · cases i with
        | zero =>
          cases hi
          refine ⟨hF, _, t, hw, by rw [hput]; omega, fun i hi => ?_⟩
          have hi' : i < d'.size := by omega
          rw [row_get hi' (by omega)]
          have e : lbF (sortL ls) i = bsC (ls.getD (d'[i]!).val []) := by
            unfold lbF
            rw [← hms]
            simp [List.getD, hi']
          rw [e]
          exact rep_bs_keep (hrep _) (hkeep n d' os)
        | succ i => simp at hi
      · exact ⟨Nat.lt_of_lt_of_le (hp.own i x hx).1 hsz, (hp.own i x hx).2⟩
end Am
end Go.Proofs.YtgnjjenalebiaaaGreatDoor

/- Chapter 7: rows of bytes: cloned, sorted, told to be sorted, the same. -/
namespace Go.Proofs.YtgnjjenalebiaaaGreatDoor
set_option linter.unusedVariables false
namespace Am
open Go.RowKit
set_option maxRecDepth 100000

theorem rowC_lb : RowC 1 lbF := fun l l2 j hj => by
  simp only [lbF, List.getD_eq_getElem?_getD]
  split
  · rw [List.getElem?_append_left (by omega)]
  · rw [List.getElem?_append_right (by omega), Nat.mul_one]
theorem lb_thaw {ls : List (List UInt8)} : ∀ a b, a < ls.length → b < 1 → CEnt (lbF ls (0 + (a * 1 + b))) (bsC (ls.getD a [])) := fun a b ha hb => CEnt.of_eq (by rw [show 0 + (a * 1 + b) = a by omega]; rfl)
theorem cloneL_ac {gs : List Nat} (l : List (List UInt8)) (hl : l.length ≤ 1000000) : AC gs Tryz.prog 154 [] [lbC l] (OwnQ l.length 1 l.length (lbF l)) := by
  refine ac_of 8 Tryz.func154 rfl rfl rfl (fun al w0 F0 St0 => ?_)
  refine jcr ?_
  refine jq jrm ?_
  refine seq_nil ?_
  refine jcs ?_
  refine jcr ?_
  refine jq jrm ?_
  refine seq_eqNil (wanted_none rfl) rfl rfl rfl Tryz.underlying56 rfl rfl (fun h357 => ?_) ?_
  · refine seq_nil ?_
    refine jcT ?_
    refine jcr ?_
    refine jq jrm ?_
    refine seq_nil ?_
    refine code_ent (own_nil 2 1 (lbF l) rfl) ?_
    refine code_ret (jtr ?_)
    exact end_O 0 (.inl rfl) (res_1 rfl (arv_tmp rfl)) rfl (by omega) (by omega) (fun _ => by omega) (fun j hj => by omega)
  · refine seq_nil ?_
    refine jcF ?_
    refine code_skip (jtn ?_)
    refine jcr ?_
    refine jqe (jebl 0 1 zr26 fun p1 => ?_)
    refine jq jrm ?_
    refine jqm (m_appendC (l := []) ( rowC_lb) rfl rfl rfl rfl (Nat.le_of_eq (Nat.zero_mul _)) (fun j hj => absurd hj (by simp)) (src_rs rfl) rfl (fun j hj => by (simp only [Nat.div_one]; exact CEnt.refl _)) Tryz.underlying56 nu56 sz26 zr26 by26 rfl (by (simp; omega)) (by (simp; omega)) (fun j hj => rfl) rfl rfl rfl (fun p2 => ?_))
    refine jq jrm ?_
    refine seq_nil ?_
    refine code_ret ?_
    exact end_O 0 (.inl rfl) (res_1 rfl (arv_tmp rfl)) rfl (by simp) (by simp) (fun _ => by simp) (fun j hj => CEnt.refl _)
end Am
end Go.Proofs.YtgnjjenalebiaaaGreatDoor

/- Chapter 8: the writer as one thing. -/
namespace Go.Proofs.YtgnjjenalebiaaaGreatDoor
set_option linter.unusedVariables false
namespace Am
open Go.RowKit
set_option maxRecDepth 100000

/-- an element that is under way: its tag, what was written into it; where its row stands -/
abbrev FrG := (Int × List (List UInt8)) × Option Nat
def frD : FrG := ((0, []), none)
def frF (x : FrG) : Nat → CV := fl [.c (.int .i64 x.1.1), .os 0 x.2 0 x.1.2.length 1]
def kidE (x : FrG) : Option Nat × Res := (x.2, .blk x.1.2.length (lbF x.1.2))
abbrev WZ8 (fr : List (Int × List (List UInt8))) := { z : Nat × Option Nat × Option Nat × List FrG // z.2.2.2.map Prod.fst = fr }
def wrB (s : W8) (io jd : Nat) (go gd : Option Nat) : Nat → CV := fl [.os io go 0 s.fr.length 2, .os jd gd 0 s.d.length 1, .err s.k]
def wrE (s : W8) (z : WZ8 s.fr) : List (Option Nat × Res) := [(some z.1.1, .blk 3 (wrB s 1 2 z.1.2.1 z.1.2.2.1)), (z.1.2.1, .blk (s.fr.length * 2) (rowF 2 frF frD z.1.2.2.2.reverse)), (z.1.2.2.1, .blk s.d.length (byF s.d)), bagE (z.1.2.2.2.map kidE)]
def wrO (n : Nat) (s : W8) : Option Nat × Res := objE n (fun z : WZ8 s.fr => z.1.1) (wrE s)
section
variable {P : Program} {G : Gh} {c : Code} {R : Exit → AS → Prop} {n : Nat} {s : W8} {env : List (Nat × CV)} {b0 : Nat → CV} {H : List (Option Nat × Res)}
theorem code_openW (i : Nat) (hi : H[i]? = some (wrO n s)) (h : ∀ go gd (zs : List FrG), zs.map Prod.fst = s.fr → ACode P G c ⟨env, b0, H.set i (some n, .blk 3 (wrB s H.length (H.length + 1) go gd)) ++ [(go, .blk (s.fr.length * 2) (rowF 2 frF frD zs.reverse)), (gd, .blk s.d.length (byF s.d)), bagE (zs.map kidE)]⟩ R) : ACode P G c ⟨env, b0, H⟩ R := by
  have hlt := (List.getElem?_eq_some_iff.1 hi).1
  refine code_unpack i hi fun z hz => ?_
  obtain ⟨⟨n', go, gd, zs⟩, hzs⟩ := z
  obtain rfl : n' = n := hz
  refine code_ent (weakH i 3 (wrB s H.length (H.length + 1) go gd) (n := 3) (g := some n') (f := wrB s 1 2 go gd) ?_ (Nat.le_refl _) fun j hj => ?_) ?_
  · show (H.set i _ ++ _)[i]? = _
    rw [List.getElem?_append_left (by simpa using hlt)]
    simp [hlt]
  · rcases j with _ | _ | _ | j
    · exact CEnt.osI rfl
    · exact CEnt.osI rfl
    · exact CEnt.refl _
    · omega
  · have := h go gd zs hzs
    rw [← List.set_set (a := (some n', Res.blk 3 (wrB s 1 2 go gd))), ← List.set_append_left _ _ (by simpa using hlt)] at this
    exact this
theorem closeWh (n : Nat) (s : W8) (zs : List FrG) (i jo jd jb : Nat) (hzs : zs.map Prod.fst = s.fr) {go gd : Option Nat} {No Nd : Nat} {f Fo Fd : Nat → CV} (hi : H[i]? = some (some n, .blk 3 f)) (ho : H[jo]? = some (go, .blk No Fo)) (hd : H[jd]? = some (gd, .blk Nd Fd)) (hb : H[jb]? = some (bagE (zs.map kidE))) (hij : [i, jo, jd, jb].Nodup)
    (h0 : CEnt (f 0) (.os 1 go 0 s.fr.length 2)) (h1 : CEnt (f 1) (.os 1 gd 0 s.d.length 1)) (h2 : CEnt (f 2) (.err s.k)) (hNo : s.fr.length * 2 ≤ No) (hFo : ∀ a, a < s.fr.length * 2 → CEnt (Fo a) (rowF 2 frF frD zs.reverse a)) (hNd : s.d.length ≤ Nd) (hFd : ∀ a, a < s.d.length → CEnt (Fd a) (byF s.d a)) :
    ∀ {al : List Addr} {St : Nat → Prop} {w : World} {base : Nat} {F0 : Nat → Prop}, HRel al St w base F0 H → HRel al St w base F0 ((((H.set i (wrO n s)).set jo (none, .dead)).set jd (none, .dead)).set jb (none, .dead)) := by
  intro al St w base F0 h
  simp only [List.nodup_cons, List.mem_cons, List.not_mem_nil, or_false, not_or, not_false_iff, List.nodup_nil, and_true] at hij
  obtain ⟨⟨e1, e2, e3⟩, ⟨e4, e5⟩, e6⟩ := hij
  have hil := (List.getElem?_eq_some_iff.1 hi).1
  have hol := (List.getElem?_eq_some_iff.1 ho).1
  have hdl := (List.getElem?_eq_some_iff.1 hd).1
  have hbl := (List.getElem?_eq_some_iff.1 hb).1
  have k1 := h.weak (F := wrB s 1 2 go gd) hi (Nat.le_refl _) fun a ha => by
    rcases a with _ | _ | _ | a
    · exact h0.trans (CEnt.osI rfl)
    · exact h1.trans (CEnt.osI rfl)
    · exact h2
    · omega
  have k2 := k1.weak (i := jo) (F := rowF 2 frF frD zs.reverse) (by rw [List.getElem?_set_ne e1]; exact ho) hNo hFo
  have k3 := k2.weak (i := jd) (F := byF s.d) (by rw [List.getElem?_set_ne e4, List.getElem?_set_ne e2]; exact hd) hNd hFd
  have k4 := k3.closeN (gd := fun z : WZ8 s.fr => z.1.1) (E := wrE s) ⟨(n, go, gd, zs), hzs⟩ i [jo, jd, jb] (by simp [e1, e2, e3, e4, e5, e6]) (by simp [hil, hol, hdl, hbl]) (by
    have g1 : ∀ {x}, ((H.set i x).set jo (go, Res.blk (s.fr.length * 2) (rowF 2 frF frD zs.reverse))).set jd (gd, Res.blk s.d.length (byF s.d)) = ((H.set i x).set jo (go, Res.blk (s.fr.length * 2) (rowF 2 frF frD zs.reverse))).set jd (gd, Res.blk s.d.length (byF s.d)) := rfl
    simp only [pickL, List.map_cons, List.map_nil, List.getD_eq_getElem?_getD]
    rw [List.getElem?_set_ne (Ne.symm e2), List.getElem?_set_ne (Ne.symm e1), List.getElem?_set_ne (Ne.symm e4), List.getElem?_set_ne e6, List.getElem?_set_ne e5, List.getElem?_set_ne e3, hb]
    simp [hil, hol, hdl, wrE])
  have e : killL ((((H.set i (some n, Res.blk 3 (wrB s 1 2 go gd))).set jo (go, Res.blk (s.fr.length * 2) (rowF 2 frF frD zs.reverse))).set jd (gd, Res.blk s.d.length (byF s.d))).set i (objE n (fun z : WZ8 s.fr => z.1.1) (wrE s))) [jo, jd, jb] = (((H.set i (wrO n s)).set jo (none, .dead)).set jd (none, .dead)).set jb (none, .dead) := by
    show ((((((H.set i _).set jo _).set jd _).set i _).set jo _).set jd _).set jb _ = _
    rw [List.set_comm _ _ (Ne.symm e2), List.set_comm _ _ (Ne.symm e1), List.set_set, List.set_comm _ _ (Ne.symm e4), List.set_set, List.set_set]
    rfl
  rw [← e]
  exact k4
theorem closeW (n : Nat) (s : W8) (zs : List FrG) (i jo jd jb : Nat) (hzs : zs.map Prod.fst = s.fr) {go gd : Option Nat} {No Nd : Nat} {f Fo Fd : Nat → CV} (hi : H[i]? = some (some n, .blk 3 f)) (ho : H[jo]? = some (go, .blk No Fo)) (hd : H[jd]? = some (gd, .blk Nd Fd)) (hb : H[jb]? = some (bagE (zs.map kidE))) (hij : [i, jo, jd, jb].Nodup)
    (h0 : CEnt (f 0) (.os 1 go 0 s.fr.length 2)) (h1 : CEnt (f 1) (.os 1 gd 0 s.d.length 1)) (h2 : CEnt (f 2) (.err s.k)) (hNo : s.fr.length * 2 ≤ No) (hFo : ∀ a, a < s.fr.length * 2 → CEnt (Fo a) (rowF 2 frF frD zs.reverse a)) (hNd : s.d.length ≤ Nd) (hFd : ∀ a, a < s.d.length → CEnt (Fd a) (byF s.d a)) :
    EntS G ⟨env, b0, H⟩ ⟨env, b0, (((H.set i (wrO n s)).set jo (none, .dead)).set jd (none, .dead)).set jb (none, .dead)⟩ := EntS.hrel (closeWh n s zs i jo jd jb hzs hi ho hd hb hij h0 h1 h2 hNo hFo hNd hFd)
end
end Am
end Go.Proofs.YtgnjjenalebiaaaGreatDoor

/- Chapter 4 in the abstract walk: bodies by the reference. -/
namespace Go.Proofs.YtgnjjenalebiaaaGreatDoor
set_option linter.unusedVariables false
namespace Am
variable {gs : List Nat} [Ok9 gs]
open Go.RowKit
set_option maxRecDepth 100000

end Am
end Go.Proofs.YtgnjjenalebiaaaGreatDoor

/- Chapter 8: the reference's writer: add, put. -/
namespace Go.Proofs.YtgnjjenalebiaaaGreatDoor
set_option linter.unusedVariables false
namespace Am
variable {gs : List Nat} [Ok9 gs]
open Go.RowKit
set_option maxRecDepth 100000

def rowsF (r : List (List (List UInt8))) (j : Nat) : CV := lbC (r.getD j [])
def rwB (s : R8) (jr : Nat) (gr : Option Nat) : Nat → CV := fl [isC s.tags, .os jr gr 0 s.rows.length 1, .c (.int .i64 (s.e : Nat))]
def rwE (s : R8) (z : Nat × Option Nat) : List (Option Nat × Res) := [(some z.1, .blk 3 (rwB s 1 z.2)), (z.2, .blk s.rows.length (rowsF s.rows))]
def rwO (n : Nat) (s : R8) : Option Nat × Res := objE n (fun z : Nat × Option Nat => z.1) (rwE s)
section
variable {P : Program} {G : Gh} {c : Code} {R : Exit → AS → Prop} {n : Nat} {s : R8} {env : List (Nat × CV)} {b0 : Nat → CV} {H : List (Option Nat × Res)}
end
structure OkR (s : R8) : Prop where
  n : s.tags.length ≤ 100000
  r : s.rows.length ≤ 100000
  k : ∀ x ∈ s.rows, x.length ≤ 1000000
/-- with i rows more -/
def moreS (s : R8) (i : Nat) : R8 := ⟨s.tags, s.rows ++ List.replicate i [], s.e⟩
end Am
end Go.Proofs.YtgnjjenalebiaaaGreatDoor

/- Chapter 8: the writer: Fail, add, put. -/
namespace Go.Proofs.YtgnjjenalebiaaaGreatDoor
set_option linter.unusedVariables false
namespace Am
variable {gs : List Nat} [Ok9 gs]
open Go.RowKit
set_option maxRecDepth 100000

structure OkW (s : W8) : Prop where
  n : s.fr.length ≤ 16
  k : ∀ x ∈ s.fr, x.2.length ≤ 1000000 ∧ sumL x.2 ≤ 1000000
  d : s.d.length ≤ 1000000
theorem fr_len {zs : List FrG} {fr : List (Int × List (List UInt8))} (h : zs.map Prod.fst = fr) : zs.length = fr.length := by rw [← h]; simp
theorem top_at {x : FrG} {zr : List FrG} {m j : Nat} (hj : j < 2) (hm : m = zr.length + 1) : rowF 2 frF frD (x :: zr).reverse (0 + (m - 1) * 2 + j) = frF x j := by
  rw [Nat.zero_add, rowF_at hj, hm]
  simp [List.getD_eq_getElem?_getD]
theorem row_low {x : FrG} {zr : List FrG} {j : Nat} (hj : j < zr.length * 2) : rowF 2 frF frD (x :: zr).reverse j = rowF 2 frF frD zr.reverse j := by
  simp only [rowF, List.reverse_cons, List.getD_eq_getElem?_getD]
  rw [List.getElem?_append_left (by simp; omega)]
theorem top_store {x x' : FrG} {zr : List FrG} {m q n j : Nat} {g : Option Nat} (hm : m = zr.length + 1) (hx : x'.1.1 = x.1.1) (hg : x'.2 = g) (hn : x'.1.2.length = n) (hj : j < m * 2) : CEnt (updF (rowF 2 frF frD (x :: zr).reverse) (0 + (m - 1) * 2 + 1) [.os q g 0 n 1] j) (rowF 2 frF frD (x' :: zr).reverse j) := by
  rw [updF_get]
  by_cases h1 : j < zr.length * 2
  · rw [if_neg (by simp; omega), row_low h1, row_low h1]
    exact CEnt.refl _
  · by_cases h2 : j = 0 + (m - 1) * 2 + 1
    · rw [if_pos (by simp; omega), h2, top_at (by omega) hm, Nat.sub_self]
      show CEnt (.os q g 0 n 1) (.os 0 x'.2 0 x'.1.2.length 1)
      rw [hg, hn]
      exact CEnt.osI rfl
    · obtain rfl : j = 0 + (m - 1) * 2 + 0 := by omega
      rw [if_neg (by simp; omega), top_at (by omega) hm, top_at (by omega) hm]
      show CEnt (.c (.int .i64 x.1.1)) (.c (.int .i64 x'.1.1))
      rw [hx]
      exact CEnt.refl _
theorem failW_ac {gs : List Nat} (n : Nat) (s : W8) (e : Nat) : AC gs Tryz.prog 37 [wrO n s] [.op 0 (some n) 0, .err e] (fun r H' => r = .c (.tuple #[]) ∧ H' = [wrO n (failW e s)]) := by
  refine ac_of 13 Tryz.func37 rfl rfl rfl (fun al w0 F0 St0 => ?_)
  refine code_openW 0 rfl fun go gd zs hzs => ?_
  refine jcr ?_
  refine jq jrm ?_
  refine jq jrnc ?_
  refine jq (jrfa 2 1 false) ?_
  refine jqo jrdo ?_
  refine jq jre ?_
  refine seq_nil ?_
  refine jcc (fun h38 => ?_) fun h38 => ?_
  rotate_left
  · refine code_skip ?_
    have hF : failW e s = s := by unfold failW; rw [if_neg (by omega)]
    rw [hF]
    exact end_pack (gd := fun z : WZ8 s.fr => z.1.1) (E := wrE s) (.inr rfl) _ ⟨(n, go, gd, zs), hzs⟩ [0, 1, 2, 3] (by decide) rfl (res_0 rfl) ⟨rfl, rfl⟩
  refine jcg ?_
  refine jq jrm ?_
  refine jq jrm ?_
  refine jq jrnc ?_
  refine jq (jrfa 2 1 false) ?_
  refine jqm (jmstF 1 (wrB ⟨s.fr, s.d, e⟩ 1 2 go gd) ?_ ?_)
  · exact (fun j hj => by rcases j with _ | _ | _ | j <;> exact CEnt.refl _)
  refine seq_nil ?_
  have hF : failW e s = ⟨s.fr, s.d, e⟩ := by unfold failW; rw [if_pos (by omega)]
  rw [hF]
  exact end_pack (gd := fun z : WZ8 s.fr => z.1.1) (E := wrE ⟨s.fr, s.d, e⟩) (.inr rfl) _ ⟨(n, go, gd, zs), hzs⟩ [0, 1, 2, 3] (by decide) rfl (res_0 rfl) ⟨rfl, rfl⟩
set_option maxHeartbeats 1000000 in
theorem addW_ac {gs : List Nat} (n : Nat) (s : W8) (b : List UInt8) (hs : OkW s) (hb : b.length ≤ 100000000) : AC gs Tryz.prog 106 [wrO n s] [.op 0 (some n) 0, bsC b] (fun r H' => r = .c (.tuple #[]) ∧ H' = [wrO n (addW b s)]) := by
  have hsd := hs.d
  have hsn := hs.n
  refine ac_of 42 Tryz.func106 rfl rfl rfl (fun al w0 F0 St0 => ?_)
  refine jcs ?_
  (refine code_openW 0 rfl fun go gd zs hzs => ?_; have hzl := fr_len hzs)
  refine jcr ?_
  refine jq jrm ?_
  refine jq jrnc ?_
  refine jq (jrfa 0 1 false) ?_
  refine jqo jrdo ?_
  refine jq jrl ?_
  refine jq jrm ?_
  refine seq_nil ?_
  skip
  refine jcr ?_
  refine jq jrm ?_
  refine jq jrc ?_
  refine seq_nil ?_
  refine jcc (fun h45 => ?_) fun h45 => ?_
  rotate_left
  · refine code_skip (jtn ?_)
    have hf0 : s.fr = [] := List.eq_nil_of_length_eq_zero (by omega)
    refine jcg ?_
    refine jq jrm ?_
    refine jq jrm ?_
    refine jq jrnc ?_
    refine jq (jrfa 1 1 false) ?_
    refine jqo jrdo ?_
    refine jq jrm ?_
    first | refine jqm (m_appendB rfl rfl rfl (Nat.le_refl _) (fun _ _ => CEnt.refl _) (src_rs rfl) rfl (fun j hj => by simp only [Nat.div_one]; exact CEnt.refl _) Tryz.underlying26 nu26 sz5 zr5 by5 rfl (by omega) (fun j hj => rfl) rfl rfl (fun p1 => ?_)) | refine jqm (m_appendB rfl rfl rfl (Nat.le_refl _) (fun _ _ => CEnt.refl _) (src_str rfl) rfl (fun j hj => CEnt.refl _) Tryz.underlying26 nu26 sz5 zr5 by5 rfl (by first | omega | (simp; done) | (simp; omega) | (simp at *; omega)) (fun j hj => rfl) rfl rfl (fun p1 => ?_)) | refine jqm (m_appendB rfl rfl rfl (Nat.le_refl _) (fun _ _ => CEnt.refl _) (src_os rfl (.inl rfl) (by omega)) rfl (fun j hj => by rw [Nat.zero_add]; exact CEnt.refl _) Tryz.underlying26 nu26 sz5 zr5 by5 rfl (by first | omega | (simp; done) | (simp; omega) | (simp at *; omega)) (fun j hj => rfl) rfl rfl (fun p1 => ?_))
    refine jq jrnc ?_
    refine jq (jrfa 1 1 false) ?_
    refine jqm (jmstF 1 (wrB (addW b s) 1 2 go p1) ?_ ?_)
    · exact (fun j hj => by rcases j with _ | _ | _ | j <;> first | exact CEnt.osI (by simp [addW, hf0]) | exact CEnt.osI (by simp [addW, hf0]) | exact CEnt.err (by simp [addW, hf0]) | omega)
    refine seq_nil ?_
    refine end_hr (H' := ?H2) ?hh ?hb
    case hh => intro _ _ _ _ _ hx; exact closeWh n (addW b s) zs 0 1 2 3 (by simp [addW, hf0]; rw [hf0] at hzs; simpa using hzs) rfl rfl rfl rfl (by decide) (by exact CEnt.osI rfl) (by exact CEnt.osI rfl) (by exact CEnt.refl _) (by simp [addW, hf0]) (fun a ha => by simp [addW, hf0] at ha) (by simp [addW, hf0]) (fun _ _ => by simp only [addW, hf0]; exact CEnt.refl _) hx
    case hb => exact end_own (.inr rfl) _ [wrO n (addW b s)] [0] (by decide) rfl (res_0 rfl) ⟨rfl, rfl⟩
  refine jcs ?_
  obtain ⟨x, zr, rfl⟩ : ∃ x zr, zs = x :: zr := by
      cases zs with
      | nil => simp at hzl; omega
      | cons x zr => exact ⟨x, zr, rfl⟩
  have hfr : s.fr = x.1 :: zr.map Prod.fst := by rw [← hzs]; rfl
  have hxk := hs.k x.1 (by rw [hfr]; exact List.mem_cons_self)
  have hzl : s.fr.length = zr.length + 1 := by rw [← hzl]; rfl
  refine code_ent (bag_pop 3 rfl) ?_
  refine jcdZ (.rd 0 (.rd 1 (.rd 2 (.rd 4 (.rd 5 (.rd 6 (.rd 7 (.rd 8 (.rd 9 (.rd 10 (.rd 11 (.rd 12 (.rd 13 (.rd 14 (.rd 15 (.two 3 (.one 16 (.one 17 (.one 18 (.rd 19 (.rd 20 (.one 21 .done)))))) 16 (.two 3 (.one 17 (.one 18 (.rd 19 (.rd 20 (.one 21 .done))))) 17 (.two 3 (.one 18 (.rd 19 (.rd 20 (.one 21 .done)))) 18 (.one 3 (.rd 19 (.rd 20 (.one 21 .done)))))))))))))))))))))) ?_
  refine jzq jrm ?_
  refine jzq jrnc ?_
  refine jzq (jrfa 0 1 false) ?_
  refine jzq jrm ?_
  refine jzq jra ?_
  refine jzq jrm ?_
  refine jzq jrnc ?_
  refine jzq (jrfa 0 1 false) ?_
  refine jzo jrdo ?_
  refine jzq jrm ?_
  refine jzq jra ?_
  refine jzq (jri (i := (s.fr.length - 1)) (hz := by omega)) ?_
  refine jzq (jrfa 1 1 false) ?_
  refine jzo (jrdo (hv := top_at (by omega) hzl)) ?_
  refine jzq jrm ?_
  refine jztwo ?_ ?_
  · refine jz1o jrdo ?_
    refine z_ent (weaken 26 (.os 4 x.2 0 x.1.2.length 1) (CEnt.osI rfl)) ?_
    refine jze (jecP (clone8_ac b (by omega)) ?_)
    refine jze (jebl 1 1 zr26 fun p1 => ?_)
    refine jzm (m_appendC (rowC_lb) (l2 := [b]) rfl rfl rfl rfl (by omega) (fun _ _ => CEnt.refl _) (src_os rfl (.inl rfl) (by decide)) rfl (fun j hj => by rcases j with _|j <;> first | exact CEnt.refl _ | exact CEnt.int (by omega) | (exfalso; simp at hj <;> omega)) Tryz.underlying56 nu56 sz26 zr26 by26 rfl (by (simp; omega)) (by (simp; omega)) (leaf_flk rfl rfl) rfl rfl rfl (fun p2 => ?_))
    refine jzq (jri (i := (s.fr.length - 1)) (hz := by omega)) ?_
    refine jzq (jrfa 1 1 false) ?_
    refine jzm (jmstF 1 (rowF 2 frF frD (((x.1.1, x.1.2 ++ [b]), p2) :: zr).reverse) ?_ ?_)
    · exact (fun j hj => top_store hzl rfl rfl (by simp) hj)
    refine jzd ?_
    refine jtn ?_
    refine code_ent (weakH 4 (x.1.2 ++ [b]).length (lbF (x.1.2 ++ [b])) rfl (by simp) (fun _ _ => CEnt.refl _)) ?_
    refine code_ent (bag_push 3 4 rfl rfl rfl) ?_
    refine code_ent (closeW n (addW b s) (((x.1.1, x.1.2 ++ [b]), p2) :: zr) 0 1 2 3 (by simp [addW, hfr]) rfl rfl rfl rfl (by decide) (CEnt.osI (by simp [addW, hfr])) (CEnt.osI (by simp [addW, hfr])) (CEnt.err (by simp [addW, hfr])) (by simp [addW, hfr]) (fun _ _ => CEnt.refl _) (by simp [addW, hfr]) (fun _ _ => by simp only [addW, hfr]; exact CEnt.refl _)) ?_
    refine code_ret (jtr ?_)
    exact end_own (.inl rfl) _ [wrO n (addW b s)] [0] (by decide) rfl (res_0 rfl) ⟨rfl, rfl⟩
  · refine z_ent (weaken 26 (.os 4 x.2 0 x.1.2.length 1) (CEnt.osI rfl)) ?_
    refine jze (jecP (clone8_ac b (by omega)) ?_)
    refine jztwo ?_ ?_
    · refine jz1o jrdo ?_
      refine jze (jebl 1 1 zr26 fun p1 => ?_)
      refine jzm (m_appendC (rowC_lb) (l2 := [b]) rfl rfl rfl rfl (by omega) (fun _ _ => CEnt.refl _) (src_os rfl (.inl rfl) (by decide)) rfl (fun j hj => by rcases j with _|j <;> first | exact CEnt.refl _ | exact CEnt.int (by omega) | (exfalso; simp at hj <;> omega)) Tryz.underlying56 nu56 sz26 zr26 by26 rfl (by (simp; omega)) (by (simp; omega)) (leaf_flk rfl rfl) rfl rfl rfl (fun p2 => ?_))
      refine jzq (jri (i := (s.fr.length - 1)) (hz := by omega)) ?_
      refine jzq (jrfa 1 1 false) ?_
      refine jzm (jmstF 1 (rowF 2 frF frD (((x.1.1, x.1.2 ++ [b]), p2) :: zr).reverse) ?_ ?_)
      · exact (fun j hj => top_store hzl rfl rfl (by simp) hj)
      refine jzd ?_
      refine jtn ?_
      refine code_ent (weakH 4 (x.1.2 ++ [b]).length (lbF (x.1.2 ++ [b])) rfl (by simp) (fun _ _ => CEnt.refl _)) ?_
      refine code_ent (bag_push 3 4 rfl rfl rfl) ?_
      refine code_ent (closeW n (addW b s) (((x.1.1, x.1.2 ++ [b]), p2) :: zr) 0 1 2 3 (by simp [addW, hfr]) rfl rfl rfl rfl (by decide) (CEnt.osI (by simp [addW, hfr])) (CEnt.osI (by simp [addW, hfr])) (CEnt.err (by simp [addW, hfr])) (by simp [addW, hfr]) (fun _ _ => CEnt.refl _) (by simp [addW, hfr]) (fun _ _ => by simp only [addW, hfr]; exact CEnt.refl _)) ?_
      refine code_ret (jtr ?_)
      exact end_own (.inl rfl) _ [wrO n (addW b s)] [0] (by decide) rfl (res_0 rfl) ⟨rfl, rfl⟩
    · refine jze (jebl 1 1 zr26 fun p1 => ?_)
      refine jztwo ?_ ?_
      · refine jz1o jrdo ?_
        refine jzm (m_appendC (rowC_lb) (l2 := [b]) rfl rfl rfl rfl (by omega) (fun _ _ => CEnt.refl _) (src_os rfl (.inl rfl) (by decide)) rfl (fun j hj => by rcases j with _|j <;> first | exact CEnt.refl _ | exact CEnt.int (by omega) | (exfalso; simp at hj <;> omega)) Tryz.underlying56 nu56 sz26 zr26 by26 rfl (by (simp; omega)) (by (simp; omega)) (leaf_flk rfl rfl) rfl rfl rfl (fun p2 => ?_))
        refine jzq (jri (i := (s.fr.length - 1)) (hz := by omega)) ?_
        refine jzq (jrfa 1 1 false) ?_
        refine jzm (jmstF 1 (rowF 2 frF frD (((x.1.1, x.1.2 ++ [b]), p2) :: zr).reverse) ?_ ?_)
        · exact (fun j hj => top_store hzl rfl rfl (by simp) hj)
        refine jzd ?_
        refine jtn ?_
        refine code_ent (weakH 4 (x.1.2 ++ [b]).length (lbF (x.1.2 ++ [b])) rfl (by simp) (fun _ _ => CEnt.refl _)) ?_
        refine code_ent (bag_push 3 4 rfl rfl rfl) ?_
        refine code_ent (closeW n (addW b s) (((x.1.1, x.1.2 ++ [b]), p2) :: zr) 0 1 2 3 (by simp [addW, hfr]) rfl rfl rfl rfl (by decide) (CEnt.osI (by simp [addW, hfr])) (CEnt.osI (by simp [addW, hfr])) (CEnt.err (by simp [addW, hfr])) (by simp [addW, hfr]) (fun _ _ => CEnt.refl _) (by simp [addW, hfr]) (fun _ _ => by simp only [addW, hfr]; exact CEnt.refl _)) ?_
        refine code_ret (jtr ?_)
        exact end_own (.inl rfl) _ [wrO n (addW b s)] [0] (by decide) rfl (res_0 rfl) ⟨rfl, rfl⟩
      · refine jzm (m_appendC (rowC_lb) (l2 := [b]) rfl rfl rfl rfl (by omega) (fun _ _ => CEnt.refl _) (src_os rfl (.inl rfl) (by decide)) rfl (fun j hj => by rcases j with _|j <;> first | exact CEnt.refl _ | exact CEnt.int (by omega) | (exfalso; simp at hj <;> omega)) Tryz.underlying56 nu56 sz26 zr26 by26 rfl (by (simp; omega)) (by (simp; omega)) (leaf_flk rfl rfl) rfl rfl rfl (fun p2 => ?_))
        refine jz1o jrdo ?_
        refine jzq (jri (i := (s.fr.length - 1)) (hz := by omega)) ?_
        refine jzq (jrfa 1 1 false) ?_
        refine jzm (jmstF 1 (rowF 2 frF frD (((x.1.1, x.1.2 ++ [b]), p2) :: zr).reverse) ?_ ?_)
        · exact (fun j hj => top_store hzl rfl rfl (by simp) hj)
        refine jzd ?_
        refine jtn ?_
        refine code_ent (weakH 4 (x.1.2 ++ [b]).length (lbF (x.1.2 ++ [b])) rfl (by simp) (fun _ _ => CEnt.refl _)) ?_
        refine code_ent (bag_push 3 4 rfl rfl rfl) ?_
        refine code_ent (closeW n (addW b s) (((x.1.1, x.1.2 ++ [b]), p2) :: zr) 0 1 2 3 (by simp [addW, hfr]) rfl rfl rfl rfl (by decide) (CEnt.osI (by simp [addW, hfr])) (CEnt.osI (by simp [addW, hfr])) (CEnt.err (by simp [addW, hfr])) (by simp [addW, hfr]) (fun _ _ => CEnt.refl _) (by simp [addW, hfr]) (fun _ _ => by simp only [addW, hfr]; exact CEnt.refl _)) ?_
        refine code_ret (jtr ?_)
        exact end_own (.inl rfl) _ [wrO n (addW b s)] [0] (by decide) rfl (res_0 rfl) ⟨rfl, rfl⟩
theorem putW_ac (n : Nat) (s : W8) (tag : Int) (body : List UInt8) (e : Nat) (hs : OkW s) (hb : body.length ≤ 1000000) : AC gs Tryz.prog 82 [wrO n s] [.op 0 (some n) 0, .c (.int .i64 tag), bsC body, .err e] (fun r H' => r = .c (.tuple #[]) ∧ H' = [wrO n (putW tag body e s)]) := by
  have hpl : (putL tag body).length ≤ 100000000 := by
    unfold putL
    have := lenL_bd body.length
    simp only [List.length_cons, List.length_append]
    omega
  refine ac_of 32 Tryz.func82 rfl rfl rfl (fun al w0 F0 St0 => ?_)
  refine jcr ?_
  refine jq jrm ?_
  refine jq jrm ?_
  refine jqm (jmcH 0 (failW_ac n s e) ?_)
  rintro _ _ ⟨rfl, rfl⟩
  refine ⟨_, _, rfl, CEnt.refl _, ?_⟩
  refine seq_nil ?_
  refine jcs ?_
  refine code_openW 0 rfl fun go gd zs hzs => ?_
  refine jcr ?_
  refine jq jrm ?_
  refine jq jrnc ?_
  refine jq (jrfa 2 1 false) ?_
  refine jqo jrdo ?_
  refine jq jre ?_
  refine seq_nil ?_
  refine jcc (fun h55 => ?_) fun h55 => ?_
  · refine code_ret (jtr ?_)
    have hP : putW tag body e s = failW e s := by unfold putW; rw [if_pos (by omega)]
    rw [hP]
    exact end_pack (gd := fun z : WZ8 (failW e s).fr => z.1.1) (E := wrE (failW e s)) (.inl rfl) _ ⟨(n, go, gd, zs), hzs⟩ [0, 1, 2, 3] (by decide) rfl (res_0 rfl) ⟨rfl, rfl⟩
  refine code_skip (jtn ?_)
  have hk0 : (failW e s).k = 0 := by omega
  have hF : failW e s = s := by
    obtain ⟨fr, d, k⟩ := s
    unfold failW at hk0 ⊢
    split
    · rename_i h
      rw [if_pos h] at hk0
      have h : k = 0 := h
      have hk0 : e = 0 := hk0
      rw [h, hk0]
    · rfl
  refine code_ent (closeW n (failW e s) zs 0 1 2 3 hzs rfl rfl rfl rfl (by decide) (CEnt.osI rfl) (CEnt.osI rfl) (CEnt.refl _) (Nat.le_refl _) (fun _ _ => CEnt.refl _) (Nat.le_refl _) (fun _ _ => CEnt.refl _)) ?_
  rw [hF]
  have hsk : s.k = 0 := by rw [← hF]; exact hk0
  dsimp only [List.set_cons_zero, List.set_cons_succ, List.cons_append, List.nil_append, List.length_cons, List.length_nil, Nat.zero_add, Nat.reduceAdd]
  refine jcr ?_
  refine jq jrm ?_
  refine jq jrm ?_
  refine jq (rd_build (n := 2) rfl zr68 pl68 rfl rfl) ?_
  refine jqe (jecP (tput_ac tag body hb) ?_)
  refine jq jrm ?_
  refine jq jrx ?_
  refine jq jrx ?_
  refine jq jrm ?_
  refine jq jrm ?_
  refine seq_nil ?_
  refine jcs ?_
  refine jcr ?_
  refine jq jrm ?_
  refine jq jre ?_
  refine seq_nil ?_
  refine jcc (fun h59 => ?_) fun h59 => ?_
  · refine jcr ?_
    refine jq jrm ?_
    refine jq jrm ?_
    refine jqm (jmcH 0 (failW_ac n s (putE tag body)) ?_)
    rintro _ _ ⟨rfl, rfl⟩
    refine ⟨_, _, rfl, CEnt.refl _, ?_⟩
    refine seq_nil ?_
    refine code_ret (jtr ?_)
    have hP : putW tag body e s = failW (putE tag body) s := by unfold putW; rw [hF, if_neg (by omega), if_pos (by omega)]; unfold failW; rw [if_pos hsk]
    rw [hP]
    exact end_own (.inl rfl) _ [_] [0] (by decide) rfl (res_0 rfl) ⟨rfl, rfl⟩
  refine code_skip (jtn ?_)
  have hP0 : putE tag body = 0 := by omega
  rw [if_pos hP0]
  refine jcg ?_
  refine jq jrm ?_
  refine jq jrm ?_
  refine jqm (jmcH 0 (addW_ac n s _ hs hpl) ?_)
  rintro _ _ ⟨rfl, rfl⟩
  refine ⟨_, _, rfl, CEnt.refl _, ?_⟩
  refine seq_nil ?_
  have hP : putW tag body e s = addW (putL tag body) s := by unfold putW; rw [hF, if_neg (by omega), if_neg (by omega)]
  rw [hP]
  exact end_own (.inr rfl) _ [_] [0] (by decide) rfl (res_0 rfl) ⟨rfl, rfl⟩
end Am
end Go.Proofs.YtgnjjenalebiaaaGreatDoor

/-
  DERIVED: THE SHELF's CONTRACTS AT THIS DUMP, IN PLAIN WORDS (tools/lay-plain.mjs out of 'TryzShelf.lean', which tools/lay-shelf.mjs wrote): THE SAME DECLARATIONS UNDER THE SAME NAMES: 'import', 'namespace', 'open', 'def', 'theorem' AND NOTHING ELSE: no command of the shelf's: FOR A HAND-IN. Each laying: the table of numbers ('.._ren') and one theorem, a field a fact of the dump's own or the kernel's comparison; each contract: ONE APPLICATION.
-/
namespace Go.Proofs
open Go.Shelf
def Tryz.lays169_ren : Go.Shelf.Ren := ⟨fun | 169 => 179 | n => n, fun | 70 => 213 | 9 => 9 | 0 => 0 | 72 => 215 | 37 => 26 | 127 => 232 | 3 => 3 | 5 => 5 | n => n, fun | n => n⟩
open Go.RowKit in
def Tryz.lays241_ren : Go.Shelf.Ren := ⟨fun | 241 => 195 | 277 => 205 | n => n, fun | 70 => 213 | 3 => 3 | 0 => 0 | 72 => 215 | 37 => 26 | 5 => 5 | n => n, fun | n => n⟩
open Go.RowKit in
def Tryz.lays165_ren : Go.Shelf.Ren := ⟨fun | 165 => 177 | 240 => 194 | 241 => 195 | 276 => 204 | 277 => 205 | n => n, fun | 70 => 213 | 3 => 3 | 0 => 0 | 4 => 4 | 9 => 9 | 20 => 20 | 72 => 215 | 37 => 26 | 164 => 239 | 5 => 5 | n => n, fun | n => n⟩
open Go.RowKit in
def Tryz.lays156_ren : Go.Shelf.Ren := ⟨fun | 156 => 169 | 165 => 177 | 166 => 178 | 169 => 179 | 240 => 194 | 241 => 195 | 276 => 204 | 277 => 205 | n => n, fun | 31 => 167 | 9 => 9 | 3 => 3 | 4 => 4 | 0 => 0 | 20 => 20 | 72 => 215 | 76 => 105 | 70 => 213 | 37 => 26 | 75 => 28 | 127 => 232 | 164 => 239 | 5 => 5 | 80 => 110 | n => n, fun | n => n⟩
theorem Tryz.lays156 : Go.Proofs.Lays.n156 Tryz.prog Tryz.lays156_ren := {
  mixed := by kernel_rfl
  f156 := Tryz.func169.trans (congrArg some (by kernel_rfl))
  f165 := Tryz.func177.trans (congrArg some (by kernel_rfl))
  f166 := Tryz.func178.trans (congrArg some (by kernel_rfl))
  f169 := Tryz.func179.trans (congrArg some (by kernel_rfl))
  f240 := Tryz.func194.trans (congrArg some (by kernel_rfl))
  f241 := Tryz.func195.trans (congrArg some (by kernel_rfl))
  f276 := Tryz.func204.trans (congrArg some (by kernel_rfl))
  f277 := Tryz.func205.trans (congrArg some (by kernel_rfl))
  t0 := Tryz.underlying0
  a0 := Tryz.isAgg0
  z0 := Tryz.sizeOf0
  v0 := Tryz.zeroValue0
  t3 := Tryz.underlying3
  a3 := Tryz.isAgg3
  z3 := Tryz.sizeOf3
  v3 := Tryz.zeroValue3
  t4 := Tryz.underlying4
  a4 := Tryz.isAgg4
  z4 := Tryz.sizeOf4
  v4 := Tryz.zeroValue4
  t9 := Tryz.underlying9
  a9 := Tryz.isAgg9
  z9 := Tryz.sizeOf9
  v9 := Tryz.zeroValue9
  t20 := Tryz.underlying20
  a20 := Tryz.isAgg20
  z20 := Tryz.sizeOf20
  v20 := Tryz.zeroValue20
  t31 := Tryz.underlying167
  a31 := Tryz.isAgg167
  z31 := Tryz.sizeOf167
  v31 := Tryz.zeroValue167
  t37 := Tryz.underlying26
  a37 := Tryz.isAgg26
  z37 := Tryz.sizeOf26
  v37 := Tryz.zeroValue26
  t70 := Tryz.underlying213
  a70 := Tryz.isAgg213
  z70 := Tryz.sizeOf213
  v70 := Tryz.zeroValue213
  t72 := Tryz.underlying215
  a72 := Tryz.isAgg215
  z72 := Tryz.sizeOf215
  v72 := Tryz.zeroValue215
  t75 := Tryz.underlying28
  a75 := Tryz.isAgg28
  z75 := Tryz.sizeOf28
  v75 := Tryz.zeroValue28
  t76 := Tryz.underlying105
  a76 := Tryz.isAgg105
  z76 := Tryz.sizeOf105
  v76 := Tryz.zeroValue105
  t127 := Tryz.underlying232
  a127 := Tryz.isAgg232
  z127 := Tryz.sizeOf232
  v127 := Tryz.zeroValue232
  t164 := Tryz.underlying239
  a164 := Tryz.isAgg239
  z164 := Tryz.sizeOf239
  v164 := Tryz.zeroValue239 }
theorem Tryz.Builder_Extra_156 : Builder.Extra Tryz.prog Tryz.lays156_ren := {
  sizeBuilder := by kernel_rfl
  liesBuilder := by kernel_rfl
  t5 := Tryz.underlying5
  a5 := Tryz.isAgg5
  z5 := Tryz.sizeOf5
  v5 := Tryz.zeroValue5
  infoByte := by kernel_rfl
  cellsByte := by kernel_rfl
  sizeByte := by kernel_rfl
  neB5 := by decide }
open Go.RowKit in
/-- No element: the empty string; the world is as it was. (Whatever the slice's address and capacity: a nil slice too.) (LAID: no walk: one application.) -/
theorem Tryz.strings_Join_none (a : Option Addr) (c : Nat) (sep : ByteArray) (w : World) :
    Calls Tryz.prog 169 #[.slice a 0 c, .string sep] w fun e w' => e = .returned (.string ⟨#[]⟩) ∧ w' = w := Any.strings_Join_none Tryz.lays156 Tryz.Builder_Extra_156 a c sep w
open Go.RowKit in
/-- strings.Join: "Join concatenates the elements of its first argument to create a single string. The separator string sep is placed between elements in the resulting string.": HOWEVER MANY ELEMENTS. Below the heap's end the world is as it was. (LAID: no walk: one application.) -/
theorem Tryz.strings_Join (bk o c : Nat) (xs : List ByteArray) (sep : ByteArray) (w : World) (hcells : ∀ (j : Nat) x, xs[j]? = some x → w.cell? ⟨bk, o + j, none⟩ = some (.string x)) (hbk : bk < w.heap.size) (hN : xs.length ≤ 140737488355328) (hcap : xs.length ≤ c) (hlen : (Lib.join (xs.map (·.data.toList)) sep.data.toList).length ≤ 140737488355328) :
    Calls Tryz.prog 169 #[.slice (some ⟨bk, o, none⟩) xs.length c, .string sep] w fun e w' => e = .returned (.string ⟨(Lib.join (xs.map (·.data.toList)) sep.data.toList).toArray⟩) ∧ Below w.heap.size w w' := Any.strings_Join Tryz.lays156 Tryz.Builder_Extra_156 bk o c xs sep w hcells hbk hN hcap hlen
def Tryz.lays128_ren : Go.Shelf.Ren := ⟨fun | 128 => 162 | n => n, fun | 51 => 203 | 3 => 3 | 4 => 4 | 46 => 77 | 5 => 5 | 9 => 9 | n => n, fun | n => n⟩
def Tryz.lays125_ren : Go.Shelf.Ren := ⟨fun | 125 => 146 | 128 => 162 | 129 => 163 | n => n, fun | 46 => 77 | 3 => 3 | 51 => 203 | 53 => 165 | 4 => 4 | 5 => 5 | 9 => 9 | n => n, fun | n => n⟩
def Tryz.lays136_ren : Go.Shelf.Ren := ⟨fun | 136 => 153 | n => n, fun | 5 => 5 | 3 => 3 | 9 => 9 | n => n, fun | n => n⟩
def Tryz.lays129_ren : Go.Shelf.Ren := ⟨fun | 129 => 163 | n => n, fun | 53 => 165 | 3 => 3 | 4 => 4 | 46 => 77 | 5 => 5 | 9 => 9 | n => n, fun | n => n⟩
def Tryz.lays217_ren : Go.Shelf.Ren := ⟨fun | 217 => 207 | 266 => 211 | n => n, fun | 9 => 9 | 5 => 5 | 3 => 3 | n => n, fun | n => n⟩
open Go.RowKit Go.Lib in
def Tryz.lays224_ren : Go.Shelf.Ren := ⟨fun | 224 => 209 | n => n, fun | 3 => 3 | n => n, fun | n => n⟩
open Go.RowKit Go.Lib in
def Tryz.lays314_ren : Go.Shelf.Ren := ⟨fun | 314 => 212 | n => n, fun | 9 => 9 | 51 => 203 | 3 => 3 | 4 => 4 | 5 => 5 | 46 => 77 | n => n, fun | n => n⟩
open Go.RowKit Go.Lib in
def Tryz.lays267_ren : Go.Shelf.Ren := ⟨fun | 267 => 210 | 314 => 212 | n => n, fun | 9 => 9 | 3 => 3 | 146 => 244 | 51 => 203 | 4 => 4 | 5 => 5 | 46 => 77 | n => n, fun | n => n⟩
open Go.RowKit Go.Lib in
def Tryz.lays219_ren : Go.Shelf.Ren := ⟨fun | 219 => 203 | 217 => 207 | 225 => 208 | 224 => 209 | 267 => 210 | 266 => 211 | 314 => 212 | n => n, fun | 9 => 9 | 3 => 3 | 4 => 4 | 5 => 5 | 46 => 77 | 146 => 244 | 51 => 203 | n => n, fun | 1 => 30 | n => n⟩
open Go.RowKit Go.Lib in
def Tryz.lays143_ren : Go.Shelf.Ren := ⟨fun | 143 => 192 | 219 => 203 | 217 => 207 | 225 => 208 | 224 => 209 | 267 => 210 | 266 => 211 | 314 => 212 | n => n, fun | 9 => 9 | 3 => 3 | 4 => 4 | 5 => 5 | 46 => 77 | 146 => 244 | 51 => 203 | n => n, fun | 1 => 30 | n => n⟩
theorem Tryz.lays143 : Go.Proofs.Lays.n143 Tryz.prog Tryz.lays143_ren := {
  mixed := by kernel_rfl
  f143 := Tryz.func192.trans (congrArg some (by kernel_rfl))
  f217 := Tryz.func207.trans (congrArg some (by kernel_rfl))
  f219 := Tryz.func203.trans (congrArg some (by kernel_rfl))
  f224 := Tryz.func209.trans (congrArg some (by kernel_rfl))
  f225 := Tryz.func208.trans (congrArg some (by kernel_rfl))
  f266 := Tryz.func211.trans (congrArg some (by kernel_rfl))
  f267 := Tryz.func210.trans (congrArg some (by kernel_rfl))
  f314 := Tryz.func212.trans (congrArg some (by kernel_rfl))
  t3 := Tryz.underlying3
  a3 := Tryz.isAgg3
  z3 := Tryz.sizeOf3
  v3 := Tryz.zeroValue3
  t4 := Tryz.underlying4
  a4 := Tryz.isAgg4
  z4 := Tryz.sizeOf4
  v4 := Tryz.zeroValue4
  t5 := Tryz.underlying5
  a5 := Tryz.isAgg5
  z5 := Tryz.sizeOf5
  v5 := Tryz.zeroValue5
  t9 := Tryz.underlying9
  a9 := Tryz.isAgg9
  z9 := Tryz.sizeOf9
  v9 := Tryz.zeroValue9
  t46 := Tryz.underlying77
  a46 := Tryz.isAgg77
  z46 := Tryz.sizeOf77
  v46 := Tryz.zeroValue77
  t51 := Tryz.underlying203
  a51 := Tryz.isAgg203
  z51 := Tryz.sizeOf203
  v51 := Tryz.zeroValue203
  t146 := Tryz.underlying244
  a146 := Tryz.isAgg244
  z146 := Tryz.sizeOf244
  v146 := Tryz.zeroValue244
  g1 := by kernel_rfl }
open Go.RowKit Go.Lib in
/-- strings.Index: "Index returns the index of the first instance of substr in s, or -1 if substr is not present in s.": AT A substr OF ONE BYTE c: IT RETURNS 'Lib.indexByte s c'; the world is as it was. (LAID: no walk: one application.) -/
theorem Tryz.strings_Index_one (s : ByteArray) (c : UInt8) (w : World) :
    Calls Tryz.prog 192 #[.string s, .string ⟨#[c]⟩] w fun e w' => e = .returned (.int .i64 (Lib.indexByte s.data.toList c)) ∧ w' = w := Any.strings_Index_one Tryz.lays143 s c w
open Go.RowKit Go.Lib in
def Tryz.laysM219_ren : Go.Shelf.Ren := ⟨fun | 219 => 203 | 217 => 207 | 225 => 208 | 224 => 209 | 267 => 210 | 266 => 211 | 314 => 212 | n => n, fun | 9 => 9 | 3 => 3 | 4 => 4 | 5 => 5 | 46 => 77 | 146 => 244 | 51 => 203 | n => n, fun | 1 => 30 | n => n⟩
open Go.RowKit Go.Lib in
def Tryz.laysM143_ren : Go.Shelf.Ren := ⟨fun | 143 => 192 | 219 => 203 | 217 => 207 | 225 => 208 | 224 => 209 | 267 => 210 | 266 => 211 | 314 => 212 | n => n, fun | 9 => 9 | 3 => 3 | 4 => 4 | 5 => 5 | 46 => 77 | 146 => 244 | 51 => 203 | n => n, fun | 1 => 30 | n => n⟩
open Go.RowKit Go.Lib in
def Tryz.lays197_ren : Go.Shelf.Ren := ⟨fun | 197 => 191 | 260 => 202 | n => n, fun | 9 => 9 | 21 => 21 | 3 => 3 | 4 => 4 | 5 => 5 | 105 => 228 | 119 => 224 | 0 => 0 | 46 => 77 | 139 => 227 | 138 => 226 | n => n, fun | 3 => 28 | 4 => 29 | n => n⟩
open Go.RowKit Go.Lib in
def Tryz.lays260_ren : Go.Shelf.Ren := ⟨fun | 260 => 202 | n => n, fun | 9 => 9 | 21 => 21 | 3 => 3 | 4 => 4 | 5 => 5 | 119 => 224 | 0 => 0 | 46 => 77 | 139 => 227 | 138 => 226 | n => n, fun | 3 => 28 | 4 => 29 | n => n⟩
end Go.Proofs

/-
  DERIVED: THE SHELF's CONTRACTS AT THIS DUMP, IN PLAIN WORDS (tools/lay-plain.mjs out of 'TryzShelfS.lean', which tools/lay-shelf.mjs wrote): THE SAME DECLARATIONS UNDER THE SAME NAMES: 'import', 'namespace', 'open', 'def', 'theorem' AND NOTHING ELSE: no command of the shelf's: FOR A HAND-IN. Each laying: the table of numbers ('.._ren') and one theorem, a field a fact of the dump's own or the kernel's comparison; each contract: ONE APPLICATION.
-/
namespace Go.Proofs
open Go.Shelf
def Tryz.sortB_ren : Go.Shelf.Ren := ⟨fun | 6 => 155 | 15 => 146 | 14 => 171 | 28 => 162 | 29 => 163 | 20 => 181 | 21 => 182 | 22 => 183 | 23 => 184 | 24 => 185 | 25 => 186 | 26 => 187 | 27 => 188 | 46 => 197 | 47 => 198 | 48 => 199 | 49 => 200 | 50 => 201 | 57 => 206 | n => n, fun | 22 => 56 | 24 => 26 | 25 => 185 | 3 => 3 | 39 => 77 | 0 => 0 | 53 => 203 | 55 => 165 | 4 => 4 | 46 => 218 | 45 => 217 | 50 => 169 | 5 => 5 | 9 => 9 | 66 => 233 | 70 => 237 | 76 => 241 | 77 => 87 | n => n, fun | n => n⟩
theorem Tryz.sortB : Go.Proofs.SlLaysF.n6 Tryz.prog Tryz.sortB_ren := {
  mixed := by kernel_rfl
  f6 := ⟨Tryz.f155.name, by decide, Tryz.func155.trans (congrArg some (by kernel_rfl))⟩
  f14 := ⟨Tryz.f171.name, by decide, Tryz.func171.trans (congrArg some (by kernel_rfl))⟩
  f15 := Tryz.func146.trans (congrArg some (by kernel_rfl))
  f20 := ⟨Tryz.f181.name, by decide, Tryz.func181.trans (congrArg some (by kernel_rfl))⟩
  f21 := ⟨Tryz.f182.name, by decide, Tryz.func182.trans (congrArg some (by kernel_rfl))⟩
  f22 := ⟨Tryz.f183.name, by decide, Tryz.func183.trans (congrArg some (by kernel_rfl))⟩
  f23 := ⟨Tryz.f184.name, by decide, Tryz.func184.trans (congrArg some (by kernel_rfl))⟩
  f24 := ⟨Tryz.f185.name, by decide, Tryz.func185.trans (congrArg some (by kernel_rfl))⟩
  f25 := ⟨Tryz.f186.name, by decide, Tryz.func186.trans (congrArg some (by kernel_rfl))⟩
  f26 := ⟨Tryz.f187.name, by decide, Tryz.func187.trans (congrArg some (by kernel_rfl))⟩
  f27 := ⟨Tryz.f188.name, by decide, Tryz.func188.trans (congrArg some (by kernel_rfl))⟩
  f28 := Tryz.func162.trans (congrArg some (by kernel_rfl))
  f29 := Tryz.func163.trans (congrArg some (by kernel_rfl))
  f46 := ⟨Tryz.f197.name, by decide, Tryz.func197.trans (congrArg some (by kernel_rfl))⟩
  f47 := Tryz.func198.trans (congrArg some (by kernel_rfl))
  f48 := Tryz.func199.trans (congrArg some (by kernel_rfl))
  f49 := ⟨Tryz.f200.name, by decide, Tryz.func200.trans (congrArg some (by kernel_rfl))⟩
  f50 := ⟨Tryz.f201.name, by decide, Tryz.func201.trans (congrArg some (by kernel_rfl))⟩
  f57 := ⟨Tryz.f206.name, by decide, Tryz.func206.trans (congrArg some (by kernel_rfl))⟩
  t0 := Tryz.underlying0
  a0 := Tryz.isAgg0
  z0 := Tryz.sizeOf0
  v0 := Tryz.zeroValue0
  t3 := Tryz.underlying3
  a3 := Tryz.isAgg3
  z3 := Tryz.sizeOf3
  v3 := Tryz.zeroValue3
  t4 := Tryz.underlying4
  a4 := Tryz.isAgg4
  z4 := Tryz.sizeOf4
  v4 := Tryz.zeroValue4
  t5 := Tryz.underlying5
  a5 := Tryz.isAgg5
  z5 := Tryz.sizeOf5
  v5 := Tryz.zeroValue5
  t9 := Tryz.underlying9
  a9 := Tryz.isAgg9
  z9 := Tryz.sizeOf9
  v9 := Tryz.zeroValue9
  t22 := Tryz.underlying56
  a22 := Tryz.isAgg56
  z22 := Tryz.sizeOf56
  v22 := Tryz.zeroValue56
  a24 := Tryz.isAgg26
  z24 := Tryz.sizeOf26
  t25 := Tryz.underlying185
  a25 := Tryz.isAgg185
  z25 := Tryz.sizeOf185
  v25 := Tryz.zeroValue185
  t39 := Tryz.underlying77
  a39 := Tryz.isAgg77
  z39 := Tryz.sizeOf77
  v39 := Tryz.zeroValue77
  t45 := Tryz.underlying217
  a45 := Tryz.isAgg217
  z45 := Tryz.sizeOf217
  v45 := Tryz.zeroValue217
  t46 := Tryz.underlying218
  a46 := Tryz.isAgg218
  z46 := Tryz.sizeOf218
  v46 := Tryz.zeroValue218
  t50 := Tryz.underlying169
  a50 := Tryz.isAgg169
  z50 := Tryz.sizeOf169
  v50 := Tryz.zeroValue169
  t53 := Tryz.underlying203
  a53 := Tryz.isAgg203
  z53 := Tryz.sizeOf203
  v53 := Tryz.zeroValue203
  t55 := Tryz.underlying165
  a55 := Tryz.isAgg165
  z55 := Tryz.sizeOf165
  v55 := Tryz.zeroValue165
  t66 := Tryz.underlying233
  a66 := Tryz.isAgg233
  z66 := Tryz.sizeOf233
  v66 := Tryz.zeroValue233
  t70 := Tryz.underlying237
  a70 := Tryz.isAgg237
  z70 := Tryz.sizeOf237
  v70 := Tryz.zeroValue237
  t76 := Tryz.underlying241
  a76 := Tryz.isAgg241
  z76 := Tryz.sizeOf241
  v76 := Tryz.zeroValue241
  t77 := Tryz.underlying87
  a77 := Tryz.isAgg87
  z77 := Tryz.sizeOf87
  v77 := Tryz.zeroValue87 }
end Go.Proofs

/- Chapter 7: rows of bytes, sorted: the program's way and the reference's. -/
namespace Go.Proofs.YtgnjjenalebiaaaGreatDoor
set_option linter.unusedVariables false
namespace Am
open Go.RowKit
set_option maxRecDepth 100000

theorem sort8_ac {gs : List Nat} (g : Option Nat) (ls : List (List UInt8)) (hl : ls.length ≤ 1000000000) : AC gs Tryz.prog 155 [(g, .blk ls.length (lbF ls))] [.os 0 g 0 ls.length 1, .c (.func (.func 148) #[] #[])] (fun r H' => r = .c (.tuple #[]) ∧ H' = [(g, .blk ls.length (lbF (sortL ls)))]) :=
  sort8_of (fun p cap fv w => AnyF.slices_SortFunc_none (P := Tryz.prog) (ρ := Tryz.sortB_ren) { Tryz.sortB with } p cap fv w)
    (fun m enc h1 cf hO blk cap d w hc hH hb hs => Any.slices_SortFunc (P := Tryz.prog) (ρ := Tryz.sortB_ren) Tryz.sortB enc h1 cf hO 148 #[] blk 0 cap d w (fun args W => run_enter (by kernel_rfl) args W) hc hH hb hs)
    (fun w v1 v2 l r h1 h2 => compare8_run h1 h2) g ls hl
theorem sumL_sort (ls : List (List UInt8)) : sumL (sortL ls) = sumL ls := ((sortL_perm ls).map List.length).sum_nat
theorem set_ac {gs : List Nat} (ls : List (List UInt8)) (hl : ls.length ≤ 1000000) (hs : sumL ls ≤ 10000000000) : ACp gs Tryz.prog 126 [lbC ls] (bsC (sortL ls).flatten) := by
  have hsl := sortL_length ls
  refine ac_of 10 Tryz.func126 rfl rfl rfl (fun al w0 F0 St0 => ?_)
  refine jcr ?_
  refine jq jrm ?_
  refine seq_nil ?_
  refine jcr ?_
  refine jq jrm ?_
  refine jqe (jecO (cloneL_ac ls hl) (fun p1 => ?_))
  refine jq jrm ?_
  refine seq_nil ?_
  refine jcr ?_
  refine jq jrm ?_
  refine jqm (jmcH 0 (sort8_ac p1 ls (by omega)) ?_)
  rintro _ _ ⟨rfl, rfl⟩
  refine ⟨_, _, rfl, CEnt.refl _, ?_⟩
  refine seq_nil ?_
  refine code_ent (freeze 0 rfl) ?_
  refine code_ent (thaw 3 (fun b _ => bsC ((sortL ls).getD b [])) rfl rfl (by omega) (fun a b ha hb => lb_thaw a b (by omega) hb)) ?_
  refine code_ent (weaken 3 (lbC (sortL ls)) (CEnt.rs hsl.symm fun i j _ _ => CEnt.refl _)) ?_
  refine jcr ?_
  refine jq jrm ?_
  refine jqe (jecP (concat8_ac (sortL ls) (by rw [sumL_sort]; exact hs) (by omega)) ?_)
  refine jq jrm ?_
  refine seq_nil ?_
  refine code_ret (jrt (hv := CEnt.refl _))
end Am
end Go.Proofs.YtgnjjenalebiaaaGreatDoor

/- Chapter 8: the writer: Open, Close, Done. -/
namespace Go.Proofs.YtgnjjenalebiaaaGreatDoor
set_option linter.unusedVariables false
namespace Am
variable {gs : List Nat} [Ok9 gs]
open Go.RowKit
set_option maxRecDepth 100000

theorem nilO8 : CEnt (.c (.slice none 0 0)) (.os 0 none 0 0 1) := fun al St w v h => ⟨rfl, h⟩
theorem know_os {G : Gh} {s : AS} (d : Nat) {i off n k : Nat} (hl : look s.env s.b d = .os i none off n k) : ∀ a w, Rel G s a w → n = 0 := fun a w ⟨St, hr⟩ => by
  have := evR hr (x := .tmp d) hl
  exact this.1
/-- bytes of its own, cloned -/
theorem cloneO_ac {gs : List Nat} (l : List UInt8) (g : Option Nat) (hl : l.length ≤ 100000000) : AC gs Tryz.prog 46 [(g, .blk l.length (byF l))] [.os 0 g 0 l.length 1] (fun r H' => r = bsC l ∧ H' = [(g, .blk l.length (byF l))]) := by
  refine ac_of 8 Tryz.func46 rfl rfl rfl (fun al w0 F0 St0 => ?_)
  refine jcr ?_
  refine jq jrm ?_
  refine seq_nil ?_
  refine jcs ?_
  refine jcr ?_
  refine jq jrm ?_
  refine jq (rd_eqSO rfl rfl rfl Tryz.underlying26) ?_
  refine seq_nil ?_
  refine jcc (fun h357 => ?_) fun h357 => ?_
  · obtain rfl : g = none := by cases g <;> simp at h357 ⊢
    refine code_knowG (know_os 0 rfl) fun hn => ?_
    refine jcr ?_
    refine jq jrm ?_
    refine seq_nil ?_
    refine code_ret (jtr ?_)
    exact end_ownV (.inl rfl) [0] (by decide) rfl (res_1 rfl (arv_tmp rfl)) (CEnt.nilS' hn) ⟨rfl, rfl⟩
  refine code_skip (jtn ?_)
  refine jcr ?_
  refine jqe (jebl 0 1 zr5 fun p1 => ?_)
  refine jq jrm ?_
  first | refine jqm (m_appendB (l := []) rfl rfl rfl (Nat.zero_le _) (fun j hj => absurd hj (Nat.not_lt_zero j)) (src_rs rfl) rfl (fun j hj => by simp only [Nat.div_one]; exact CEnt.refl _) Tryz.underlying26 nu26 sz5 zr5 by5 rfl (by first | omega | (simp; done) | (simp; omega) | (simp at *; omega)) (fun j hj => rfl) rfl rfl (fun p2 => ?_)) | refine jqm (m_appendB (l := []) rfl rfl rfl (Nat.zero_le _) (fun j hj => absurd hj (Nat.not_lt_zero j)) (src_str rfl) rfl (fun j hj => CEnt.refl _) Tryz.underlying26 nu26 sz5 zr5 by5 rfl (by first | omega | (simp; done) | (simp; omega) | (simp at *; omega)) (fun j hj => rfl) rfl rfl (fun p2 => ?_)) | refine jqm (m_appendB (l := []) rfl rfl rfl (Nat.zero_le _) (fun j hj => absurd hj (Nat.not_lt_zero j)) (src_os rfl (.inl rfl) (by omega)) rfl (fun j hj => by rw [Nat.zero_add]; exact CEnt.refl _) Tryz.underlying26 nu26 sz5 zr5 by5 rfl (by (simp; omega)) (fun j hj => rfl) rfl rfl (fun p2 => ?_))
  refine jq jrm ?_
  refine seq_nil ?_
  refine code_ent (freeze 1 rfl) ?_
  refine code_ent (thawB 2 ([] ++ l) rfl rfl (by rfl) rfl) ?_
  refine code_ret ?_
  exact end_ownV (.inl rfl) [0] (by decide) rfl (res_1 rfl (arv_tmp rfl)) (CEnt.bs (List.nil_append l)) ⟨rfl, rfl⟩
theorem body08_ac {gs : List Nat} (tag : Int) (ls : List (List UInt8)) (hl : ls.length ≤ 1000000) (hs : sumL ls ≤ 10000000000) : ACp gs Tryz.prog 83 [.agg 2 (fl [.c (.int .i64 tag), lbC ls])] (bsC (bodyF (tag, ls))) := by
  refine ac_of 12 Tryz.func83 rfl rfl rfl (fun al w0 F0 St0 => ?_)
  refine jcr ?_
  refine jqe (jebx 2 fun p1 => ?_)
  refine jq jrm ?_
  refine seq_nil ?_
  refine jcs ?_
  refine jcr ?_
  refine jq (jrfa 0 1 false) ?_
  refine jqo jrdo ?_
  refine jq jrc ?_
  refine seq_nil ?_
  refine jcc (fun h23 => ?_) fun h23 => ?_
  · refine jcr ?_
    refine jq (jrfa 1 1 false) ?_
    refine jqo jrdo ?_
    refine jqe (jecP (set_ac ls hl hs) ?_)
    refine jq jrm ?_
    refine seq_nil ?_
    refine code_ret (jtr (jrt (hv := CEnt.bs (by unfold bodyF; rw [if_pos h23]))))
  refine code_skip (jtn ?_)
  refine jcr ?_
  refine jq (jrfa 1 1 false) ?_
  refine jqo jrdo ?_
  refine jqe (jecP (concat8_ac ls hs hl) ?_)
  refine jq jrm ?_
  refine seq_nil ?_
  refine code_ret (jrt (hv := CEnt.bs (by unfold bodyF; rw [if_neg h23])))
theorem openW_ac (n : Nat) (s : W8) (tag : Int) (hs : OkW s) : AC gs Tryz.prog 42 [wrO n s] [.op 0 (some n) 0, .c (.int .i64 tag)] (fun r H' => r = .c (.tuple #[]) ∧ H' = [wrO n (openW tag s)]) := by
  have hsn := hs.n
  refine ac_of 40 Tryz.func42 rfl rfl rfl (fun al w0 F0 St0 => ?_)
  refine code_block ?_
  refine code_openW 0 rfl fun go gd zs hzs => ?_
  have hzl := fr_len hzs
  refine jcr ?_
  refine jq jrm ?_
  refine jq jrnc ?_
  refine jq (jrfa 2 1 false) ?_
  refine jqo jrdo ?_
  refine jq jre ?_
  refine jq jrm ?_
  refine seq_nil ?_
  refine jcc (fun h69 => ?_) fun h69 => ?_
  · refine code_skip (jbn ?_)
    have hP : openW tag s = s := by unfold openW; rw [if_pos (by omega)]
    rw [hP]
    exact end_pack (gd := fun z : WZ8 s.fr => z.1.1) (E := wrE s) (.inr rfl) _ ⟨(n, go, gd, zs), hzs⟩ [0, 1, 2, 3] (by decide) rfl (res_0 rfl) ⟨rfl, rfl⟩
  refine jcr ?_
  refine jq jrm ?_
  refine jqe (jecP (made_ac tag) ?_)
  refine jq jrn ?_
  refine jq jrm ?_
  refine seq_nil ?_
  refine jcc (fun h70 => ?_) fun h70 => ?_
  · refine jcg ?_
    refine jq jrm ?_
    refine jq (jrde 4) ?_
    refine jq jrnc ?_
    refine jq (jrfa 2 1 false) ?_
    refine jqm (jmstF 1 (wrB ⟨s.fr, s.d, 5⟩ 1 2 go gd) ?_ ?_)
    · exact (fun j hj => by rcases j with _ | _ | _ | j <;> exact CEnt.refl _)
    refine seq_nil ?_
    refine jbn ?_
    have hP : openW tag s = ⟨s.fr, s.d, 5⟩ := by unfold openW; rw [if_neg (by omega), if_pos (by simp [madeM] at h70 ⊢; omega)]
    rw [hP]
    exact end_pack (gd := fun z : WZ8 s.fr => z.1.1) (E := wrE ⟨s.fr, s.d, 5⟩) (.inr rfl) _ ⟨(n, go, gd, zs), hzs⟩ [0, 1, 2, 3] (by decide) rfl (res_0 rfl) ⟨rfl, rfl⟩
  refine jcr ?_
  refine jq jrm ?_
  refine jq jrnc ?_
  refine jq (jrfa 0 1 false) ?_
  refine jqo jrdo ?_
  refine jq jrl ?_
  refine jq jrc ?_
  refine jq jrm ?_
  refine seq_nil ?_
  refine jcc (fun h72 => ?_) fun h72 => ?_
  · refine jcg ?_
    refine jq jrm ?_
    refine jq (jrde 5) ?_
    refine jq jrnc ?_
    refine jq (jrfa 2 1 false) ?_
    refine jqm (jmstF 1 (wrB ⟨s.fr, s.d, 6⟩ 1 2 go gd) ?_ ?_)
    · exact (fun j hj => by rcases j with _ | _ | _ | j <;> exact CEnt.refl _)
    refine seq_nil ?_
    refine jbn ?_
    have hP : openW tag s = ⟨s.fr, s.d, 6⟩ := by unfold openW; rw [if_neg (by omega), if_neg (by simp [madeM] at h70 ⊢; omega), if_pos (by omega)]
    rw [hP]
    exact end_pack (gd := fun z : WZ8 s.fr => z.1.1) (E := wrE ⟨s.fr, s.d, 6⟩) (.inr rfl) _ ⟨(n, go, gd, zs), hzs⟩ [0, 1, 2, 3] (by decide) rfl (res_0 rfl) ⟨rfl, rfl⟩
  refine code_ent (ent_none (lbF [])) ?_
  refine code_ent (bag_push 3 4 rfl rfl rfl) ?_
  dsimp only [List.set_cons_zero, List.set_cons_succ, List.cons_append, List.nil_append, List.length_cons, List.length_nil, Nat.zero_add, Nat.reduceAdd]
  refine jcg ?_
  refine jq jrm ?_
  refine jq jrm ?_
  refine jq jrnc ?_
  refine jq (jrfa 0 1 false) ?_
  refine jqo jrdo ?_
  refine jq jrm ?_
  refine jq (rd_build (n := 2) rfl zr116 pl116 rfl rfl) ?_
  refine jqe (jebl 2 2 zr116 fun p1 => ?_)
  refine seq_ent (weakH 5 2 (rowF 2 frF frD [((tag, []), none)]) rfl (Nat.le_refl _) (fun j hj => by rcases j with _ | _ | j <;> first | exact CEnt.refl _ | exact nilO8 | omega)) ?_
  refine jqm (m_appendC (rowC_row 2 frF frD) (l := zs.reverse) (l2 := [((tag, []), none)]) rfl rfl (by simp [hzl]) rfl (by simp [hzl]) (fun _ _ => CEnt.refl _) (src_os rfl (.inl rfl) (by decide)) rfl (fun j hj => by rw [Nat.zero_add]; exact CEnt.refl _) Tryz.underlying25 nu25 sz116 zr116 by116 rfl (by simp; omega) (by simp; omega) (fun j hj => by rcases j with _ | _ | j <;> first | rfl | omega) rfl rfl rfl (fun p2 => ?_))
  refine jq jrnc ?_
  refine jq (jrfa 0 1 false) ?_
  refine jqm (jmstF 1 (wrB ⟨(tag, []) :: s.fr, s.d, s.k⟩ 1 2 p2 gd) ?_ ?_)
  · exact (fun j hj => by rcases j with _ | _ | _ | j <;> first | exact CEnt.osI (by simp [hzl]) | exact CEnt.refl _ | omega)
  refine seq_nil ?_
  refine jbn ?_
  have hP : openW tag s = ⟨(tag, []) :: s.fr, s.d, s.k⟩ := by unfold openW; rw [if_neg (by omega), if_neg (by simp [madeM] at h70 ⊢; omega), if_neg (by omega)]
  rw [hP]
  refine end_hr (H' := ?H2) ?hh ?hb
  case hh => intro _ _ _ _ _ hx; exact closeWh n ⟨(tag, []) :: s.fr, s.d, s.k⟩ (((tag, []), none) :: zs) 0 1 2 3 (by simp [hzs]) rfl rfl rfl rfl (by decide) (by exact CEnt.osI rfl) (by exact CEnt.osI rfl) (by exact CEnt.refl _) (by simp [hzl]) (fun a _ => by rw [List.reverse_cons]; exact CEnt.refl _) (Nat.le_refl _) (fun _ _ => CEnt.refl _) hx
  case hb => exact end_own (.inr rfl) _ [_] [0] (by decide) rfl (res_0 rfl) ⟨rfl, rfl⟩
theorem sum_perm {a b : List (List UInt8)} (h : a.Perm b) : sumL a = sumL b := by
  unfold sumL
  exact (h.map List.length).sum_nat
theorem bodyF_len (x : Int × List (List UInt8)) : (bodyF x).length = sumL x.2 := by
  unfold bodyF
  split
  · rw [flat_len]; exact sum_perm (sortL_perm _)
  · rw [flat_len]
theorem OkW.tail {x : Int × List (List UInt8)} {r : List (Int × List (List UInt8))} {s : W8} (h : OkW s) (hf : s.fr = x :: r) : OkW ⟨r, s.d, s.k⟩ := ⟨by have := h.n; rw [hf] at this; simp at this ⊢; omega, fun y hy => h.k y (by rw [hf]; exact List.mem_cons_of_mem _ hy), h.d⟩
theorem closeW_ac (n : Nat) (s : W8) (hs : OkW s) : AC gs Tryz.prog 43 [wrO n s] [.op 0 (some n) 0] (fun r H' => r = .c (.tuple #[]) ∧ H' = [wrO n (closeV s)]) := by
  have hsn := hs.n
  refine ac_of 45 Tryz.func43 rfl rfl rfl (fun al w0 F0 St0 => ?_)
  refine code_openW 0 rfl fun go gd zs hzs => ?_
  have hzl := fr_len hzs
  refine jcr ?_
  refine jq jrm ?_
  refine jq jrnc ?_
  refine jq (jrfa 0 1 false) ?_
  refine jqo jrdo ?_
  refine jq jrl ?_
  refine jq jra ?_
  refine jq jrm ?_
  refine seq_nil ?_
  refine code_block ?_
  refine jcr ?_
  refine jq jrm ?_
  refine jq jrnc ?_
  refine jq (jrfa 2 1 false) ?_
  refine jqo jrdo ?_
  refine jq jre ?_
  refine jq jrm ?_
  refine seq_nil ?_
  refine jcc (fun h83 => ?_) fun h83 => ?_
  · refine code_skip (jbn ?_)
    have hP : closeV s = s := by unfold closeV; rw [if_pos (by omega)]
    rw [hP]
    exact end_pack (gd := fun z : WZ8 s.fr => z.1.1) (E := wrE s) (.inr rfl) _ ⟨(n, go, gd, zs), hzs⟩ [0, 1, 2, 3] (by decide) rfl (res_0 rfl) ⟨rfl, rfl⟩
  refine jcr ?_
  refine jq jrm ?_
  refine jq jrc ?_
  refine jq jrm ?_
  refine seq_nil ?_
  refine jcc (fun h84 => ?_) fun h84 => ?_
  · refine jcg ?_
    refine jq jrm ?_
    refine jq (jrde 23) ?_
    refine jq jrnc ?_
    refine jq (jrfa 2 1 false) ?_
    refine jqm (jmstF 1 (wrB ⟨s.fr, s.d, 24⟩ 1 2 go gd) ?_ ?_)
    · exact (fun j hj => by rcases j with _ | _ | _ | j <;> exact CEnt.refl _)
    refine seq_nil ?_
    refine jbn ?_
    have hf0 : s.fr = [] := List.eq_nil_of_length_eq_zero (by omega)
    have hP : closeV s = ⟨s.fr, s.d, 24⟩ := by unfold closeV; rw [if_neg (by omega), hf0]
    rw [hP]
    exact end_pack (gd := fun z : WZ8 s.fr => z.1.1) (E := wrE ⟨s.fr, s.d, 24⟩) (.inr rfl) _ ⟨(n, go, gd, zs), hzs⟩ [0, 1, 2, 3] (by decide) rfl (res_0 rfl) ⟨rfl, rfl⟩
  obtain ⟨x, zr, rfl⟩ : ∃ x zr, zs = x :: zr := by
      cases zs with
      | nil => simp at hzl; omega
      | cons x zr => exact ⟨x, zr, rfl⟩
  have hfr : s.fr = x.1 :: zr.map Prod.fst := by rw [← hzs]; rfl
  have hxk := hs.k x.1 (by rw [hfr]; exact List.mem_cons_self)
  have hzl : s.fr.length = zr.length + 1 := by rw [← hzl]; rfl
  refine code_ent (bag_pop 3 rfl) ?_
  refine jcr ?_
  refine jq jrm ?_
  refine jq jrnc ?_
  refine jq (jrfa 0 1 false) ?_
  refine jqo jrdo ?_
  refine jq jrm ?_
  refine jq (jri (i := (s.fr.length - 1)) (hz := by omega)) ?_
  refine jqo (jrdoA 2) ?_
  refine seq_ent (freeze 4 rfl) ?_
  refine seq_ent (thawA 16 4 (fun a _ => bsC (x.1.2.getD a [])) (.c (.int .i64 x.1.1)) rfl rfl (by show CEnt (rowF 2 frF frD (x :: zr).reverse (0 + (s.fr.length - 1) * 2 + 0)) _; rw [top_at (by omega) hzl]; exact CEnt.refl _) (by show CEnt (rowF 2 frF frD (x :: zr).reverse (0 + (s.fr.length - 1) * 2 + 1)) _; rw [top_at (by omega) hzl]; exact CEnt.refl _) (by simp) (fun a b ha hb => by obtain rfl : b = 0 := (by omega); rw [Nat.zero_add, Nat.mul_one, Nat.add_zero]; exact CEnt.refl _)) ?_
  refine jqe (jeal (n := 2) zr116 rfl fun p1 => ?_)
  refine jqm (jmst 2 ?_)
  refine seq_nil ?_
  refine jcr ?_
  refine jq jrm ?_
  refine jq jrm ?_
  refine jq jrnc ?_
  refine jq (jrfa 0 1 false) ?_
  refine jqo jrdo ?_
  refine jq jrm ?_
  refine jq jrso ?_
  refine jq jrnc ?_
  refine jq (jrfa 0 1 false) ?_
  refine seq_ent (weakH 1 ((s.fr.length - 1) * 2) (rowF 2 frF frD zr.reverse) rfl (by omega) (fun j hj => by rw [row_low (by omega)]; exact CEnt.refl _)) ?_
  refine jqm (jmstF 1 (wrB ⟨zr.map Prod.fst, s.d, s.k⟩ 1 2 go gd) ?_ ?_)
  · exact (fun j hj => by rcases j with _ | _ | _ | j <;> first | exact CEnt.osI (by simp; omega) | exact CEnt.refl _ | omega)
  refine seq_nil ?_
  refine code_ent (closeW n ⟨zr.map Prod.fst, s.d, s.k⟩ zr 0 1 2 3 rfl rfl rfl rfl rfl (by decide) (CEnt.osI rfl) (CEnt.osI rfl) (CEnt.refl _) (by simp; omega) (fun _ _ => CEnt.refl _) (Nat.le_refl _) (fun _ _ => CEnt.refl _)) ?_
  dsimp only [List.set_cons_zero, List.set_cons_succ, List.cons_append, List.nil_append, List.length_cons, List.length_nil, Nat.zero_add, Nat.reduceAdd]
  refine code_ent (freeze 5 rfl) ?_
  refine code_ent (thawP 3 (m := 2) rfl rfl (by decide)) ?_
  have hto := hs.tail hfr
  refine jcdB 5 (.rd 0 (.rd 1 (.rd 2 (.rd 3 (.one 4 .done))))) ?_
  refine jyq jrm ?_
  refine jyq (jrfa 0 1 false) ?_
  refine jyq jrdr ?_
  refine jyq (jrdrA 2) ?_
  refine jye (jecP (body08_ac x.1.1 x.1.2 hxk.1 (by omega)) ?_)
  refine jyd ?_
  show ASeq _ _ _ _ _ _
  refine jqm (jmcH 0 (putW_ac n ⟨zr.map Prod.fst, s.d, s.k⟩ x.1.1 (bodyF x.1) 0 hto (by rw [bodyF_len]; exact hxk.2)) ?_)
  rintro _ _ ⟨rfl, rfl⟩
  refine ⟨_, _, rfl, CEnt.refl _, ?_⟩
  refine seq_nil ?_
  refine jbn ?_
  have hP : closeV s = putW x.1.1 (bodyF x.1) 0 ⟨zr.map Prod.fst, s.d, s.k⟩ := by unfold closeV; rw [if_neg (by omega), hfr]
  rw [hP]
  exact end_own (.inr rfl) _ [_] [0] (by decide) rfl (res_0 rfl) ⟨rfl, rfl⟩
end Am
end Go.Proofs.YtgnjjenalebiaaaGreatDoor

/- Chapter 4 in the abstract walk: figures and their numbers. -/
namespace Go.Proofs.YtgnjjenalebiaaaGreatDoor
set_option linter.unusedVariables false
namespace Am
variable {gs : List Nat} [Ok2 gs]
open Go.RowKit
set_option maxRecDepth 100000

theorem wser_ac {gs : List Nat} (N : Nat) (hN : N ≤ 9223372036854775807) : ACp gs Tryz.prog 168 [.c (.int .i64 (N : Nat))] (strC (dec N)) := by
  have hdl := dec_len 18 N (by omega)
  refine ac_of 28 Tryz.func168 rfl rfl rfl (fun al w0 F0 St0 => ?_)
  refine jcr ?_
  refine jq jrm ?_
  refine seq_nil ?_
  refine jcs ?_
  refine jcr ?_
  refine jq jrm ?_
  refine jq jrc ?_
  refine seq_nil ?_
  refine jcc (fun h84 => ?_) fun h84 => ?_
  · exfalso; omega
  refine code_skip (jtn ?_)
  refine jcr ?_
  refine jq jrm ?_
  refine jq jrr ?_
  refine jq jra ?_
  refine jq (jrv .i64 .u8) ?_
  refine jqe (jebl 1 1 zr5 fun p1 => ?_)
  refine jq jrm ?_
  refine seq_nil ?_
  refine jcs ?_
  refine jcr ?_
  refine jq jrm ?_
  refine jq jrq ?_
  refine jq jrm ?_
  refine seq_nil ?_
  refine code_block ?_
  refine l_loop (α := Nat × List UInt8 × Option Nat) [0, 3, 13, 14, 15, 16, 17, 18, 19, 20, 21, 22, 23] (fun (m, o, g) => [(0, .c (.int .i64 (m : Nat))), (3, .os 0 g 0 o.length 1)]) (fun (m, o, g) => [(g, .blk o.length (byF o))]) (fun (m, o, g) => m ≤ N ∧ dec N = (if m = 0 then [] else dec m) ++ o.reverse) (fun (m, o, g) => m) ((N / 10, [fig (N % 10)], p1)) ?_ (fun _ => rfl) ?_ ?_ ?_
  · exact ⟨Nat.div_le_self _ _, dec_first N⟩
  · exact .cons (CEnt.int (by omega)) (.cons (CEnt.refl _) .nil)
  · exact .blk rfl (fun j hj => fl_by (l2 := [fig (N % 10)]) (.cons (CEnt.int (fig_int N).symm) .nil) j hj) .nil
  · rintro ⟨m, o, g⟩ ⟨(hm : m ≤ N), hd⟩
    have ho : o.length ≤ 19 := by have := congrArg List.length hd; simp only [List.length_append, List.length_reverse] at this; omega
    refine jcs ?_
    refine jcr ?_
    refine jq jrm ?_
    refine jq jrc ?_
    refine seq_nil ?_
    refine jcc (fun h88 => ?_) fun h88 => ?_
    rotate_left
    · refine code_exit (jte (jte (jbx (jtn ?_))))
      refine jcr ?_
      refine jq jrm ?_
      refine jqm (jmcH 0 (reverse8_ac _ o (by omega)) ?_)
      rintro _ _ ⟨rfl, rfl⟩
      refine ⟨_, _, rfl, CEnt.refl _, ?_⟩
      refine seq_nil ?_
      refine jcr ?_
      refine jq jrm ?_
      refine jqo jrbo ?_
      refine jq jrm ?_
      refine seq_nil ?_
      refine code_ret (jrt (hv := ?_))
      refine CEnt.strL ?_
      rw [hd, if_pos (by omega)]
      rfl
    refine code_skip (jtn ?_)
    refine jcs ?_
    refine code_block ?_
    refine jcg ?_
    refine jq jrm ?_
    refine jq jrm ?_
    refine jq jrr ?_
    refine jq jra ?_
    refine jq (jrv .i64 .u8) ?_
    refine jqe (jebl 1 1 zr5 fun p2 => ?_)
    refine jqm (m_appendB (l2 := [fig (m % 10)]) rfl rfl rfl (Nat.le_refl _) (fun _ _ => CEnt.refl _) (src_os rfl (.inl rfl) (by decide)) rfl (hh_bytes (.cons (CEnt.int ((fig_int m).symm)) .nil)) Tryz.underlying26 nu26 sz5 zr5 by5 rfl (by (simp; omega)) (leaf_fl rfl rfl) rfl rfl (fun p3 => ?_))
    refine jq jrm ?_
    refine seq_nil ?_
    refine jbn (jtn ?_)
    refine jcg ?_
    refine jq jrm ?_
    refine jq jrq ?_
    refine jq jrm ?_
    refine seq_nil ?_
    refine jtn ?_
    refine jlend ((m / 10, o ++ [fig (m % 10)], p3)) ?_ ?_ (h5 := ?_)
    · exact ⟨by omega, by rw [hd]; exact dec_step (by omega) o⟩
    · show m / 10 < m; omega
    · exact .cons (CEnt.int (by omega)) (.cons (CEnt.refl _) .nil)
/-! ### figures -/
theorem isFig_of (c : UInt8) : isFig c = true ↔ 48 ≤ c.toNat ∧ c.toNat ≤ 57 := by simp [isFig]
theorem isFig_yes {c : UInt8} (h1 : 48 ≤ (c.toNat : Int)) (h2 : (c.toNat : Int) ≤ 57) : isFig c = true := (isFig_of c).2 ⟨by omega, by omega⟩
theorem isFig_no {c : UInt8} (h : (c.toNat : Int) < 48 ∨ 57 < (c.toNat : Int)) : isFig c = false := by
  cases e : isFig c with
  | false => rfl
  | true => have := (isFig_of c).1 e; omega
theorem take_figs {l : List UInt8} {i : Nat} (hi : i < l.length) (h : (l.take i).all isFig = true) (hc : isFig (l.getD i 0) = true) : (l.take (i + 1)).all isFig = true := by
  rw [take_snoc l i hi, List.all_append, h, List.all_cons, hc]
  rfl
theorem figM_bad {l : List UInt8} (h : l = [] ∨ (18 : Int) < (l.length : Nat) ∨ ((1 : Int) < (l.length : Nat) ∧ ((l.getD 0 0).toNat : Int) = 48) ∨ l.all isFig = false) : (figM l).1 = 0 ∧ (figM l).2 = 4 := by
  unfold figM
  rw [if_pos (by
    rcases h with h | h | h | h
    · exact .inl (by simp [h])
    · exact .inr (.inl (by omega))
    · exact .inr (.inr (.inl ⟨by omega, by omega⟩))
    · exact .inr (.inr (.inr h)))]
  exact ⟨rfl, rfl⟩
theorem figM_good {l : List UInt8} (h0 : l ≠ []) (h1 : ¬ (18 : Int) < (l.length : Nat)) (h2 : ¬ ((1 : Int) < (l.length : Nat) ∧ ((l.getD 0 0).toNat : Int) = 48)) (h3 : l.all isFig = true) : (figM l).1 = valD l ∧ (figM l).2 = 0 := by
  unfold figM
  rw [if_neg (by
    rintro (h | h | h | h)
    · exact h0 (List.eq_nil_of_length_eq_zero h)
    · exact h1 (by omega)
    · exact h2 ⟨by omega, by omega⟩
    · rw [h3] at h; cases h)]
  exact ⟨rfl, rfl⟩
theorem take_val {l : List UInt8} {i : Nat} (hi : i < l.length) : valD (l.take (i + 1)) = 10 * valD (l.take i) + ((l.getD i 0).toNat - 48) := by
  rw [take_snoc l i hi, valD_append]
theorem wfig_ac (l : List UInt8) : ACp gs Tryz.prog 159 [strC l] (.tup 2 (fl [.c (.int .i64 ((figM l).1 : Nat)), .err (figM l).2])) := by
  refine ac_of 48 Tryz.func159 rfl rfl rfl (fun al w0 F0 St0 => ?_)
  refine jcr ?_
  refine jq jrm ?_
  refine jq jrm ?_
  refine seq_nil ?_
  refine jcs ?_
  refine jcr ?_
  refine jq jrm ?_
  refine jq jrcs ?_
  refine jq jrm ?_
  refine jqsp 9 (fun g97 => ?_) fun g97 => ?_
  · refine jqs ?_
    refine jqs ?_
    refine jqs ?_
    refine jq jrpT ?_
    refine jq jrm ?_
    refine jqs ?_
    refine jqs ?_
    refine jqs ?_
    refine jqs ?_
    refine jqs ?_
    refine jqs ?_
    refine jqs ?_
    refine jqs ?_
    refine jq jrpT ?_
    refine seq_nil ?_
    refine jcT ?_
    refine jcs ?_
    refine jcd (.rd 0 (.rd 1 (.rd 2 .done))) ?_
    refine jyq (jrde 3) ?_
    refine jyq jrm ?_
    refine jyq jrm ?_
    refine jyd ?_
    refine jtn ?_
    refine code_ret (jtr (jrt (hv := ?_)))
    have hb := @figM_bad l (by (simp_all; done))
    exact CEnt.tup2 (CEnt.int (by rw [hb.1]; rfl)) (CEnt.errN hb.2)
  refine jq jrm ?_
  refine jq jrls ?_
  refine jq jrc ?_
  refine jq jrpF ?_
  refine jq jrm ?_
  refine jqsp 14 (fun g97_2 => ?_) fun g97_2 => ?_
  · refine jqs ?_
    refine jqs ?_
    refine jqs ?_
    refine jqs ?_
    refine jqs ?_
    refine jqs ?_
    refine jqs ?_
    refine jqs ?_
    refine jq jrpT ?_
    refine seq_nil ?_
    refine jcT ?_
    refine jcs ?_
    refine jcd (.rd 0 (.rd 1 (.rd 2 .done))) ?_
    refine jyq (jrde 3) ?_
    refine jyq jrm ?_
    refine jyq jrm ?_
    refine jyd ?_
    refine jtn ?_
    refine code_ret (jtr (jrt (hv := ?_)))
    have hb := @figM_bad l (by (simp_all; done))
    exact CEnt.tup2 (CEnt.int (by rw [hb.1]; rfl)) (CEnt.errN hb.2)
  refine jq jrm ?_
  refine jq jrls ?_
  refine jq jrc ?_
  refine jq jrm ?_
  refine jqsp 18 (fun g97_3 => ?_) fun g97_3 => ?_
  rotate_left
  · refine jqs ?_
    refine jqs ?_
    refine jqs ?_
    refine jq jrpF ?_
    refine jq jrpF ?_
    refine seq_nil ?_
    refine jcF ?_
    refine code_skip (jtn ?_)
    refine jcr ?_
    refine jq jrm ?_
    refine seq_nil ?_
    refine jcs ?_
    refine jcr ?_
    refine jq jrm ?_
    refine jq jrls ?_
    refine jq jrm ?_
    refine seq_nil ?_
    refine code_block ?_
    refine l_loop (α := Nat) [2, 3, 4, 5, 6, 27, 28, 29, 30, 31, 32, 33, 34, 35, 36, 37, 38, 39, 40, 41, 42, 43, 44, 45, 46] (fun i => [(4, .c (.int .i64 (valD (l.take i) : Nat))), (27, .c (.int .i64 (i : Nat)))]) (fun _ => []) (fun i => i ≤ l.length ∧ (l.take i).all isFig = true) (fun i => l.length - i) (0) ?_ (fun _ => rfl) ?_ ?_ ?_
    · exact ⟨Nat.zero_le _, rfl⟩
    · (repeat (first | exact EntE.nil | refine EntE.cons (CEnt.refl _) ?_ | refine EntE.cons (CEnt.int (by omega)) ?_))
    · (repeat (first | exact HEnt.nil | refine HEnt.same ?_ | refine HEnt.blk rfl (fun j hj => by rcases j with _|_|_|_|_|_|_|_|j <;> first | exact CEnt.refl _ | exact CEnt.int (by omega) | omega) ?_))
    · rintro i ⟨(hi : i ≤ l.length), hf⟩
      have hl18 : l.length ≤ 18 := by omega
      refine jcr ?_
      refine jq jrc ?_
      refine seq_nil ?_
      refine jcs ?_
      refine jcc (fun h101 => ?_) fun h101 => ?_
      rotate_left
      · refine code_exit (jte (jte (jbx (jtn ?_))))
        refine jcr ?_
        refine jq jrm ?_
        refine jq jrm ?_
        refine jq jrm ?_
        refine seq_nil ?_
        refine code_ret (jrt (hv := ?_))
        have hi2 : i = l.length := by omega
        rw [hi2, List.take_length] at hf
        have hb := figM_good (l := l) (by (simp_all; done)) (by (simp_all; done)) (by grind) hf
        exact CEnt.tup2 (CEnt.int (by rw [hb.1, hi2, List.take_length])) (CEnt.errN hb.2)
      refine code_skip (jtn ?_)
      refine jcs ?_
      refine code_block ?_
      refine jcr ?_
      refine jq jrm ?_
      refine jq jrm ?_
      refine seq_nil ?_
      have hv := valD_lt17 hf (by rw [List.length_take]; omega)
      refine jcr ?_
      refine jq jrm ?_
      refine jq jrm ?_
      refine jq jrix ?_
      refine jq jrm ?_
      refine seq_nil ?_
      refine jcs ?_
      refine jcr ?_
      refine jq jrm ?_
      refine jq jrc ?_
      refine jq jrm ?_
      refine jqsp 35 (fun g103 => ?_) fun g103 => ?_
      · refine jqs ?_
        refine jqs ?_
        refine jq jrpT ?_
        refine seq_nil ?_
        refine jcT ?_
        refine jcs ?_
        refine jcd (.rd 0 (.rd 1 (.rd 2 .done))) ?_
        refine jyq (jrde 3) ?_
        refine jyq jrm ?_
        refine jyq jrm ?_
        refine jyd ?_
        refine jtn ?_
        refine code_ret (jtr (jbr (jtr (jtr (jbr (jtr (jrt (hv := ?_))))))))
        have hb := @figM_bad l (.inr (.inr (.inr (all_of_bad (i := i) (by omega) (by exact isFig_no (.inl (by omega)))))))
        exact CEnt.tup2 (CEnt.int (by rw [hb.1]; rfl)) (CEnt.errN hb.2)
      refine jq jrm ?_
      refine jq jrc ?_
      refine jq jrpF ?_
      refine seq_nil ?_
      refine jcc (fun h103 => ?_) fun h103 => ?_
      · refine jcs ?_
        refine jcd (.rd 0 (.rd 1 (.rd 2 .done))) ?_
        refine jyq (jrde 3) ?_
        refine jyq jrm ?_
        refine jyq jrm ?_
        refine jyd ?_
        refine jtn ?_
        refine code_ret (jtr (jbr (jtr (jtr (jbr (jtr (jrt (hv := ?_))))))))
        have hb := @figM_bad l (.inr (.inr (.inr (all_of_bad (i := i) (by omega) (by exact isFig_no (.inr (by omega)))))))
        exact CEnt.tup2 (CEnt.int (by rw [hb.1]; rfl)) (CEnt.errN hb.2)
      refine code_skip (jtn ?_)
      refine jcg ?_
      refine jq jrm ?_
      refine jq jra ?_
      refine jq jrm ?_
      refine jq jra ?_
      refine jq (jrv .u8 .i64) ?_
      refine jq jra ?_
      refine jq jrm ?_
      refine seq_nil ?_
      refine jbn (jtn ?_)
      refine jcg ?_
      refine jq jra ?_
      refine jq jrm ?_
      refine seq_nil ?_
      refine jtn ?_
      refine jlend (i + 1) ?_ ?_ (h5 := ?_)
      · exact ⟨by omega, take_figs (by omega) hf (isFig_yes (by omega) (by omega))⟩
      · show l.length - (i + 1) < l.length - i; omega
      · exact .cons (CEnt.int (by rw [take_val (by omega)]; omega)) (.cons (CEnt.int (by omega)) .nil)
  refine jq jrm ?_
  refine jq (jrix (i := 0)) ?_
  refine jq jrc ?_
  refine jq jrpT ?_
  refine jq jrpF ?_
  refine seq_nil ?_
  refine jcc (fun h97 => ?_) fun h97 => ?_
  · refine jcs ?_
    refine jcd (.rd 0 (.rd 1 (.rd 2 .done))) ?_
    refine jyq (jrde 3) ?_
    refine jyq jrm ?_
    refine jyq jrm ?_
    refine jyd ?_
    refine jtn ?_
    refine code_ret (jtr (jrt (hv := ?_)))
    have hb := @figM_bad l (by (simp_all; done))
    exact CEnt.tup2 (CEnt.int (by rw [hb.1]; rfl)) (CEnt.errN hb.2)
  refine code_skip (jtn ?_)
  refine jcr ?_
  refine jq jrm ?_
  refine seq_nil ?_
  refine jcs ?_
  refine jcr ?_
  refine jq jrm ?_
  refine jq jrls ?_
  refine jq jrm ?_
  refine seq_nil ?_
  refine code_block ?_
  refine l_loop (α := Nat) [2, 3, 4, 5, 6, 27, 28, 29, 30, 31, 32, 33, 34, 35, 36, 37, 38, 39, 40, 41, 42, 43, 44, 45, 46] (fun i => [(4, .c (.int .i64 (valD (l.take i) : Nat))), (27, .c (.int .i64 (i : Nat)))]) (fun _ => []) (fun i => i ≤ l.length ∧ (l.take i).all isFig = true) (fun i => l.length - i) (0) ?_ (fun _ => rfl) ?_ ?_ ?_
  · exact ⟨Nat.zero_le _, rfl⟩
  · (repeat (first | exact EntE.nil | refine EntE.cons (CEnt.refl _) ?_ | refine EntE.cons (CEnt.int (by omega)) ?_))
  · (repeat (first | exact HEnt.nil | refine HEnt.same ?_ | refine HEnt.blk rfl (fun j hj => by rcases j with _|_|_|_|_|_|_|_|j <;> first | exact CEnt.refl _ | exact CEnt.int (by omega) | omega) ?_))
  · rintro i ⟨(hi : i ≤ l.length), hf⟩
    have hl18 : l.length ≤ 18 := by omega
    refine jcr ?_
    refine jq jrc ?_
    refine seq_nil ?_
    refine jcs ?_
    refine jcc (fun h101 => ?_) fun h101 => ?_
    rotate_left
    · refine code_exit (jte (jte (jbx (jtn ?_))))
      refine jcr ?_
      refine jq jrm ?_
      refine jq jrm ?_
      refine jq jrm ?_
      refine seq_nil ?_
      refine code_ret (jrt (hv := ?_))
      have hi2 : i = l.length := by omega
      rw [hi2, List.take_length] at hf
      have hb := figM_good (l := l) (by (simp_all; done)) (by (simp_all; done)) (by (simp_all; done)) hf
      exact CEnt.tup2 (CEnt.int (by rw [hb.1, hi2, List.take_length])) (CEnt.errN hb.2)
    refine code_skip (jtn ?_)
    refine jcs ?_
    refine code_block ?_
    refine jcr ?_
    refine jq jrm ?_
    refine jq jrm ?_
    refine seq_nil ?_
    have hv := valD_lt17 hf (by rw [List.length_take]; omega)
    refine jcr ?_
    refine jq jrm ?_
    refine jq jrm ?_
    refine jq jrix ?_
    refine jq jrm ?_
    refine seq_nil ?_
    refine jcs ?_
    refine jcr ?_
    refine jq jrm ?_
    refine jq jrc ?_
    refine jq jrm ?_
    refine jqsp 35 (fun g103 => ?_) fun g103 => ?_
    · refine jqs ?_
      refine jqs ?_
      refine jq jrpT ?_
      refine seq_nil ?_
      refine jcT ?_
      refine jcs ?_
      refine jcd (.rd 0 (.rd 1 (.rd 2 .done))) ?_
      refine jyq (jrde 3) ?_
      refine jyq jrm ?_
      refine jyq jrm ?_
      refine jyd ?_
      refine jtn ?_
      refine code_ret (jtr (jbr (jtr (jtr (jbr (jtr (jrt (hv := ?_))))))))
      have hb := @figM_bad l (.inr (.inr (.inr (all_of_bad (i := i) (by omega) (by exact isFig_no (.inl (by omega)))))))
      exact CEnt.tup2 (CEnt.int (by rw [hb.1]; rfl)) (CEnt.errN hb.2)
    refine jq jrm ?_
    refine jq jrc ?_
    refine jq jrpF ?_
    refine seq_nil ?_
    refine jcc (fun h103 => ?_) fun h103 => ?_
    · refine jcs ?_
      refine jcd (.rd 0 (.rd 1 (.rd 2 .done))) ?_
      refine jyq (jrde 3) ?_
      refine jyq jrm ?_
      refine jyq jrm ?_
      refine jyd ?_
      refine jtn ?_
      refine code_ret (jtr (jbr (jtr (jtr (jbr (jtr (jrt (hv := ?_))))))))
      have hb := @figM_bad l (.inr (.inr (.inr (all_of_bad (i := i) (by omega) (by exact isFig_no (.inr (by omega)))))))
      exact CEnt.tup2 (CEnt.int (by rw [hb.1]; rfl)) (CEnt.errN hb.2)
    refine code_skip (jtn ?_)
    refine jcg ?_
    refine jq jrm ?_
    refine jq jra ?_
    refine jq jrm ?_
    refine jq jra ?_
    refine jq (jrv .u8 .i64) ?_
    refine jq jra ?_
    refine jq jrm ?_
    refine seq_nil ?_
    refine jbn (jtn ?_)
    refine jcg ?_
    refine jq jra ?_
    refine jq jrm ?_
    refine seq_nil ?_
    refine jtn ?_
    refine jlend (i + 1) ?_ ?_ (h5 := ?_)
    · exact ⟨by omega, take_figs (by omega) hf (isFig_yes (by omega) (by omega))⟩
    · show l.length - (i + 1) < l.length - i; omega
    · exact .cons (CEnt.int (by rw [take_val (by omega)]; omega)) (.cons (CEnt.int (by omega)) .nil)
def figR (l : List UInt8) : Nat × Bool := if (figM l).2 = 0 then ((figM l).1, true) else (0, false)
end Am
end Go.Proofs.YtgnjjenalebiaaaGreatDoor

/- Chapter 5: identifiers: right, septets, number, the iterators, Parse. -/
namespace Go.Proofs.YtgnjjenalebiaaaGreatDoor
set_option linter.unusedVariables false
namespace Am
variable {gs : List Nat} [Ok2 gs]
open Go.RowKit
set_option maxRecDepth 100000

theorem i64idx_ac {gs : List Nat} {g : FuncId} {n : Nat} {fv : Nat → CV} (hc : calleeB Tryz.prog g = true) (l : List (Int)) (p : (Int) → Bool) (hp : ∀ r, ACp gs Tryz.prog g ((fun z : Int => .c (.int .i64 z)) r :: (List.range n).map fv) (.c (.bool (p r)))) :
    ACp gs Tryz.prog 193 [isC l, .fn g n fv] (.c (.int .i64 (firstI p l))) := by
  refine ac_len 0 rfl fun hlen => ?_
  refine ac_of 19 Tryz.func193 rfl rfl rfl (fun al w0 F0 St0 => ?_)
  refine jcr ?_
  refine jq jrm ?_
  refine seq_nil ?_
  refine jcs ?_
  refine jcr ?_
  refine jq jrm ?_
  refine jq jrl ?_
  refine jq jrm ?_
  refine seq_nil ?_
  refine code_block ?_
  refine l_loop (α := Nat) [4, 5, 8, 9, 10, 11, 12, 13, 14, 15, 16, 17, 18] (fun i => [(8, .c (.int .i64 (i : Nat)))]) (fun _ => []) (fun i => i ≤ l.length ∧ ∀ j (hj : j < l.length), j < i → p l[j] = false) (fun i => l.length - i) (0) ?_ (fun _ => rfl) ?_ ?_ ?_
  · exact ⟨by omega, fun j _ hj => absurd hj (Nat.not_lt_zero j)⟩
  · (repeat (first | exact EntE.nil | refine EntE.cons (CEnt.refl _) ?_ | refine EntE.cons (CEnt.int (by omega)) ?_))
  · (repeat (first | exact HEnt.nil | refine HEnt.same ?_ | refine HEnt.blk rfl (fun j hj => by rcases j with _|_|_|_|_|_|_|_|j <;> first | exact CEnt.refl _ | exact CEnt.int (by omega) | omega) ?_))
  · rintro i ⟨hi, he⟩
    refine jcr ?_
    refine jq jrc ?_
    refine seq_nil ?_
    refine jcs ?_
    refine jcc (fun h108 => ?_) fun h108 => ?_
    rotate_left
    · refine code_exit (jte (jte (jbx (jtn ?_))))
      refine jcr ?_
      refine jq jrm ?_
      refine seq_nil ?_
      refine code_ret (jrt (hv := ?_))
      refine CEnt.int ?_
      exact (firstI_none fun j hj => he j hj (by omega)).symm
    refine code_skip (jtn ?_)
    refine jcs ?_
    refine code_block ?_
    refine jcr ?_
    refine jq jrm ?_
    refine jq jrm ?_
    refine seq_nil ?_
    refine jcr ?_
    refine jq jrm ?_
    refine jq jrm ?_
    refine jq jrm ?_
    refine jq jri ?_
    refine jq jrdr ?_
    refine jqe (e_callV rfl rfl (by assumption) (hp (l.getD i 0)) (entL_fn (CEnt.refl _) _) rfl rfl ?_)
    rintro _ _ ⟨rfl, rfl⟩
    refine seq_nil ?_
    refine jcc (fun h109 => ?_) fun h109 => ?_
    · refine jcr ?_
      refine jq jrm ?_
      refine jq jrm ?_
      refine seq_nil ?_
      refine code_ret (jbr (jtr (jtr (jbr (jtr (jrt (hv := ?_)))))))
      refine CEnt.int ?_
      have hlt : i < l.length := by omega
      exact (firstI_at i hlt (by simpa [List.getD, hlt] using h109) (fun j hj => he j (by omega) hj)).symm
    refine code_skip (jbn (jtn ?_))
    refine jcg ?_
    refine jq jra ?_
    refine jq jrm ?_
    refine seq_nil ?_
    refine jtn ?_
    refine jlend (i + 1) ?_ ?_
    · exact ⟨by omega, fun j hj hj1 => by
        by_cases e : j = i
        · subst e
          simpa [List.getD, hj] using h109
        · exact he j hj (by omega)⟩
    · omega
theorem i64has_ac {gs : List Nat} {g : FuncId} {n : Nat} {fv : Nat → CV} (hc : calleeB Tryz.prog g = true) (l : List (Int)) (p : (Int) → Bool) (hp : ∀ r, ACp gs Tryz.prog g ((fun z : Int => .c (.int .i64 z)) r :: (List.range n).map fv) (.c (.bool (p r)))) :
    ACp gs Tryz.prog 174 [isC l, .fn g n fv] (.c (.bool (l.any p))) := by
  refine ac_of 9 Tryz.func174 rfl rfl rfl (fun al w0 F0 St0 => ?_)
  refine jcr ?_
  refine jq jrm ?_
  refine seq_nil ?_
  refine jcr ?_
  refine jq jrm ?_
  refine jq jrm ?_
  refine jqe (jecP (i64idx_ac hc l p hp) ?_)
  refine jq jrc ?_
  refine jq jrm ?_
  refine seq_nil ?_
  refine code_ret (jrt (hv := ?_))
  refine CEnt.bool ?_
  exact firstI_any p l
def outA (n : Int) : Bool := decide (n < 0) || decide (2147483647 < n)
theorem out_ac {gs : List Nat} (n : Int) : ACp gs Tryz.prog 175 (.c (.int .i64 n) :: (List.range 0).map fun _ => .top) (.c (.bool (outA n))) := by
  refine ac_of 9 Tryz.func175 rfl rfl rfl (fun al w0 F0 St0 => ?_)
  refine jcr ?_
  refine jq jrm ?_
  refine seq_nil ?_
  refine jcr ?_
  refine jq jrm ?_
  refine jq jrc ?_
  refine jq jrm ?_
  refine jqsp 5 (fun g25 => ?_) fun g25 => ?_
  · refine jqs ?_
    refine jqs ?_
    refine jq jrpT ?_
    refine jq jrm ?_
    refine seq_nil ?_
    refine code_ret (jrt (hv := ?_))
    refine CEnt.bool ?_
    unfold outA
    (simp_all; done)
  refine jq jrm ?_
  refine jq jrc ?_
  refine jq jrpF ?_
  refine jq jrm ?_
  refine seq_nil ?_
  refine code_ret (jrt (hv := ?_))
  refine CEnt.bool ?_
  unfold outA
  (simp_all; omega)
theorem right_out (l : List Int) : (!l.any outA) = l.all (fun n => decide (0 ≤ n) && decide (n ≤ 2147483647)) := by
  rw [← all_not_any]
  congr 2
  funext n
  unfold outA
  by_cases h1 : n < 0 <;> by_cases h2 : 2147483647 < n <;> simp [h1, h2] <;> omega
theorem oright_ac {gs : List Nat} (l : List Int) : ACp gs Tryz.prog 160 [isC l] (.c (.bool (rightA l))) := by
  refine ac_len 0 rfl fun hlen => ?_
  refine ac_of 34 Tryz.func160 rfl rfl rfl (fun al w0 F0 St0 => ?_)
  refine jcr ?_
  refine jq jrm ?_
  refine seq_nil ?_
  refine jcs ?_
  refine jcr ?_
  refine jq jrm ?_
  refine jq jrl ?_
  refine jq jrc ?_
  refine jq jrm ?_
  refine jqsp 7 (fun g22 => ?_) fun g22 => ?_
  · refine jqs ?_
    refine jqs ?_
    refine jqs ?_
    refine jq jrpT ?_
    refine seq_nil ?_
    refine jcT ?_
    refine jcr ?_
    refine jq jrm ?_
    refine seq_nil ?_
    refine code_ret (jtr (jrt (hv := ?_)))
    refine CEnt.bool ?_
    unfold rightA
    rw [← right_out]
    (simp_all; omega)
  refine jq jrm ?_
  refine jq jrl ?_
  refine jq jrc ?_
  refine jq jrpF ?_
  refine seq_nil ?_
  refine jcc (fun h22 => ?_) fun h22 => ?_
  · refine jcr ?_
    refine jq jrm ?_
    refine seq_nil ?_
    refine code_ret (jtr (jrt (hv := ?_)))
    refine CEnt.bool ?_
    unfold rightA
    rw [← right_out]
    (simp_all; omega)
  refine code_skip (jtn ?_)
  refine jcr ?_
  refine jq jrm ?_
  refine jqe (jecP (i64has_ac (n := 0) (fv := fun _ => .top) (by kernel_rfl) l outA out_ac) ?_ (ho := rfl) (he := (.cons (se rfl (CEnt.refl _)) (.cons (se rfl CEnt.fn0) .nil))))
  refine jq jrm ?_
  refine seq_nil ?_
  refine jcr ?_
  refine jq jrm ?_
  refine jq jrn ?_
  refine jq jrm ?_
  refine jqsp 16 (fun g26 => ?_) fun g26 => ?_
  rotate_left
  · refine jqs ?_
    refine jqs ?_
    refine jqs ?_
    refine jqs ?_
    refine jq jrpF ?_
    refine jq jrm ?_
    refine jqs ?_
    refine jqs ?_
    refine jqs ?_
    refine jqs ?_
    refine jqs ?_
    refine jqs ?_
    refine jqs ?_
    refine jqs ?_
    refine jqs ?_
    refine jqs ?_
    refine jq jrpF ?_
    refine jq jrm ?_
    refine seq_nil ?_
    refine code_ret (jrt (hv := ?_))
    refine CEnt.bool ?_
    unfold rightA
    rw [← right_out]
    grind
  refine jq jrm ?_
  refine jq (jri (i := 0)) ?_
  refine jq jrdr ?_
  refine jq jrc ?_
  refine jq jrpT ?_
  refine jq jrm ?_
  refine jqsp 22 (fun g26_2 => ?_) fun g26_2 => ?_
  rotate_left
  · refine jqs ?_
    refine jqs ?_
    refine jqs ?_
    refine jqs ?_
    refine jqs ?_
    refine jqs ?_
    refine jqs ?_
    refine jqs ?_
    refine jqs ?_
    refine jqs ?_
    refine jq jrpF ?_
    refine jq jrm ?_
    refine seq_nil ?_
    refine code_ret (jrt (hv := ?_))
    refine CEnt.bool ?_
    unfold rightA
    rw [← right_out]
    (simp_all; omega)
  refine jq jrm ?_
  refine jq (jri (i := 0)) ?_
  refine jq jrdr ?_
  refine jq jrc ?_
  refine jq jrm ?_
  refine jqsp 27 (fun g26_3 => ?_) fun g26_3 => ?_
  · refine jqs ?_
    refine jqs ?_
    refine jqs ?_
    refine jqs ?_
    refine jq jrpT ?_
    refine jq jrpT ?_
    refine jq jrm ?_
    refine seq_nil ?_
    refine code_ret (jrt (hv := ?_))
    refine CEnt.bool ?_
    unfold rightA
    rw [← right_out]
    (simp_all; omega)
  refine jq jrm ?_
  refine jq (jri (i := 1)) ?_
  refine jq jrdr ?_
  refine jq jrc ?_
  refine jq jrpF ?_
  refine jq jrpT ?_
  refine jq jrm ?_
  refine seq_nil ?_
  refine code_ret (jrt (hv := ?_))
  refine CEnt.bool ?_
  unfold rightA
  rw [← right_out]
  (simp_all; omega)
end Am
end Go.Proofs.YtgnjjenalebiaaaGreatDoor

/- Chapter 5: septets, number; the parts of a text, one by one; Parse. -/
namespace Go.Proofs.YtgnjjenalebiaaaGreatDoor
set_option linter.unusedVariables false
namespace Am
variable {gs : List Nat} [Ok2 gs]
open Go.RowKit
set_option maxRecDepth 100000

/-! ### numbers of seven bits a byte -/
theorem sep_int (n : Nat) : (((UInt8.ofNat (n % 128)).toNat : Nat) : Int) = (n : Int) % 128 := by
  rw [UInt8.toNat_ofNat']; omega
theorem sep_int2 (n : Nat) : (((UInt8.ofNat (n % 128 + 128)).toNat : Nat) : Int) = (n : Int) % 128 + 128 := by
  rw [UInt8.toNat_ofNat']; omega
theorem septets_ac {gs : List Nat} (N : Nat) (hN : N < 34359738368) : AC gs Tryz.prog 142 [] [.c (.int .i64 (N : Nat))] (OwnQ (sepL N).length 1 (sepL N).length (byF (sepL N))) := by
  have hlen := sepL_len hN
  refine ac_of 24 Tryz.func142 rfl rfl rfl (fun al w0 F0 St0 => ?_)
  refine jcr ?_
  refine jq jrm ?_
  refine seq_nil ?_
  refine jcr ?_
  refine jq jrm ?_
  refine jq jrr ?_
  refine jq (jrv .i64 .u8) ?_
  refine jqe (jebl 1 1 zr5 fun p1 => ?_)
  refine jq jrm ?_
  refine seq_nil ?_
  refine jcs ?_
  refine jcr ?_
  refine jq jrm ?_
  refine jq jrq ?_
  refine jq jrm ?_
  refine seq_nil ?_
  refine code_block ?_
  refine l_loop (α := Nat × List UInt8 × Option Nat) [0, 3, 10, 11, 12, 13, 14, 15, 16, 17, 18, 19, 20] (fun (m, o, g) => [(0, .c (.int .i64 (m : Nat))), (3, .os 0 g 0 o.length 1)]) (fun (m, o, g) => [(g, .blk o.length (byF o))]) (fun (m, o, g) => m ≤ N ∧ sepL N = sepHi m ++ o.reverse ∧ 0 < o.length) (fun (m, o, g) => m) ((N / 128, [UInt8.ofNat (N % 128)], p1)) ?_ (fun _ => rfl) ?_ ?_ ?_
  · exact ⟨Nat.div_le_self _ _, rfl, Nat.one_pos⟩
  · exact .cons (CEnt.int (by omega)) (.cons (CEnt.refl _) .nil)
  · exact .blk rfl (fun j hj => fl_by (l2 := [UInt8.ofNat (N % 128)]) (.cons (CEnt.int (sep_int N).symm) .nil) j hj) .nil
  · rintro ⟨m, o, g⟩ ⟨(hm : m ≤ N), hd, ho0⟩
    have ho : o.length ≤ 5 := by have := congrArg List.length hd; simp only [List.length_append, List.length_reverse] at this; omega
    refine jcs ?_
    refine jcr ?_
    refine jq jrm ?_
    refine jq jrc ?_
    refine seq_nil ?_
    refine jcc (fun h60 => ?_) fun h60 => ?_
    rotate_left
    · refine code_exit (jte (jte (jbx (jtn ?_))))
      have hm0 : m = 0 := by omega
      rw [hm0, sepHi_zero, List.nil_append] at hd
      refine jcr ?_
      refine jq jrm ?_
      refine jqm (jmcH 0 (reverse8_ac _ o (by omega)) ?_)
      rintro _ _ ⟨rfl, rfl⟩
      refine ⟨_, _, rfl, CEnt.refl _, ?_⟩
      refine seq_nil ?_
      refine jcr ?_
      refine jq jrm ?_
      refine jq jrm ?_
      refine seq_nil ?_
      refine code_ret ?_
      exact end_O 0 (.inl rfl) (res_1 rfl (arv_tmp rfl)) rfl (by rw [hd, List.length_reverse]) (by rw [hd]; exact Nat.le_refl _) (fun _ => by rw [hd]) (fun j hj => by rw [hd]; exact CEnt.refl _)
    refine code_skip (jtn ?_)
    refine jcs ?_
    refine code_block ?_
    refine jcg ?_
    refine jq jrm ?_
    refine jq jrm ?_
    refine jq jrr ?_
    refine jq jra ?_
    refine jq (jrv .i64 .u8) ?_
    refine jqe (jebl 1 1 zr5 fun p2 => ?_)
    refine jqm (m_appendB (l2 := [UInt8.ofNat (m % 128 + 128)]) rfl rfl rfl (Nat.le_refl _) (fun _ _ => CEnt.refl _) (src_os rfl (.inl rfl) (by decide)) rfl (hh_bytes (.cons (CEnt.int ((sep_int2 m).symm)) .nil)) Tryz.underlying26 nu26 sz5 zr5 by5 rfl (by (simp; omega)) (leaf_fl rfl rfl) rfl rfl (fun p3 => ?_))
    refine jq jrm ?_
    refine seq_nil ?_
    refine jbn (jtn ?_)
    refine jcg ?_
    refine jq jrm ?_
    refine jq jrq ?_
    refine jq jrm ?_
    refine seq_nil ?_
    refine jtn ?_
    refine jlend ((m / 128, o ++ [UInt8.ofNat (m % 128 + 128)], p3)) ?_ ?_ (h5 := ?_)
    · exact ⟨by omega, by rw [hd, sepHi_pos (show m ≠ 0 by omega), List.reverse_append, List.append_assoc]; rfl, by simp⟩
    · show m / 128 < m; omega
    · exact .cons (CEnt.int (by omega)) (.cons (CEnt.refl _) .nil)
theorem snoc7 {l : List UInt8} {i : Nat} (h : i < l.length) : valSO (l.take (i + 1)) = valSO (l.take i) * 128 + (l.getD i 0).toNat % 128 := by
  rw [List.take_succ_eq_append_getElem h, valSO_snoc]
  simp [List.getD, h]
theorem valS_le {l : List UInt8} (i : Nat) : valSO (l.take i) ≤ valSO l := by
  have key : ∀ (r : List UInt8) (a : List UInt8), valSO a ≤ valSO (a ++ r) := by
    intro r
    induction r with
    | nil => simp
    | cons c r ih =>
      intro a
      have h1 := ih (a ++ [c])
      rw [valSO_snoc] at h1
      rw [show a ++ c :: r = a ++ [c] ++ r by simp]
      have : valSO a ≤ valSO a * 128 := by omega
      omega
  have := key (l.drop i) (l.take i)
  rwa [List.take_append_drop] at this
theorem numM_pos {r : List UInt8} {most : Nat} {x : Nat × Nat} (h : numM r most = x) : (numM r most).1 = x.1 ∧ (numM r most).2 = x.2 := by rw [h]; exact ⟨rfl, rfl⟩
theorem number_ac {gs : List Nat} [Ok9 gs] (r : List UInt8) (most : Nat) (hr : 0 < r.length) (hm : most ≤ 9999999999) : ACp gs Tryz.prog 150 [bsC r, .c (.int .i64 (most : Nat))] (.tup 2 (fl [.c (.int .i64 ((numM r most).1 : Nat)), .err (numM r most).2])) := by
  refine ac_len 0 rfl fun hlen => ?_
  refine ac_of 42 Tryz.func150 rfl rfl rfl (fun al w0 F0 St0 => ?_)
  refine jcr ?_
  refine jq jrm ?_
  refine jq jrm ?_
  refine seq_nil ?_
  refine jcs ?_
  refine code_block ?_
  refine jcr ?_
  refine jq jrm ?_
  refine jq jrm ?_
  refine jq jrl ?_
  refine jq jra ?_
  refine jq (jri (i := (r.length - 1)) (hz := by omega)) ?_
  refine jq jrdr ?_
  refine jq jrc ?_
  refine jq jrm ?_
  refine seq_nil ?_
  refine jcc (fun h99 => ?_) fun h99 => ?_
  · refine jcs ?_
    refine jcd (.rd 0 (.rd 1 (.rd 2 .done))) ?_
    refine jyq (jrde 1) ?_
    refine jyq jrm ?_
    refine jyq jrm ?_
    refine jyd ?_
    refine jtn ?_
    refine code_ret (jbr (jtr (jrt (hv := ?_))))
    have hb := numM_pos (r := r) (most := most) (x := (0, 2)) (by unfold numM; rw [if_pos (by omega)])
    exact CEnt.tup2 (CEnt.int (by rw [hb.1]; rfl)) (CEnt.errN hb.2)
  refine jcr ?_
  refine jq jrm ?_
  refine jq (jri (i := 0)) ?_
  refine jq jrdr ?_
  refine jq jrc ?_
  refine jq jrm ?_
  refine seq_nil ?_
  refine jcc (fun h101 => ?_) fun h101 => ?_
  · refine jcs ?_
    refine jcd (.rd 0 (.rd 1 (.rd 2 .done))) ?_
    refine jyq (jrde 3) ?_
    refine jyq jrm ?_
    refine jyq jrm ?_
    refine jyd ?_
    refine jtn ?_
    refine code_ret (jbr (jtr (jrt (hv := ?_))))
    have hb := numM_pos (r := r) (most := most) (x := (0, 4)) (by unfold numM; rw [if_neg (by omega), if_pos (by omega)])
    exact CEnt.tup2 (CEnt.int (by rw [hb.1]; rfl)) (CEnt.errN hb.2)
  refine code_skip (jbn (jtn ?_))
  refine jcr ?_
  refine jq jrm ?_
  refine seq_nil ?_
  refine jcs ?_
  refine jcr ?_
  refine jq jrm ?_
  refine jq jrl ?_
  refine jq jrm ?_
  refine seq_nil ?_
  refine code_block ?_
  refine l_loop (α := Nat) [4, 5, 6, 8, 26, 27, 28, 29, 30, 31, 32, 33, 34, 35, 36, 37, 38, 39, 40] (fun i => [(6, .c (.int .i64 (valSO (r.take i) : Nat))), (26, .c (.int .i64 (i : Nat)))]) (fun _ => []) (fun i => i ≤ r.length ∧ valSO (r.take i) ≤ most) (fun i => r.length - i) (0) ?_ (fun _ => rfl) ?_ ?_ ?_
  · exact ⟨Nat.zero_le _, by simp [valSO]⟩
  · (repeat (first | exact EntE.nil | refine EntE.cons (CEnt.refl _) ?_ | refine EntE.cons (CEnt.int (by omega)) ?_))
  · (repeat (first | exact HEnt.nil | refine HEnt.same ?_ | refine HEnt.blk rfl (fun j hj => by rcases j with _|_|_|_|_|_|_|_|j <;> first | exact CEnt.refl _ | exact CEnt.int (by omega) | omega) ?_))
  · rintro i ⟨(hi : i ≤ r.length), hv⟩
    refine jcr ?_
    refine jq jrc ?_
    refine seq_nil ?_
    refine jcs ?_
    refine jcc (fun h105 => ?_) fun h105 => ?_
    rotate_left
    · refine code_exit (jte (jte (jbx (jtn ?_))))
      refine jcr ?_
      refine jq jrm ?_
      refine jq jrm ?_
      refine jq jrm ?_
      refine seq_nil ?_
      refine code_ret (jrt (hv := ?_))
      have hi2 : i = r.length := by omega
      rw [hi2, List.take_length] at hv
      have hb := numM_pos (r := r) (most := most) (x := (valSO r, 0)) (by unfold numM; rw [if_neg (by omega), if_neg (by omega), if_neg (by omega)])
      exact CEnt.tup2 (CEnt.int (by rw [hb.1, hi2, List.take_length])) (CEnt.errN hb.2)
    refine code_skip (jtn ?_)
    refine jcs ?_
    refine code_block ?_
    refine jcr ?_
    refine jq jri ?_
    refine jq jrdr ?_
    refine jq jrm ?_
    refine seq_nil ?_
    refine jcr ?_
    refine jq jrm ?_
    refine jq jra ?_
    refine jq jrm ?_
    refine jq jrr ?_
    refine jq (jrv .u8 .i64) ?_
    refine jq jra ?_
    refine jq jrm ?_
    refine seq_nil ?_
    refine jcr ?_
    refine jq jrm ?_
    refine jq jrm ?_
    refine jq jrc ?_
    refine seq_nil ?_
    refine jcc (fun h107 => ?_) fun h107 => ?_
    rotate_left
    · refine code_skip (jbn (jtn ?_))
      refine jcg ?_
      refine jq jra ?_
      refine jq jrm ?_
      refine seq_nil ?_
      refine jtn ?_
      refine jlend (i + 1) ?_ ?_ (h5 := ?_)
      · exact ⟨by omega, by rw [snoc7 (by omega)]; omega⟩
      · show r.length - (i + 1) < r.length - i; omega
      · exact .cons (CEnt.int (by rw [snoc7 (by omega)]; omega)) (.cons (CEnt.int (by omega)) .nil)
    refine jcs ?_
    refine jcd (.rd 0 (.rd 1 (.rd 2 .done))) ?_
    refine jyq (jrde 0) ?_
    refine jyq jrm ?_
    refine jyq jrm ?_
    refine jyd ?_
    refine jtn ?_
    refine code_ret (jbr (jtr (jtr (jbr (jtr (jrt (hv := ?_)))))))
    have h9 := snoc7 (l := r) (i := i) (by omega)
    have h8 := valS_le (l := r) (i + 1)
    have hb := numM_pos (r := r) (most := most) (x := (0, 1)) (by unfold numM; rw [if_neg (by omega), if_neg (by omega), if_pos (by omega)])
    exact CEnt.tup2 (CEnt.int (by rw [hb.1]; rfl)) (CEnt.errN hb.2)

/-! ### the parts of a text -/
theorem index1_ac {gs : List Nat} (a : List UInt8) (c : UInt8) : ACp gs Tryz.prog 192 [strC a, strC [c]] (.c (.int .i64 (Lib.indexByte a c))) :=
  ac_old fun al w St vals hs hv hr => by
    rw [vals2 hv, show vals.getD 0 undef = .string ⟨a.toArray⟩ from hr 0, show vals.getD 1 undef = .string ⟨#[c]⟩ from hr 1]
    exact (Tryz.strings_Index_one _ _ w).mono (by rintro e w' ⟨rfl, rfl⟩; exact ⟨by simp, Below.refl _ _⟩)
theorem idx_cut (c : UInt8) : ∀ l : List UInt8, (Lib.indexByte l c < 0 ∧ splitC c l = [l]) ∨ ∃ p r, l = p ++ c :: r ∧ Lib.indexByte l c = (p.length : Nat) ∧ splitC c l = p :: splitC c r
  | [] => .inl ⟨by simp [Lib.indexByte], rfl⟩
  | x :: l => by
    by_cases hx : x = c
    · subst hx
      refine .inr ⟨[], l, rfl, ?_, ?_⟩
      · simp [Lib.indexByte]
      · simp [splitC]
    · rcases idx_cut c l with ⟨h1, h2⟩ | ⟨p, r, h1, h2, h3⟩
      · refine .inl ⟨?_, ?_⟩
        · have := Lib.indexByte_ge l c
          have e : Lib.indexByte l c = -1 := by omega
          simp [Lib.indexByte, hx, e]
        · rw [splitC, if_neg hx, h2]; rfl
      · refine .inr ⟨x :: p, r, by rw [h1]; rfl, ?_, ?_⟩
        · have e : ¬ Lib.indexByte l c = -1 := by omega
          simp [Lib.indexByte, hx, h2]; try omega
        · rw [splitC, if_neg hx, h3]; rfl
/-- what strings.splitSeq hands out: the closure, and the box of what is left -/
def seqF (f : FuncId) (c : UInt8) (g : Option Nat) : CV := .fn f 3 (fl [.rp 1 fun _ => strC [c], .op 0 g 0, .rp 1 fun _ => .c (.int .i64 0)])
theorem split_ac {gs : List Nat} (s : List UInt8) (c : UInt8) : AC gs Tryz.prog 173 [] [strC s, strC [c], .c (.int .i64 0)] (fun r H' => ∃ g, r = seqF 190 c g ∧ H' = [(g, .blk 1 (fun _ => strC s))]) := by
  refine ac_of 8 Tryz.func173 rfl rfl rfl (fun al w0 F0 St0 => ?_)
  refine jcr ?_
  refine jqe (jebx 1 fun p1 => ?_)
  refine jqe (jebx 1 fun p2 => ?_)
  refine jqe (jebx 1 fun p3 => ?_)
  refine jq jrm ?_
  refine seq_nil ?_
  refine code_ent (freeze 1 rfl) ?_
  refine code_ent (freeze 2 rfl) ?_
  refine code_ent (thawP (m := 1) 4 rfl rfl (by decide)) ?_
  refine code_ent (thawP (m := 1) 5 rfl rfl (by decide)) ?_
  refine code_ent (blk_ent 0 (m := 1) (F := fun _ => strC s) rfl (Nat.le_refl _) (fun _ => rfl) (fun j hj => by obtain rfl : j = 0 := (by omega); exact CEnt.refl _)) ?_
  refine jcr ?_
  refine jq jrmf ?_
  refine jq jrm ?_
  refine seq_nil ?_
  refine code_ret ?_
  exact end_own (.inl rfl) (seqF 190 c p1) _ [0] (by decide) rfl ((res_1 rfl (arv_tmp rfl)).ent (by refine CEnt.fn3 (CEnt.rp ?_) CEnt.opI (CEnt.rp ?_) <;> (intro j hj; obtain rfl : j = 0 := (by omega); exact CEnt.refl _))) ⟨_, rfl, rfl⟩
theorem splitSeq_ac {gs : List Nat} (s : List UInt8) (c : UInt8) : AC gs Tryz.prog 158 [] [strC s, strC [c]] (fun r H' => ∃ g, r = seqF 190 c g ∧ H' = [(g, .blk 1 (fun _ => strC s))]) := by
  refine ac_of 8 Tryz.func158 rfl rfl rfl (fun al w0 F0 St0 => ?_)
  refine jcr ?_
  refine jq jrm ?_
  refine seq_nil ?_
  refine jcr ?_
  refine jq jrm ?_
  refine jq jrm ?_
  refine jqe (jecS (split_ac s c) ?_)
  rintro _ _ ⟨p1, rfl, rfl⟩
  refine jq jrm ?_
  refine seq_nil ?_
  refine code_ret ?_
  exact end_own (.inl rfl) _ _ [0] (by decide) rfl (res_1 rfl (arv_tmp rfl)) ⟨_, rfl, rfl⟩
theorem parts_drop {c : UInt8} {s rest : List UInt8} {k : Nat} (h : (splitC c s).drop k = splitC c rest) : k < (splitC c s).length := by
  have := splitC_ne c rest
  rw [← h] at this
  apply Classical.byContradiction
  intro hn
  exact this (List.drop_eq_nil_of_le (by omega))
theorem drop_getD {α : Type} {l : List α} {k : Nat} {d x : α} {r : List α} (h : l.drop k = x :: r) : l.getD k d = x ∧ l.drop (k + 1) = r := by
  have h1 : l[k]? = some x := by
    have := congrArg (fun m => m[0]?) h
    simpa using this
  exact ⟨by simp [List.getD, h1], by rw [← List.drop_drop, h]; rfl⟩
theorem seq_iter {gs : List Nat} (s : List UInt8) (c : UInt8) (g : Option Nat) (hs : s.length ≤ 100000000000) : IterC gs Tryz.prog 190 [(g, .blk 1 (fun _ => strC s))] ((List.range 3).map (fl [.rp 1 fun _ => strC [c], .op 0 g 0, .rp 1 fun _ => .c (.int .i64 0)])) (splitC c s).length (fun k => [strC ((splitC c s).getD k [])]) := fun l J Jx hY => by
  refine ac_ofY true 52 Tryz.func190 rfl rfl rfl (fun al w0 F0 St0 => ?_)
  refine jcs ?_
  refine jcr ?_
  refine jq jrdr ?_
  refine jq jrls ?_
  refine jq jrc ?_
  refine seq_nil ?_
  refine jcc (fun h38 => ?_) fun h38 => ?_
  · exfalso; simp at h38
  refine code_skip (jtn ?_)
  refine jcs ?_
  refine code_block ?_
  refine l_loop (α := Nat × List UInt8) [7, 8, 29, 30, 31, 32, 33, 34, 35, 36, 37, 38, 39, 40, 41, 42, 43, 44, 45, 46, 47, 48] (fun _ => []) (fun (k, rest) => [(g, .blk 1 (fun _ => strC rest)), (some l, .obj (J k))]) (fun (k, rest) => (splitC c s).drop k = splitC c rest ∧ rest.length ≤ s.length) (fun (k, rest) => rest.length) ((0, s)) ?_ (fun _ => rfl) ?_ ?_ ?_
  · exact ⟨rfl, Nat.le_refl _⟩
  · exact .nil
  · exact .same (.same .nil)
  · rintro ⟨k, rest⟩ ⟨hk, hlen⟩
    have hkl := parts_drop hk
    have hcut := idx_cut c rest
    refine code_block ?_
    refine jcr ?_
    refine jqo jrdo ?_
    refine jq jrdr ?_
    refine jqe (jecP (index1_ac rest c) ?_)
    refine jq jrm ?_
    refine seq_nil ?_
    refine jcs ?_
    refine jcr ?_
    refine jq jrm ?_
    refine jq jrc ?_
    refine seq_nil ?_
    refine jcc (fun h50 => ?_) fun h50 => ?_
    · refine code_exit (jte (jbx2 (jte (jbx (jtn ?_)))))
      refine jcg ?_
      refine jq jrm ?_
      have hsp : splitC c rest = [rest] := by
        rcases hcut with h | ⟨q, r, _, h, _⟩
        · exact h.2
        · omega
      have hk2 := drop_getD (d := []) (hk.trans hsp)
      have hm : (splitC c s).length = k + 1 := by
        have := congrArg List.length hk2.2
        simp at this
        omega
      refine jqo jrdo ?_
      refine seq_mdI (wanted_none rfl) rfl (m_callY (i := 1) rfl rfl rfl (hY k hkl) (.cons (se rfl (CEnt.strL hk2.1.symm)) .nil) rfl rfl ?_)
      rintro _ _ (⟨rfl, rfl⟩ | ⟨rfl, rfl⟩)
      · refine ⟨_, _, rfl, CEnt.refl _, ?_⟩
        refine seq_nil ?_
        exact end_own (.inr rfl) _ _ [1] (by decide) rfl (res_0 rfl) (.inl (by rw [hm]; rfl))
      · refine ⟨_, _, rfl, CEnt.refl _, ?_⟩
        refine seq_nil ?_
        exact end_own (.inr rfl) _ _ [1] (by decide) rfl (res_0 rfl) (.inr rfl)
    refine code_skip (jtn ?_)
    obtain ⟨q, r, hr, hi, hsp⟩ : ∃ q r, rest = q ++ c :: r ∧ Lib.indexByte rest c = (q.length : Nat) ∧ splitC c rest = q :: splitC c r := by
      rcases hcut with h | h
      · omega
      · exact h
    have hk2 := drop_getD (d := []) (hk.trans hsp)
    have hql : q.length < rest.length := by rw [hr]; simp
    refine jcr ?_
    refine jqo jrdo ?_
    refine jq jrm ?_
    refine jq jrdr ?_
    refine jq jra ?_
    refine jq (rd_sliceLT rfl rfl Tryz.underlying9 rfl (show _ = ((q.length : Nat) : Int) by omega) (by (omega))) ?_
    refine jq jrm ?_
    refine seq_nil ?_
    refine jcs ?_
    refine jcr ?_
    refine jq jrm ?_
    refine jq jrm ?_
    refine seq_mdI (wanted_none rfl) rfl (m_callY (i := 1) rfl rfl rfl (hY k hkl) (.cons (se rfl (CEnt.strL (by rw [hk2.1, hr]; simp))) .nil) rfl rfl ?_)
    rintro _ _ (⟨rfl, rfl⟩ | ⟨rfl, rfl⟩)
    · refine ⟨_, _, rfl, CEnt.refl _, ?_⟩
      refine jq jrn ?_
      refine seq_nil ?_
      refine jcF ?_
      refine code_skip (jtn ?_)
      refine jcg ?_
      refine jqo (jrdo (hn := by (omega))) ?_
      refine jq jrm ?_
      refine jq (jrdr (hn := by (omega))) ?_
      refine jq jrls ?_
      refine jq (jra (hS := by show _ ∧ _; ((simp only [List.length_cons, List.length_nil]; omega)))) ?_
      refine jq (rd_sliceLF rfl rfl Tryz.underlying9 rfl (show _ = (((q.length + 1) : Nat) : Int) by (simp only [List.length_append, List.length_cons, List.length_nil]; omega)) (by (omega))) ?_
      refine jqm (jmst 1 ?_ (hn := by (omega)))
      refine seq_nil ?_
      refine jbn (jtn ?_)
      refine jlend ((k + 1, rest.drop (q.length + 1))) ?_ ?_ (h5 := ?_) (h7 := ?_)
      · exact ⟨by rw [hk2.2, hr]; simp, by rw [List.length_drop]; omega⟩
      · show (rest.drop (q.length + 1)).length < rest.length; rw [List.length_drop]; omega
      · exact .nil
      · exact .blk rfl (fun j hj => by obtain rfl : j = 0 := (by omega); exact CEnt.refl _) (.same .nil)
    · refine ⟨_, _, rfl, CEnt.refl _, ?_⟩
      refine jq jrn ?_
      refine seq_nil ?_
      refine jcT ?_
      refine code_ret (jtr (jbr (jtr (jbr (jtr ?_)))))
      exact end_own (.inl rfl) _ _ [1] (by decide) rfl (res_0 rfl) (.inr rfl)
end Am
end Go.Proofs.YtgnjjenalebiaaaGreatDoor

/- Chapter 5: Parse. -/
namespace Go.Proofs.YtgnjjenalebiaaaGreatDoor
set_option linter.unusedVariables false
namespace Am
variable {gs : List Nat} [Ok2 gs]
open Go.RowKit
set_option maxRecDepth 100000

theorem CEnt.nilO {i k : Nat} : CEnt (.c (.slice none 0 0)) (.os i none 0 0 k) := fun al St w v h => ⟨rfl, h⟩
theorem split_len (c : UInt8) : ∀ l : List UInt8, (splitC c l).length ≤ l.length + 1
  | [] => by simp [splitC]
  | x :: l => by
    have ih := split_len c l
    rw [splitC]
    split
    · simp; omega
    · have h : ∀ ls : List (List UInt8), ls ≠ [] → (consHead x ls).length = ls.length := fun ls h => by cases ls <;> simp_all [consHead]
      rw [h _ (splitC_ne c l)]
      simp; omega
theorem part_len {c : UInt8} : ∀ {l p : List UInt8}, p ∈ splitC c l → p.length ≤ l.length
  | [], p, h => by simp [splitC] at h; simp [h]
  | x :: l, p, h => by
    rw [splitC] at h
    split at h
    · rcases List.mem_cons.1 h with rfl | h
      · simp
      · have := part_len h; simp; omega
    · cases hs : splitC c l with
      | nil => exact absurd hs (splitC_ne c l)
      | cons q r =>
        rw [hs, consHead] at h
        rcases List.mem_cons.1 h with rfl | h
        · have := part_len (c := c) (l := l) (p := q) (by rw [hs]; exact List.mem_cons_self ..)
          simp; omega
        · have := part_len (c := c) (l := l) (p := p) (by rw [hs]; exact List.mem_cons_of_mem _ h)
          simp; omega
theorem take_get {α : Type} {l : List α} {k : Nat} (d : α) (h : k < l.length) : l.take (k + 1) = l.take k ++ [l.getD k d] := by
  rw [List.take_succ_eq_append_getElem h]
  simp [List.getD, h]
theorem getD_mem' {α : Type} {l : List α} {k : Nat} (d : α) (h : k < l.length) : l.getD k d ∈ l := by
  simp [List.getD, h]
theorem parse_bad {s : List UInt8} (h : (splitC 46 s).all okP = false) : (parseM s).1 = [] ∧ (parseM s).2 = 4 := by
  unfold parseM; rw [if_pos h]; exact ⟨rfl, rfl⟩
theorem parse_wrong {s : List UInt8} (h : (splitC 46 s).all okP = true) (h2 : rightA ((splitC 46 s).map valP) = false) : (parseM s).1 = [] ∧ (parseM s).2 = 1 := by
  unfold parseM; rw [if_neg (by simp [h]), if_pos h2]; exact ⟨rfl, rfl⟩
theorem parse_good {s : List UInt8} (h : (splitC 46 s).all okP = true) (h2 : rightA ((splitC 46 s).map valP) = true) : (parseM s).1 = (splitC 46 s).map valP ∧ (parseM s).2 = 0 := by
  unfold parseM; rw [if_neg (by simp [h]), if_neg (by simp [h2])]; exact ⟨rfl, rfl⟩
theorem all_false {α : Type} {p : α → Bool} {l : List α} {k : Nat} (d : α) (h : k < l.length) (hp : p (l.getD k d) = false) : l.all p = false := by
  cases e : l.all p with
  | false => rfl
  | true =>
    have := List.all_eq_true.1 e _ (getD_mem' d h)
    rw [hp] at this; cases this
set_option maxHeartbeats 1000000 in
theorem oparse_ac (s : List UInt8) (hs : s.length ≤ 1000000000) : ACp gs Tryz.prog 141 [strC s] (.tup 2 (fl [isC (parseM s).1, .err (parseM s).2])) := by
  have hpl := split_len 46 s
  refine ac_of 33 Tryz.func141 rfl rfl rfl (fun al w0 F0 St0 => ?_)
  refine jcr ?_
  refine jqe (jeal (n := 1) zr22 rfl fun p1 => ?_)
  refine jqe (jeal (n := 1) zr28 rfl fun p2 => ?_)
  refine seq_nil ?_
  refine jcr ?_
  refine jqe (jeal (n := 1) zr22 rfl fun p3 => ?_)
  refine seq_nil ?_
  refine jcs ?_
  refine jcr ?_
  refine jq jrm ?_
  refine jqe (jecS (splitSeq_ac s 46) ?_)
  rintro _ _ ⟨gS, rfl, rfl⟩
  refine seq_nil ?_
  refine code_block ?_
  refine code_ent (blk_ent 0 (m := 1) (F := fun _ => .c (.slice none 0 0)) rfl (Nat.le_refl _) (fun _ => rfl) (fun j hj => by obtain rfl : j = 0 := (by omega); exact CEnt.refl _)) ?_
  refine code_ent (blk_ent 1 (m := 1) (F := fun _ => .c .nilIface) rfl (Nat.le_refl _) (fun _ => rfl) (fun j hj => by obtain rfl : j = 0 := (by omega); exact CEnt.refl _)) ?_
  refine code_ent (blk_ent 2 (m := 1) (F := fun _ => .os 3 none 0 0 1) rfl (Nat.le_refl _) (fun _ => rfl) (fun j hj => by obtain rfl : j = 0 := (by omega); exact CEnt.nilO)) ?_
  refine code_ent (ent_none (inF [])) ?_
  refine code_range (π := List Int × Option Nat) (q := List Int × Option Nat) ((splitC 46 s).length) (fun k => [strC ((splitC 46 s).getD k [])]) ([(gS, .blk 1 (fun _ => strC s))]) (fun (X, ga) => [(p1, .blk 1 (fun _ => .c (.slice none 0 0))), (p2, .blk 1 (fun _ => .c .nilIface)), (p3, .blk 1 (fun _ => .os 3 ga 0 X.length 1)), (ga, .blk X.length (inF X))]) (fun k (X, ga) => X = ((splitC 46 s).take k).map valP ∧ ((splitC 46 s).take k).all okP = true) (fun (X, ga) => [(p1, .blk 1 (fun _ => .c (.slice none 0 0))), (p2, .blk 1 (fun _ => .err 4)), (p3, .blk 1 (fun _ => .os 3 ga 0 X.length 1)), (ga, .blk X.length (inF X))]) (fun c _ => c = .ret ∧ (splitC 46 s).all okP = false) (([], none)) [3, 0, 1, 2, 4] rfl rfl (by kernel_rfl) (seq_iter s 46 gS (by omega)) (⟨rfl, rfl⟩) (by decide) rfl (fun _ _ => rfl) rfl ?_ ?_ ?_
  · intro k hk l al2 w2 F2 S2 R0 R1
    rintro ⟨X, ga⟩ ⟨hX, hall⟩
    have hXl : X.length ≤ k := by rw [hX, List.length_map, List.length_take]; omega
    have hpp := part_len (getD_mem' (l := splitC 46 s) [] hk)
    refine jcg ?_
    refine jq jrm ?_
    refine seq_nil ?_
    refine assign_norm ?_
    refine code_block ?_
    refine jcr ?_
    refine jq jrm ?_
    refine jqe (jecP (wfig_ac ((splitC 46 s).getD k [])) ?_)
    refine jq jrm ?_
    refine jq jrx ?_
    refine jq jrx ?_
    refine jq jrm ?_
    refine jq jrm ?_
    refine seq_nil ?_
    refine jcs ?_
    refine jcr ?_
    refine jq jrm ?_
    refine jq jre ?_
    refine jq jrm ?_
    refine jqsp 18 (fun g34 => ?_) fun g34 => ?_
    · refine jqs ?_
      refine jqs ?_
      refine jqs ?_
      refine jq jrpT ?_
      refine seq_nil ?_
      refine jcT ?_
      refine jcs ?_
      refine jcdZ (.rd 0 (.one 1 (.one 2 .done))) ?_
      refine jzq (jrde 3) ?_
      refine jzm (jmst 1 ?_)
      refine jzm (jmst 1 ?_)
      refine jzd ?_
      refine jtn ?_
      refine code_ret (jtr (jbr ?_))
      refine round_ret ((X, ga)) ?_ rfl ?_
      · exact ⟨rfl, all_false [] hk (by unfold okP; (simp_all; done))⟩
      · exact .blk rfl (fun j hj => by obtain rfl : j = 0 := (by omega); exact CEnt.refl _) (.blk rfl (fun j hj => by obtain rfl : j = 0 := (by omega); exact CEnt.refl _) (.same (.same (.same .nil))))
    refine jq jrm ?_
    refine jq jrls ?_
    refine jq jrc ?_
    refine jq jrpF ?_
    refine seq_nil ?_
    refine jcc (fun h34 => ?_) fun h34 => ?_
    · refine jcs ?_
      refine jcdZ (.rd 0 (.one 1 (.one 2 .done))) ?_
      refine jzq (jrde 3) ?_
      refine jzm (jmst 1 ?_)
      refine jzm (jmst 1 ?_)
      refine jzd ?_
      refine jtn ?_
      refine code_ret (jtr (jbr ?_))
      refine round_ret ((X, ga)) ?_ rfl ?_
      · exact ⟨rfl, all_false [] hk (by unfold okP; (simp_all; omega))⟩
      · exact .blk rfl (fun j hj => by obtain rfl : j = 0 := (by omega); exact CEnt.refl _) (.blk rfl (fun j hj => by obtain rfl : j = 0 := (by omega); exact CEnt.refl _) (.same (.same (.same .nil))))
    refine code_skip (jtn ?_)
    refine jcg ?_
    refine jqo jrdo ?_
    refine jq jrm ?_
    refine jqe (jebl 1 1 zr3 fun p4 => ?_)
    refine jqm (m_appendC rowC_in (l2 := [valP ((splitC 46 s).getD k [])]) rfl rfl rfl rfl (by exact Nat.le_of_eq (Nat.mul_one _)) (fun _ _ => CEnt.refl _) (src_os rfl (.inl rfl) (by decide)) rfl (hh_ints (.cons (CEnt.int (rfl)) .nil)) Tryz.underlying22 nu22 sz3 zr3 by3 rfl (by (simp; omega)) (by (simp; omega)) (leaf_flk rfl rfl) rfl rfl (Nat.mul_one _) (fun p5 => ?_))
    refine jqm (jmst 1 ?_)
    refine seq_nil ?_
    refine jbn ?_
    refine round_norm ((X ++ [valP ((splitC 46 s).getD k [])], p5)) ?_ rfl ?_
    · exact ⟨by rw [hX, take_get [] hk, List.map_append]; rfl, by rw [take_get [] hk, List.all_append, hall]; simp only [List.all_cons, List.all_nil, Bool.and_true, Bool.true_and, okP]; (simp_all; omega)⟩
    · exact .same (.same (.blk rfl (fun j hj => by obtain rfl : j = 0 := (by omega); exact CEnt.refl _) (.same (.same .nil))))
  · rintro ⟨X, ga⟩ ⟨hX, hall⟩
    rw [List.take_length] at hX hall
    refine jbn (jtn ?_)
    refine jcs ?_
    refine jcr ?_
    refine jqo jrdo ?_
    refine seq_ent (freeze 3 rfl) ?_
    refine seq_ent (thawIL 28 X rfl rfl rfl (Nat.ble_eq_true_of_le (Nat.le_refl _)) (fun j hj => CEnt.refl _)) ?_
    refine jqe (jecP (oright_ac X) ?_)
    refine jq jrn ?_
    refine seq_nil ?_
    refine jcc (fun h39 => ?_) fun h39 => ?_
    · refine jcs ?_
      refine jcdZ (.rd 0 (.one 1 (.one 2 .done))) ?_
      refine jzq (jrde 0) ?_
      refine jzm (jmst 1 ?_)
      refine jzm (jmst 1 ?_)
      refine jzd ?_
      refine jtn ?_
      refine code_ret (jtr (jrt (hres := res_2 rfl javc javc) (hv := ?_)))
      have hb := parse_wrong hall (by rw [← hX]; simpa using h39)
      exact CEnt.tup2 (CEnt.nilS' (by rw [hb.1]; rfl)) (CEnt.errN hb.2)
    refine code_skip (jtn ?_)
    refine jcr ?_
    refine jqo jrdo ?_
    refine seq_ent (thawIL 32 X rfl rfl rfl (Nat.ble_eq_true_of_le (Nat.le_refl _)) (fun j hj => CEnt.refl _)) ?_
    refine jqm (jmst 1 ?_)
    refine jqm (jmst 1 ?_)
    refine seq_nil ?_
    refine code_ret (jrt (hres := res_2 rfl javc javc) (hv := ?_))
    have hb := parse_good hall (by rw [← hX]; simpa using h39)
    exact CEnt.tup2 (show CEnt (isC X) _ from CEnt.of_eq (by rw [hb.1, hX])) (CEnt.nilE hb.2)
  · rintro _ ⟨X, ga⟩ ⟨rfl, hbad⟩
    refine .inl ⟨rfl, ?_⟩
    refine jbr (jtr (jrt (hres := res_2 rfl javc javc) (hv := ?_)))
    have hb := parse_bad hbad
    exact CEnt.tup2 (CEnt.nilS' (by rw [hb.1]; rfl)) (CEnt.errN hb.2)
end Am
end Go.Proofs.YtgnjjenalebiaaaGreatDoor

/- Chapter 5: order, equality; the reference's Parse; Put; the law's example. -/
namespace Go.Proofs.YtgnjjenalebiaaaGreatDoor
set_option linter.unusedVariables false
namespace Am
variable {gs : List Nat} [Ok2 gs]
open Go.RowKit
set_option maxRecDepth 100000

/-! ### lists of numbers -/
def cmpI (a b : Int) : Int := if a < b then -1 else if b < a then 1 else 0
/-! ### Compare, Under -/
def underM (s t : List UInt8) : Bool := decide ((parseM s).2 = 0) && decide ((parseM t).2 = 0) && underA (parseM s).1 (parseM t).1
end Am
end Go.Proofs.YtgnjjenalebiaaaGreatDoor

/- Chapter 5: Put; the reference's Right, Split, Parse; the law's example; OidsOrder. -/
namespace Go.Proofs.YtgnjjenalebiaaaGreatDoor
set_option linter.unusedVariables false
namespace Am
variable {gs : List Nat} [Ok2 gs]
open Go.RowKit
set_option maxRecDepth 100000

theorem parse_ok {s : List UInt8} (h : (parseM s).2 = 0) : rightA (parseM s).1 = true := (parse_right (s := s) (l := (parseM s).1) (by rw [← h])).1
theorem sep_take {l : List Int} {i : Nat} (h : i < (l.drop 2).length) : (((l.drop 2).take (i + 1)).map fun n => sepL n.toNat).flatten = (((l.drop 2).take i).map fun n => sepL n.toNat).flatten ++ sepL (l.getD (2 + i) 0).toNat := by
  rw [take_get 0 h, List.map_append, List.flatten_append]
  simp [List.getD]
theorem sep_flat_len {l : List Int} (h : ∀ n ∈ l, 0 ≤ n ∧ n ≤ 2147483647) : ((l.map fun n => sepL n.toNat).flatten).length ≤ 5 * l.length := by
  induction l with
  | nil => simp
  | cons a l ih =>
    have h1 := sepL_len (n := a.toNat) (by have := h a (by simp); omega)
    have h2 := ih fun n hn => h n (by simp [hn])
    simp at h2 ⊢
    omega
set_option maxHeartbeats 1000000 in
theorem oput_ac (s : List UInt8) (hs : s.length ≤ 1000000000) : ACp gs Tryz.prog 104 [strC s] (.tup 2 (fl [bsC (putM s), .err (parseM s).2])) := by
  refine ac_of 39 Tryz.func104 rfl rfl rfl (fun al w0 F0 St0 => ?_)
  refine jcr ?_
  refine jq jrm ?_
  refine jq jrm ?_
  refine seq_nil ?_
  refine jcr ?_
  refine jq jrm ?_
  refine jqe (jecP (oparse_ac s hs) ?_)
  refine jq jrm ?_
  refine jq jrx ?_
  refine jq jrx ?_
  refine jq jrm ?_
  refine jq jrm ?_
  refine seq_nil ?_
  refine jcs ?_
  refine jcr ?_
  refine jq jrm ?_
  refine jq jre ?_
  refine seq_nil ?_
  refine jcc (fun h70 => ?_) fun h70 => ?_
  · refine jcr ?_
    refine jq jrm ?_
    refine jq jrm ?_
    refine jq jrm ?_
    refine seq_nil ?_
    refine code_ret (jtr (jrt (hv := CEnt.tup2 (CEnt.nilS' (by unfold putM; rw [if_neg (by omega)]; rfl)) (CEnt.refl _))))
  refine code_skip (jtn ?_)
  refine jcs ?_
  obtain ⟨hl2, hl16, hall, ha, hb⟩ := right_at (parse_ok (s := s) (by omega))
  obtain ⟨l, hl⟩ : ∃ l, (parseM s).1 = l := ⟨_, rfl⟩
  rw [hl] at hl2 hl16 hall ha hb ⊢
  have h0 := hall _ (getD_mem' (l := l) (k := 0) 0 (by omega))
  have h1 := hall _ (getD_mem' (l := l) (k := 1) 0 (by omega))
  refine jcd (.rd 0 (.rd 1 (.rd 2 (.rd 3 (.rd 4 (.rd 5 (.rd 6 (.rd 7 (.one 8 (.rd 9 .done)))))))))) ?_
  refine jyq jrm ?_
  refine jyq (jri (i := 0)) ?_
  refine jyq jrdr ?_
  refine jyq jra ?_
  refine jyq jrm ?_
  refine jyq (jri (i := 1)) ?_
  refine jyq jrdr ?_
  refine jyq jra ?_
  refine jye (jecO (septets_ac (40 * l.getD 0 0 + l.getD 1 0).toNat (by omega)) (fun p1 => ?_) (ho := rfl) (he := (.cons (se rfl (CEnt.int (by omega))) .nil)))
  refine jyq jrm ?_
  refine jyd ?_
  refine jtn ?_
  refine jcs ?_
  refine jcr ?_
  refine jq jrm ?_
  refine jq (jrsr (hl := (bd_some rfl (show (2 : Int) = ((2 : Nat) : Int) from rfl))) (hu := (bd_none _ _))) ?_
  refine jq jrl ?_
  refine jq jrm ?_
  refine seq_nil ?_
  refine code_block ?_
  refine l_loop (α := Nat × List UInt8 × Option Nat) [6, 8, 29, 30, 31, 32, 33, 34, 35, 36, 37] (fun (i, o, g) => [(6, .os 0 g 0 o.length 1), (29, .c (.int .i64 (i : Nat)))]) (fun (i, o, g) => [(g, .blk o.length (byF o))]) (fun (i, o, g) => i ≤ l.length - 2 ∧ o = sepL (40 * l.getD 0 0 + l.getD 1 0).toNat ++ (((l.drop 2).take i).map fun n => sepL n.toNat).flatten) (fun (i, o, g) => l.length - i) ((0, sepL (40 * l.getD 0 0 + l.getD 1 0).toNat, p1)) ?_ (fun _ => rfl) ?_ ?_ ?_
  · exact ⟨Nat.zero_le _, by simp⟩
  · exact .cons (CEnt.refl _) (.cons (CEnt.refl _) .nil)
  · exact .same .nil
  · rintro ⟨i, o, g⟩ ⟨(hi : i ≤ l.length - 2), ho⟩
    have hol : o.length ≤ 5 + 5 * i := by
      rw [ho, List.length_append]
      have e1 := sepL_len (n := (40 * l.getD 0 0 + l.getD 1 0).toNat) (by omega)
      have e2 := sep_flat_len (l := (l.drop 2).take i) (fun n hn => hall n (List.mem_of_mem_drop (List.mem_of_mem_take hn)))
      rw [List.length_take, List.length_drop] at e2
      omega
    refine jcr ?_
    refine jq jrc ?_
    refine seq_nil ?_
    refine jcs ?_
    refine jcc (fun h74 => ?_) fun h74 => ?_
    rotate_left
    · refine code_exit (jte (jte (jbx (jtn ?_))))
      refine jcr ?_
      refine jq jrm ?_
      refine jq jrm ?_
      refine jq jrm ?_
      refine seq_nil ?_
      refine code_ent (freeze 0 rfl) ?_
      refine code_ent (thawB 2 (o) rfl rfl (by rfl) rfl) ?_
      refine code_ret (jrt (hv := ?_))
      refine CEnt.tup2 (CEnt.bs ?_) (CEnt.nilE (by omega))
      unfold putM
      rw [if_pos (by omega), hl, ho, List.take_of_length_le (by rw [List.length_drop]; omega)]
      rfl
    refine code_skip (jtn ?_)
    refine jcs ?_
    refine code_block ?_
    refine jcr ?_
    refine jq jri ?_
    refine jq jrdr ?_
    refine jq jrm ?_
    refine seq_nil ?_
    have h3 := hall _ (getD_mem' (l := l) (k := 2 + i) 0 (by omega))
    have h4 := sepL_len (n := (l.getD (2 + i) 0).toNat) (by omega)
    refine jcg ?_
    refine jq jrm ?_
    refine jq jrm ?_
    refine jqe (jecO (septets_ac (l.getD (2 + i) 0).toNat (by omega)) (fun p2 => ?_) (ho := rfl) (he := (.cons (se rfl (CEnt.int (by omega))) .nil)))
    first | refine jqm (m_appendB rfl rfl rfl (Nat.le_refl _) (fun _ _ => CEnt.refl _) (src_rs rfl) rfl (fun j hj => by simp only [Nat.div_one]; exact CEnt.refl _) Tryz.underlying26 nu26 sz5 zr5 by5 rfl (by first | omega | (simp; done) | (simp; omega) | (simp at *; omega)) (fun j hj => rfl) rfl rfl (fun p3 => ?_)) | refine jqm (m_appendB rfl rfl rfl (Nat.le_refl _) (fun _ _ => CEnt.refl _) (src_str rfl) rfl (fun j hj => CEnt.refl _) Tryz.underlying26 nu26 sz5 zr5 by5 rfl (by first | omega | (simp; done) | (simp; omega) | (simp at *; omega)) (fun j hj => rfl) rfl rfl (fun p3 => ?_)) | refine jqm (m_appendB rfl rfl rfl (Nat.le_refl _) (fun _ _ => CEnt.refl _) (src_os rfl (.inl rfl) (by omega)) rfl (fun j hj => by rw [Nat.zero_add]; exact CEnt.refl _) Tryz.underlying26 nu26 sz5 zr5 by5 rfl (by omega) (fun j hj => rfl) rfl rfl (fun p3 => ?_))
    refine jq jrm ?_
    refine seq_nil ?_
    refine jbn (jtn ?_)
    refine jcg ?_
    refine jq jra ?_
    refine jq jrm ?_
    refine seq_nil ?_
    refine jtn ?_
    refine jlend ((i + 1, o ++ sepL (l.getD (2 + i) 0).toNat, p3)) ?_ ?_ (h5 := ?_) (h7 := ?_)
    · exact ⟨by omega, by rw [ho, sep_take (by rw [List.length_drop]; omega), List.append_assoc]⟩
    · show l.length - (i + 1) < l.length - i; omega
    · exact .cons (CEnt.refl _) (.cons (CEnt.int (by omega)) .nil)
    · exact .same .nil
theorem put_len (s : List UInt8) : (putM s).length ≤ 100 := by
  unfold putM
  split
  · rename_i h
    obtain ⟨hl2, hl16, hall, ha, hb⟩ := right_at (parse_ok h)
    unfold putA
    have h0 := hall _ (getD_mem' (l := (parseM s).1) (k := 0) 0 (by omega))
    have h1 := hall _ (getD_mem' (l := (parseM s).1) (k := 1) 0 (by omega))
    have e1 := sepL_len (n := (40 * (parseM s).1.getD 0 0 + (parseM s).1.getD 1 0).toNat) (by omega)
    have e2 := sep_flat_len (l := (parseM s).1.drop 2) (fun n hn => hall n (List.mem_of_mem_drop hn))
    rw [List.length_drop] at e2
    rw [List.length_append]
    omega
  · simp
end Am
end Go.Proofs.YtgnjjenalebiaaaGreatDoor

/- From a row's list of sentinels ('laid') to what the walks ask: each variable's pointer, no two the same. -/
namespace Go.Proofs.YtgnjjenalebiaaaGreatDoor
set_option linter.unusedVariables false
open Go.RowKit Go.ChangeShapes

def isErr (x : String × DataW Unit) : Bool := match x.2 with
  | .iface nm (.ptr (.agg [.lit (.string _)])) => nm == "*errors.errorString"
  | _ => false
theorem isErr_out {x : String × DataW Unit} (h : isErr x = true) : ∃ text, x.2 = .iface "*errors.errorString" (.ptr (.agg [.lit (.string text)])) := by
  obtain ⟨n, d⟩ := x
  unfold isErr at h
  dsimp only at h ⊢
  split at h
  · exact ⟨_, by rw [eq_of_beq h]⟩
  · cases h

theorem laid_list {P : Program} {W : World} {nm : String} {ti tp te ts : TypeId} {ms : Array (String × TypeId)} {f : Field}
    (hi : P.underlying ti = some (.interface ms)) (hrow : ∀ u, P.typeName? 3 u = some nm → u = tp)
    (hp : P.underlying tp = some (.pointer te)) (he : P.underlying te = some (.struct #[f])) (hft : f.type = ts) (hfo : f.offset = 0) (hs : P.underlying ts = some .string) (hc : P.cellsOf te = 1) (hcs : P.cellsOf ts = 1) :
    ∀ (L : List (String × DataW Unit)) (ps : List MemPlace), DataW.LaidVars P W L ps →
      (∀ b off, MemPlace.cell b off ∈ ps → (∃ c t, W.heap[b]? = some (.cells c t (0, 0))) ∧ ∀ u v, W.cell? ⟨b, off, none⟩ = some (.iface u v) → Value.okWide P W .any 0 u v) → ps.Nodup →
      (∀ x ∈ L, isErr x = true → (∃ text, x.2 = .iface nm (.ptr (.agg [.lit (.string text)]))) ∧ ∀ g, P.globalNamed x.1 = some g → (P.globals[g]?).map (·.type) = some ti) →
      ∃ al : List Addr, al.length = (L.filter isErr).length ∧ al.Nodup ∧ (∀ a ∈ al, a.spot = none ∧ MemPlace.cell a.block a.off ∈ ps) ∧
        ∀ (i : Nat) (x : String × DataW Unit) (a : Addr), (L.filter isErr)[i]? = some x → al[i]? = some a → ∃ g, P.globalNamed x.1 = some g ∧ W.cell? ⟨g, 0, none⟩ = some (.iface tp (.pointer (some a)))
  | [], ps, _, _, _, _ => ⟨[], rfl, List.nodup_nil, by simp, by simp⟩
  | (n, d) :: r, ps, hv, hrows, hnd, hL => by
    obtain ⟨g, t, cs, fuel, p, q, hg, ht, hvar, hd, hrest, rfl⟩ := hv
    have hnq : q.Nodup := List.Nodup.sublist (List.sublist_append_right _ _) hnd
    obtain ⟨al, h1, h2, h3, h4⟩ := laid_list hi hrow hp he hft hfo hs hc hcs r q hrest (fun b off hm => hrows b off (List.mem_append_right _ hm)) hnq (fun x hx => hL x (List.mem_cons_of_mem _ hx))
    by_cases hE : isErr (n, d) = true
    case neg =>
      have hE : isErr (n, d) = false := by simpa using hE
      rw [List.filter_cons_of_neg (by simp [hE])]
      exact ⟨al, h1, h2, fun a ha => ⟨(h3 a ha).1, List.mem_append_right _ (h3 a ha).2⟩, h4⟩
    obtain ⟨⟨text, hx⟩, hty⟩ := hL (n, d) (List.mem_cons_self ..) hE
    rw [List.filter_cons_of_pos hE]
    simp only at hx
    subst hx
    obtain rfl := Option.some.inj ((hty g hg).symm.trans ht)
    obtain ⟨l⟩ := cs
    have hcell0 : ∀ v, l = [v] → W.cell? ⟨g, 0, none⟩ = some v := fun v e => by
      subst e
      simpa using World.var?_cell hg hvar 0
    obtain ⟨a, s, rfl, ha, _, _, rfl⟩ := errorString_of_trod hi hrow hp he hft hfo hs hc hcs hd (fun u v e => by
      simp only at e
      subst e
      exact (hrows g 0 (by simp [MemPlace.row])).2 u v (hcell0 _ rfl))
    have hsp : a.spot = none := World.cell?_spot ha
    have hpl : MemPlace.cell a.block a.off ∈ MemPlace.row a 1 := by simp [MemPlace.row]
    refine ⟨a :: al, by simp [h1], List.nodup_cons.2 ⟨fun hm => ?_, h2⟩, ?_, ?_⟩
    · have hq := (h3 a hm).2
      have := (List.nodup_append.1 hnd).2.2 (MemPlace.cell a.block a.off) (List.mem_append_right _ hpl) _ hq
      exact this rfl
    · intro b hb
      rcases List.mem_cons.1 hb with rfl | hb
      · exact ⟨hsp, List.mem_append_left _ (List.mem_append_right _ hpl)⟩
      · exact ⟨(h3 b hb).1, List.mem_append_right _ (h3 b hb).2⟩
    · intro i x b hi' hb
      match i, hi', hb with
      | 0, hi', hb =>
        simp only [List.getElem?_cons_zero, Option.some.injEq] at hi' hb
        subst hi'
        subst hb
        exact ⟨g, hg, hcell0 _ rfl⟩
      | i + 1, hi', hb => exact h4 i x b (by simpa using hi') (by simpa using hb)

theorem starRow (u : TypeId) (h : Tryz.prog.typeName? 3 u = some "*errors.errorString") : u = 246 := by
  have e : "*errors.errorString" = "*" ++ "errors.errorString" := by decide +kernel
  exact typeName_ptr_named (nm := "errors.errorString") (by rw [← e]; kernel_rfl) (by kernel_rfl) (by decide) u (by rw [← e]; exact h)
theorem cellsErr : Tryz.prog.cellsOf 268 = 1 := by kernel_rfl
theorem cellsStr : Tryz.prog.cellsOf 9 = 1 := by kernel_rfl

/-- what a row's list of sentinels gives -/
theorem sent_of_laid {W : World} {L : List (String × DataW Unit)} {g0 : List Nat} (h : laidMetH Tryz.prog L W) (h1 : (L.all fun x => x.2.handleName?.isNone) = true)
    (h3 : ((L.filter isErr).map fun x => Tryz.prog.globalNamed x.1) = (errG g0).map some) (h4 : ((errG g0).map fun g => (Tryz.prog.globals[g]?).map (·.type)) = List.replicate (errG g0).length (some 28))
    (ht : tabA ∈ lst g0 → tabB ∈ lst g0 → Lib.Utf8Tabs tabA tabB W) (hAB : ((lst g0).contains tabA) = ((lst g0).contains tabB)) : ∃ al, SentL W g0 al := by
  rw [MakeChecks.laidMetH_plain _ _ _ h1] at h
  obtain ⟨ps, hv, hnd, hrows⟩ := h
  have hlen : (L.filter isErr).length = (errG g0).length := by simpa using congrArg List.length h3
  have hgl : ∀ (i : Nat) (x : String × DataW Unit), (L.filter isErr)[i]? = some x → ∃ g, (errG g0)[i]? = some g ∧ Tryz.prog.globalNamed x.1 = some g := by
    intro i x hx
    have := congrArg (fun l => l[i]?) h3
    simp only [List.getElem?_map, hx, Option.map_some] at this
    obtain ⟨g, hg, e⟩ := Option.map_eq_some_iff.1 this.symm
    exact ⟨g, hg, e.symm⟩
  obtain ⟨al, l1, l2, l3, l4⟩ := laid_list Tryz.underlying28 starRow Tryz.underlying246 Tryz.underlying268 rfl rfl Tryz.underlying9 cellsErr cellsStr L ps hv hrows hnd
    (fun x hx hE => ⟨isErr_out hE, fun g hg => by
      obtain ⟨i, hi⟩ := List.mem_iff_getElem?.1 (List.mem_filter.2 ⟨hx, hE⟩)
      obtain ⟨g', hg', e⟩ := hgl i x hi
      obtain rfl := Option.some.inj (e.symm.trans hg)
      have := congrArg (fun l => l[i]?) h4
      simp only [List.getElem?_map, hg', Option.map_some] at this
      have hlt : i < (errG g0).length := (List.getElem?_eq_some_iff.1 hg').1
      rw [List.getElem?_replicate, if_pos hlt] at this
      exact Option.some.inj this⟩)
  have hvar : ∀ i g, (errG g0)[i]? = some g → W.cell? ⟨g, 0, none⟩ = some (ev al (i + 1)) := by
    intro i g hg
    have hlt : i < (errG g0).length := (List.getElem?_eq_some_iff.1 hg).1
    obtain ⟨x, hx⟩ : ∃ x, (L.filter isErr)[i]? = some x := ⟨(L.filter isErr)[i], List.getElem?_eq_getElem (by omega)⟩
    obtain ⟨a, ha⟩ : ∃ a, al[i]? = some a := ⟨al[i], List.getElem?_eq_getElem (by omega)⟩
    obtain ⟨g', hg', e⟩ := hgl i x hx
    obtain rfl := Option.some.inj (hg.symm.trans hg')
    obtain ⟨g2, e2, hc⟩ := l4 i x a hx ha
    obtain rfl := Option.some.inj (e.symm.trans e2)
    rw [hc]
    simp [ev, ha]
  refine ⟨al, by omega, fun i j g g' hi _ hj _ e => (List.getElem?_inj (by have := (List.getElem?_eq_some_iff.1 hi).1; omega) l2).1 e, fun i g hi _ => hvar i g hi, fun a ha => (hrows a.block a.off (l3 a ha).2).1, ht, fun g hg => ?_⟩
  by_cases hT : (Nat.beq g tabA || Nat.beq g tabB) = true
  · have hc : tabA ∈ lst g0 ∧ tabB ∈ lst g0 := by
      rcases Bool.or_eq_true_iff.1 hT with e | e
      · have := Nat.eq_of_beq_eq_true e
        subst this
        have h5 : (lst g0).contains tabA = true := List.contains_iff_mem.2 hg
        exact ⟨hg, List.contains_iff_mem.1 (hAB ▸ h5)⟩
      · have := Nat.eq_of_beq_eq_true e
        subst this
        have h5 : (lst g0).contains tabB = true := List.contains_iff_mem.2 hg
        exact ⟨List.contains_iff_mem.1 (hAB.symm ▸ h5), hg⟩
    have hU := ht hc.1 hc.2
    rcases Bool.or_eq_true_iff.1 hT with e | e
    · have := Nat.eq_of_beq_eq_true e
      subst this
      exact World.block_lt_of_cell? W _ (hU.1 0 (by decide))
    · have := Nat.eq_of_beq_eq_true e
      subst this
      exact World.block_lt_of_cell? W _ (hU.2 0 (by decide)).1
  · have hm : g ∈ errG g0 := List.mem_filter.2 ⟨(lst_mem.1 hg).1, by
      cases hb : (Nat.beq g tabA || Nat.beq g tabB) with
      | true => exact absurd hb hT
      | false => rfl⟩
    obtain ⟨i, hi⟩ := List.mem_iff_getElem?.1 hm
    exact World.block_lt_of_cell? W _ (hvar i g hi)
/-- the same errors at the numbers of the table: pos i says where number i + 1 stands in the row's list -/
theorem sent_part {W : World} {g1 gP : List Nat} {al1 : List Addr} (pos : List Nat) (h : SentL W g1 al1) (hlen : pos.length = (errG gP).length) (hpos : (pos.all fun p => Nat.blt p (errG g1).length) = true)
    (hat : ((List.range pos.length).all fun i => match (errG gP)[i]? with | some g => !(Nat.blt g 1000000000) || ((errG g1)[pos.getD i 0]? == some g && (lst g1).contains g) | none => true) = true)
    (hinj : ((List.range pos.length).all fun i => (List.range pos.length).all fun j => match (errG gP)[i]?, (errG gP)[j]? with | some g, some g' => !(Nat.blt g 1000000000) || !(Nat.blt g' 1000000000) || !(pos.getD i 0 == pos.getD j 0) || i == j | _, _ => true) = true)
    (hsub : ((lst gP).all fun g => (lst g1).contains g) = true) : SentL W gP (pos.map fun p => al1.getD p default) := by
  have hl1 : al1.length = (errG g1).length := h.len
  have hp : ∀ i, i < pos.length → pos.getD i 0 < al1.length := fun i hi => by
    have := List.all_eq_true.1 hpos (pos.getD i 0) (by simp [List.getD, hi])
    rw [hl1]
    exact Nat.le_of_ble_eq_true this
  have hget : ∀ i g, (errG gP)[i]? = some g → g ∈ lst gP → i < pos.length ∧ (errG g1)[pos.getD i 0]? = some g ∧ g ∈ lst g1 := fun i g hi hg => by
    have hlt : i < pos.length := by rw [hlen]; exact (List.getElem?_eq_some_iff.1 hi).1
    have h1 := List.all_eq_true.1 hat i (List.mem_range.2 hlt)
    simp only [hi] at h1
    have h2 : Nat.blt g 1000000000 = true := by have := (lst_mem.1 hg).2; simpa using this
    rw [h2] at h1
    simp only [Bool.not_true, Bool.false_or, Bool.and_eq_true, beq_iff_eq, List.contains_iff_mem] at h1
    exact ⟨hlt, h1⟩
  have hal : ∀ i, i < pos.length → (pos.map fun p => al1.getD p default)[i]? = al1[pos.getD i 0]? := fun i hi => by
    have := hp i hi
    simp [List.getD, hi] at this ⊢
    simp [this]
  refine ⟨by simp [hlen], fun i j g g' hi hg hj hg' e => ?_, fun i g hi hg => ?_, fun a ha => ?_, fun h1 h2 => h.tab ?_ ?_, fun g hg => h.lt g ?_⟩
  · obtain ⟨k1, k2, k3⟩ := hget i g hi hg
    obtain ⟨k4, k5, k6⟩ := hget j g' hj hg'
    rw [hal i k1, hal j k4] at e
    have e2 := h.nd _ _ g g' k2 k3 k5 k6 e
    have h1 := List.all_eq_true.1 (List.all_eq_true.1 hinj i (List.mem_range.2 k1)) j (List.mem_range.2 k4)
    simp only [hi, hj] at h1
    have h2 : Nat.blt g 1000000000 = true := by have := (lst_mem.1 hg).2; simpa using this
    have h3 : Nat.blt g' 1000000000 = true := by have := (lst_mem.1 hg').2; simpa using this
    rw [h2, h3, e2] at h1
    simpa using h1
  · obtain ⟨k1, k2, k3⟩ := hget i g hi hg
    rw [h.var _ g k2 k3]
    simp only [ev, Nat.add_one_ne_zero, if_false, Nat.add_sub_cancel]
    rw [hal i k1]
  · obtain ⟨p, hp1, rfl⟩ := List.mem_map.1 ha
    obtain ⟨i, hi⟩ := List.mem_iff_getElem?.1 hp1
    have hlt := (List.getElem?_eq_some_iff.1 hi).1
    have h1 := hp i hlt
    have e : pos.getD i 0 = p := by simp [List.getD, hi]
    rw [e] at h1
    refine h.row _ ?_
    simp [List.getD, h1]
  · exact List.contains_iff_mem.1 (List.all_eq_true.1 hsub _ h1)
  · exact List.contains_iff_mem.1 (List.all_eq_true.1 hsub _ h2)
  · exact List.contains_iff_mem.1 (List.all_eq_true.1 hsub _ hg)
/-! ### arguments that come in -/
end Go.Proofs.YtgnjjenalebiaaaGreatDoor

/- The tables of unicode/utf8 out of a row's list, at a seat that has the tables' types and variables. -/
namespace Go.Proofs.YtgnjjenalebiaaaGreatDoor
set_option linter.unusedVariables false
open Go.RowKit Go.ChangeShapes
def tabRen : Go.Shelf.Ren := ⟨fun n => n, fun | 5 => 5 | 119 => 224 | 138 => 226 | 139 => 227 | n => n, fun | 3 => 28 | 4 => 29 | n => n⟩
theorem tabTypes : U8Types Tryz.prog tabRen where
  t5 := Tryz.underlying5
  t119 := Tryz.underlying224
  t138 := Tryz.underlying226
  t139 := Tryz.underlying227
theorem tabExtra : U8Extra Tryz.prog tabRen where
  n3 := by kernel_rfl
  n4 := by kernel_rfl
  y3 := by kernel_rfl
  y4 := by kernel_rfl
  c5 := by kernel_rfl
  c119 := by kernel_rfl
  c138 := by kernel_rfl
theorem tabs_of_laid {W : World} {L : List (String × DataW Unit)} (h : laidMetH Tryz.prog L W) (h1 : (L.all fun x => x.2.handleName?.isNone) = true) {i j : Nat} (hi : L[i]? = some ("unicode/utf8.first", Lib.firstData)) (hj : L[j]? = some ("unicode/utf8.acceptRanges", Lib.acceptData)) : Lib.Utf8Tabs tabA tabB W := by
  rw [MakeChecks.laidMetH_plain _ _ _ h1] at h
  obtain ⟨ps, hv, hnd, hrows⟩ := h
  exact utf8Tabs_of_readsT (ρ := tabRen) tabTypes tabExtra (Lib.LaidVars_reads hv _ _ (List.mem_of_getElem? hi)) (Lib.LaidVars_reads hv _ _ (List.mem_of_getElem? hj))
end Go.Proofs.YtgnjjenalebiaaaGreatDoor

/- utf8.ValidString at this seat: the kit's contract, laid here; the tables of unicode/utf8 out of a row's list. -/
namespace Go.Proofs.YtgnjjenalebiaaaGreatDoor
set_option linter.unusedVariables false
open Go.RowKit Go.ChangeShapes
def u8ren : Go.Shelf.Ren := ⟨fun | 196 => 172 | 259 => 189 | n => n, fun | 0 => 0 | 3 => 3 | 4 => 4 | 5 => 5 | 9 => 9 | 12 => 12 | 46 => 77 | 53 => 165 | 119 => 224 | 138 => 226 | 139 => 227 | n => n, fun | 3 => 28 | 4 => 29 | n => n⟩
theorem u8lays : Go.Proofs.Lays.n196 Tryz.prog u8ren := {
  mixed := by kernel_rfl
  f196 := Tryz.func172.trans (congrArg some (by kernel_rfl))
  f259 := Tryz.func189.trans (congrArg some (by kernel_rfl))
  t0 := Tryz.underlying0
  a0 := Tryz.isAgg0
  z0 := Tryz.sizeOf0
  v0 := Tryz.zeroValue0
  t3 := Tryz.underlying3
  a3 := Tryz.isAgg3
  z3 := Tryz.sizeOf3
  v3 := Tryz.zeroValue3
  t4 := Tryz.underlying4
  a4 := Tryz.isAgg4
  z4 := Tryz.sizeOf4
  v4 := Tryz.zeroValue4
  t5 := Tryz.underlying5
  a5 := Tryz.isAgg5
  z5 := Tryz.sizeOf5
  v5 := Tryz.zeroValue5
  t9 := Tryz.underlying9
  a9 := Tryz.isAgg9
  z9 := Tryz.sizeOf9
  v9 := Tryz.zeroValue9
  t12 := Tryz.underlying12
  a12 := Tryz.isAgg12
  z12 := Tryz.sizeOf12
  v12 := Tryz.zeroValue12
  t46 := Tryz.underlying77
  a46 := Tryz.isAgg77
  z46 := Tryz.sizeOf77
  v46 := Tryz.zeroValue77
  t53 := Tryz.underlying165
  a53 := Tryz.isAgg165
  z53 := Tryz.sizeOf165
  v53 := Tryz.zeroValue165
  t119 := Tryz.underlying224
  a119 := Tryz.isAgg224
  z119 := Tryz.sizeOf224
  t138 := Tryz.underlying226
  a138 := Tryz.isAgg226
  z138 := Tryz.sizeOf226
  v138 := Tryz.zeroValue226
  t139 := Tryz.underlying227
  a139 := Tryz.isAgg227
  z139 := Tryz.sizeOf227
  v139 := Tryz.zeroValue227
  g3 := by kernel_rfl
  g4 := by kernel_rfl }
namespace Am
/-- the tables are among the variables -/
class OkT (l : List Nat) : Prop where
  a : tabA ∈ lst l
  b : tabB ∈ lst l
instance okTT : OkT gsT := ⟨by decide, by decide⟩
theorem valid_ac {gs : List Nat} [OkT gs] (l : List UInt8) (hl : l.length ≤ 9223372036854775807) : ACp gs Tryz.prog 172 [strC l] (.c (.bool (Lib.validD l))) :=
  ac_old fun al w St vals hs hv hr => by
    have h0 : vals.getD 0 undef = .string ⟨l.toArray⟩ := hr 0
    rw [vals1 hv, h0]
    exact Any.utf8_ValidString u8lays ⟨l.toArray⟩ w hl (hs.tab OkT.a OkT.b)
end Am
end Go.Proofs.YtgnjjenalebiaaaGreatDoor

/- Chapter 7, plain: what the reference asks of a rune's bytes. -/
namespace Go.Proofs.YtgnjjenalebiaaaGreatDoor
namespace Am
open Go.RowKit Go.Lib
set_option linter.unusedVariables false

/-- what the first byte b says: n more bytes, the bits c, the least -/
def RefSt (b n c least : Nat) : Prop :=
  (n = 0 ∧ c = b ∧ least = 0 ∧ b < 128 ∧ 32 ≤ b ∧ b ≠ 127) ∨ (n = 1 ∧ c + 192 = b ∧ least = 128 ∧ b < 224) ∨ (n = 2 ∧ c + 224 = b ∧ least = 2048 ∧ b < 240) ∨ (n = 3 ∧ c + 240 = b ∧ least = 65536 ∧ b < 248)
def cR (d : List UInt8) (c0 : Nat) : Nat → Nat
  | 0 => c0
  | j + 1 => cR d c0 j * 64 + bt d (j + 1) - 128
theorem bt_drop (l : List UInt8) (i j : Nat) : bt (l.drop i) j = bt l (i + j) := by simp [bt, List.getD]
theorem dec_at (l : List UInt8) (i : Nat) : Utf8.decode ⟨l.toArray⟩ i = dec1 (l.drop i) := by
  unfold dec1
  rw [Lib.decode_at, ba_bang, ba_bang, ba_bang, ba_bang, bt_drop, bt_drop, bt_drop, bt_drop, List.length_drop]
  rfl
theorem dec1_le {d : List UInt8} (hd : d ≠ []) : (dec1 d).2 ≤ d.length := by
  have hp := List.length_pos_iff.2 hd
  unfold dec1 Lib.decodeN
  repeat' split
  all_goals first | (simp only; omega) | omega
end Am
end Go.Proofs.YtgnjjenalebiaaaGreatDoor

/- Chapter 7: which texts are plain. -/
namespace Go.Proofs.YtgnjjenalebiaaaGreatDoor
set_option linter.unusedVariables false
namespace Am
open Go.RowKit
set_option maxRecDepth 100000

theorem plain07_ac {gs : List Nat} [OkT gs] (l : List UInt8) (hl : l.length ≤ 1000000000) : ACp gs Tryz.prog 157 [strC l] (.c (.bool (plainM l))) := by
  refine ac_of 18 Tryz.func157 rfl rfl rfl (fun al w0 F0 St0 => ?_)
  refine jcr ?_
  refine jq jrm ?_
  refine seq_nil ?_
  refine jcs ?_
  refine jcr ?_
  refine jq jrm ?_
  refine jqe (e_range rfl rfl Tryz.underlying9 rfl rfl (fun p1 => ?_))
  refine seq_nil ?_
  refine code_block ?_
  refine l_loop (α := Nat) [2, 4, 7, 8, 9, 10, 11, 12, 13, 14, 15] (fun i => []) (fun i => [(some p1, .obj (iterOP ⟨l.toArray⟩ i))]) (fun i => i ≤ l.length ∧ noBadM (l.drop i) = noBadM l) (fun i => l.length - i) (0) ?_ (fun _ => rfl) ?_ ?_ ?_
  · exact ⟨Nat.zero_le _, rfl⟩
  · exact .nil
  · exact .same .nil
  · rintro i ⟨hi, he⟩
    refine jcr ?_
    refine seq_md (wanted_none rfl) (m_next rfl rfl rfl rfl rfl (fun n23 => ?_) (fun n23 => ?_))
    · refine jq jrx ?_
      refine seq_nil ?_
      refine jcs ?_
      refine jcT ?_
      refine code_skip (jtn ?_)
      refine code_block ?_
      refine jcr ?_
      refine jq jrx ?_
      refine jq jrm ?_
      refine seq_nil ?_
      have hd := dec_at l i
      have hlt : i < l.length := n23
      have hne : l.drop i ≠ [] := by intro e; have := congrArg List.length e; simp at this; omega
      have hw := dec1_width (l.drop i)
      have hwl := dec1_le hne
      simp only [List.length_drop] at hwl
      rw [← hd] at hw hwl
      refine jcr ?_
      refine jq jrm ?_
      refine jq jrc ?_
      refine jq jrm ?_
      refine jqsp 12 (fun g24 => ?_) fun g24 => ?_
      · refine jqs ?_
        refine jqs ?_
        refine jq jrpT ?_
        refine seq_nil ?_
        refine jcT ?_
        refine jcr ?_
        refine jq jrm ?_
        refine seq_nil ?_
        refine code_ret (jbr (jtr (jbr (jtr (jrt (hv := ?_))))))
        refine CEnt.bool ?_
        rw [plainM_two, ← he, noBadM_step hne, ← hd, if_pos ?_]
        · rfl
        · unfold badR; simp only [Bool.or_eq_true, decide_eq_true_eq]; omega
      refine jq jrm ?_
      refine jq jrc ?_
      refine jq jrpF ?_
      refine seq_nil ?_
      refine jcc (fun h24 => ?_) fun h24 => ?_
      · refine jcr ?_
        refine jq jrm ?_
        refine seq_nil ?_
        refine code_ret (jbr (jtr (jbr (jtr (jrt (hv := ?_))))))
        refine CEnt.bool ?_
        rw [plainM_two, ← he, noBadM_step hne, ← hd, if_pos ?_]
        · rfl
        · unfold badR; simp only [Bool.or_eq_true, decide_eq_true_eq]; omega
      refine code_skip (jbn (jtn ?_))
      refine jlend (i + (Utf8.decode ⟨l.toArray⟩ i).2) ?_ ?_ (h5 := ?_) (h7 := ?_)
      · refine ⟨by omega, ?_⟩
        have hb : ¬ badR (Utf8.decode ⟨l.toArray⟩ i).1 = true := by unfold badR; simp only [Bool.or_eq_true, decide_eq_true_eq]; omega
        rw [← he, noBadM_step hne, ← hd, if_neg hb, List.drop_drop]
      · show l.length - (i + (Utf8.decode ⟨l.toArray⟩ i).2) < l.length - i; omega
      · exact .nil
      · exact .same .nil
    · refine jq jrx ?_
      refine seq_nil ?_
      refine jcs ?_
      refine jcF ?_
      refine code_exit (jte (jte (jbx (jtn ?_))))
      refine jcr ?_
      refine jq jrm ?_
      refine jqe (jecP (valid_ac l (by omega)) ?_)
      refine jq jrm ?_
      refine seq_nil ?_
      refine code_ret (jrt (hv := ?_))
      refine CEnt.bool ?_
      have e : l.drop i = [] := List.drop_eq_nil_of_le (Nat.le_of_not_lt n23)
      rw [plainM_two, ← he, e]
      rfl


end Am
end Go.Proofs.YtgnjjenalebiaaaGreatDoor

/- Chapter 7, plain: shifts and bits of numbers as the program computes them. -/
namespace Go.Proofs.YtgnjjenalebiaaaGreatDoor
namespace Am
open Go.RowKit
set_option linter.unusedVariables false
set_option maxRecDepth 100000

theorem wrap16 (n : Int) : IntKind.u16.wrap n = n % 65536 := by simp [IntKind.wrap, IntKind.bits, IntKind.signed]
theorem shl8_16 {M : Nat} (z : Int) (hz : z = 8) : IntKind.u16.wrap (((M : Nat) : Int) * 2 ^ (min z.toNat 16)) = ((M % 256 * 256 : Nat) : Int) := by
  subst hz
  rw [wrap16, show min (8 : Int).toNat 16 = 8 from rfl, show ((2 : Int) ^ 8) = 256 from rfl]
  omega
theorem shr8_16 {M : Nat} (z : Int) (hz : z = 8) : Int.fdiv ((M : Nat) : Int) (2 ^ (min z.toNat 16)) = ((M / 256 : Nat) : Int) := by
  subst hz
  rw [show min (8 : Int).toNat 16 = 8 from rfl, show ((2 : Int) ^ 8) = ((256 : Nat) : Int) from rfl, Int.fdiv_eq_ediv_of_nonneg _ (by omega)]
  exact (Int.natCast_ediv M 256).symm
theorem shr8_64 {M : Nat} (z : Int) (hz : z = 8) : Int.fdiv ((M : Nat) : Int) (2 ^ (min z.toNat 64)) = ((M / 256 : Nat) : Int) := by
  subst hz
  rw [show min (8 : Int).toNat 64 = 8 from rfl, show ((2 : Int) ^ 8) = ((256 : Nat) : Int) from rfl, Int.fdiv_eq_ediv_of_nonneg _ (by omega)]
  exact (Int.natCast_ediv M 256).symm
theorem bv16 {a : Nat} (h : a < 65536) : BitVec.ofInt 16 ((a : Nat) : Int) = BitVec.ofNat 16 a := by
  apply BitVec.eq_of_toNat_eq; simp
theorem and255 {M : Nat} (h : M < 65536) : IntKind.u16.wrap ((BitVec.ofInt 16 ((M : Nat) : Int) &&& BitVec.ofInt 16 255).toNat : Int) = ((M % 256 : Nat) : Int) := by
  have e : (BitVec.ofInt 16 ((M : Nat) : Int) &&& BitVec.ofInt 16 255).toNat = M % 256 := by
    rw [bv16 h, show BitVec.ofInt 16 (255 : Int) = BitVec.ofNat 16 255 from rfl, BitVec.toNat_and, BitVec.toNat_ofNat, BitVec.toNat_ofNat, Nat.mod_eq_of_lt (show M < 2 ^ 16 from h)]
    exact Nat.and_two_pow_sub_one_eq_mod M 8
  rw [e, wrap16]; omega
theorem or_hl {a b : Nat} (ha : a < 256) (hb : b < 256) : IntKind.u16.wrap ((BitVec.ofInt 16 ((a : Nat) : Int) ||| BitVec.ofInt 16 ((b * 256 : Nat) : Int)).toNat : Int) = ((a + 256 * b : Nat) : Int) := by
  have e : (BitVec.ofInt 16 ((a : Nat) : Int) ||| BitVec.ofInt 16 ((b * 256 : Nat) : Int)).toNat = a + 256 * b := by
    rw [bv16 (by omega), bv16 (by omega), BitVec.toNat_or, BitVec.toNat_ofNat, BitVec.toNat_ofNat, Nat.mod_eq_of_lt (show a < 2 ^ 16 by omega), Nat.mod_eq_of_lt (show b * 256 < 2 ^ 16 by omega), Nat.or_comm]
    have := Nat.two_pow_add_eq_or_of_lt (i := 8) (b := a) (by omega) b
    rw [show b * 256 = 2 ^ 8 * b by omega, ← this]; omega
  rw [e, wrap16]; omega
theorem or_lh {a b : Nat} (ha : a < 256) (hb : b < 256) : IntKind.u16.wrap ((BitVec.ofInt 16 ((b * 256 : Nat) : Int) ||| BitVec.ofInt 16 ((a : Nat) : Int)).toNat : Int) = ((a + 256 * b : Nat) : Int) := by
  rw [BitVec.or_comm]; exact or_hl ha hb
/-! ### the reference's reading of a body -/
/-- the bits of a body, the first one lowest -/
def bitsR (b : List UInt8) : Nat := rev8 (b.getD 1 0).toNat + 256 * (if b.length = 3 then rev8 (b.getD 2 0).toNat else 0)
theorem tab_wrap {k : IntKind} {L T : List UInt8} {i v : Nat} (h : L = T) (hv : (T.getD i 0).toNat = v) (hk : wide8 k = true) : k.wrap ((L.getD i 0).toNat : Int) = ((v : Nat) : Int) := by
  rw [h, hv]; have := UInt8.toNat_lt (T.getD i 0); exact wide8_wrap hk (by omega) (by omega)
/-- the bits of a mask, turned, while its bytes are laid -/
def turnM (m : Nat) : Nat → Nat
  | 0 => rev16 m
  | j + 1 => turnM m j % 256 * 256
def outL (m : Nat) : Nat → List UInt8
  | 0 => [UInt8.ofNat ((8 - bl m % 8) % 8)]
  | j + 1 => outL m j ++ [UInt8.ofNat (turnM m j / 256)]
theorem turnM_lt {m : Nat} (h : m < 65536) (j : Nat) : turnM m j < 65536 := by
  cases j with
  | zero => exact rev16_lt h
  | succ j => show turnM m j % 256 * 256 < 65536; omega
theorem outL_len (m j : Nat) : (outL m j).length = 1 + j := by
  induction j with
  | zero => rfl
  | succ j ih => show (outL m j ++ _).length = _; rw [List.length_append, ih, List.length_singleton]; omega
theorem outL_end {m : Nat} (h : m < 65536) : outL m ((bl m + 7) / 8) = flagsL m := by
  have h3 := (bl_is h).2
  have r1 := rev8_lt (i := m / 256) (by omega)
  have r2 := rev8_lt (i := m % 256) (by omega)
  have t0 : turnM m 0 / 256 = rev8 (m % 256) := by show rev16 m / 256 = _; unfold rev16; omega
  have t1 : turnM m 1 / 256 = rev8 (m / 256) := by show rev16 m % 256 * 256 / 256 = _; unfold rev16; omega
  unfold flagsL
  by_cases h0 : bl m = 0
  · rw [if_pos h0, h0]; simp only [Nat.reduceAdd, Nat.reduceDiv, outL, h0]
  · rw [if_neg h0]
    by_cases h8 : bl m ≤ 8
    · rw [if_pos h8, show (bl m + 7) / 8 = 1 by omega]; simp only [outL, t0]; rfl
    · rw [if_neg h8, show (bl m + 7) / 8 = 2 by omega]; simp only [outL, t0, t1]; rfl
/-- how many bits there are among the first ones -/
def bp (M : Nat) : Nat → Nat
  | 0 => 0
  | i + 1 => if M / 2 ^ i % 2 = 1 then i + 1 else bp M i
/-- a body's bits as a number of 16 bits, the first one highest -/
def turnedM (b : List UInt8) : Nat := (b.getD 1 0).toNat % 256 * 256 + (if b.length = 3 then (b.getD 2 0).toNat else 0)
theorem turned_rev {b : List UInt8} (h : b.length = 2 ∨ b.length = 3) : turnedM b < 65536 ∧ rev16 (turnedM b) = bitsR b := by
  have h1 : (b.getD 1 0).toNat < 256 := UInt8.toNat_lt _
  have h2 : (b.getD 2 0).toNat < 256 := UInt8.toNat_lt _
  unfold turnedM rev16 bitsR
  generalize (b.getD 1 0).toNat = p at *
  generalize (b.getD 2 0).toNat = q at *
  rcases h with h | h
  · rw [if_neg (by omega), if_neg (by omega), show (p % 256 * 256 + 0) / 256 = p by omega, show (p % 256 * 256 + 0) % 256 = 0 by omega]
    exact ⟨by omega, rfl⟩
  · rw [if_pos h, if_pos h, show (p % 256 * 256 + q) / 256 = p by omega, show (p % 256 * 256 + q) % 256 = q by omega]
    exact ⟨by omega, rfl⟩
end Am
end Go.Proofs.YtgnjjenalebiaaaGreatDoor
