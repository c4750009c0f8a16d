/- What the law leans on, part 4: W04r, W08u, W08k, Shelf, W07v, W08l, W04s, W05, W05b, W05c, W05d, W05e, Laid, Tab, V8, P07e, W07p, P07c, W07, L07, P09n, W07l, W07q, W08m, W08n, W08v, W08w, W08x -/
import Derived.Test.YtjckfbpdieijeaaGreatDoorM3DerRows
import Derived.Shelf.SlSortCmp.NoneTotal
import Derived.Ground.SlsfProg
import Derived.Shelf.Strings.Builder1
import Derived.Shelf.Strings.Builder2
import Derived.Shelf.Strings.OnBuilder
import Derived.Shelf.Small.Bits
import Derived.Shelf.Strconv.Itoa0
import Derived.Shelf.Strings.Search1
import Derived.Shelf.Strings.Search2
import Derived.Shelf.Strings.Search3
import Derived.Shelf.LaysM
import Derived.Shelf.Strings.Shaped
import Derived.Shelf.Unicode.Decode
import Derived.Shelf.Unicode.DecodeSlow
import Derived.Shelf.Unicode.DecodeAny
import Derived.Test.YtjckfbpdieijeaaGreatDoorProg
import Derived.Test.YtjckfbpdieijeaaGreatDoorRows
import Derived.LaidLaws
import Derived.MakeChecks
import Derived.Lib.LaidU8T
import Derived.Shelf.Unicode.ValidAny

/- Chapter 4 in the abstract walk: bodies by the reference. -/
namespace Go.Proofs.YtjckfbpdieijeaaGreatDoor
set_option linter.unusedVariables false
namespace Am
variable {gs : List Nat} [OkG gs]
open Go.RowKit
set_option maxRecDepth 100000

theorem u64_byte (n : Int) (i : Nat) (h : i < 8) : IntKind.u8.wrap ((n % 18446744073709551616).fdiv (2 ^ (min (8 * (i : Int)).toNat IntKind.u64.bits))) = ((byte (sh i n)).toNat : Nat) := by
  rw [IntKind.wrap_u8, byte_toNat]
  have hf : ∀ d : Int, 0 ≤ d → (n % 18446744073709551616).fdiv d = n % 18446744073709551616 / d := fun d hd => Int.fdiv_eq_ediv_of_nonneg _ hd
  rcases i with _ | _ | _ | _ | _ | _ | _ | _ | i
  · show (n % 18446744073709551616).fdiv 1 % 256 = _; rw [hf _ (by decide)]; simp only [sh]; omega
  · show (n % 18446744073709551616).fdiv 256 % 256 = _; rw [hf _ (by decide)]; simp only [sh]; omega
  · show (n % 18446744073709551616).fdiv 65536 % 256 = _; rw [hf _ (by decide)]; simp only [sh]; omega
  · show (n % 18446744073709551616).fdiv 16777216 % 256 = _; rw [hf _ (by decide)]; simp only [sh]; omega
  · show (n % 18446744073709551616).fdiv 4294967296 % 256 = _; rw [hf _ (by decide)]; simp only [sh]; omega
  · show (n % 18446744073709551616).fdiv 1099511627776 % 256 = _; rw [hf _ (by decide)]; simp only [sh]; omega
  · show (n % 18446744073709551616).fdiv 281474976710656 % 256 = _; rw [hf _ (by decide)]; simp only [sh]; omega
  · show (n % 18446744073709551616).fdiv 72057594037927936 % 256 = _; rw [hf _ (by decide)]; simp only [sh]; omega
  · omega
theorem digs_step {n : Int} {j : Nat} (h : j < 8) : (digs 8 n).reverse.take j ++ [byte (sh (7 - j) n)] = (digs 8 n).reverse.take (j + 1) := by
  have hl : j < (digs 8 n).reverse.length := by rw [List.length_reverse, digs_length]; exact h
  rw [List.take_succ_eq_append_getElem hl, ← digs_rev_get n 8 j h]
  simp [List.getD, show j < (digs 8 n).length by rw [digs_length]; exact h]
theorem digs_drop (n : Int) (m : Nat) : (digs (m + 1 + 1) n).reverse.drop 1 = (digs (m + 1) n).reverse := by
  rw [digs_succ (m + 1)]; simp
set_option maxHeartbeats 1000000 in
theorem rput04_ac {gs : List Nat} (n : Int) (h1 : -9223372036854775808 ≤ n) (h2 : n ≤ 9223372036854775807) : ACp gs Tryz.prog 90 [.c (.int .i64 n)] (bsC (putN n)) := by
  have h7 := stp_seven n h1 h2
  have hd8 : (digs 8 n).reverse.length = 8 := by rw [List.length_reverse, digs_length]
  refine ac_of 52 Tryz.func90 rfl rfl rfl (fun al w0 F0 St0 => ?_)
  refine jcr ?_
  refine jq jrm ?_
  refine seq_nil ?_
  refine jcr ?_
  refine jqe (jebl 0 1 zr5 fun p1 => ?_)
  refine jq jrm ?_
  refine seq_nil ?_
  refine jcr ?_
  refine jq jrm ?_
  refine jq (rd_convI rfl rfl Tryz.underlying3 Tryz.underlying165 ((n % 18446744073709551616)) ((by rw [IntKind.wrap_u64]))) ?_
  refine jq jrm ?_
  refine seq_nil ?_
  refine jcs ?_
  refine jcr ?_
  refine jq jrm ?_
  refine seq_nil ?_
  refine code_block ?_
  refine l_loop (α := Nat × Option Nat) [3, 5, 9, 10, 11, 12, 13, 14, 15, 16, 17, 18, 19, 20, 21] (fun (j, g) => [(5, .c (.int .i64 (7 - (j : Int)))), (3, .os 0 g 0 ((digs 8 n).reverse.take j).length 1)]) (fun (j, g) => [(g, .blk ((digs 8 n).reverse.take j).length (byF ((digs 8 n).reverse.take j)))]) (fun (j, g) => j ≤ 8) (fun (j, g) => 8 - j) ((0, p1)) ?_ (fun _ => rfl) ?_ ?_ ?_
  · exact Nat.zero_le _
  · exact .cons (CEnt.int (by omega)) (.cons (CEnt.refl _) .nil)
  · exact .blk rfl (fun j hj => absurd hj (Nat.not_lt_zero j)) .nil
  · rintro ⟨j, g⟩ (hj : j ≤ 8)
    have htl : ((digs 8 n).reverse.take j).length = j := by rw [List.length_take]; omega
    refine jcs ?_
    refine jcr ?_
    refine jq jrm ?_
    refine jq jrc ?_
    refine seq_nil ?_
    refine jcc (fun h10 => ?_) fun h10 => ?_
    · refine code_skip (jtn ?_)
      refine jcs ?_
      refine code_block ?_
      obtain ⟨q, hqj, hq8⟩ : ∃ q : Nat, 7 - j = q ∧ (7 : Int) - (j : Int) = (q : Int) := ⟨7 - j, rfl, by omega⟩
      refine code_ent (weaken 5 (.c (.int .i64 (q : Nat))) (CEnt.int hq8)) ?_
      refine jcg ?_
      refine jq jrm ?_
      refine jq jrm ?_
      refine jq jrm ?_
      refine jq jra ?_
      refine jq (jrv .i64 .u64) ?_
      refine jq (rd_shr rfl rfl rfl (by (omega)) _ rfl) ?_
      refine jq (rd_convI rfl rfl Tryz.underlying165 Tryz.underlying5 ((((byte (sh q n)).toNat : Nat) : Int)) (u64_byte n q (by omega))) ?_
      refine jqe (jebl 1 1 zr5 fun p2 => ?_)
      refine jqm (m_appendB (l2 := [byte (sh q n)]) rfl rfl rfl (Nat.le_refl _) (fun _ _ => CEnt.refl _) (src_os rfl (.inl rfl) (by decide)) rfl (hh_bytes (.cons (CEnt.int (rfl)) .nil)) Tryz.underlying26 nu26 sz5 zr5 by5 rfl (by (simp; omega)) (leaf_fl rfl rfl) rfl rfl (fun p3 => ?_))
      refine jq jrm ?_
      refine seq_nil ?_
      refine jbn (jtn ?_)
      refine jcg ?_
      refine jq jrm ?_
      refine jq jra ?_
      refine jq jrm ?_
      refine seq_nil ?_
      refine jtn ?_
      refine jlend ((j + 1, p3)) ?_ ?_ (h5 := ?_) (h7 := ?_)
      · show j + 1 ≤ 8; omega
      · show 8 - (j + 1) < 8 - j; omega
      · exact .cons (CEnt.int (by omega)) (.cons (CEnt.osI (by rw [← digs_step (by omega), hqj])) .nil)
      · exact .blk (by rw [← digs_step (by omega), hqj]) (fun i hi => CEnt.of_eq (by rw [← digs_step (by omega), hqj])) .nil
    refine code_exit (jte (jte (jbx (jtn ?_))))
    refine jcs ?_
    refine code_block ?_
    have hj8 : j = 8 := by omega
    refine code_ent (freeze 0 rfl) ?_
    refine code_ent (thawB 3 ((digs 8 n).reverse.take j) rfl rfl (by rfl) rfl) ?_
    refine code_ent (weaken 3 (bsC (digs (7 + 1) n).reverse) (CEnt.bs (by rw [hj8, List.take_of_length_le (by omega)]))) ?_
    refine code_ent (pick_ent (H' := []) [] (by decide) rfl) ?_
    refine l_loop (α := Nat) [3, 22, 23, 24, 25, 26, 27, 28, 29, 30, 31, 32, 33, 34, 35, 36, 37, 38, 39, 40, 41, 42, 43, 44, 45, 46, 47, 48, 49, 50] (fun k => [(3, bsC (digs (k + 1) n).reverse)]) (fun _ => []) (fun k => k ≤ 7 ∧ stp k n = true) (fun k => k) (7) ?_ (fun _ => rfl) ?_ ?_ ?_
    · exact ⟨Nat.le_refl _, h7⟩
    · (repeat (first | exact EntE.nil | refine EntE.cons (CEnt.refl _) ?_ | refine EntE.cons (CEnt.int (by omega)) ?_))
    · (repeat (first | exact HEnt.nil | refine HEnt.same ?_ | refine HEnt.blk rfl (fun j hj => by rcases j with _|_|_|_|_|_|_|_|j <;> first | exact CEnt.refl _ | exact CEnt.int (by omega) | omega) ?_))
    · rintro k ⟨hk, hst⟩
      have hkl : (digs (k + 1) n).reverse.length = k + 1 := by rw [List.length_reverse, digs_length]
      have hid := fun h => idle_of (l := (digs (k + 1) n).reverse) h
      refine jcs ?_
      refine jcr ?_
      refine jq jrm ?_
      refine jq jrl ?_
      refine jq jrc ?_
      refine jq jrm ?_
      refine jqsp 25 (fun g13 => ?_) fun g13 => ?_
      rotate_left
      · refine jqs ?_
        refine jqs ?_
        refine jqs ?_
        refine jqs ?_
        refine jqs ?_
        refine jqs ?_
        refine jqs ?_
        refine jqs ?_
        refine jqs ?_
        refine jqs ?_
        refine jqs ?_
        refine jqs ?_
        refine jqs ?_
        refine jqs ?_
        refine jqs ?_
        refine jqs ?_
        refine jqs ?_
        refine jqs ?_
        refine jqs ?_
        refine jqs ?_
        refine jqs ?_
        refine jqs ?_
        refine jq jrpF ?_
        refine seq_nil ?_
        refine jcF ?_
        refine code_exit (jte (jte (jbx (jtn ?_))))
        have hno : ∀ j, j < k → stp j n = false := fun j hj => by
          cases e : stp j n with
          | false => rfl
          | true =>
            exfalso
            obtain ⟨m, rfl⟩ : ∃ m, k = m + 1 := ⟨k - 1, by omega⟩
            have h3 := stp_mono' n j m (by omega) e
            rw [← idle_digs n m hst, hid (by omega)] at h3
            omega
        refine jcr ?_
        refine jq jrm ?_
        refine jq jrm ?_
        refine seq_nil ?_
        refine code_ret (jrt (hv := CEnt.bs (putN_of h1 h2 ⟨hk, hst, hno⟩)))
      refine jq jrm ?_
      refine jq (jri (i := 0)) ?_
      refine jq jrdr ?_
      refine jq jrc ?_
      refine jq jrm ?_
      refine jqsp 30 (fun g13_2 => ?_) fun g13_2 => ?_
      rotate_left
      · refine jqs ?_
        refine jqs ?_
        refine jqs ?_
        refine jqs ?_
        refine jq jrpF ?_
        refine jq jrm ?_
        refine jq jrm ?_
        refine jq (jri (i := 0)) ?_
        refine jq jrdr ?_
        refine jq jrc ?_
        refine jq jrm ?_
        refine jqsp 41 (fun g13_3 => ?_) fun g13_3 => ?_
        rotate_left
        · refine jqs ?_
          refine jqs ?_
          refine jqs ?_
          refine jqs ?_
          refine jq jrpF ?_
          refine jq jrpF ?_
          refine jq jrpT ?_
          refine seq_nil ?_
          refine jcF ?_
          refine code_exit (jte (jte (jbx (jtn ?_))))
          have hno : ∀ j, j < k → stp j n = false := fun j hj => by
            cases e : stp j n with
            | false => rfl
            | true =>
              exfalso
              obtain ⟨m, rfl⟩ : ∃ m, k = m + 1 := ⟨k - 1, by omega⟩
              have h3 := stp_mono' n j m (by omega) e
              rw [← idle_digs n m hst, hid (by omega)] at h3
              omega
          refine jcr ?_
          refine jq jrm ?_
          refine jq jrm ?_
          refine seq_nil ?_
          refine code_ret (jrt (hv := CEnt.bs (putN_of h1 h2 ⟨hk, hst, hno⟩)))
        refine jq jrm ?_
        refine jq (jri (i := 1)) ?_
        refine jq jrdr ?_
        refine jq jrc ?_
        refine jq jrpT ?_
        refine jq jrpF ?_
        refine jq jrpT ?_
        refine seq_nil ?_
        refine jcc (fun h13 => ?_) fun h13 => ?_
        rotate_left
        · refine code_exit (jte (jte (jbx (jtn ?_))))
          have hno : ∀ j, j < k → stp j n = false := fun j hj => by
            cases e : stp j n with
            | false => rfl
            | true =>
              exfalso
              obtain ⟨m, rfl⟩ : ∃ m, k = m + 1 := ⟨k - 1, by omega⟩
              have h3 := stp_mono' n j m (by omega) e
              rw [← idle_digs n m hst, hid (by omega)] at h3
              omega
          refine jcr ?_
          refine jq jrm ?_
          refine jq jrm ?_
          refine seq_nil ?_
          refine code_ret (jrt (hv := CEnt.bs (putN_of h1 h2 ⟨hk, hst, hno⟩)))
        refine code_skip (jtn ?_)
        refine code_block ?_
        have hi : idle (digs (k + 1) n).reverse = true := (hid (by omega)).2 (by omega)
        have hdr : (digs (k + 1) n).reverse.drop 1 = (digs (k - 1 + 1) n).reverse := by
          obtain ⟨m, rfl⟩ : ∃ m, k = m + 1 := ⟨k - 1, by omega⟩
          exact digs_drop n m
        have hnx : k - 1 ≤ 7 ∧ stp (k - 1) n = true := by
          obtain ⟨m, rfl⟩ : ∃ m, k = m + 1 := ⟨k - 1, by omega⟩
          rw [idle_digs n m hst] at hi
          exact ⟨by omega, hi⟩
        have hk1 : 0 < k := by omega
        refine jcg ?_
        refine jq jrm ?_
        refine jq (jrsf (hz1 := (show (1 : Int) = ((1 : Nat) : Int) from rfl))) ?_
        refine jq jrm ?_
        refine seq_nil ?_
        refine jbn (jtn ?_)
        refine jlend (k - 1) ?_ ?_ (h5 := ?_)
        · exact hnx
        · show k - 1 < k; omega
        · exact .cons (CEnt.bs hdr) .nil
      refine jq jrm ?_
      refine jq (jri (i := 1)) ?_
      refine jq jrdr ?_
      refine jq jrc ?_
      refine jq jrpT ?_
      refine jq jrm ?_
      refine jqsp 36 (fun g13_3 => ?_) fun g13_3 => ?_
      · refine jqs ?_
        refine jqs ?_
        refine jqs ?_
        refine jqs ?_
        refine jqs ?_
        refine jqs ?_
        refine jqs ?_
        refine jqs ?_
        refine jqs ?_
        refine jqs ?_
        refine jq jrpT ?_
        refine jq jrpT ?_
        refine seq_nil ?_
        refine jcT ?_
        refine code_skip (jtn ?_)
        refine code_block ?_
        have hi : idle (digs (k + 1) n).reverse = true := (hid (by omega)).2 (by omega)
        have hdr : (digs (k + 1) n).reverse.drop 1 = (digs (k - 1 + 1) n).reverse := by
          obtain ⟨m, rfl⟩ : ∃ m, k = m + 1 := ⟨k - 1, by omega⟩
          exact digs_drop n m
        have hnx : k - 1 ≤ 7 ∧ stp (k - 1) n = true := by
          obtain ⟨m, rfl⟩ : ∃ m, k = m + 1 := ⟨k - 1, by omega⟩
          rw [idle_digs n m hst] at hi
          exact ⟨by omega, hi⟩
        have hk1 : 0 < k := by omega
        refine jcg ?_
        refine jq jrm ?_
        refine jq (jrsf (hz1 := (show (1 : Int) = ((1 : Nat) : Int) from rfl))) ?_
        refine jq jrm ?_
        refine seq_nil ?_
        refine jbn (jtn ?_)
        refine jlend (k - 1) ?_ ?_ (h5 := ?_)
        · exact hnx
        · show k - 1 < k; omega
        · exact .cons (CEnt.bs hdr) .nil
      refine jq jrm ?_
      refine jq (jri (i := 0)) ?_
      refine jq jrdr ?_
      refine jq jrc ?_
      refine jq jrm ?_
      refine jqsp 41 (fun g13_4 => ?_) fun g13_4 => ?_
      rotate_left
      · refine jqs ?_
        refine jqs ?_
        refine jqs ?_
        refine jqs ?_
        refine jq jrpF ?_
        refine jq jrpF ?_
        refine jq jrpT ?_
        refine seq_nil ?_
        refine jcF ?_
        refine code_exit (jte (jte (jbx (jtn ?_))))
        have hno : ∀ j, j < k → stp j n = false := fun j hj => by
          cases e : stp j n with
          | false => rfl
          | true =>
            exfalso
            obtain ⟨m, rfl⟩ : ∃ m, k = m + 1 := ⟨k - 1, by omega⟩
            have h3 := stp_mono' n j m (by omega) e
            rw [← idle_digs n m hst, hid (by omega)] at h3
            omega
        refine jcr ?_
        refine jq jrm ?_
        refine jq jrm ?_
        refine seq_nil ?_
        refine code_ret (jrt (hv := CEnt.bs (putN_of h1 h2 ⟨hk, hst, hno⟩)))
      refine jq jrm ?_
      refine jq (jri (i := 1)) ?_
      refine jq jrdr ?_
      refine jq jrc ?_
      refine jq jrpT ?_
      refine jq jrpF ?_
      refine jq jrpT ?_
      refine seq_nil ?_
      refine jcc (fun h13 => ?_) fun h13 => ?_
      rotate_left
      · refine code_exit (jte (jte (jbx (jtn ?_))))
        have hno : ∀ j, j < k → stp j n = false := fun j hj => by
          cases e : stp j n with
          | false => rfl
          | true =>
            exfalso
            obtain ⟨m, rfl⟩ : ∃ m, k = m + 1 := ⟨k - 1, by omega⟩
            have h3 := stp_mono' n j m (by omega) e
            rw [← idle_digs n m hst, hid (by omega)] at h3
            omega
        refine jcr ?_
        refine jq jrm ?_
        refine jq jrm ?_
        refine seq_nil ?_
        refine code_ret (jrt (hv := CEnt.bs (putN_of h1 h2 ⟨hk, hst, hno⟩)))
      refine code_skip (jtn ?_)
      refine code_block ?_
      have hi : idle (digs (k + 1) n).reverse = true := (hid (by omega)).2 (by omega)
      have hdr : (digs (k + 1) n).reverse.drop 1 = (digs (k - 1 + 1) n).reverse := by
        obtain ⟨m, rfl⟩ : ∃ m, k = m + 1 := ⟨k - 1, by omega⟩
        exact digs_drop n m
      have hnx : k - 1 ≤ 7 ∧ stp (k - 1) n = true := by
        obtain ⟨m, rfl⟩ : ∃ m, k = m + 1 := ⟨k - 1, by omega⟩
        rw [idle_digs n m hst] at hi
        exact ⟨by omega, hi⟩
      have hk1 : 0 < k := by omega
      refine jcg ?_
      refine jq jrm ?_
      refine jq (jrsf (hz1 := (show (1 : Int) = ((1 : Nat) : Int) from rfl))) ?_
      refine jq jrm ?_
      refine seq_nil ?_
      refine jbn (jtn ?_)
      refine jlend (k - 1) ?_ ?_ (h5 := ?_)
      · exact hnx
      · show k - 1 < k; omega
      · exact .cons (CEnt.bs hdr) .nil
set_option maxHeartbeats 1000000 in
theorem rget04_ac {gs : List Nat} (l : List UInt8) : ACp gs Tryz.prog 97 [bsC l] (.tup 2 (fl [.c (.int .i64 (getM l).1), .c (.int .i64 ((getM l).2 : Nat))])) := by
  refine ac_len 0 rfl fun hlen => ?_
  have hid := fun h => idle_of (l := l) h
  refine ac_of 58 Tryz.func97 rfl rfl rfl (fun al w0 F0 St0 => ?_)
  refine jcr ?_
  refine jq jrm ?_
  refine jq jrm ?_
  refine seq_nil ?_
  refine jcs ?_
  refine jcr ?_
  refine jq jrm ?_
  refine jq jrl ?_
  refine jq jrc ?_
  refine seq_nil ?_
  refine jcc (fun h21 => ?_) fun h21 => ?_
  · refine jcr ?_
    refine jq jrm ?_
    refine jq jrm ?_
    refine seq_nil ?_
    refine code_ret (jtr (jrt (hv := ?_)))
    have hb : getM l = (0, 2) := by unfold getM; rw [if_pos (by omega)]
    rw [hb]; exact CEnt.refl _
  refine code_skip (jtn ?_)
  refine jcs ?_
  refine jcr ?_
  refine jq jrm ?_
  refine jq jrl ?_
  refine jq jrc ?_
  refine jq jrm ?_
  refine jqsp 13 (fun g24 => ?_) fun g24 => ?_
  rotate_left
  · refine jqs ?_
    refine jqs ?_
    refine jqs ?_
    refine jqs ?_
    refine jqs ?_
    refine jqs ?_
    refine jqs ?_
    refine jqs ?_
    refine jqs ?_
    refine jqs ?_
    refine jqs ?_
    refine jqs ?_
    refine jqs ?_
    refine jqs ?_
    refine jqs ?_
    refine jqs ?_
    refine jqs ?_
    refine jqs ?_
    refine jqs ?_
    refine jqs ?_
    refine jqs ?_
    refine jqs ?_
    refine jq jrpF ?_
    refine seq_nil ?_
    refine jcF ?_
    refine code_skip (jtn ?_)
    refine jcs ?_
    have hni : ¬ idle l = true := by
      by_cases h1 : 1 < l.length
      · rw [hid h1]; omega
      · rw [idle_short l (by omega)]; exact Bool.noConfusion
    refine jcr ?_
    refine jq jrm ?_
    refine jq jrl ?_
    refine jq jrc ?_
    refine seq_nil ?_
    refine jcc (fun h27 => ?_) fun h27 => ?_
    · refine jcr ?_
      refine jq jrm ?_
      refine jq jrm ?_
      refine seq_nil ?_
      refine code_ret (jtr (jrt (hv := ?_)))
      have hb : getM l = (0, 1) := by unfold getM; rw [if_neg (by omega), if_neg hni, if_pos (by omega)]
      rw [hb]; exact CEnt.refl _
    refine code_skip (jtn ?_)
    refine jcr ?_
    refine jq jrm ?_
    refine seq_nil ?_
    refine jcs ?_
    refine jcr ?_
    refine jq jrm ?_
    refine jq (jri (i := 0)) ?_
    refine jq jrdr ?_
    refine jq jrc ?_
    refine seq_nil ?_
    refine jcc (fun h31 => ?_) fun h31 => ?_
    rotate_left
    · refine code_skip (jtn ?_)
      refine jcs ?_
      refine jcr ?_
      refine jq jrm ?_
      refine jq jrl ?_
      refine jq jrm ?_
      refine seq_nil ?_
      refine code_block ?_
      refine l_loop (α := Nat) [4, 6, 46, 47, 48, 49, 50, 51, 52, 53, 54, 55] (fun i => [(46, .c (.int .i64 (i : Nat))), (4, .c (.int .u64 (vk l i % 18446744073709551616)))]) (fun _ => []) (fun i => i ≤ l.length) (fun i => l.length - i) (0) ?_ (fun _ => rfl) ?_ ?_ ?_
      · exact Nat.zero_le _
      · exact .cons (CEnt.refl _) (.cons (CEnt.int (by unfold vk; rw [if_pos rfl]; split <;> omega)) .nil)
      · (repeat (first | exact HEnt.nil | refine HEnt.same ?_ | refine HEnt.blk rfl (fun j hj => by rcases j with _|_|_|_|_|_|_|_|j <;> first | exact CEnt.refl _ | exact CEnt.int (by omega) | omega) ?_))
      · rintro i (hi : i ≤ l.length)
        refine jcr ?_
        refine jq jrc ?_
        refine seq_nil ?_
        refine jcs ?_
        refine jcc (fun h34 => ?_) fun h34 => ?_
        rotate_left
        · refine code_exit (jte (jte (jbx (jtn ?_))))
          have hil : i = l.length := by omega
          have hvb := valS_bd8 l (by omega)
          have hvk : vk l l.length = valS l := by unfold vk; rw [if_neg (by omega), List.take_length]
          have hb : getM l = (valS l, 0) := by unfold getM; rw [if_neg (by omega), if_neg hni, if_neg (by omega)]
          refine jcr ?_
          refine jq jrm ?_
          refine jq (rd_convI rfl rfl Tryz.underlying165 Tryz.underlying3 ((valS l)) ((by rw [hil, hvk, IntKind.wrap_i64]; omega))) ?_
          refine jq jrm ?_
          refine jq jrm ?_
          refine seq_nil ?_
          refine code_ret (jrt (hv := ?_))
          rw [hb]; exact CEnt.refl _
        refine code_skip (jtn ?_)
        refine jcs ?_
        refine code_block ?_
        refine jcr ?_
        refine jq jri ?_
        refine jq jrdr ?_
        refine jq jrm ?_
        refine seq_nil ?_
        refine jcg ?_
        refine jq jrm ?_
        refine jq (rd_mulW rfl rfl rfl ((IntKind.u64.wrap (vk l i % 18446744073709551616 * 256))) (rfl)) ?_
        refine jq jrm ?_
        refine jq (rd_convI rfl rfl Tryz.underlying5 Tryz.underlying165 ((((l.getD i 0).toNat : Nat) : Int)) (wrap_id (k := .u64) (by have := (l.getD i 0).toNat_lt; show _ ∧ _; omega))) ?_
        refine jq (rd_addW rfl rfl rfl ((vk l (i + 1) % 18446744073709551616)) ((by rw [vk_succ l i (by omega)]; exact u64_step _ _))) ?_
        refine jq jrm ?_
        refine seq_nil ?_
        refine jbn (jtn ?_)
        refine jcg ?_
        refine jq jra ?_
        refine jq jrm ?_
        refine seq_nil ?_
        refine jtn ?_
        refine jlend (i + 1) ?_ ?_ (h5 := ?_)
        · show i + 1 ≤ l.length; omega
        · show l.length - (i + 1) < l.length - i; omega
        · exact .cons (CEnt.int (by omega)) (.cons (CEnt.refl _) .nil)
    refine jcg ?_
    refine jq jrm ?_
    refine seq_nil ?_
    refine jtn ?_
    refine jcs ?_
    refine jcr ?_
    refine jq jrm ?_
    refine jq jrl ?_
    refine jq jrm ?_
    refine seq_nil ?_
    refine code_block ?_
    refine l_loop (α := Nat) [4, 6, 46, 47, 48, 49, 50, 51, 52, 53, 54, 55] (fun i => [(46, .c (.int .i64 (i : Nat))), (4, .c (.int .u64 (vk l i % 18446744073709551616)))]) (fun _ => []) (fun i => i ≤ l.length) (fun i => l.length - i) (0) ?_ (fun _ => rfl) ?_ ?_ ?_
    · exact Nat.zero_le _
    · exact .cons (CEnt.refl _) (.cons (CEnt.int (by unfold vk; rw [if_pos rfl]; split <;> omega)) .nil)
    · (repeat (first | exact HEnt.nil | refine HEnt.same ?_ | refine HEnt.blk rfl (fun j hj => by rcases j with _|_|_|_|_|_|_|_|j <;> first | exact CEnt.refl _ | exact CEnt.int (by omega) | omega) ?_))
    · rintro i (hi : i ≤ l.length)
      refine jcr ?_
      refine jq jrc ?_
      refine seq_nil ?_
      refine jcs ?_
      refine jcc (fun h34 => ?_) fun h34 => ?_
      rotate_left
      · refine code_exit (jte (jte (jbx (jtn ?_))))
        have hil : i = l.length := by omega
        have hvb := valS_bd8 l (by omega)
        have hvk : vk l l.length = valS l := by unfold vk; rw [if_neg (by omega), List.take_length]
        have hb : getM l = (valS l, 0) := by unfold getM; rw [if_neg (by omega), if_neg hni, if_neg (by omega)]
        refine jcr ?_
        refine jq jrm ?_
        refine jq (rd_convI rfl rfl Tryz.underlying165 Tryz.underlying3 ((valS l)) ((by rw [hil, hvk, IntKind.wrap_i64]; omega))) ?_
        refine jq jrm ?_
        refine jq jrm ?_
        refine seq_nil ?_
        refine code_ret (jrt (hv := ?_))
        rw [hb]; exact CEnt.refl _
      refine code_skip (jtn ?_)
      refine jcs ?_
      refine code_block ?_
      refine jcr ?_
      refine jq jri ?_
      refine jq jrdr ?_
      refine jq jrm ?_
      refine seq_nil ?_
      refine jcg ?_
      refine jq jrm ?_
      refine jq (rd_mulW rfl rfl rfl ((IntKind.u64.wrap (vk l i % 18446744073709551616 * 256))) (rfl)) ?_
      refine jq jrm ?_
      refine jq (rd_convI rfl rfl Tryz.underlying5 Tryz.underlying165 ((((l.getD i 0).toNat : Nat) : Int)) (wrap_id (k := .u64) (by have := (l.getD i 0).toNat_lt; show _ ∧ _; omega))) ?_
      refine jq (rd_addW rfl rfl rfl ((vk l (i + 1) % 18446744073709551616)) ((by rw [vk_succ l i (by omega)]; exact u64_step _ _))) ?_
      refine jq jrm ?_
      refine seq_nil ?_
      refine jbn (jtn ?_)
      refine jcg ?_
      refine jq jra ?_
      refine jq jrm ?_
      refine seq_nil ?_
      refine jtn ?_
      refine jlend (i + 1) ?_ ?_ (h5 := ?_)
      · show i + 1 ≤ l.length; omega
      · show l.length - (i + 1) < l.length - i; omega
      · exact .cons (CEnt.int (by omega)) (.cons (CEnt.refl _) .nil)
  refine jq jrm ?_
  refine jq (jri (i := 0)) ?_
  refine jq jrdr ?_
  refine jq jrc ?_
  refine jq jrm ?_
  refine jqsp 18 (fun g24_2 => ?_) fun g24_2 => ?_
  rotate_left
  · refine jqs ?_
    refine jqs ?_
    refine jqs ?_
    refine jqs ?_
    refine jq jrpF ?_
    refine jq jrm ?_
    refine jq jrm ?_
    refine jq (jri (i := 0)) ?_
    refine jq jrdr ?_
    refine jq jrc ?_
    refine jq jrm ?_
    refine jqsp 29 (fun g24_3 => ?_) fun g24_3 => ?_
    rotate_left
    · refine jqs ?_
      refine jqs ?_
      refine jqs ?_
      refine jqs ?_
      refine jq jrpF ?_
      refine jq jrpF ?_
      refine jq jrpT ?_
      refine seq_nil ?_
      refine jcF ?_
      refine code_skip (jtn ?_)
      refine jcs ?_
      have hni : ¬ idle l = true := by
        by_cases h1 : 1 < l.length
        · rw [hid h1]; omega
        · rw [idle_short l (by omega)]; exact Bool.noConfusion
      refine jcr ?_
      refine jq jrm ?_
      refine jq jrl ?_
      refine jq jrc ?_
      refine seq_nil ?_
      refine jcc (fun h27 => ?_) fun h27 => ?_
      · refine jcr ?_
        refine jq jrm ?_
        refine jq jrm ?_
        refine seq_nil ?_
        refine code_ret (jtr (jrt (hv := ?_)))
        have hb : getM l = (0, 1) := by unfold getM; rw [if_neg (by omega), if_neg hni, if_pos (by omega)]
        rw [hb]; exact CEnt.refl _
      refine code_skip (jtn ?_)
      refine jcr ?_
      refine jq jrm ?_
      refine seq_nil ?_
      refine jcs ?_
      refine jcr ?_
      refine jq jrm ?_
      refine jq (jri (i := 0)) ?_
      refine jq jrdr ?_
      refine jq jrc ?_
      refine seq_nil ?_
      refine jcc (fun h31 => ?_) fun h31 => ?_
      rotate_left
      · refine code_skip (jtn ?_)
        refine jcs ?_
        refine jcr ?_
        refine jq jrm ?_
        refine jq jrl ?_
        refine jq jrm ?_
        refine seq_nil ?_
        refine code_block ?_
        refine l_loop (α := Nat) [4, 6, 46, 47, 48, 49, 50, 51, 52, 53, 54, 55] (fun i => [(46, .c (.int .i64 (i : Nat))), (4, .c (.int .u64 (vk l i % 18446744073709551616)))]) (fun _ => []) (fun i => i ≤ l.length) (fun i => l.length - i) (0) ?_ (fun _ => rfl) ?_ ?_ ?_
        · exact Nat.zero_le _
        · exact .cons (CEnt.refl _) (.cons (CEnt.int (by unfold vk; rw [if_pos rfl]; split <;> omega)) .nil)
        · (repeat (first | exact HEnt.nil | refine HEnt.same ?_ | refine HEnt.blk rfl (fun j hj => by rcases j with _|_|_|_|_|_|_|_|j <;> first | exact CEnt.refl _ | exact CEnt.int (by omega) | omega) ?_))
        · rintro i (hi : i ≤ l.length)
          refine jcr ?_
          refine jq jrc ?_
          refine seq_nil ?_
          refine jcs ?_
          refine jcc (fun h34 => ?_) fun h34 => ?_
          rotate_left
          · refine code_exit (jte (jte (jbx (jtn ?_))))
            have hil : i = l.length := by omega
            have hvb := valS_bd8 l (by omega)
            have hvk : vk l l.length = valS l := by unfold vk; rw [if_neg (by omega), List.take_length]
            have hb : getM l = (valS l, 0) := by unfold getM; rw [if_neg (by omega), if_neg hni, if_neg (by omega)]
            refine jcr ?_
            refine jq jrm ?_
            refine jq (rd_convI rfl rfl Tryz.underlying165 Tryz.underlying3 ((valS l)) ((by rw [hil, hvk, IntKind.wrap_i64]; omega))) ?_
            refine jq jrm ?_
            refine jq jrm ?_
            refine seq_nil ?_
            refine code_ret (jrt (hv := ?_))
            rw [hb]; exact CEnt.refl _
          refine code_skip (jtn ?_)
          refine jcs ?_
          refine code_block ?_
          refine jcr ?_
          refine jq jri ?_
          refine jq jrdr ?_
          refine jq jrm ?_
          refine seq_nil ?_
          refine jcg ?_
          refine jq jrm ?_
          refine jq (rd_mulW rfl rfl rfl ((IntKind.u64.wrap (vk l i % 18446744073709551616 * 256))) (rfl)) ?_
          refine jq jrm ?_
          refine jq (rd_convI rfl rfl Tryz.underlying5 Tryz.underlying165 ((((l.getD i 0).toNat : Nat) : Int)) (wrap_id (k := .u64) (by have := (l.getD i 0).toNat_lt; show _ ∧ _; omega))) ?_
          refine jq (rd_addW rfl rfl rfl ((vk l (i + 1) % 18446744073709551616)) ((by rw [vk_succ l i (by omega)]; exact u64_step _ _))) ?_
          refine jq jrm ?_
          refine seq_nil ?_
          refine jbn (jtn ?_)
          refine jcg ?_
          refine jq jra ?_
          refine jq jrm ?_
          refine seq_nil ?_
          refine jtn ?_
          refine jlend (i + 1) ?_ ?_ (h5 := ?_)
          · show i + 1 ≤ l.length; omega
          · show l.length - (i + 1) < l.length - i; omega
          · exact .cons (CEnt.int (by omega)) (.cons (CEnt.refl _) .nil)
      refine jcg ?_
      refine jq jrm ?_
      refine seq_nil ?_
      refine jtn ?_
      refine jcs ?_
      refine jcr ?_
      refine jq jrm ?_
      refine jq jrl ?_
      refine jq jrm ?_
      refine seq_nil ?_
      refine code_block ?_
      refine l_loop (α := Nat) [4, 6, 46, 47, 48, 49, 50, 51, 52, 53, 54, 55] (fun i => [(46, .c (.int .i64 (i : Nat))), (4, .c (.int .u64 (vk l i % 18446744073709551616)))]) (fun _ => []) (fun i => i ≤ l.length) (fun i => l.length - i) (0) ?_ (fun _ => rfl) ?_ ?_ ?_
      · exact Nat.zero_le _
      · exact .cons (CEnt.refl _) (.cons (CEnt.int (by unfold vk; rw [if_pos rfl]; split <;> omega)) .nil)
      · (repeat (first | exact HEnt.nil | refine HEnt.same ?_ | refine HEnt.blk rfl (fun j hj => by rcases j with _|_|_|_|_|_|_|_|j <;> first | exact CEnt.refl _ | exact CEnt.int (by omega) | omega) ?_))
      · rintro i (hi : i ≤ l.length)
        refine jcr ?_
        refine jq jrc ?_
        refine seq_nil ?_
        refine jcs ?_
        refine jcc (fun h34 => ?_) fun h34 => ?_
        rotate_left
        · refine code_exit (jte (jte (jbx (jtn ?_))))
          have hil : i = l.length := by omega
          have hvb := valS_bd8 l (by omega)
          have hvk : vk l l.length = valS l := by unfold vk; rw [if_neg (by omega), List.take_length]
          have hb : getM l = (valS l, 0) := by unfold getM; rw [if_neg (by omega), if_neg hni, if_neg (by omega)]
          refine jcr ?_
          refine jq jrm ?_
          refine jq (rd_convI rfl rfl Tryz.underlying165 Tryz.underlying3 ((valS l)) ((by rw [hil, hvk, IntKind.wrap_i64]; omega))) ?_
          refine jq jrm ?_
          refine jq jrm ?_
          refine seq_nil ?_
          refine code_ret (jrt (hv := ?_))
          rw [hb]; exact CEnt.refl _
        refine code_skip (jtn ?_)
        refine jcs ?_
        refine code_block ?_
        refine jcr ?_
        refine jq jri ?_
        refine jq jrdr ?_
        refine jq jrm ?_
        refine seq_nil ?_
        refine jcg ?_
        refine jq jrm ?_
        refine jq (rd_mulW rfl rfl rfl ((IntKind.u64.wrap (vk l i % 18446744073709551616 * 256))) (rfl)) ?_
        refine jq jrm ?_
        refine jq (rd_convI rfl rfl Tryz.underlying5 Tryz.underlying165 ((((l.getD i 0).toNat : Nat) : Int)) (wrap_id (k := .u64) (by have := (l.getD i 0).toNat_lt; show _ ∧ _; omega))) ?_
        refine jq (rd_addW rfl rfl rfl ((vk l (i + 1) % 18446744073709551616)) ((by rw [vk_succ l i (by omega)]; exact u64_step _ _))) ?_
        refine jq jrm ?_
        refine seq_nil ?_
        refine jbn (jtn ?_)
        refine jcg ?_
        refine jq jra ?_
        refine jq jrm ?_
        refine seq_nil ?_
        refine jtn ?_
        refine jlend (i + 1) ?_ ?_ (h5 := ?_)
        · show i + 1 ≤ l.length; omega
        · show l.length - (i + 1) < l.length - i; omega
        · exact .cons (CEnt.int (by omega)) (.cons (CEnt.refl _) .nil)
    refine jq jrm ?_
    refine jq (jri (i := 1)) ?_
    refine jq jrdr ?_
    refine jq jrc ?_
    refine jq jrpT ?_
    refine jq jrpF ?_
    refine jq jrpT ?_
    refine seq_nil ?_
    refine jcc (fun h24 => ?_) fun h24 => ?_
    · refine jcr ?_
      refine jq jrm ?_
      refine jq jrm ?_
      refine seq_nil ?_
      refine code_ret (jtr (jrt (hv := ?_)))
      have hb : getM l = (0, 4) := by unfold getM; rw [if_neg (by omega), if_pos ((hid (by omega)).2 (by omega))]
      rw [hb]; exact CEnt.refl _
    refine code_skip (jtn ?_)
    refine jcs ?_
    have hni : ¬ idle l = true := by
      by_cases h1 : 1 < l.length
      · rw [hid h1]; omega
      · rw [idle_short l (by omega)]; exact Bool.noConfusion
    refine jcr ?_
    refine jq jrm ?_
    refine jq jrl ?_
    refine jq jrc ?_
    refine seq_nil ?_
    refine jcc (fun h27 => ?_) fun h27 => ?_
    · refine jcr ?_
      refine jq jrm ?_
      refine jq jrm ?_
      refine seq_nil ?_
      refine code_ret (jtr (jrt (hv := ?_)))
      have hb : getM l = (0, 1) := by unfold getM; rw [if_neg (by omega), if_neg hni, if_pos (by omega)]
      rw [hb]; exact CEnt.refl _
    refine code_skip (jtn ?_)
    refine jcr ?_
    refine jq jrm ?_
    refine seq_nil ?_
    refine jcs ?_
    refine jcr ?_
    refine jq jrm ?_
    refine jq (jri (i := 0)) ?_
    refine jq jrdr ?_
    refine jq jrc ?_
    refine seq_nil ?_
    refine jcc (fun h31 => ?_) fun h31 => ?_
    rotate_left
    · refine code_skip (jtn ?_)
      refine jcs ?_
      refine jcr ?_
      refine jq jrm ?_
      refine jq jrl ?_
      refine jq jrm ?_
      refine seq_nil ?_
      refine code_block ?_
      refine l_loop (α := Nat) [4, 6, 46, 47, 48, 49, 50, 51, 52, 53, 54, 55] (fun i => [(46, .c (.int .i64 (i : Nat))), (4, .c (.int .u64 (vk l i % 18446744073709551616)))]) (fun _ => []) (fun i => i ≤ l.length) (fun i => l.length - i) (0) ?_ (fun _ => rfl) ?_ ?_ ?_
      · exact Nat.zero_le _
      · exact .cons (CEnt.refl _) (.cons (CEnt.int (by unfold vk; rw [if_pos rfl]; split <;> omega)) .nil)
      · (repeat (first | exact HEnt.nil | refine HEnt.same ?_ | refine HEnt.blk rfl (fun j hj => by rcases j with _|_|_|_|_|_|_|_|j <;> first | exact CEnt.refl _ | exact CEnt.int (by omega) | omega) ?_))
      · rintro i (hi : i ≤ l.length)
        refine jcr ?_
        refine jq jrc ?_
        refine seq_nil ?_
        refine jcs ?_
        refine jcc (fun h34 => ?_) fun h34 => ?_
        rotate_left
        · refine code_exit (jte (jte (jbx (jtn ?_))))
          have hil : i = l.length := by omega
          have hvb := valS_bd8 l (by omega)
          have hvk : vk l l.length = valS l := by unfold vk; rw [if_neg (by omega), List.take_length]
          have hb : getM l = (valS l, 0) := by unfold getM; rw [if_neg (by omega), if_neg hni, if_neg (by omega)]
          refine jcr ?_
          refine jq jrm ?_
          refine jq (rd_convI rfl rfl Tryz.underlying165 Tryz.underlying3 ((valS l)) ((by rw [hil, hvk, IntKind.wrap_i64]; omega))) ?_
          refine jq jrm ?_
          refine jq jrm ?_
          refine seq_nil ?_
          refine code_ret (jrt (hv := ?_))
          rw [hb]; exact CEnt.refl _
        refine code_skip (jtn ?_)
        refine jcs ?_
        refine code_block ?_
        refine jcr ?_
        refine jq jri ?_
        refine jq jrdr ?_
        refine jq jrm ?_
        refine seq_nil ?_
        refine jcg ?_
        refine jq jrm ?_
        refine jq (rd_mulW rfl rfl rfl ((IntKind.u64.wrap (vk l i % 18446744073709551616 * 256))) (rfl)) ?_
        refine jq jrm ?_
        refine jq (rd_convI rfl rfl Tryz.underlying5 Tryz.underlying165 ((((l.getD i 0).toNat : Nat) : Int)) (wrap_id (k := .u64) (by have := (l.getD i 0).toNat_lt; show _ ∧ _; omega))) ?_
        refine jq (rd_addW rfl rfl rfl ((vk l (i + 1) % 18446744073709551616)) ((by rw [vk_succ l i (by omega)]; exact u64_step _ _))) ?_
        refine jq jrm ?_
        refine seq_nil ?_
        refine jbn (jtn ?_)
        refine jcg ?_
        refine jq jra ?_
        refine jq jrm ?_
        refine seq_nil ?_
        refine jtn ?_
        refine jlend (i + 1) ?_ ?_ (h5 := ?_)
        · show i + 1 ≤ l.length; omega
        · show l.length - (i + 1) < l.length - i; omega
        · exact .cons (CEnt.int (by omega)) (.cons (CEnt.refl _) .nil)
    refine jcg ?_
    refine jq jrm ?_
    refine seq_nil ?_
    refine jtn ?_
    refine jcs ?_
    refine jcr ?_
    refine jq jrm ?_
    refine jq jrl ?_
    refine jq jrm ?_
    refine seq_nil ?_
    refine code_block ?_
    refine l_loop (α := Nat) [4, 6, 46, 47, 48, 49, 50, 51, 52, 53, 54, 55] (fun i => [(46, .c (.int .i64 (i : Nat))), (4, .c (.int .u64 (vk l i % 18446744073709551616)))]) (fun _ => []) (fun i => i ≤ l.length) (fun i => l.length - i) (0) ?_ (fun _ => rfl) ?_ ?_ ?_
    · exact Nat.zero_le _
    · exact .cons (CEnt.refl _) (.cons (CEnt.int (by unfold vk; rw [if_pos rfl]; split <;> omega)) .nil)
    · (repeat (first | exact HEnt.nil | refine HEnt.same ?_ | refine HEnt.blk rfl (fun j hj => by rcases j with _|_|_|_|_|_|_|_|j <;> first | exact CEnt.refl _ | exact CEnt.int (by omega) | omega) ?_))
    · rintro i (hi : i ≤ l.length)
      refine jcr ?_
      refine jq jrc ?_
      refine seq_nil ?_
      refine jcs ?_
      refine jcc (fun h34 => ?_) fun h34 => ?_
      rotate_left
      · refine code_exit (jte (jte (jbx (jtn ?_))))
        have hil : i = l.length := by omega
        have hvb := valS_bd8 l (by omega)
        have hvk : vk l l.length = valS l := by unfold vk; rw [if_neg (by omega), List.take_length]
        have hb : getM l = (valS l, 0) := by unfold getM; rw [if_neg (by omega), if_neg hni, if_neg (by omega)]
        refine jcr ?_
        refine jq jrm ?_
        refine jq (rd_convI rfl rfl Tryz.underlying165 Tryz.underlying3 ((valS l)) ((by rw [hil, hvk, IntKind.wrap_i64]; omega))) ?_
        refine jq jrm ?_
        refine jq jrm ?_
        refine seq_nil ?_
        refine code_ret (jrt (hv := ?_))
        rw [hb]; exact CEnt.refl _
      refine code_skip (jtn ?_)
      refine jcs ?_
      refine code_block ?_
      refine jcr ?_
      refine jq jri ?_
      refine jq jrdr ?_
      refine jq jrm ?_
      refine seq_nil ?_
      refine jcg ?_
      refine jq jrm ?_
      refine jq (rd_mulW rfl rfl rfl ((IntKind.u64.wrap (vk l i % 18446744073709551616 * 256))) (rfl)) ?_
      refine jq jrm ?_
      refine jq (rd_convI rfl rfl Tryz.underlying5 Tryz.underlying165 ((((l.getD i 0).toNat : Nat) : Int)) (wrap_id (k := .u64) (by have := (l.getD i 0).toNat_lt; show _ ∧ _; omega))) ?_
      refine jq (rd_addW rfl rfl rfl ((vk l (i + 1) % 18446744073709551616)) ((by rw [vk_succ l i (by omega)]; exact u64_step _ _))) ?_
      refine jq jrm ?_
      refine seq_nil ?_
      refine jbn (jtn ?_)
      refine jcg ?_
      refine jq jra ?_
      refine jq jrm ?_
      refine seq_nil ?_
      refine jtn ?_
      refine jlend (i + 1) ?_ ?_ (h5 := ?_)
      · show i + 1 ≤ l.length; omega
      · show l.length - (i + 1) < l.length - i; omega
      · exact .cons (CEnt.int (by omega)) (.cons (CEnt.refl _) .nil)
  refine jq jrm ?_
  refine jq (jri (i := 1)) ?_
  refine jq jrdr ?_
  refine jq jrc ?_
  refine jq jrpT ?_
  refine jq jrm ?_
  refine jqsp 24 (fun g24_3 => ?_) fun g24_3 => ?_
  · refine jqs ?_
    refine jqs ?_
    refine jqs ?_
    refine jqs ?_
    refine jqs ?_
    refine jqs ?_
    refine jqs ?_
    refine jqs ?_
    refine jqs ?_
    refine jqs ?_
    refine jq jrpT ?_
    refine jq jrpT ?_
    refine seq_nil ?_
    refine jcT ?_
    refine jcr ?_
    refine jq jrm ?_
    refine jq jrm ?_
    refine seq_nil ?_
    refine code_ret (jtr (jrt (hv := ?_)))
    have hb : getM l = (0, 4) := by unfold getM; rw [if_neg (by omega), if_pos ((hid (by omega)).2 (by omega))]
    rw [hb]; exact CEnt.refl _
  refine jq jrm ?_
  refine jq (jri (i := 0)) ?_
  refine jq jrdr ?_
  refine jq jrc ?_
  refine jq jrm ?_
  refine jqsp 29 (fun g24_4 => ?_) fun g24_4 => ?_
  rotate_left
  · refine jqs ?_
    refine jqs ?_
    refine jqs ?_
    refine jqs ?_
    refine jq jrpF ?_
    refine jq jrpF ?_
    refine jq jrpT ?_
    refine seq_nil ?_
    refine jcF ?_
    refine code_skip (jtn ?_)
    refine jcs ?_
    have hni : ¬ idle l = true := by
      by_cases h1 : 1 < l.length
      · rw [hid h1]; omega
      · rw [idle_short l (by omega)]; exact Bool.noConfusion
    refine jcr ?_
    refine jq jrm ?_
    refine jq jrl ?_
    refine jq jrc ?_
    refine seq_nil ?_
    refine jcc (fun h27 => ?_) fun h27 => ?_
    · refine jcr ?_
      refine jq jrm ?_
      refine jq jrm ?_
      refine seq_nil ?_
      refine code_ret (jtr (jrt (hv := ?_)))
      have hb : getM l = (0, 1) := by unfold getM; rw [if_neg (by omega), if_neg hni, if_pos (by omega)]
      rw [hb]; exact CEnt.refl _
    refine code_skip (jtn ?_)
    refine jcr ?_
    refine jq jrm ?_
    refine seq_nil ?_
    refine jcs ?_
    refine jcr ?_
    refine jq jrm ?_
    refine jq (jri (i := 0)) ?_
    refine jq jrdr ?_
    refine jq jrc ?_
    refine seq_nil ?_
    refine jcc (fun h31 => ?_) fun h31 => ?_
    rotate_left
    · refine code_skip (jtn ?_)
      refine jcs ?_
      refine jcr ?_
      refine jq jrm ?_
      refine jq jrl ?_
      refine jq jrm ?_
      refine seq_nil ?_
      refine code_block ?_
      refine l_loop (α := Nat) [4, 6, 46, 47, 48, 49, 50, 51, 52, 53, 54, 55] (fun i => [(46, .c (.int .i64 (i : Nat))), (4, .c (.int .u64 (vk l i % 18446744073709551616)))]) (fun _ => []) (fun i => i ≤ l.length) (fun i => l.length - i) (0) ?_ (fun _ => rfl) ?_ ?_ ?_
      · exact Nat.zero_le _
      · exact .cons (CEnt.refl _) (.cons (CEnt.int (by unfold vk; rw [if_pos rfl]; split <;> omega)) .nil)
      · (repeat (first | exact HEnt.nil | refine HEnt.same ?_ | refine HEnt.blk rfl (fun j hj => by rcases j with _|_|_|_|_|_|_|_|j <;> first | exact CEnt.refl _ | exact CEnt.int (by omega) | omega) ?_))
      · rintro i (hi : i ≤ l.length)
        refine jcr ?_
        refine jq jrc ?_
        refine seq_nil ?_
        refine jcs ?_
        refine jcc (fun h34 => ?_) fun h34 => ?_
        rotate_left
        · refine code_exit (jte (jte (jbx (jtn ?_))))
          have hil : i = l.length := by omega
          have hvb := valS_bd8 l (by omega)
          have hvk : vk l l.length = valS l := by unfold vk; rw [if_neg (by omega), List.take_length]
          have hb : getM l = (valS l, 0) := by unfold getM; rw [if_neg (by omega), if_neg hni, if_neg (by omega)]
          refine jcr ?_
          refine jq jrm ?_
          refine jq (rd_convI rfl rfl Tryz.underlying165 Tryz.underlying3 ((valS l)) ((by rw [hil, hvk, IntKind.wrap_i64]; omega))) ?_
          refine jq jrm ?_
          refine jq jrm ?_
          refine seq_nil ?_
          refine code_ret (jrt (hv := ?_))
          rw [hb]; exact CEnt.refl _
        refine code_skip (jtn ?_)
        refine jcs ?_
        refine code_block ?_
        refine jcr ?_
        refine jq jri ?_
        refine jq jrdr ?_
        refine jq jrm ?_
        refine seq_nil ?_
        refine jcg ?_
        refine jq jrm ?_
        refine jq (rd_mulW rfl rfl rfl ((IntKind.u64.wrap (vk l i % 18446744073709551616 * 256))) (rfl)) ?_
        refine jq jrm ?_
        refine jq (rd_convI rfl rfl Tryz.underlying5 Tryz.underlying165 ((((l.getD i 0).toNat : Nat) : Int)) (wrap_id (k := .u64) (by have := (l.getD i 0).toNat_lt; show _ ∧ _; omega))) ?_
        refine jq (rd_addW rfl rfl rfl ((vk l (i + 1) % 18446744073709551616)) ((by rw [vk_succ l i (by omega)]; exact u64_step _ _))) ?_
        refine jq jrm ?_
        refine seq_nil ?_
        refine jbn (jtn ?_)
        refine jcg ?_
        refine jq jra ?_
        refine jq jrm ?_
        refine seq_nil ?_
        refine jtn ?_
        refine jlend (i + 1) ?_ ?_ (h5 := ?_)
        · show i + 1 ≤ l.length; omega
        · show l.length - (i + 1) < l.length - i; omega
        · exact .cons (CEnt.int (by omega)) (.cons (CEnt.refl _) .nil)
    refine jcg ?_
    refine jq jrm ?_
    refine seq_nil ?_
    refine jtn ?_
    refine jcs ?_
    refine jcr ?_
    refine jq jrm ?_
    refine jq jrl ?_
    refine jq jrm ?_
    refine seq_nil ?_
    refine code_block ?_
    refine l_loop (α := Nat) [4, 6, 46, 47, 48, 49, 50, 51, 52, 53, 54, 55] (fun i => [(46, .c (.int .i64 (i : Nat))), (4, .c (.int .u64 (vk l i % 18446744073709551616)))]) (fun _ => []) (fun i => i ≤ l.length) (fun i => l.length - i) (0) ?_ (fun _ => rfl) ?_ ?_ ?_
    · exact Nat.zero_le _
    · exact .cons (CEnt.refl _) (.cons (CEnt.int (by unfold vk; rw [if_pos rfl]; split <;> omega)) .nil)
    · (repeat (first | exact HEnt.nil | refine HEnt.same ?_ | refine HEnt.blk rfl (fun j hj => by rcases j with _|_|_|_|_|_|_|_|j <;> first | exact CEnt.refl _ | exact CEnt.int (by omega) | omega) ?_))
    · rintro i (hi : i ≤ l.length)
      refine jcr ?_
      refine jq jrc ?_
      refine seq_nil ?_
      refine jcs ?_
      refine jcc (fun h34 => ?_) fun h34 => ?_
      rotate_left
      · refine code_exit (jte (jte (jbx (jtn ?_))))
        have hil : i = l.length := by omega
        have hvb := valS_bd8 l (by omega)
        have hvk : vk l l.length = valS l := by unfold vk; rw [if_neg (by omega), List.take_length]
        have hb : getM l = (valS l, 0) := by unfold getM; rw [if_neg (by omega), if_neg hni, if_neg (by omega)]
        refine jcr ?_
        refine jq jrm ?_
        refine jq (rd_convI rfl rfl Tryz.underlying165 Tryz.underlying3 ((valS l)) ((by rw [hil, hvk, IntKind.wrap_i64]; omega))) ?_
        refine jq jrm ?_
        refine jq jrm ?_
        refine seq_nil ?_
        refine code_ret (jrt (hv := ?_))
        rw [hb]; exact CEnt.refl _
      refine code_skip (jtn ?_)
      refine jcs ?_
      refine code_block ?_
      refine jcr ?_
      refine jq jri ?_
      refine jq jrdr ?_
      refine jq jrm ?_
      refine seq_nil ?_
      refine jcg ?_
      refine jq jrm ?_
      refine jq (rd_mulW rfl rfl rfl ((IntKind.u64.wrap (vk l i % 18446744073709551616 * 256))) (rfl)) ?_
      refine jq jrm ?_
      refine jq (rd_convI rfl rfl Tryz.underlying5 Tryz.underlying165 ((((l.getD i 0).toNat : Nat) : Int)) (wrap_id (k := .u64) (by have := (l.getD i 0).toNat_lt; show _ ∧ _; omega))) ?_
      refine jq (rd_addW rfl rfl rfl ((vk l (i + 1) % 18446744073709551616)) ((by rw [vk_succ l i (by omega)]; exact u64_step _ _))) ?_
      refine jq jrm ?_
      refine seq_nil ?_
      refine jbn (jtn ?_)
      refine jcg ?_
      refine jq jra ?_
      refine jq jrm ?_
      refine seq_nil ?_
      refine jtn ?_
      refine jlend (i + 1) ?_ ?_ (h5 := ?_)
      · show i + 1 ≤ l.length; omega
      · show l.length - (i + 1) < l.length - i; omega
      · exact .cons (CEnt.int (by omega)) (.cons (CEnt.refl _) .nil)
  refine jq jrm ?_
  refine jq (jri (i := 1)) ?_
  refine jq jrdr ?_
  refine jq jrc ?_
  refine jq jrpT ?_
  refine jq jrpF ?_
  refine jq jrpT ?_
  refine seq_nil ?_
  refine jcc (fun h24 => ?_) fun h24 => ?_
  · refine jcr ?_
    refine jq jrm ?_
    refine jq jrm ?_
    refine seq_nil ?_
    refine code_ret (jtr (jrt (hv := ?_)))
    have hb : getM l = (0, 4) := by unfold getM; rw [if_neg (by omega), if_pos ((hid (by omega)).2 (by omega))]
    rw [hb]; exact CEnt.refl _
  refine code_skip (jtn ?_)
  refine jcs ?_
  have hni : ¬ idle l = true := by
    by_cases h1 : 1 < l.length
    · rw [hid h1]; omega
    · rw [idle_short l (by omega)]; exact Bool.noConfusion
  refine jcr ?_
  refine jq jrm ?_
  refine jq jrl ?_
  refine jq jrc ?_
  refine seq_nil ?_
  refine jcc (fun h27 => ?_) fun h27 => ?_
  · refine jcr ?_
    refine jq jrm ?_
    refine jq jrm ?_
    refine seq_nil ?_
    refine code_ret (jtr (jrt (hv := ?_)))
    have hb : getM l = (0, 1) := by unfold getM; rw [if_neg (by omega), if_neg hni, if_pos (by omega)]
    rw [hb]; exact CEnt.refl _
  refine code_skip (jtn ?_)
  refine jcr ?_
  refine jq jrm ?_
  refine seq_nil ?_
  refine jcs ?_
  refine jcr ?_
  refine jq jrm ?_
  refine jq (jri (i := 0)) ?_
  refine jq jrdr ?_
  refine jq jrc ?_
  refine seq_nil ?_
  refine jcc (fun h31 => ?_) fun h31 => ?_
  rotate_left
  · refine code_skip (jtn ?_)
    refine jcs ?_
    refine jcr ?_
    refine jq jrm ?_
    refine jq jrl ?_
    refine jq jrm ?_
    refine seq_nil ?_
    refine code_block ?_
    refine l_loop (α := Nat) [4, 6, 46, 47, 48, 49, 50, 51, 52, 53, 54, 55] (fun i => [(46, .c (.int .i64 (i : Nat))), (4, .c (.int .u64 (vk l i % 18446744073709551616)))]) (fun _ => []) (fun i => i ≤ l.length) (fun i => l.length - i) (0) ?_ (fun _ => rfl) ?_ ?_ ?_
    · exact Nat.zero_le _
    · exact .cons (CEnt.refl _) (.cons (CEnt.int (by unfold vk; rw [if_pos rfl]; split <;> omega)) .nil)
    · (repeat (first | exact HEnt.nil | refine HEnt.same ?_ | refine HEnt.blk rfl (fun j hj => by rcases j with _|_|_|_|_|_|_|_|j <;> first | exact CEnt.refl _ | exact CEnt.int (by omega) | omega) ?_))
    · rintro i (hi : i ≤ l.length)
      refine jcr ?_
      refine jq jrc ?_
      refine seq_nil ?_
      refine jcs ?_
      refine jcc (fun h34 => ?_) fun h34 => ?_
      rotate_left
      · refine code_exit (jte (jte (jbx (jtn ?_))))
        have hil : i = l.length := by omega
        have hvb := valS_bd8 l (by omega)
        have hvk : vk l l.length = valS l := by unfold vk; rw [if_neg (by omega), List.take_length]
        have hb : getM l = (valS l, 0) := by unfold getM; rw [if_neg (by omega), if_neg hni, if_neg (by omega)]
        refine jcr ?_
        refine jq jrm ?_
        refine jq (rd_convI rfl rfl Tryz.underlying165 Tryz.underlying3 ((valS l)) ((by rw [hil, hvk, IntKind.wrap_i64]; omega))) ?_
        refine jq jrm ?_
        refine jq jrm ?_
        refine seq_nil ?_
        refine code_ret (jrt (hv := ?_))
        rw [hb]; exact CEnt.refl _
      refine code_skip (jtn ?_)
      refine jcs ?_
      refine code_block ?_
      refine jcr ?_
      refine jq jri ?_
      refine jq jrdr ?_
      refine jq jrm ?_
      refine seq_nil ?_
      refine jcg ?_
      refine jq jrm ?_
      refine jq (rd_mulW rfl rfl rfl ((IntKind.u64.wrap (vk l i % 18446744073709551616 * 256))) (rfl)) ?_
      refine jq jrm ?_
      refine jq (rd_convI rfl rfl Tryz.underlying5 Tryz.underlying165 ((((l.getD i 0).toNat : Nat) : Int)) (wrap_id (k := .u64) (by have := (l.getD i 0).toNat_lt; show _ ∧ _; omega))) ?_
      refine jq (rd_addW rfl rfl rfl ((vk l (i + 1) % 18446744073709551616)) ((by rw [vk_succ l i (by omega)]; exact u64_step _ _))) ?_
      refine jq jrm ?_
      refine seq_nil ?_
      refine jbn (jtn ?_)
      refine jcg ?_
      refine jq jra ?_
      refine jq jrm ?_
      refine seq_nil ?_
      refine jtn ?_
      refine jlend (i + 1) ?_ ?_ (h5 := ?_)
      · show i + 1 ≤ l.length; omega
      · show l.length - (i + 1) < l.length - i; omega
      · exact .cons (CEnt.int (by omega)) (.cons (CEnt.refl _) .nil)
  refine jcg ?_
  refine jq jrm ?_
  refine seq_nil ?_
  refine jtn ?_
  refine jcs ?_
  refine jcr ?_
  refine jq jrm ?_
  refine jq jrl ?_
  refine jq jrm ?_
  refine seq_nil ?_
  refine code_block ?_
  refine l_loop (α := Nat) [4, 6, 46, 47, 48, 49, 50, 51, 52, 53, 54, 55] (fun i => [(46, .c (.int .i64 (i : Nat))), (4, .c (.int .u64 (vk l i % 18446744073709551616)))]) (fun _ => []) (fun i => i ≤ l.length) (fun i => l.length - i) (0) ?_ (fun _ => rfl) ?_ ?_ ?_
  · exact Nat.zero_le _
  · exact .cons (CEnt.refl _) (.cons (CEnt.int (by unfold vk; rw [if_pos rfl]; split <;> omega)) .nil)
  · (repeat (first | exact HEnt.nil | refine HEnt.same ?_ | refine HEnt.blk rfl (fun j hj => by rcases j with _|_|_|_|_|_|_|_|j <;> first | exact CEnt.refl _ | exact CEnt.int (by omega) | omega) ?_))
  · rintro i (hi : i ≤ l.length)
    refine jcr ?_
    refine jq jrc ?_
    refine seq_nil ?_
    refine jcs ?_
    refine jcc (fun h34 => ?_) fun h34 => ?_
    rotate_left
    · refine code_exit (jte (jte (jbx (jtn ?_))))
      have hil : i = l.length := by omega
      have hvb := valS_bd8 l (by omega)
      have hvk : vk l l.length = valS l := by unfold vk; rw [if_neg (by omega), List.take_length]
      have hb : getM l = (valS l, 0) := by unfold getM; rw [if_neg (by omega), if_neg hni, if_neg (by omega)]
      refine jcr ?_
      refine jq jrm ?_
      refine jq (rd_convI rfl rfl Tryz.underlying165 Tryz.underlying3 ((valS l)) ((by rw [hil, hvk, IntKind.wrap_i64]; omega))) ?_
      refine jq jrm ?_
      refine jq jrm ?_
      refine seq_nil ?_
      refine code_ret (jrt (hv := ?_))
      rw [hb]; exact CEnt.refl _
    refine code_skip (jtn ?_)
    refine jcs ?_
    refine code_block ?_
    refine jcr ?_
    refine jq jri ?_
    refine jq jrdr ?_
    refine jq jrm ?_
    refine seq_nil ?_
    refine jcg ?_
    refine jq jrm ?_
    refine jq (rd_mulW rfl rfl rfl ((IntKind.u64.wrap (vk l i % 18446744073709551616 * 256))) (rfl)) ?_
    refine jq jrm ?_
    refine jq (rd_convI rfl rfl Tryz.underlying5 Tryz.underlying165 ((((l.getD i 0).toNat : Nat) : Int)) (wrap_id (k := .u64) (by have := (l.getD i 0).toNat_lt; show _ ∧ _; omega))) ?_
    refine jq (rd_addW rfl rfl rfl ((vk l (i + 1) % 18446744073709551616)) ((by rw [vk_succ l i (by omega)]; exact u64_step _ _))) ?_
    refine jq jrm ?_
    refine seq_nil ?_
    refine jbn (jtn ?_)
    refine jcg ?_
    refine jq jra ?_
    refine jq jrm ?_
    refine seq_nil ?_
    refine jtn ?_
    refine jlend (i + 1) ?_ ?_ (h5 := ?_)
    · show i + 1 ≤ l.length; omega
    · show l.length - (i + 1) < l.length - i; omega
    · exact .cons (CEnt.int (by omega)) (.cons (CEnt.refl _) .nil)
end Am
end Go.Proofs.YtjckfbpdieijeaaGreatDoor

/- Chapter 8: the reference's writer: add, put. -/
namespace Go.Proofs.YtjckfbpdieijeaaGreatDoor
set_option linter.unusedVariables false
namespace Am
variable {gs : List Nat} [OkG gs]
open Go.RowKit
set_option maxRecDepth 100000

def rowsF (r : List (List (List UInt8))) (j : Nat) : CV := lbC (r.getD j [])
def rwB (s : R8) (jr : Nat) (gr : Option Nat) : Nat → CV := fl [isC s.tags, .os jr gr 0 s.rows.length 1, .c (.int .i64 (s.e : Nat))]
def rwE (s : R8) (z : Nat × Option Nat) : List (Option Nat × Res) := [(some z.1, .blk 3 (rwB s 1 z.2)), (z.2, .blk s.rows.length (rowsF s.rows))]
def rwO (n : Nat) (s : R8) : Option Nat × Res := objE n (fun z : Nat × Option Nat => z.1) (rwE s)
section
variable {P : Program} {G : Gh} {c : Code} {R : Exit → AS → Prop} {n : Nat} {s : R8} {env : List (Nat × CV)} {b0 : Nat → CV} {H : List (Option Nat × Res)}
theorem code_openRW (i : Nat) (hi : H[i]? = some (rwO n s)) (h : ∀ gr, ACode P G c ⟨env, b0, H.set i (some n, .blk 3 (rwB s H.length gr)) ++ [(gr, .blk s.rows.length (rowsF s.rows))]⟩ R) : ACode P G c ⟨env, b0, H⟩ R := by
  have hlt := (List.getElem?_eq_some_iff.1 hi).1
  refine code_unpack i hi fun z hz => ?_
  obtain ⟨n', gr⟩ := z
  obtain rfl : n' = n := hz
  refine code_ent (weakH i 3 (rwB s H.length gr) (n := 3) (g := some n') (f := rwB s 1 gr) ?_ (Nat.le_refl _) fun j hj => ?_) ?_
  · show (H.set i _ ++ _)[i]? = _
    rw [List.getElem?_append_left (by simpa using hlt)]
    simp [hlt]
  · rcases j with _ | _ | _ | j
    · exact CEnt.refl _
    · exact CEnt.osI rfl
    · exact CEnt.refl _
    · omega
  · have := h gr
    rw [← List.set_set (a := (some n', Res.blk 3 (rwB s 1 gr))), ← List.set_append_left _ _ (by simpa using hlt)] at this
    exact this
theorem closeRWh (n : Nat) (s : R8) (i j : Nat) {gr : Option Nat} {N : Nat} {f F : Nat → CV} (hi : H[i]? = some (some n, .blk 3 f)) (hj : H[j]? = some (gr, .blk N F)) (hij : Nat.beq i j = false) (h0 : CEnt (f 0) (isC s.tags)) (h1 : CEnt (f 1) (.os 1 gr 0 s.rows.length 1)) (h2 : CEnt (f 2) (.c (.int .i64 (s.e : Nat)))) (hN : s.rows.length ≤ N) (hF : ∀ a, a < s.rows.length → CEnt (F a) (rowsF s.rows a)) :
    ∀ {al : List Addr} {St : Nat → Prop} {w : World} {base : Nat} {F0 : Nat → Prop}, HRel al St w base F0 H → HRel al St w base F0 ((H.set i (rwO n s)).set j (none, .dead)) := by
  intro al St w base F0 h
  have hij := Nat.ne_of_beq_eq_false hij
  have hil := (List.getElem?_eq_some_iff.1 hi).1
  have hjl := (List.getElem?_eq_some_iff.1 hj).1
  have k1 := h.weak (F := rwB s 1 gr) hi (Nat.le_refl _) fun a ha => by
    rcases a with _ | _ | _ | a
    · exact h0
    · exact h1
    · exact h2
    · omega
  have k2 := k1.weak (i := j) (F := rowsF s.rows) (by rw [List.getElem?_set_ne hij]; exact hj) hN hF
  have k4 := k2.closeN (gd := fun z : Nat × Option Nat => z.1) (E := rwE s) (n, gr) i [j] (by simp [hij]) (by simp [hil, hjl]) (by
    simp only [pickL, List.map_cons, List.map_nil, List.getD_eq_getElem?_getD]
    rw [List.getElem?_set_ne (Ne.symm hij)]
    simp [hil, hjl, rwE])
  have e : killL (((H.set i (some n, Res.blk 3 (rwB s 1 gr))).set j (gr, Res.blk s.rows.length (rowsF s.rows))).set i (objE n (fun z : Nat × Option Nat => z.1) (rwE s))) [j] = (H.set i (rwO n s)).set j (none, .dead) := by
    show ((((H.set i _).set j _).set i _).set j _) = _
    rw [List.set_comm _ _ (Ne.symm hij), List.set_set, List.set_set]
    rfl
  rw [← e]
  exact k4
theorem closeRW (n : Nat) (s : R8) (i j : Nat) {gr : Option Nat} {N : Nat} {f F : Nat → CV} (hi : H[i]? = some (some n, .blk 3 f)) (hj : H[j]? = some (gr, .blk N F)) (hij : Nat.beq i j = false) (h0 : CEnt (f 0) (isC s.tags)) (h1 : CEnt (f 1) (.os 1 gr 0 s.rows.length 1)) (h2 : CEnt (f 2) (.c (.int .i64 (s.e : Nat)))) (hN : s.rows.length ≤ N) (hF : ∀ a, a < s.rows.length → CEnt (F a) (rowsF s.rows a)) :
    EntS G ⟨env, b0, H⟩ ⟨env, b0, (H.set i (rwO n s)).set j (none, .dead)⟩ := EntS.hrel (closeRWh n s i j hi hj hij h0 h1 h2 hN hF)
end
theorem end_closeRW {P : Program} {G : Gh} {fn : Func} {e : Exit} {v m : CV} {env : List (Nat × CV)} {b0 : Nat → CV} {H : List (Option Nat × Res)} (he : e = .ret ∨ e = .normal) (n : Nat) (s : R8) (j : Nat) {gr : Option Nat} {N : Nat} {f F : Nat → CV} (hres : ARes P G fn ⟨env, b0, (H.set 0 (rwO n s)).set j (none, .dead)⟩ v) (hv : CEnt v m) (hi : H[0]? = some (some n, .blk 3 f)) (hj : H[j]? = some (gr, .blk N F)) (hij : Nat.beq 0 j = false) (h0 : CEnt (f 0) (isC s.tags)) (h1 : CEnt (f 1) (.os 1 gr 0 s.rows.length 1)) (h2 : CEnt (f 2) (.c (.int .i64 (s.e : Nat)))) (hN : s.rows.length ≤ N) (hF : ∀ a, a < s.rows.length → CEnt (F a) (rowsF s.rows a)) :
    bodyR P G fn (fun r H' => r = m ∧ H' = [rwO n s]) e ⟨env, b0, H⟩ := by
  refine end_hr (closeRWh n s 0 j hi hj hij h0 h1 h2 hN hF) (end_H he ?_ hres hv)
  have hlt := (List.getElem?_eq_some_iff.1 hi).1
  show (List.set _ _ _)[0]? = _
  rw [List.getElem?_set_ne (Ne.symm (Nat.ne_of_beq_eq_false hij))]
  simp [hlt]
theorem rowC_rows : RowC 1 rowsF := fun l l2 j hj => by
  simp only [rowsF, List.getD_eq_getElem?_getD]
  split
  · rw [List.getElem?_append_left (by omega)]
  · rw [List.getElem?_append_right (by omega), Nat.mul_one]
theorem rows_set {l : List (List (List UInt8))} {i : Nat} {x : List (List UInt8)} {j : Nat} {c : CV} (hc : CEnt c (lbC x)) (hj : j < l.length) : CEnt (updF (rowsF l) i [c] j) (rowsF (l.set i x) j) := by
  rw [updF_get]
  by_cases h : j = i
  · subst h
    rw [if_pos (by simp)]
    have e : rowsF (l.set j x) j = lbC x := by simp [rowsF, List.getD_eq_getElem?_getD, hj]
    rw [e, Nat.sub_self]
    exact hc
  · rw [if_neg (by simp; omega)]
    refine CEnt.of_eq ?_
    simp [rowsF, List.getD_eq_getElem?_getD, List.getElem?_set_ne (Ne.symm h)]
structure OkR (s : R8) : Prop where
  n : s.tags.length ≤ 100000
  r : s.rows.length ≤ 100000
  k : ∀ x ∈ s.rows, x.length ≤ 1000000
theorem okR_at {s : R8} (h : OkR s) (j : Nat) : (s.rows.getD j []).length ≤ 1000000 := by
  rw [List.getD_eq_getElem?_getD]
  cases e : s.rows[j]? with
  | none => simp
  | some x => simpa using h.k x (List.mem_of_getElem? e)
/-- with i rows more -/
def moreS (s : R8) (i : Nat) : R8 := ⟨s.tags, s.rows ++ List.replicate i [], s.e⟩
theorem more_pad (s : R8) (i m : Nat) (h : i = m - s.rows.length) : moreS s i = ⟨s.tags, padR m s.rows, s.e⟩ := by subst h; rfl
theorem more_succ (s : R8) (i : Nat) : (moreS s i).rows ++ [[]] = (moreS s (i + 1)).rows := by simp [moreS, List.replicate_succ', List.append_assoc]
theorem radd08_ac {gs : List Nat} (n : Nat) (s : R8) (b : List UInt8) (hs : OkR s) : AC gs Tryz.prog 51 [rwO n s] [.op 0 (some n) 0, bsC b] (fun r H' => r = .c (.tuple #[]) ∧ H' = [rwO n (raddS b s)]) := by
  have hsn := hs.n
  have hsr := hs.r
  refine ac_of 48 Tryz.func51 rfl rfl rfl (fun al w0 F0 St0 => ?_)
  refine jcs ?_
  refine code_block ?_
  refine code_openRW 0 rfl fun gr => ?_
  refine l_loop (α := Nat × Option Nat) [5, 6, 7, 8, 9, 10, 11, 12, 13, 14, 15, 16, 17, 18, 19, 20, 21, 22, 23, 24] (fun i => []) (fun (i, g) => [(some n, .blk 3 (rwB (moreS s i) 1 g)), (g, .blk (moreS s i).rows.length (rowsF (moreS s i).rows))]) (fun i => i.1 ≤ s.tags.length + 1 - s.rows.length) (fun i => s.tags.length + 1 - s.rows.length - i.1) ((0, gr)) ?_ (fun _ => rfl) ?_ ?_ ?_
  · exact Nat.zero_le _
  · (repeat (exact EntE.nil))
  · (show HEnt _ [(some n, Res.blk 3 (rwB (moreS s 0) 1 gr)), (gr, Res.blk (moreS s 0).rows.length (rowsF (moreS s 0).rows))]; rw [show moreS s 0 = s by unfold moreS; simp]; exact HEnt.refl _)
  · rintro ⟨i, g⟩ (hi : i ≤ s.tags.length + 1 - s.rows.length)
    have hml : (moreS s i).rows.length = s.rows.length + i := by simp [moreS]
    have hmt : (moreS s i).tags.length = s.tags.length := rfl
    refine jcs ?_
    refine jcs ?_
    refine jcd (.rd 0 (.rd 1 (.rd 2 (.rd 3 (.rd 4 (.rd 5 (.rd 6 (.rd 7 (.rd 8 (.rd 9 (.rd 10 .done))))))))))) ?_
    refine jyq jrm ?_
    refine jyq jrnc ?_
    refine jyq (jrfa 1 1 false) ?_
    refine jyo jrdo ?_
    refine jyq jrl ?_
    refine jyq jrm ?_
    refine jyq jrnc ?_
    refine jyq (jrfa 0 1 false) ?_
    refine jyo jrdo ?_
    refine jyq jrl ?_
    refine jyq jrc ?_
    refine jyd ?_
    refine jtn ?_
    refine jcc (fun h72 => ?_) fun h72 => ?_
    · refine code_skip (jtn ?_)
      refine code_block ?_
      refine jcg ?_
      refine jq jrm ?_
      refine jq jrm ?_
      refine jq jrnc ?_
      refine jq (jrfa 1 1 false) ?_
      refine jqo jrdo ?_
      refine jqe (jebl 1 1 zr56 fun p1 => ?_)
      refine seq_ent (weakH 2 1 (rowsF [[]]) rfl (Nat.le_refl _) (fun j hj => by rcases j with _ | j <;> first | exact CEnt.nilS _ _ | omega)) ?_
      refine jqm (m_appendC rowC_rows (l2 := [[]]) rfl rfl rfl rfl (Nat.le_of_eq (Nat.mul_one _)) (fun _ _ => CEnt.refl _) (src_os rfl (.inl rfl) (by decide)) rfl (fun j hj => by rw [Nat.zero_add]; exact CEnt.refl _) Tryz.underlying38 nu38 sz56 zr56 by56 rfl (by simp; omega) (by simp; omega) (fun j hj => rfl) rfl rfl (Nat.mul_one _) (fun p2 => ?_))
      refine jq jrnc ?_
      refine jq (jrfa 1 1 false) ?_
      refine jqm (jmstF 1 (rwB (moreS s (i + 1)) 1 p2) ?_ ?_)
      · exact (fun j hj => by rcases j with _ | _ | _ | j <;> first | exact CEnt.refl _ | exact CEnt.osI (by rw [more_succ]) | omega)
      refine seq_nil ?_
      refine jbn (jtn ?_)
      refine jlend ((i + 1, p2)) ?_ ?_ (h7 := ?_)
      · (show i + 1 ≤ _; omega)
      · (show _ - (i + 1) < _ - i; omega)
      · simp only [more_succ]; exact HEnt.refl _
    refine code_exit (jte (jte (jbx (jtn ?_))))
    refine jcr ?_
    refine jq jrm ?_
    refine jq jrnc ?_
    refine jq (jrfa 0 1 false) ?_
    refine jqo jrdo ?_
    refine jq jrl ?_
    refine jq jrm ?_
    refine seq_nil ?_
    have hiE : i = s.tags.length + 1 - s.rows.length := by omega
    have hk := okR_at hs s.tags.length
    have hpl := pad_len (s.tags.length + 1) s.rows
    dsimp only
    rw [more_pad s i _ hiE]
    rw [more_pad s i _ hiE] at hml
    have hk2 : ((padR (s.tags.length + 1) s.rows)[s.tags.length]?.getD []).length ≤ 1000000 := by rw [← List.getD_eq_getElem?_getD, pad_get]; exact hk
    refine jcdL n (.rd 0 (.rd 1 (.rd 2 (.rd 3 (.rd 4 (.rd 6 (.rd 7 (.rd 8 (.rd 9 (.rd 10 (.rd 11 (.rd 12 (.rd 14 (.two 5 (.two 13 (.one 15 (.one 16 (.rd 17 (.one 18 .done)))) 15 (.one 13 (.one 16 (.rd 17 (.one 18 .done))))) 15 (.one 5 (.one 13 (.one 16 (.rd 17 (.one 18 .done))))))))))))))))))) ?_
    refine jLq jrm ?_
    refine jLq jrnc ?_
    refine jLq (jrfa 1 1 false) ?_
    refine jLL jlrd ?_
    refine jLq jrm ?_
    refine jLq jrm ?_
    refine jLq jrnc ?_
    refine jLq (jrfa 1 1 false) ?_
    refine jLL jlrd ?_
    refine jLq jrm ?_
    refine jLq jri ?_
    refine jLo jrdo ?_
    refine jLq jrm ?_
    refine jLtwo ?_ ?_
    · refine jLe 0 (jebl 0 1 zr26 fun p1 => ?_)
      refine jLtwo ?_ ?_
      · first | refine jLm 0 1 (m_appendCX rowC_lb (l := []) (l2 := (padR (s.tags.length + 1) s.rows).getD s.tags.length []) rfl rfl rfl rfl (Nat.le_of_eq (Nat.zero_mul _)) (fun j hj => absurd hj (by simp)) (src_rs rfl) rfl (fun j hj => by (simp only [Nat.div_one]; exact CEnt.refl _)) Tryz.underlying56 nu56 sz26 zr26 by26 rfl (by simp only [List.length_nil, pad_get]; omega) (by simp only [List.length_nil, pad_get]; omega) (fun j hj => rfl) rfl rfl (Nat.mul_one _) (fun p2 => ?_)) | refine jLm 0 2 (m_appendCX rowC_lb (l := []) (l2 := (padR (s.tags.length + 1) s.rows).getD s.tags.length []) rfl rfl rfl rfl (Nat.le_of_eq (Nat.zero_mul _)) (fun j hj => absurd hj (by simp)) (src_rs rfl) rfl (fun j hj => by (simp only [Nat.div_one]; exact CEnt.refl _)) Tryz.underlying56 nu56 sz26 zr26 by26 rfl (by simp only [List.length_nil, pad_get]; omega) (by simp only [List.length_nil, pad_get]; omega) (fun j hj => rfl) rfl rfl (Nat.mul_one _) (fun p2 => ?_)) | refine jLm 0 3 (m_appendCX rowC_lb (l := []) (l2 := (padR (s.tags.length + 1) s.rows).getD s.tags.length []) rfl rfl rfl rfl (Nat.le_of_eq (Nat.zero_mul _)) (fun j hj => absurd hj (by simp)) (src_rs rfl) rfl (fun j hj => by first | exact CEnt.refl _ | (simp only [Nat.div_one]; exact CEnt.refl _)) Tryz.underlying56 nu56 sz26 zr26 by26 rfl (by simp only [List.length_nil, pad_get]; omega) (by simp only [List.length_nil, pad_get]; omega) (fun j hj => rfl) rfl rfl (Nat.mul_one _) (fun p2 => ?_)) | refine jLm 0 4 (m_appendCX rowC_lb (l := []) (l2 := (padR (s.tags.length + 1) s.rows).getD s.tags.length []) rfl rfl rfl rfl (Nat.le_of_eq (Nat.zero_mul _)) (fun j hj => absurd hj (by simp)) (src_rs rfl) rfl (fun j hj => by first | exact CEnt.refl _ | (simp only [Nat.div_one]; exact CEnt.refl _)) Tryz.underlying56 nu56 sz26 zr26 by26 rfl (by simp only [List.length_nil, pad_get]; omega) (by simp only [List.length_nil, pad_get]; omega) (fun j hj => rfl) rfl rfl (Nat.mul_one _) (fun p2 => ?_)) | refine jLm 0 5 (m_appendCX rowC_lb (l := []) (l2 := (padR (s.tags.length + 1) s.rows).getD s.tags.length []) rfl rfl rfl rfl (Nat.le_of_eq (Nat.zero_mul _)) (fun j hj => absurd hj (by simp)) (src_rs rfl) rfl (fun j hj => by first | exact CEnt.refl _ | (simp only [Nat.div_one]; exact CEnt.refl _)) Tryz.underlying56 nu56 sz26 zr26 by26 rfl (by simp only [List.length_nil, pad_get]; omega) (by simp only [List.length_nil, pad_get]; omega) (fun j hj => rfl) rfl rfl (Nat.mul_one _) (fun p2 => ?_)) | refine jLm 0 6 (m_appendCX rowC_lb (l := []) (l2 := (padR (s.tags.length + 1) s.rows).getD s.tags.length []) rfl rfl rfl rfl (Nat.le_of_eq (Nat.zero_mul _)) (fun j hj => absurd hj (by simp)) (src_rs rfl) rfl (fun j hj => by first | exact CEnt.refl _ | (simp only [Nat.div_one]; exact CEnt.refl _)) Tryz.underlying56 nu56 sz26 zr26 by26 rfl (by simp only [List.length_nil, pad_get]; omega) (by simp only [List.length_nil, pad_get]; omega) (fun j hj => rfl) rfl rfl (Nat.mul_one _) (fun p2 => ?_)) | refine jLm 0 7 (m_appendCX rowC_lb (l := []) (l2 := (padR (s.tags.length + 1) s.rows).getD s.tags.length []) rfl rfl rfl rfl (Nat.le_of_eq (Nat.zero_mul _)) (fun j hj => absurd hj (by simp)) (src_rs rfl) rfl (fun j hj => by first | exact CEnt.refl _ | (simp only [Nat.div_one]; exact CEnt.refl _)) Tryz.underlying56 nu56 sz26 zr26 by26 rfl (by simp only [List.length_nil, pad_get]; omega) (by simp only [List.length_nil, pad_get]; omega) (fun j hj => rfl) rfl rfl (Nat.mul_one _) (fun p2 => ?_))
        refine jLe 0 (jebl 1 1 zr26 fun p3 => ?_)
        first | refine jLm 0 1 (m_appendCX (rowC_lb) (l2 := [b]) rfl rfl rfl rfl (by omega) (fun _ _ => CEnt.refl _) (src_os rfl (.inl rfl) (by decide)) rfl (fun j hj => by rcases j with _|j <;> first | exact CEnt.refl _ | exact CEnt.int (by omega) | (exfalso; simp at hj <;> omega)) Tryz.underlying56 nu56 sz26 zr26 by26 rfl (by (simp; omega)) (by (simp; omega)) (leaf_flk rfl rfl) rfl rfl rfl (fun p4 => ?_)) | refine jLm 0 2 (m_appendCX (rowC_lb) (l2 := [b]) rfl rfl rfl rfl (by omega) (fun _ _ => CEnt.refl _) (src_os rfl (.inl rfl) (by decide)) rfl (fun j hj => by rcases j with _|j <;> first | exact CEnt.refl _ | exact CEnt.int (by omega) | (exfalso; simp at hj <;> omega)) Tryz.underlying56 nu56 sz26 zr26 by26 rfl (by (simp; omega)) (by (simp; omega)) (leaf_flk rfl rfl) rfl rfl rfl (fun p4 => ?_)) | refine jLm 0 3 (m_appendCX (rowC_lb) (l2 := [b]) rfl rfl rfl rfl (by first | exact Nat.le_refl _ | omega) (fun _ _ => CEnt.refl _) (src_os rfl (.inl rfl) (by decide)) rfl (fun j hj => by rcases j with _|j <;> first | exact CEnt.refl _ | exact CEnt.int (by omega) | (exfalso; simp at hj <;> omega)) Tryz.underlying56 nu56 sz26 zr26 by26 rfl (by first | omega | (simp; done) | (simp; omega) | (simp at *; omega)) (by first | omega | (simp; done) | (simp; omega) | (simp at *; omega)) (leaf_flk rfl rfl) rfl rfl rfl (fun p4 => ?_)) | refine jLm 0 4 (m_appendCX (rowC_lb) (l2 := [b]) rfl rfl rfl rfl (by first | exact Nat.le_refl _ | omega) (fun _ _ => CEnt.refl _) (src_os rfl (.inl rfl) (by decide)) rfl (fun j hj => by rcases j with _|j <;> first | exact CEnt.refl _ | exact CEnt.int (by omega) | (exfalso; simp at hj <;> omega)) Tryz.underlying56 nu56 sz26 zr26 by26 rfl (by first | omega | (simp; done) | (simp; omega) | (simp at *; omega)) (by first | omega | (simp; done) | (simp; omega) | (simp at *; omega)) (leaf_flk rfl rfl) rfl rfl rfl (fun p4 => ?_)) | refine jLm 0 5 (m_appendCX (rowC_lb) (l2 := [b]) rfl rfl rfl rfl (by first | exact Nat.le_refl _ | omega) (fun _ _ => CEnt.refl _) (src_os rfl (.inl rfl) (by decide)) rfl (fun j hj => by rcases j with _|j <;> first | exact CEnt.refl _ | exact CEnt.int (by omega) | (exfalso; simp at hj <;> omega)) Tryz.underlying56 nu56 sz26 zr26 by26 rfl (by first | omega | (simp; done) | (simp; omega) | (simp at *; omega)) (by first | omega | (simp; done) | (simp; omega) | (simp at *; omega)) (leaf_flk rfl rfl) rfl rfl rfl (fun p4 => ?_)) | refine jLm 0 6 (m_appendCX (rowC_lb) (l2 := [b]) rfl rfl rfl rfl (by first | exact Nat.le_refl _ | omega) (fun _ _ => CEnt.refl _) (src_os rfl (.inl rfl) (by decide)) rfl (fun j hj => by rcases j with _|j <;> first | exact CEnt.refl _ | exact CEnt.int (by omega) | (exfalso; simp at hj <;> omega)) Tryz.underlying56 nu56 sz26 zr26 by26 rfl (by first | omega | (simp; done) | (simp; omega) | (simp at *; omega)) (by first | omega | (simp; done) | (simp; omega) | (simp at *; omega)) (leaf_flk rfl rfl) rfl rfl rfl (fun p4 => ?_)) | refine jLm 0 7 (m_appendCX (rowC_lb) (l2 := [b]) rfl rfl rfl rfl (by first | exact Nat.le_refl _ | omega) (fun _ _ => CEnt.refl _) (src_os rfl (.inl rfl) (by decide)) rfl (fun j hj => by rcases j with _|j <;> first | exact CEnt.refl _ | exact CEnt.int (by omega) | (exfalso; simp at hj <;> omega)) Tryz.underlying56 nu56 sz26 zr26 by26 rfl (by first | omega | (simp; done) | (simp; omega) | (simp at *; omega)) (by first | omega | (simp; done) | (simp; omega) | (simp at *; omega)) (leaf_flk rfl rfl) rfl rfl rfl (fun p4 => ?_))
        refine jLq jri ?_
        first
          | (refine zl_ent (freeze 2 rfl) ?_; refine zl_ent (thaw 46 (fun a _ => bsC (((padR (s.tags.length + 1) s.rows).getD s.tags.length [] ++ [b]).getD a [])) rfl rfl (by simp) (fun a c ha hc => by obtain rfl : c = 0 := (by omega); rw [Nat.zero_add, Nat.mul_one, Nat.add_zero]; exact CEnt.refl _)) ?_)
          | (refine zl_ent (freeze 3 rfl) ?_; refine zl_ent (thaw 46 (fun a _ => bsC (((padR (s.tags.length + 1) s.rows).getD s.tags.length [] ++ [b]).getD a [])) rfl rfl (by simp) (fun a c ha hc => by obtain rfl : c = 0 := (by omega); rw [Nat.zero_add, Nat.mul_one, Nat.add_zero]; exact CEnt.refl _)) ?_)
        refine jLm 0 1 (jmstFX 1 (rowsF ((padR (s.tags.length + 1) s.rows).set s.tags.length ((padR (s.tags.length + 1) s.rows).getD s.tags.length [] ++ [b]))) ?_ ?_)
        · exact (fun j hj => rows_set (CEnt.refl _) hj)
        refine jLd ?_
        exact end_closeRW (.inr rfl) n (raddS b s) 1 (res_0 rfl) (CEnt.refl _) rfl rfl rfl (by exact CEnt.refl _) (by exact CEnt.osI (by simp [raddS])) (by exact CEnt.refl _) (by simp [raddS]) (fun _ _ => by exact CEnt.refl _)
      · refine jLe 0 (jebl 1 1 zr26 fun p2 => ?_)
        first | refine jLm 0 1 (m_appendCX rowC_lb (l := []) (l2 := (padR (s.tags.length + 1) s.rows).getD s.tags.length []) rfl rfl rfl rfl (Nat.le_of_eq (Nat.zero_mul _)) (fun j hj => absurd hj (by simp)) (src_rs rfl) rfl (fun j hj => by (simp only [Nat.div_one]; exact CEnt.refl _)) Tryz.underlying56 nu56 sz26 zr26 by26 rfl (by simp only [List.length_nil, pad_get]; omega) (by simp only [List.length_nil, pad_get]; omega) (fun j hj => rfl) rfl rfl (Nat.mul_one _) (fun p3 => ?_)) | refine jLm 0 2 (m_appendCX rowC_lb (l := []) (l2 := (padR (s.tags.length + 1) s.rows).getD s.tags.length []) rfl rfl rfl rfl (Nat.le_of_eq (Nat.zero_mul _)) (fun j hj => absurd hj (by simp)) (src_rs rfl) rfl (fun j hj => by (simp only [Nat.div_one]; exact CEnt.refl _)) Tryz.underlying56 nu56 sz26 zr26 by26 rfl (by simp only [List.length_nil, pad_get]; omega) (by simp only [List.length_nil, pad_get]; omega) (fun j hj => rfl) rfl rfl (Nat.mul_one _) (fun p3 => ?_)) | refine jLm 0 3 (m_appendCX rowC_lb (l := []) (l2 := (padR (s.tags.length + 1) s.rows).getD s.tags.length []) rfl rfl rfl rfl (Nat.le_of_eq (Nat.zero_mul _)) (fun j hj => absurd hj (by simp)) (src_rs rfl) rfl (fun j hj => by first | exact CEnt.refl _ | (simp only [Nat.div_one]; exact CEnt.refl _)) Tryz.underlying56 nu56 sz26 zr26 by26 rfl (by simp only [List.length_nil, pad_get]; omega) (by simp only [List.length_nil, pad_get]; omega) (fun j hj => rfl) rfl rfl (Nat.mul_one _) (fun p3 => ?_)) | refine jLm 0 4 (m_appendCX rowC_lb (l := []) (l2 := (padR (s.tags.length + 1) s.rows).getD s.tags.length []) rfl rfl rfl rfl (Nat.le_of_eq (Nat.zero_mul _)) (fun j hj => absurd hj (by simp)) (src_rs rfl) rfl (fun j hj => by first | exact CEnt.refl _ | (simp only [Nat.div_one]; exact CEnt.refl _)) Tryz.underlying56 nu56 sz26 zr26 by26 rfl (by simp only [List.length_nil, pad_get]; omega) (by simp only [List.length_nil, pad_get]; omega) (fun j hj => rfl) rfl rfl (Nat.mul_one _) (fun p3 => ?_)) | refine jLm 0 5 (m_appendCX rowC_lb (l := []) (l2 := (padR (s.tags.length + 1) s.rows).getD s.tags.length []) rfl rfl rfl rfl (Nat.le_of_eq (Nat.zero_mul _)) (fun j hj => absurd hj (by simp)) (src_rs rfl) rfl (fun j hj => by first | exact CEnt.refl _ | (simp only [Nat.div_one]; exact CEnt.refl _)) Tryz.underlying56 nu56 sz26 zr26 by26 rfl (by simp only [List.length_nil, pad_get]; omega) (by simp only [List.length_nil, pad_get]; omega) (fun j hj => rfl) rfl rfl (Nat.mul_one _) (fun p3 => ?_)) | refine jLm 0 6 (m_appendCX rowC_lb (l := []) (l2 := (padR (s.tags.length + 1) s.rows).getD s.tags.length []) rfl rfl rfl rfl (Nat.le_of_eq (Nat.zero_mul _)) (fun j hj => absurd hj (by simp)) (src_rs rfl) rfl (fun j hj => by first | exact CEnt.refl _ | (simp only [Nat.div_one]; exact CEnt.refl _)) Tryz.underlying56 nu56 sz26 zr26 by26 rfl (by simp only [List.length_nil, pad_get]; omega) (by simp only [List.length_nil, pad_get]; omega) (fun j hj => rfl) rfl rfl (Nat.mul_one _) (fun p3 => ?_)) | refine jLm 0 7 (m_appendCX rowC_lb (l := []) (l2 := (padR (s.tags.length + 1) s.rows).getD s.tags.length []) rfl rfl rfl rfl (Nat.le_of_eq (Nat.zero_mul _)) (fun j hj => absurd hj (by simp)) (src_rs rfl) rfl (fun j hj => by first | exact CEnt.refl _ | (simp only [Nat.div_one]; exact CEnt.refl _)) Tryz.underlying56 nu56 sz26 zr26 by26 rfl (by simp only [List.length_nil, pad_get]; omega) (by simp only [List.length_nil, pad_get]; omega) (fun j hj => rfl) rfl rfl (Nat.mul_one _) (fun p3 => ?_))
        first | refine jLm 0 1 (m_appendCX (rowC_lb) (l2 := [b]) rfl rfl rfl rfl (by omega) (fun _ _ => CEnt.refl _) (src_os rfl (.inl rfl) (by decide)) rfl (fun j hj => by rcases j with _|j <;> first | exact CEnt.refl _ | exact CEnt.int (by omega) | (exfalso; simp at hj <;> omega)) Tryz.underlying56 nu56 sz26 zr26 by26 rfl (by (simp; omega)) (by (simp; omega)) (leaf_flk rfl rfl) rfl rfl rfl (fun p4 => ?_)) | refine jLm 0 2 (m_appendCX (rowC_lb) (l2 := [b]) rfl rfl rfl rfl (by omega) (fun _ _ => CEnt.refl _) (src_os rfl (.inl rfl) (by decide)) rfl (fun j hj => by rcases j with _|j <;> first | exact CEnt.refl _ | exact CEnt.int (by omega) | (exfalso; simp at hj <;> omega)) Tryz.underlying56 nu56 sz26 zr26 by26 rfl (by (simp; omega)) (by (simp; omega)) (leaf_flk rfl rfl) rfl rfl rfl (fun p4 => ?_)) | refine jLm 0 3 (m_appendCX (rowC_lb) (l2 := [b]) rfl rfl rfl rfl (by first | exact Nat.le_refl _ | omega) (fun _ _ => CEnt.refl _) (src_os rfl (.inl rfl) (by decide)) rfl (fun j hj => by rcases j with _|j <;> first | exact CEnt.refl _ | exact CEnt.int (by omega) | (exfalso; simp at hj <;> omega)) Tryz.underlying56 nu56 sz26 zr26 by26 rfl (by first | omega | (simp; done) | (simp; omega) | (simp at *; omega)) (by first | omega | (simp; done) | (simp; omega) | (simp at *; omega)) (leaf_flk rfl rfl) rfl rfl rfl (fun p4 => ?_)) | refine jLm 0 4 (m_appendCX (rowC_lb) (l2 := [b]) rfl rfl rfl rfl (by first | exact Nat.le_refl _ | omega) (fun _ _ => CEnt.refl _) (src_os rfl (.inl rfl) (by decide)) rfl (fun j hj => by rcases j with _|j <;> first | exact CEnt.refl _ | exact CEnt.int (by omega) | (exfalso; simp at hj <;> omega)) Tryz.underlying56 nu56 sz26 zr26 by26 rfl (by first | omega | (simp; done) | (simp; omega) | (simp at *; omega)) (by first | omega | (simp; done) | (simp; omega) | (simp at *; omega)) (leaf_flk rfl rfl) rfl rfl rfl (fun p4 => ?_)) | refine jLm 0 5 (m_appendCX (rowC_lb) (l2 := [b]) rfl rfl rfl rfl (by first | exact Nat.le_refl _ | omega) (fun _ _ => CEnt.refl _) (src_os rfl (.inl rfl) (by decide)) rfl (fun j hj => by rcases j with _|j <;> first | exact CEnt.refl _ | exact CEnt.int (by omega) | (exfalso; simp at hj <;> omega)) Tryz.underlying56 nu56 sz26 zr26 by26 rfl (by first | omega | (simp; done) | (simp; omega) | (simp at *; omega)) (by first | omega | (simp; done) | (simp; omega) | (simp at *; omega)) (leaf_flk rfl rfl) rfl rfl rfl (fun p4 => ?_)) | refine jLm 0 6 (m_appendCX (rowC_lb) (l2 := [b]) rfl rfl rfl rfl (by first | exact Nat.le_refl _ | omega) (fun _ _ => CEnt.refl _) (src_os rfl (.inl rfl) (by decide)) rfl (fun j hj => by rcases j with _|j <;> first | exact CEnt.refl _ | exact CEnt.int (by omega) | (exfalso; simp at hj <;> omega)) Tryz.underlying56 nu56 sz26 zr26 by26 rfl (by first | omega | (simp; done) | (simp; omega) | (simp at *; omega)) (by first | omega | (simp; done) | (simp; omega) | (simp at *; omega)) (leaf_flk rfl rfl) rfl rfl rfl (fun p4 => ?_)) | refine jLm 0 7 (m_appendCX (rowC_lb) (l2 := [b]) rfl rfl rfl rfl (by first | exact Nat.le_refl _ | omega) (fun _ _ => CEnt.refl _) (src_os rfl (.inl rfl) (by decide)) rfl (fun j hj => by rcases j with _|j <;> first | exact CEnt.refl _ | exact CEnt.int (by omega) | (exfalso; simp at hj <;> omega)) Tryz.underlying56 nu56 sz26 zr26 by26 rfl (by first | omega | (simp; done) | (simp; omega) | (simp at *; omega)) (by first | omega | (simp; done) | (simp; omega) | (simp at *; omega)) (leaf_flk rfl rfl) rfl rfl rfl (fun p4 => ?_))
        refine jLq jri ?_
        first
          | (refine zl_ent (freeze 2 rfl) ?_; refine zl_ent (thaw 46 (fun a _ => bsC (((padR (s.tags.length + 1) s.rows).getD s.tags.length [] ++ [b]).getD a [])) rfl rfl (by simp) (fun a c ha hc => by obtain rfl : c = 0 := (by omega); rw [Nat.zero_add, Nat.mul_one, Nat.add_zero]; exact CEnt.refl _)) ?_)
          | (refine zl_ent (freeze 3 rfl) ?_; refine zl_ent (thaw 46 (fun a _ => bsC (((padR (s.tags.length + 1) s.rows).getD s.tags.length [] ++ [b]).getD a [])) rfl rfl (by simp) (fun a c ha hc => by obtain rfl : c = 0 := (by omega); rw [Nat.zero_add, Nat.mul_one, Nat.add_zero]; exact CEnt.refl _)) ?_)
        refine jLm 0 1 (jmstFX 1 (rowsF ((padR (s.tags.length + 1) s.rows).set s.tags.length ((padR (s.tags.length + 1) s.rows).getD s.tags.length [] ++ [b]))) ?_ ?_)
        · exact (fun j hj => rows_set (CEnt.refl _) hj)
        refine jLd ?_
        exact end_closeRW (.inr rfl) n (raddS b s) 1 (res_0 rfl) (CEnt.refl _) rfl rfl rfl (by exact CEnt.refl _) (by exact CEnt.osI (by simp [raddS])) (by exact CEnt.refl _) (by simp [raddS]) (fun _ _ => by exact CEnt.refl _)
    · refine jLe 0 (jebl 1 1 zr26 fun p1 => ?_)
      refine jLe 0 (jebl 0 1 zr26 fun p2 => ?_)
      first | refine jLm 0 1 (m_appendCX rowC_lb (l := []) (l2 := (padR (s.tags.length + 1) s.rows).getD s.tags.length []) rfl rfl rfl rfl (Nat.le_of_eq (Nat.zero_mul _)) (fun j hj => absurd hj (by simp)) (src_rs rfl) rfl (fun j hj => by (simp only [Nat.div_one]; exact CEnt.refl _)) Tryz.underlying56 nu56 sz26 zr26 by26 rfl (by simp only [List.length_nil, pad_get]; omega) (by simp only [List.length_nil, pad_get]; omega) (fun j hj => rfl) rfl rfl (Nat.mul_one _) (fun p3 => ?_)) | refine jLm 0 2 (m_appendCX rowC_lb (l := []) (l2 := (padR (s.tags.length + 1) s.rows).getD s.tags.length []) rfl rfl rfl rfl (Nat.le_of_eq (Nat.zero_mul _)) (fun j hj => absurd hj (by simp)) (src_rs rfl) rfl (fun j hj => by (simp only [Nat.div_one]; exact CEnt.refl _)) Tryz.underlying56 nu56 sz26 zr26 by26 rfl (by simp only [List.length_nil, pad_get]; omega) (by simp only [List.length_nil, pad_get]; omega) (fun j hj => rfl) rfl rfl (Nat.mul_one _) (fun p3 => ?_)) | refine jLm 0 3 (m_appendCX rowC_lb (l := []) (l2 := (padR (s.tags.length + 1) s.rows).getD s.tags.length []) rfl rfl rfl rfl (Nat.le_of_eq (Nat.zero_mul _)) (fun j hj => absurd hj (by simp)) (src_rs rfl) rfl (fun j hj => by (simp only [Nat.div_one]; exact CEnt.refl _)) Tryz.underlying56 nu56 sz26 zr26 by26 rfl (by simp only [List.length_nil, pad_get]; omega) (by simp only [List.length_nil, pad_get]; omega) (fun j hj => rfl) rfl rfl (Nat.mul_one _) (fun p3 => ?_)) | refine jLm 0 4 (m_appendCX rowC_lb (l := []) (l2 := (padR (s.tags.length + 1) s.rows).getD s.tags.length []) rfl rfl rfl rfl (Nat.le_of_eq (Nat.zero_mul _)) (fun j hj => absurd hj (by simp)) (src_rs rfl) rfl (fun j hj => by first | exact CEnt.refl _ | (simp only [Nat.div_one]; exact CEnt.refl _)) Tryz.underlying56 nu56 sz26 zr26 by26 rfl (by simp only [List.length_nil, pad_get]; omega) (by simp only [List.length_nil, pad_get]; omega) (fun j hj => rfl) rfl rfl (Nat.mul_one _) (fun p3 => ?_)) | refine jLm 0 5 (m_appendCX rowC_lb (l := []) (l2 := (padR (s.tags.length + 1) s.rows).getD s.tags.length []) rfl rfl rfl rfl (Nat.le_of_eq (Nat.zero_mul _)) (fun j hj => absurd hj (by simp)) (src_rs rfl) rfl (fun j hj => by first | exact CEnt.refl _ | (simp only [Nat.div_one]; exact CEnt.refl _)) Tryz.underlying56 nu56 sz26 zr26 by26 rfl (by simp only [List.length_nil, pad_get]; omega) (by simp only [List.length_nil, pad_get]; omega) (fun j hj => rfl) rfl rfl (Nat.mul_one _) (fun p3 => ?_)) | refine jLm 0 6 (m_appendCX rowC_lb (l := []) (l2 := (padR (s.tags.length + 1) s.rows).getD s.tags.length []) rfl rfl rfl rfl (Nat.le_of_eq (Nat.zero_mul _)) (fun j hj => absurd hj (by simp)) (src_rs rfl) rfl (fun j hj => by first | exact CEnt.refl _ | (simp only [Nat.div_one]; exact CEnt.refl _)) Tryz.underlying56 nu56 sz26 zr26 by26 rfl (by simp only [List.length_nil, pad_get]; omega) (by simp only [List.length_nil, pad_get]; omega) (fun j hj => rfl) rfl rfl (Nat.mul_one _) (fun p3 => ?_)) | refine jLm 0 7 (m_appendCX rowC_lb (l := []) (l2 := (padR (s.tags.length + 1) s.rows).getD s.tags.length []) rfl rfl rfl rfl (Nat.le_of_eq (Nat.zero_mul _)) (fun j hj => absurd hj (by simp)) (src_rs rfl) rfl (fun j hj => by first | exact CEnt.refl _ | (simp only [Nat.div_one]; exact CEnt.refl _)) Tryz.underlying56 nu56 sz26 zr26 by26 rfl (by simp only [List.length_nil, pad_get]; omega) (by simp only [List.length_nil, pad_get]; omega) (fun j hj => rfl) rfl rfl (Nat.mul_one _) (fun p3 => ?_))
      first | refine jLm 0 1 (m_appendCX (rowC_lb) (l2 := [b]) rfl rfl rfl rfl (by omega) (fun _ _ => CEnt.refl _) (src_os rfl (.inl rfl) (by decide)) rfl (fun j hj => by rcases j with _|j <;> first | exact CEnt.refl _ | exact CEnt.int (by omega) | (exfalso; simp at hj <;> omega)) Tryz.underlying56 nu56 sz26 zr26 by26 rfl (by (simp; omega)) (by (simp; omega)) (leaf_flk rfl rfl) rfl rfl rfl (fun p4 => ?_)) | refine jLm 0 2 (m_appendCX (rowC_lb) (l2 := [b]) rfl rfl rfl rfl (by omega) (fun _ _ => CEnt.refl _) (src_os rfl (.inl rfl) (by decide)) rfl (fun j hj => by rcases j with _|j <;> first | exact CEnt.refl _ | exact CEnt.int (by omega) | (exfalso; simp at hj <;> omega)) Tryz.underlying56 nu56 sz26 zr26 by26 rfl (by (simp; omega)) (by (simp; omega)) (leaf_flk rfl rfl) rfl rfl rfl (fun p4 => ?_)) | refine jLm 0 3 (m_appendCX (rowC_lb) (l2 := [b]) rfl rfl rfl rfl (by omega) (fun _ _ => CEnt.refl _) (src_os rfl (.inl rfl) (by decide)) rfl (fun j hj => by rcases j with _|j <;> first | exact CEnt.refl _ | exact CEnt.int (by omega) | (exfalso; simp at hj <;> omega)) Tryz.underlying56 nu56 sz26 zr26 by26 rfl (by (simp; omega)) (by (simp; omega)) (leaf_flk rfl rfl) rfl rfl rfl (fun p4 => ?_)) | refine jLm 0 4 (m_appendCX (rowC_lb) (l2 := [b]) rfl rfl rfl rfl (by first | exact Nat.le_refl _ | omega) (fun _ _ => CEnt.refl _) (src_os rfl (.inl rfl) (by decide)) rfl (fun j hj => by rcases j with _|j <;> first | exact CEnt.refl _ | exact CEnt.int (by omega) | (exfalso; simp at hj <;> omega)) Tryz.underlying56 nu56 sz26 zr26 by26 rfl (by first | omega | (simp; done) | (simp; omega) | (simp at *; omega)) (by first | omega | (simp; done) | (simp; omega) | (simp at *; omega)) (leaf_flk rfl rfl) rfl rfl rfl (fun p4 => ?_)) | refine jLm 0 5 (m_appendCX (rowC_lb) (l2 := [b]) rfl rfl rfl rfl (by first | exact Nat.le_refl _ | omega) (fun _ _ => CEnt.refl _) (src_os rfl (.inl rfl) (by decide)) rfl (fun j hj => by rcases j with _|j <;> first | exact CEnt.refl _ | exact CEnt.int (by omega) | (exfalso; simp at hj <;> omega)) Tryz.underlying56 nu56 sz26 zr26 by26 rfl (by first | omega | (simp; done) | (simp; omega) | (simp at *; omega)) (by first | omega | (simp; done) | (simp; omega) | (simp at *; omega)) (leaf_flk rfl rfl) rfl rfl rfl (fun p4 => ?_)) | refine jLm 0 6 (m_appendCX (rowC_lb) (l2 := [b]) rfl rfl rfl rfl (by first | exact Nat.le_refl _ | omega) (fun _ _ => CEnt.refl _) (src_os rfl (.inl rfl) (by decide)) rfl (fun j hj => by rcases j with _|j <;> first | exact CEnt.refl _ | exact CEnt.int (by omega) | (exfalso; simp at hj <;> omega)) Tryz.underlying56 nu56 sz26 zr26 by26 rfl (by first | omega | (simp; done) | (simp; omega) | (simp at *; omega)) (by first | omega | (simp; done) | (simp; omega) | (simp at *; omega)) (leaf_flk rfl rfl) rfl rfl rfl (fun p4 => ?_)) | refine jLm 0 7 (m_appendCX (rowC_lb) (l2 := [b]) rfl rfl rfl rfl (by first | exact Nat.le_refl _ | omega) (fun _ _ => CEnt.refl _) (src_os rfl (.inl rfl) (by decide)) rfl (fun j hj => by rcases j with _|j <;> first | exact CEnt.refl _ | exact CEnt.int (by omega) | (exfalso; simp at hj <;> omega)) Tryz.underlying56 nu56 sz26 zr26 by26 rfl (by first | omega | (simp; done) | (simp; omega) | (simp at *; omega)) (by first | omega | (simp; done) | (simp; omega) | (simp at *; omega)) (leaf_flk rfl rfl) rfl rfl rfl (fun p4 => ?_))
      refine jLq jri ?_
      first
        | (refine zl_ent (freeze 2 rfl) ?_; refine zl_ent (thaw 46 (fun a _ => bsC (((padR (s.tags.length + 1) s.rows).getD s.tags.length [] ++ [b]).getD a [])) rfl rfl (by simp) (fun a c ha hc => by obtain rfl : c = 0 := (by omega); rw [Nat.zero_add, Nat.mul_one, Nat.add_zero]; exact CEnt.refl _)) ?_)
        | (refine zl_ent (freeze 3 rfl) ?_; refine zl_ent (thaw 46 (fun a _ => bsC (((padR (s.tags.length + 1) s.rows).getD s.tags.length [] ++ [b]).getD a [])) rfl rfl (by simp) (fun a c ha hc => by obtain rfl : c = 0 := (by omega); rw [Nat.zero_add, Nat.mul_one, Nat.add_zero]; exact CEnt.refl _)) ?_)
      refine jLm 0 1 (jmstFX 1 (rowsF ((padR (s.tags.length + 1) s.rows).set s.tags.length ((padR (s.tags.length + 1) s.rows).getD s.tags.length [] ++ [b]))) ?_ ?_)
      · exact (fun j hj => rows_set (CEnt.refl _) hj)
      refine jLd ?_
      exact end_closeRW (.inr rfl) n (raddS b s) 1 (res_0 rfl) (CEnt.refl _) rfl rfl rfl (by exact CEnt.refl _) (by exact CEnt.osI (by simp [raddS])) (by exact CEnt.refl _) (by simp [raddS]) (fun _ _ => by exact CEnt.refl _)
end Am
end Go.Proofs.YtjckfbpdieijeaaGreatDoor

/- Chapter 8: the writer: Fail, add, put. -/
namespace Go.Proofs.YtjckfbpdieijeaaGreatDoor
set_option linter.unusedVariables false
namespace Am
variable {gs : List Nat} [OkG gs]
open Go.RowKit
set_option maxRecDepth 100000

structure OkW (s : W8) : Prop where
  n : s.fr.length ≤ 16
  k : ∀ x ∈ s.fr, x.2.length ≤ 1000000 ∧ sumL x.2 ≤ 1000000
  d : s.d.length ≤ 1000000
theorem fr_len {zs : List FrG} {fr : List (Int × List (List UInt8))} (h : zs.map Prod.fst = fr) : zs.length = fr.length := by rw [← h]; simp
theorem top_at {x : FrG} {zr : List FrG} {m j : Nat} (hj : j < 2) (hm : m = zr.length + 1) : rowF 2 frF frD (x :: zr).reverse (0 + (m - 1) * 2 + j) = frF x j := by
  rw [Nat.zero_add, rowF_at hj, hm]
  simp [List.getD_eq_getElem?_getD]
theorem row_low {x : FrG} {zr : List FrG} {j : Nat} (hj : j < zr.length * 2) : rowF 2 frF frD (x :: zr).reverse j = rowF 2 frF frD zr.reverse j := by
  simp only [rowF, List.reverse_cons, List.getD_eq_getElem?_getD]
  rw [List.getElem?_append_left (by simp; omega)]
theorem top_store {x x' : FrG} {zr : List FrG} {m q n j : Nat} {g : Option Nat} (hm : m = zr.length + 1) (hx : x'.1.1 = x.1.1) (hg : x'.2 = g) (hn : x'.1.2.length = n) (hj : j < m * 2) : CEnt (updF (rowF 2 frF frD (x :: zr).reverse) (0 + (m - 1) * 2 + 1) [.os q g 0 n 1] j) (rowF 2 frF frD (x' :: zr).reverse j) := by
  rw [updF_get]
  by_cases h1 : j < zr.length * 2
  · rw [if_neg (by simp; omega), row_low h1, row_low h1]
    exact CEnt.refl _
  · by_cases h2 : j = 0 + (m - 1) * 2 + 1
    · rw [if_pos (by simp; omega), h2, top_at (by omega) hm, Nat.sub_self]
      show CEnt (.os q g 0 n 1) (.os 0 x'.2 0 x'.1.2.length 1)
      rw [hg, hn]
      exact CEnt.osI rfl
    · obtain rfl : j = 0 + (m - 1) * 2 + 0 := by omega
      rw [if_neg (by simp; omega), top_at (by omega) hm, top_at (by omega) hm]
      show CEnt (.c (.int .i64 x.1.1)) (.c (.int .i64 x'.1.1))
      rw [hx]
      exact CEnt.refl _
theorem failW_ac {gs : List Nat} (n : Nat) (s : W8) (e : Nat) : AC gs Tryz.prog 37 [wrO n s] [.op 0 (some n) 0, .err e] (fun r H' => r = .c (.tuple #[]) ∧ H' = [wrO n (failW e s)]) := by
  refine ac_of 13 Tryz.func37 rfl rfl rfl (fun al w0 F0 St0 => ?_)
  refine code_openW 0 rfl fun go gd zs hzs => ?_
  refine jcr ?_
  refine jq jrm ?_
  refine jq jrnc ?_
  refine jq (jrfa 2 1 false) ?_
  refine jqo jrdo ?_
  refine jq jre ?_
  refine seq_nil ?_
  refine jcc (fun h38 => ?_) fun h38 => ?_
  rotate_left
  · refine code_skip ?_
    have hF : failW e s = s := by unfold failW; rw [if_neg (by omega)]
    rw [hF]
    exact end_pack (gd := fun z : WZ8 s.fr => z.1.1) (E := wrE s) (.inr rfl) _ ⟨(n, go, gd, zs), hzs⟩ [0, 1, 2, 3] (by decide) rfl (res_0 rfl) ⟨rfl, rfl⟩
  refine jcg ?_
  refine jq jrm ?_
  refine jq jrm ?_
  refine jq jrnc ?_
  refine jq (jrfa 2 1 false) ?_
  refine jqm (jmstF 1 (wrB ⟨s.fr, s.d, e⟩ 1 2 go gd) ?_ ?_)
  · exact (fun j hj => by rcases j with _ | _ | _ | j <;> exact CEnt.refl _)
  refine seq_nil ?_
  have hF : failW e s = ⟨s.fr, s.d, e⟩ := by unfold failW; rw [if_pos (by omega)]
  rw [hF]
  exact end_pack (gd := fun z : WZ8 s.fr => z.1.1) (E := wrE ⟨s.fr, s.d, e⟩) (.inr rfl) _ ⟨(n, go, gd, zs), hzs⟩ [0, 1, 2, 3] (by decide) rfl (res_0 rfl) ⟨rfl, rfl⟩
set_option maxHeartbeats 1000000 in
theorem addW_ac {gs : List Nat} (n : Nat) (s : W8) (b : List UInt8) (hs : OkW s) (hb : b.length ≤ 100000000) : AC gs Tryz.prog 106 [wrO n s] [.op 0 (some n) 0, bsC b] (fun r H' => r = .c (.tuple #[]) ∧ H' = [wrO n (addW b s)]) := by
  have hsd := hs.d
  have hsn := hs.n
  refine ac_of 42 Tryz.func106 rfl rfl rfl (fun al w0 F0 St0 => ?_)
  refine jcs ?_
  (refine code_openW 0 rfl fun go gd zs hzs => ?_; have hzl := fr_len hzs)
  refine jcr ?_
  refine jq jrm ?_
  refine jq jrnc ?_
  refine jq (jrfa 0 1 false) ?_
  refine jqo jrdo ?_
  refine jq jrl ?_
  refine jq jrm ?_
  refine seq_nil ?_
  skip
  refine jcr ?_
  refine jq jrm ?_
  refine jq jrc ?_
  refine seq_nil ?_
  refine jcc (fun h45 => ?_) fun h45 => ?_
  rotate_left
  · refine code_skip (jtn ?_)
    have hf0 : s.fr = [] := List.eq_nil_of_length_eq_zero (by omega)
    refine jcg ?_
    refine jq jrm ?_
    refine jq jrm ?_
    refine jq jrnc ?_
    refine jq (jrfa 1 1 false) ?_
    refine jqo jrdo ?_
    refine jq jrm ?_
    first | refine jqm (m_appendB rfl rfl rfl (Nat.le_refl _) (fun _ _ => CEnt.refl _) (src_rs rfl) rfl (fun j hj => by simp only [Nat.div_one]; exact CEnt.refl _) Tryz.underlying26 nu26 sz5 zr5 by5 rfl (by omega) (fun j hj => rfl) rfl rfl (fun p1 => ?_)) | refine jqm (m_appendB rfl rfl rfl (Nat.le_refl _) (fun _ _ => CEnt.refl _) (src_str rfl) rfl (fun j hj => CEnt.refl _) Tryz.underlying26 nu26 sz5 zr5 by5 rfl (by first | omega | (simp; done) | (simp; omega) | (simp at *; omega)) (fun j hj => rfl) rfl rfl (fun p1 => ?_)) | refine jqm (m_appendB rfl rfl rfl (Nat.le_refl _) (fun _ _ => CEnt.refl _) (src_os rfl (.inl rfl) (by omega)) rfl (fun j hj => by rw [Nat.zero_add]; exact CEnt.refl _) Tryz.underlying26 nu26 sz5 zr5 by5 rfl (by first | omega | (simp; done) | (simp; omega) | (simp at *; omega)) (fun j hj => rfl) rfl rfl (fun p1 => ?_))
    refine jq jrnc ?_
    refine jq (jrfa 1 1 false) ?_
    refine jqm (jmstF 1 (wrB (addW b s) 1 2 go p1) ?_ ?_)
    · exact (fun j hj => by rcases j with _ | _ | _ | j <;> first | exact CEnt.osI (by simp [addW, hf0]) | exact CEnt.osI (by simp [addW, hf0]) | exact CEnt.err (by simp [addW, hf0]) | omega)
    refine seq_nil ?_
    refine end_hr (H' := ?H2) ?hh ?hb
    case hh => intro _ _ _ _ _ hx; exact closeWh n (addW b s) zs 0 1 2 3 (by simp [addW, hf0]; rw [hf0] at hzs; simpa using hzs) rfl rfl rfl rfl (by decide) (by exact CEnt.osI rfl) (by exact CEnt.osI rfl) (by exact CEnt.refl _) (by simp [addW, hf0]) (fun a ha => by simp [addW, hf0] at ha) (by simp [addW, hf0]) (fun _ _ => by simp only [addW, hf0]; exact CEnt.refl _) hx
    case hb => exact end_own (.inr rfl) _ [wrO n (addW b s)] [0] (by decide) rfl (res_0 rfl) ⟨rfl, rfl⟩
  refine jcs ?_
  obtain ⟨x, zr, rfl⟩ : ∃ x zr, zs = x :: zr := by
      cases zs with
      | nil => simp at hzl; omega
      | cons x zr => exact ⟨x, zr, rfl⟩
  have hfr : s.fr = x.1 :: zr.map Prod.fst := by rw [← hzs]; rfl
  have hxk := hs.k x.1 (by rw [hfr]; exact List.mem_cons_self)
  have hzl : s.fr.length = zr.length + 1 := by rw [← hzl]; rfl
  refine code_ent (bag_pop 3 rfl) ?_
  refine jcdZ (.rd 0 (.rd 1 (.rd 2 (.rd 4 (.rd 5 (.rd 6 (.rd 7 (.rd 8 (.rd 9 (.rd 10 (.rd 11 (.rd 12 (.rd 13 (.rd 14 (.rd 15 (.two 3 (.one 16 (.one 17 (.one 18 (.rd 19 (.rd 20 (.one 21 .done)))))) 16 (.two 3 (.one 17 (.one 18 (.rd 19 (.rd 20 (.one 21 .done))))) 17 (.two 3 (.one 18 (.rd 19 (.rd 20 (.one 21 .done)))) 18 (.one 3 (.rd 19 (.rd 20 (.one 21 .done)))))))))))))))))))))) ?_
  refine jzq jrm ?_
  refine jzq jrnc ?_
  refine jzq (jrfa 0 1 false) ?_
  refine jzq jrm ?_
  refine jzq jra ?_
  refine jzq jrm ?_
  refine jzq jrnc ?_
  refine jzq (jrfa 0 1 false) ?_
  refine jzo jrdo ?_
  refine jzq jrm ?_
  refine jzq jra ?_
  refine jzq (jri (i := (s.fr.length - 1)) (hz := by omega)) ?_
  refine jzq (jrfa 1 1 false) ?_
  refine jzo (jrdo (hv := top_at (by omega) hzl)) ?_
  refine jzq jrm ?_
  refine jztwo ?_ ?_
  · refine jz1o jrdo ?_
    refine z_ent (weaken 26 (.os 4 x.2 0 x.1.2.length 1) (CEnt.osI rfl)) ?_
    refine jze (jecP (clone8_ac b (by omega)) ?_)
    refine jze (jebl 1 1 zr26 fun p1 => ?_)
    refine jzm (m_appendC (rowC_lb) (l2 := [b]) rfl rfl rfl rfl (by omega) (fun _ _ => CEnt.refl _) (src_os rfl (.inl rfl) (by decide)) rfl (fun j hj => by rcases j with _|j <;> first | exact CEnt.refl _ | exact CEnt.int (by omega) | (exfalso; simp at hj <;> omega)) Tryz.underlying56 nu56 sz26 zr26 by26 rfl (by (simp; omega)) (by (simp; omega)) (leaf_flk rfl rfl) rfl rfl rfl (fun p2 => ?_))
    refine jzq (jri (i := (s.fr.length - 1)) (hz := by omega)) ?_
    refine jzq (jrfa 1 1 false) ?_
    refine jzm (jmstF 1 (rowF 2 frF frD (((x.1.1, x.1.2 ++ [b]), p2) :: zr).reverse) ?_ ?_)
    · exact (fun j hj => top_store hzl rfl rfl (by simp) hj)
    refine jzd ?_
    refine jtn ?_
    refine code_ent (weakH 4 (x.1.2 ++ [b]).length (lbF (x.1.2 ++ [b])) rfl (by simp) (fun _ _ => CEnt.refl _)) ?_
    refine code_ent (bag_push 3 4 rfl rfl rfl) ?_
    refine code_ent (closeW n (addW b s) (((x.1.1, x.1.2 ++ [b]), p2) :: zr) 0 1 2 3 (by simp [addW, hfr]) rfl rfl rfl rfl (by decide) (CEnt.osI (by simp [addW, hfr])) (CEnt.osI (by simp [addW, hfr])) (CEnt.err (by simp [addW, hfr])) (by simp [addW, hfr]) (fun _ _ => CEnt.refl _) (by simp [addW, hfr]) (fun _ _ => by simp only [addW, hfr]; exact CEnt.refl _)) ?_
    refine code_ret (jtr ?_)
    exact end_own (.inl rfl) _ [wrO n (addW b s)] [0] (by decide) rfl (res_0 rfl) ⟨rfl, rfl⟩
  · refine z_ent (weaken 26 (.os 4 x.2 0 x.1.2.length 1) (CEnt.osI rfl)) ?_
    refine jze (jecP (clone8_ac b (by omega)) ?_)
    refine jztwo ?_ ?_
    · refine jz1o jrdo ?_
      refine jze (jebl 1 1 zr26 fun p1 => ?_)
      refine jzm (m_appendC (rowC_lb) (l2 := [b]) rfl rfl rfl rfl (by omega) (fun _ _ => CEnt.refl _) (src_os rfl (.inl rfl) (by decide)) rfl (fun j hj => by rcases j with _|j <;> first | exact CEnt.refl _ | exact CEnt.int (by omega) | (exfalso; simp at hj <;> omega)) Tryz.underlying56 nu56 sz26 zr26 by26 rfl (by (simp; omega)) (by (simp; omega)) (leaf_flk rfl rfl) rfl rfl rfl (fun p2 => ?_))
      refine jzq (jri (i := (s.fr.length - 1)) (hz := by omega)) ?_
      refine jzq (jrfa 1 1 false) ?_
      refine jzm (jmstF 1 (rowF 2 frF frD (((x.1.1, x.1.2 ++ [b]), p2) :: zr).reverse) ?_ ?_)
      · exact (fun j hj => top_store hzl rfl rfl (by simp) hj)
      refine jzd ?_
      refine jtn ?_
      refine code_ent (weakH 4 (x.1.2 ++ [b]).length (lbF (x.1.2 ++ [b])) rfl (by simp) (fun _ _ => CEnt.refl _)) ?_
      refine code_ent (bag_push 3 4 rfl rfl rfl) ?_
      refine code_ent (closeW n (addW b s) (((x.1.1, x.1.2 ++ [b]), p2) :: zr) 0 1 2 3 (by simp [addW, hfr]) rfl rfl rfl rfl (by decide) (CEnt.osI (by simp [addW, hfr])) (CEnt.osI (by simp [addW, hfr])) (CEnt.err (by simp [addW, hfr])) (by simp [addW, hfr]) (fun _ _ => CEnt.refl _) (by simp [addW, hfr]) (fun _ _ => by simp only [addW, hfr]; exact CEnt.refl _)) ?_
      refine code_ret (jtr ?_)
      exact end_own (.inl rfl) _ [wrO n (addW b s)] [0] (by decide) rfl (res_0 rfl) ⟨rfl, rfl⟩
    · refine jze (jebl 1 1 zr26 fun p1 => ?_)
      refine jztwo ?_ ?_
      · refine jz1o jrdo ?_
        refine jzm (m_appendC (rowC_lb) (l2 := [b]) rfl rfl rfl rfl (by omega) (fun _ _ => CEnt.refl _) (src_os rfl (.inl rfl) (by decide)) rfl (fun j hj => by rcases j with _|j <;> first | exact CEnt.refl _ | exact CEnt.int (by omega) | (exfalso; simp at hj <;> omega)) Tryz.underlying56 nu56 sz26 zr26 by26 rfl (by (simp; omega)) (by (simp; omega)) (leaf_flk rfl rfl) rfl rfl rfl (fun p2 => ?_))
        refine jzq (jri (i := (s.fr.length - 1)) (hz := by omega)) ?_
        refine jzq (jrfa 1 1 false) ?_
        refine jzm (jmstF 1 (rowF 2 frF frD (((x.1.1, x.1.2 ++ [b]), p2) :: zr).reverse) ?_ ?_)
        · exact (fun j hj => top_store hzl rfl rfl (by simp) hj)
        refine jzd ?_
        refine jtn ?_
        refine code_ent (weakH 4 (x.1.2 ++ [b]).length (lbF (x.1.2 ++ [b])) rfl (by simp) (fun _ _ => CEnt.refl _)) ?_
        refine code_ent (bag_push 3 4 rfl rfl rfl) ?_
        refine code_ent (closeW n (addW b s) (((x.1.1, x.1.2 ++ [b]), p2) :: zr) 0 1 2 3 (by simp [addW, hfr]) rfl rfl rfl rfl (by decide) (CEnt.osI (by simp [addW, hfr])) (CEnt.osI (by simp [addW, hfr])) (CEnt.err (by simp [addW, hfr])) (by simp [addW, hfr]) (fun _ _ => CEnt.refl _) (by simp [addW, hfr]) (fun _ _ => by simp only [addW, hfr]; exact CEnt.refl _)) ?_
        refine code_ret (jtr ?_)
        exact end_own (.inl rfl) _ [wrO n (addW b s)] [0] (by decide) rfl (res_0 rfl) ⟨rfl, rfl⟩
      · refine jzm (m_appendC (rowC_lb) (l2 := [b]) rfl rfl rfl rfl (by omega) (fun _ _ => CEnt.refl _) (src_os rfl (.inl rfl) (by decide)) rfl (fun j hj => by rcases j with _|j <;> first | exact CEnt.refl _ | exact CEnt.int (by omega) | (exfalso; simp at hj <;> omega)) Tryz.underlying56 nu56 sz26 zr26 by26 rfl (by (simp; omega)) (by (simp; omega)) (leaf_flk rfl rfl) rfl rfl rfl (fun p2 => ?_))
        refine jz1o jrdo ?_
        refine jzq (jri (i := (s.fr.length - 1)) (hz := by omega)) ?_
        refine jzq (jrfa 1 1 false) ?_
        refine jzm (jmstF 1 (rowF 2 frF frD (((x.1.1, x.1.2 ++ [b]), p2) :: zr).reverse) ?_ ?_)
        · exact (fun j hj => top_store hzl rfl rfl (by simp) hj)
        refine jzd ?_
        refine jtn ?_
        refine code_ent (weakH 4 (x.1.2 ++ [b]).length (lbF (x.1.2 ++ [b])) rfl (by simp) (fun _ _ => CEnt.refl _)) ?_
        refine code_ent (bag_push 3 4 rfl rfl rfl) ?_
        refine code_ent (closeW n (addW b s) (((x.1.1, x.1.2 ++ [b]), p2) :: zr) 0 1 2 3 (by simp [addW, hfr]) rfl rfl rfl rfl (by decide) (CEnt.osI (by simp [addW, hfr])) (CEnt.osI (by simp [addW, hfr])) (CEnt.err (by simp [addW, hfr])) (by simp [addW, hfr]) (fun _ _ => CEnt.refl _) (by simp [addW, hfr]) (fun _ _ => by simp only [addW, hfr]; exact CEnt.refl _)) ?_
        refine code_ret (jtr ?_)
        exact end_own (.inl rfl) _ [wrO n (addW b s)] [0] (by decide) rfl (res_0 rfl) ⟨rfl, rfl⟩
theorem addW_k (b : List UInt8) (s : W8) : (addW b s).k = s.k := by unfold addW; split <;> rfl
theorem putE_bd (tag : Int) (body : List UInt8) : putE tag body ≤ 28 := by
  unfold putE
  repeat' split
  all_goals omega
theorem putW_ac (n : Nat) (s : W8) (tag : Int) (body : List UInt8) (e : Nat) (hs : OkW s) (hb : body.length ≤ 1000000) : AC gs Tryz.prog 82 [wrO n s] [.op 0 (some n) 0, .c (.int .i64 tag), bsC body, .err e] (fun r H' => r = .c (.tuple #[]) ∧ H' = [wrO n (putW tag body e s)]) := by
  have hpl : (putL tag body).length ≤ 100000000 := by
    unfold putL
    have := lenL_bd body.length
    simp only [List.length_cons, List.length_append]
    omega
  refine ac_of 32 Tryz.func82 rfl rfl rfl (fun al w0 F0 St0 => ?_)
  refine jcr ?_
  refine jq jrm ?_
  refine jq jrm ?_
  refine jqm (jmcH 0 (failW_ac n s e) ?_)
  rintro _ _ ⟨rfl, rfl⟩
  refine ⟨_, _, rfl, CEnt.refl _, ?_⟩
  refine seq_nil ?_
  refine jcs ?_
  refine code_openW 0 rfl fun go gd zs hzs => ?_
  refine jcr ?_
  refine jq jrm ?_
  refine jq jrnc ?_
  refine jq (jrfa 2 1 false) ?_
  refine jqo jrdo ?_
  refine jq jre ?_
  refine seq_nil ?_
  refine jcc (fun h55 => ?_) fun h55 => ?_
  · refine code_ret (jtr ?_)
    have hP : putW tag body e s = failW e s := by unfold putW; rw [if_pos (by omega)]
    rw [hP]
    exact end_pack (gd := fun z : WZ8 (failW e s).fr => z.1.1) (E := wrE (failW e s)) (.inl rfl) _ ⟨(n, go, gd, zs), hzs⟩ [0, 1, 2, 3] (by decide) rfl (res_0 rfl) ⟨rfl, rfl⟩
  refine code_skip (jtn ?_)
  have hk0 : (failW e s).k = 0 := by omega
  have hF : failW e s = s := by
    obtain ⟨fr, d, k⟩ := s
    unfold failW at hk0 ⊢
    split
    · rename_i h
      rw [if_pos h] at hk0
      have h : k = 0 := h
      have hk0 : e = 0 := hk0
      rw [h, hk0]
    · rfl
  refine code_ent (closeW n (failW e s) zs 0 1 2 3 hzs rfl rfl rfl rfl (by decide) (CEnt.osI rfl) (CEnt.osI rfl) (CEnt.refl _) (Nat.le_refl _) (fun _ _ => CEnt.refl _) (Nat.le_refl _) (fun _ _ => CEnt.refl _)) ?_
  rw [hF]
  have hsk : s.k = 0 := by rw [← hF]; exact hk0
  dsimp only [List.set_cons_zero, List.set_cons_succ, List.cons_append, List.nil_append, List.length_cons, List.length_nil, Nat.zero_add, Nat.reduceAdd]
  refine jcr ?_
  refine jq jrm ?_
  refine jq jrm ?_
  refine jq (rd_build (n := 2) rfl zr68 pl68 rfl rfl) ?_
  refine jqe (jecP (tput_ac tag body hb) ?_)
  refine jq jrm ?_
  refine jq jrx ?_
  refine jq jrx ?_
  refine jq jrm ?_
  refine jq jrm ?_
  refine seq_nil ?_
  refine jcs ?_
  refine jcr ?_
  refine jq jrm ?_
  refine jq jre ?_
  refine seq_nil ?_
  refine jcc (fun h59 => ?_) fun h59 => ?_
  · refine jcr ?_
    refine jq jrm ?_
    refine jq jrm ?_
    refine jqm (jmcH 0 (failW_ac n s (putE tag body)) ?_)
    rintro _ _ ⟨rfl, rfl⟩
    refine ⟨_, _, rfl, CEnt.refl _, ?_⟩
    refine seq_nil ?_
    refine code_ret (jtr ?_)
    have hP : putW tag body e s = failW (putE tag body) s := by unfold putW; rw [hF, if_neg (by omega), if_pos (by omega)]; unfold failW; rw [if_pos hsk]
    rw [hP]
    exact end_own (.inl rfl) _ [_] [0] (by decide) rfl (res_0 rfl) ⟨rfl, rfl⟩
  refine code_skip (jtn ?_)
  have hP0 : putE tag body = 0 := by omega
  rw [if_pos hP0]
  refine jcg ?_
  refine jq jrm ?_
  refine jq jrm ?_
  refine jqm (jmcH 0 (addW_ac n s _ hs hpl) ?_)
  rintro _ _ ⟨rfl, rfl⟩
  refine ⟨_, _, rfl, CEnt.refl _, ?_⟩
  refine seq_nil ?_
  have hP : putW tag body e s = addW (putL tag body) s := by unfold putW; rw [hF, if_neg (by omega), if_neg (by omega)]
  rw [hP]
  exact end_own (.inr rfl) _ [_] [0] (by decide) rfl (res_0 rfl) ⟨rfl, rfl⟩
end Am
end Go.Proofs.YtjckfbpdieijeaaGreatDoor

/-
  DERIVED: THE SHELF's CONTRACTS AT THIS DUMP, IN PLAIN WORDS (tools/lay-plain.mjs out of 'TryzShelf.lean', which tools/lay-shelf.mjs wrote): THE SAME DECLARATIONS UNDER THE SAME NAMES: 'import', 'namespace', 'open', 'def', 'theorem' AND NOTHING ELSE: no command of the shelf's: FOR A HAND-IN. Each laying: the table of numbers ('.._ren') and one theorem, a field a fact of the dump's own or the kernel's comparison; each contract: ONE APPLICATION.
-/
namespace Go.Proofs
open Go.Shelf
def Tryz.lays169_ren : Go.Shelf.Ren := ⟨fun | 169 => 179 | n => n, fun | 70 => 213 | 9 => 9 | 0 => 0 | 72 => 215 | 37 => 26 | 127 => 232 | 3 => 3 | 5 => 5 | n => n, fun | n => n⟩
open Go.RowKit in
open Go.RowKit in
open Go.RowKit in
def Tryz.lays241_ren : Go.Shelf.Ren := ⟨fun | 241 => 195 | 277 => 205 | n => n, fun | 70 => 213 | 3 => 3 | 0 => 0 | 72 => 215 | 37 => 26 | 5 => 5 | n => n, fun | n => n⟩
open Go.RowKit in
def Tryz.lays165_ren : Go.Shelf.Ren := ⟨fun | 165 => 177 | 240 => 194 | 241 => 195 | 276 => 204 | 277 => 205 | n => n, fun | 70 => 213 | 3 => 3 | 0 => 0 | 4 => 4 | 9 => 9 | 20 => 20 | 72 => 215 | 37 => 26 | 164 => 239 | 5 => 5 | n => n, fun | n => n⟩
open Go.RowKit in
def Tryz.lays156_ren : Go.Shelf.Ren := ⟨fun | 156 => 169 | 165 => 177 | 166 => 178 | 169 => 179 | 240 => 194 | 241 => 195 | 276 => 204 | 277 => 205 | n => n, fun | 31 => 167 | 9 => 9 | 3 => 3 | 4 => 4 | 0 => 0 | 20 => 20 | 72 => 215 | 76 => 105 | 70 => 213 | 37 => 26 | 75 => 28 | 127 => 232 | 164 => 239 | 5 => 5 | 80 => 110 | n => n, fun | n => n⟩
open Go.RowKit in
open Go.RowKit in
def Tryz.lays128_ren : Go.Shelf.Ren := ⟨fun | 128 => 162 | n => n, fun | 51 => 203 | 3 => 3 | 4 => 4 | 46 => 77 | 5 => 5 | 9 => 9 | n => n, fun | n => n⟩
def Tryz.lays125_ren : Go.Shelf.Ren := ⟨fun | 125 => 146 | 128 => 162 | 129 => 163 | n => n, fun | 46 => 77 | 3 => 3 | 51 => 203 | 53 => 165 | 4 => 4 | 5 => 5 | 9 => 9 | n => n, fun | n => n⟩
def Tryz.lays136_ren : Go.Shelf.Ren := ⟨fun | 136 => 153 | n => n, fun | 5 => 5 | 3 => 3 | 9 => 9 | n => n, fun | n => n⟩
def Tryz.lays129_ren : Go.Shelf.Ren := ⟨fun | 129 => 163 | n => n, fun | 53 => 165 | 3 => 3 | 4 => 4 | 46 => 77 | 5 => 5 | 9 => 9 | n => n, fun | n => n⟩
def Tryz.lays217_ren : Go.Shelf.Ren := ⟨fun | 217 => 207 | 266 => 211 | n => n, fun | 9 => 9 | 5 => 5 | 3 => 3 | n => n, fun | n => n⟩
open Go.RowKit Go.Lib in
def Tryz.lays224_ren : Go.Shelf.Ren := ⟨fun | 224 => 209 | n => n, fun | 3 => 3 | n => n, fun | n => n⟩
open Go.RowKit Go.Lib in
def Tryz.lays314_ren : Go.Shelf.Ren := ⟨fun | 314 => 212 | n => n, fun | 9 => 9 | 51 => 203 | 3 => 3 | 4 => 4 | 5 => 5 | 46 => 77 | n => n, fun | n => n⟩
open Go.RowKit Go.Lib in
def Tryz.lays267_ren : Go.Shelf.Ren := ⟨fun | 267 => 210 | 314 => 212 | n => n, fun | 9 => 9 | 3 => 3 | 146 => 244 | 51 => 203 | 4 => 4 | 5 => 5 | 46 => 77 | n => n, fun | n => n⟩
open Go.RowKit Go.Lib in
def Tryz.lays219_ren : Go.Shelf.Ren := ⟨fun | 219 => 203 | 217 => 207 | 225 => 208 | 224 => 209 | 267 => 210 | 266 => 211 | 314 => 212 | n => n, fun | 9 => 9 | 3 => 3 | 4 => 4 | 5 => 5 | 46 => 77 | 146 => 244 | 51 => 203 | n => n, fun | 1 => 30 | n => n⟩
open Go.RowKit Go.Lib in
open Go.RowKit Go.Lib in
def Tryz.lays143_ren : Go.Shelf.Ren := ⟨fun | 143 => 192 | 219 => 203 | 217 => 207 | 225 => 208 | 224 => 209 | 267 => 210 | 266 => 211 | 314 => 212 | n => n, fun | 9 => 9 | 3 => 3 | 4 => 4 | 5 => 5 | 46 => 77 | 146 => 244 | 51 => 203 | n => n, fun | 1 => 30 | n => n⟩
open Go.RowKit Go.Lib in
open Go.RowKit Go.Lib in
def Tryz.laysM219_ren : Go.Shelf.Ren := ⟨fun | 219 => 203 | 217 => 207 | 225 => 208 | 224 => 209 | 267 => 210 | 266 => 211 | 314 => 212 | n => n, fun | 9 => 9 | 3 => 3 | 4 => 4 | 5 => 5 | 46 => 77 | 146 => 244 | 51 => 203 | n => n, fun | 1 => 30 | n => n⟩
open Go.RowKit Go.Lib in
def Tryz.laysM143_ren : Go.Shelf.Ren := ⟨fun | 143 => 192 | 219 => 203 | 217 => 207 | 225 => 208 | 224 => 209 | 267 => 210 | 266 => 211 | 314 => 212 | n => n, fun | 9 => 9 | 3 => 3 | 4 => 4 | 5 => 5 | 46 => 77 | 146 => 244 | 51 => 203 | n => n, fun | 1 => 30 | n => n⟩
open Go.RowKit Go.Lib in
def Tryz.lays197_ren : Go.Shelf.Ren := ⟨fun | 197 => 191 | 260 => 202 | n => n, fun | 9 => 9 | 21 => 21 | 3 => 3 | 4 => 4 | 5 => 5 | 105 => 228 | 119 => 224 | 0 => 0 | 46 => 77 | 139 => 227 | 138 => 226 | n => n, fun | 3 => 28 | 4 => 29 | n => n⟩
open Go.RowKit Go.Lib in
def Tryz.lays260_ren : Go.Shelf.Ren := ⟨fun | 260 => 202 | n => n, fun | 9 => 9 | 21 => 21 | 3 => 3 | 4 => 4 | 5 => 5 | 119 => 224 | 0 => 0 | 46 => 77 | 139 => 227 | 138 => 226 | n => n, fun | 3 => 28 | 4 => 29 | n => n⟩
open Go.RowKit Go.Lib in
open Go.RowKit Go.Lib in
def Tryz.sortB_ren : Go.Shelf.Ren := ⟨fun | 6 => 155 | 15 => 146 | 14 => 171 | 28 => 162 | 29 => 163 | 20 => 181 | 21 => 182 | 22 => 183 | 23 => 184 | 24 => 185 | 25 => 186 | 26 => 187 | 27 => 188 | 46 => 197 | 47 => 198 | 48 => 199 | 49 => 200 | 50 => 201 | 57 => 206 | n => n, fun | 22 => 56 | 24 => 26 | 25 => 185 | 3 => 3 | 39 => 77 | 0 => 0 | 53 => 203 | 55 => 165 | 4 => 4 | 46 => 218 | 45 => 217 | 50 => 169 | 5 => 5 | 9 => 9 | 66 => 233 | 70 => 237 | 76 => 241 | 77 => 87 | n => n, fun | n => n⟩
theorem Tryz.sortB : Go.Proofs.SlLaysF.n6 Tryz.prog Tryz.sortB_ren := {
  mixed := by kernel_rfl
  f6 := ⟨Tryz.f155.name, by decide, Tryz.func155.trans (congrArg some (by kernel_rfl))⟩
  f14 := ⟨Tryz.f171.name, by decide, Tryz.func171.trans (congrArg some (by kernel_rfl))⟩
  f15 := Tryz.func146.trans (congrArg some (by kernel_rfl))
  f20 := ⟨Tryz.f181.name, by decide, Tryz.func181.trans (congrArg some (by kernel_rfl))⟩
  f21 := ⟨Tryz.f182.name, by decide, Tryz.func182.trans (congrArg some (by kernel_rfl))⟩
  f22 := ⟨Tryz.f183.name, by decide, Tryz.func183.trans (congrArg some (by kernel_rfl))⟩
  f23 := ⟨Tryz.f184.name, by decide, Tryz.func184.trans (congrArg some (by kernel_rfl))⟩
  f24 := ⟨Tryz.f185.name, by decide, Tryz.func185.trans (congrArg some (by kernel_rfl))⟩
  f25 := ⟨Tryz.f186.name, by decide, Tryz.func186.trans (congrArg some (by kernel_rfl))⟩
  f26 := ⟨Tryz.f187.name, by decide, Tryz.func187.trans (congrArg some (by kernel_rfl))⟩
  f27 := ⟨Tryz.f188.name, by decide, Tryz.func188.trans (congrArg some (by kernel_rfl))⟩
  f28 := Tryz.func162.trans (congrArg some (by kernel_rfl))
  f29 := Tryz.func163.trans (congrArg some (by kernel_rfl))
  f46 := ⟨Tryz.f197.name, by decide, Tryz.func197.trans (congrArg some (by kernel_rfl))⟩
  f47 := Tryz.func198.trans (congrArg some (by kernel_rfl))
  f48 := Tryz.func199.trans (congrArg some (by kernel_rfl))
  f49 := ⟨Tryz.f200.name, by decide, Tryz.func200.trans (congrArg some (by kernel_rfl))⟩
  f50 := ⟨Tryz.f201.name, by decide, Tryz.func201.trans (congrArg some (by kernel_rfl))⟩
  f57 := ⟨Tryz.f206.name, by decide, Tryz.func206.trans (congrArg some (by kernel_rfl))⟩
  t0 := Tryz.underlying0
  a0 := Tryz.isAgg0
  z0 := Tryz.sizeOf0
  v0 := Tryz.zeroValue0
  t3 := Tryz.underlying3
  a3 := Tryz.isAgg3
  z3 := Tryz.sizeOf3
  v3 := Tryz.zeroValue3
  t4 := Tryz.underlying4
  a4 := Tryz.isAgg4
  z4 := Tryz.sizeOf4
  v4 := Tryz.zeroValue4
  t5 := Tryz.underlying5
  a5 := Tryz.isAgg5
  z5 := Tryz.sizeOf5
  v5 := Tryz.zeroValue5
  t9 := Tryz.underlying9
  a9 := Tryz.isAgg9
  z9 := Tryz.sizeOf9
  v9 := Tryz.zeroValue9
  t22 := Tryz.underlying56
  a22 := Tryz.isAgg56
  z22 := Tryz.sizeOf56
  v22 := Tryz.zeroValue56
  a24 := Tryz.isAgg26
  z24 := Tryz.sizeOf26
  t25 := Tryz.underlying185
  a25 := Tryz.isAgg185
  z25 := Tryz.sizeOf185
  v25 := Tryz.zeroValue185
  t39 := Tryz.underlying77
  a39 := Tryz.isAgg77
  z39 := Tryz.sizeOf77
  v39 := Tryz.zeroValue77
  t45 := Tryz.underlying217
  a45 := Tryz.isAgg217
  z45 := Tryz.sizeOf217
  v45 := Tryz.zeroValue217
  t46 := Tryz.underlying218
  a46 := Tryz.isAgg218
  z46 := Tryz.sizeOf218
  v46 := Tryz.zeroValue218
  t50 := Tryz.underlying169
  a50 := Tryz.isAgg169
  z50 := Tryz.sizeOf169
  v50 := Tryz.zeroValue169
  t53 := Tryz.underlying203
  a53 := Tryz.isAgg203
  z53 := Tryz.sizeOf203
  v53 := Tryz.zeroValue203
  t55 := Tryz.underlying165
  a55 := Tryz.isAgg165
  z55 := Tryz.sizeOf165
  v55 := Tryz.zeroValue165
  t66 := Tryz.underlying233
  a66 := Tryz.isAgg233
  z66 := Tryz.sizeOf233
  v66 := Tryz.zeroValue233
  t70 := Tryz.underlying237
  a70 := Tryz.isAgg237
  z70 := Tryz.sizeOf237
  v70 := Tryz.zeroValue237
  t76 := Tryz.underlying241
  a76 := Tryz.isAgg241
  z76 := Tryz.sizeOf241
  v76 := Tryz.zeroValue241
  t77 := Tryz.underlying87
  a77 := Tryz.isAgg87
  z77 := Tryz.sizeOf87
  v77 := Tryz.zeroValue87 }
end Go.Proofs

/- Chapter 7: rows of bytes, sorted: the program's way and the reference's. -/
namespace Go.Proofs.YtjckfbpdieijeaaGreatDoor
set_option linter.unusedVariables false
namespace Am
open Go.RowKit
set_option maxRecDepth 100000

theorem sort8_ac {gs : List Nat} (g : Option Nat) (ls : List (List UInt8)) (hl : ls.length ≤ 1000000000) : AC gs Tryz.prog 155 [(g, .blk ls.length (lbF ls))] [.os 0 g 0 ls.length 1, .c (.func (.func 148) #[] #[])] (fun r H' => r = .c (.tuple #[]) ∧ H' = [(g, .blk ls.length (lbF (sortL ls)))]) :=
  sort8_of (fun p cap fv w => AnyF.slices_SortFunc_none (P := Tryz.prog) (ρ := Tryz.sortB_ren) { Tryz.sortB with } p cap fv w)
    (fun m enc h1 cf hO blk cap d w hc hH hb hs => Any.slices_SortFunc (P := Tryz.prog) (ρ := Tryz.sortB_ren) Tryz.sortB enc h1 cf hO 148 #[] blk 0 cap d w (fun args W => run_enter (by kernel_rfl) args W) hc hH hb hs)
    (fun w v1 v2 l r h1 h2 => compare8_run h1 h2) g ls hl
theorem sumL_sort (ls : List (List UInt8)) : sumL (sortL ls) = sumL ls := ((sortL_perm ls).map List.length).sum_nat
theorem set_ac {gs : List Nat} (ls : List (List UInt8)) (hl : ls.length ≤ 1000000) (hs : sumL ls ≤ 10000000000) : ACp gs Tryz.prog 126 [lbC ls] (bsC (sortL ls).flatten) := by
  have hsl := sortL_length ls
  refine ac_of 10 Tryz.func126 rfl rfl rfl (fun al w0 F0 St0 => ?_)
  refine jcr ?_
  refine jq jrm ?_
  refine seq_nil ?_
  refine jcr ?_
  refine jq jrm ?_
  refine jqe (jecO (cloneL_ac ls hl) (fun p1 => ?_))
  refine jq jrm ?_
  refine seq_nil ?_
  refine jcr ?_
  refine jq jrm ?_
  refine jqm (jmcH 0 (sort8_ac p1 ls (by omega)) ?_)
  rintro _ _ ⟨rfl, rfl⟩
  refine ⟨_, _, rfl, CEnt.refl _, ?_⟩
  refine seq_nil ?_
  refine code_ent (freeze 0 rfl) ?_
  refine code_ent (thaw 3 (fun b _ => bsC ((sortL ls).getD b [])) rfl rfl (by omega) (fun a b ha hb => lb_thaw a b (by omega) hb)) ?_
  refine code_ent (weaken 3 (lbC (sortL ls)) (CEnt.rs hsl.symm fun i j _ _ => CEnt.refl _)) ?_
  refine jcr ?_
  refine jq jrm ?_
  refine jqe (jecP (concat8_ac (sortL ls) (by rw [sumL_sort]; exact hs) (by omega)) ?_)
  refine jq jrm ?_
  refine seq_nil ?_
  refine code_ret (jrt (hv := CEnt.refl _))
theorem gt_cmp (a b : List UInt8) : (!(Op.bytesLess a b || a == b)) = decide (0 < cmpL a b) := by
  rw [← cmpL_lt]
  have hs := cmpL_swap a b
  rcases Int.lt_trichotomy (cmpL a b) 0 with h | h | h
  · simp [h]; omega
  · have := cmpL_zero h
    subst this
    simp [h]
  · have hne : ¬ a = b := fun e => by subst e; rw [cmpL_self] at h; omega
    simp [hne, show ¬ cmpL a b < 0 by omega, h]
theorem lb_take {X : List (List UInt8)} {k j : Nat} (h : j < k) : bsC (X.getD (0 + j / 1) []) = lbF (X.take k) j := by
  unfold lbF
  simp [List.getD, List.getElem?_take, h]
theorem lb_drop {X : List (List UInt8)} {k j : Nat} : bsC (X.getD (k + j / 1) []) = lbF (X.drop k) j := by
  unfold lbF
  simp [List.getD, List.getElem?_drop]
/-- an element put where it belongs -/
theorem insert_sorted {X l : List (List UInt8)} {x : List UInt8} {k : Nat} (hX : X = sortL l) (hk : k ≤ X.length) (hlo : k = 0 ∨ leL (X.getD (k - 1) []) x = true) (hhi : ∀ j, k ≤ j → j < X.length → leL x (X.getD j []) = true) : X.take k ++ [x] ++ X.drop k = sortL (l ++ [x]) := by
  have hs : X.Pairwise fun a b => leL a b = true := hX ▸ sortL_sorted l
  have hp : X.Perm l := hX ▸ sortL_perm l
  refine sortL_of ?_ ?_
  · have h1 : (X.take k ++ [x] ++ X.drop k).Perm (X.take k ++ X.drop k ++ [x]) := by
      rw [List.append_assoc, List.append_assoc]
      exact List.Perm.append_left _ List.perm_append_comm
    rw [List.take_append_drop] at h1
    exact h1.trans (hp.append_right [x])
  · have hlow : ∀ a ∈ X.take k, leL a x = true := fun a ha => by
      obtain ⟨i, hi, rfl⟩ := List.mem_iff_getElem.1 ha
      rw [List.length_take] at hi
      rw [List.getElem_take]
      rcases hlo with h0 | h0
      · omega
      · by_cases e : i = k - 1
        · have : X.getD (k - 1) [] = X[i]'(by omega) := by subst e; simp [List.getD, show k - 1 < X.length by omega]
          rwa [this] at h0
        · refine leL_trans _ _ _ ?_ h0
          have := List.pairwise_iff_getElem.1 hs i (k - 1) (by omega) (by omega) (by omega)
          rwa [show X.getD (k - 1) [] = X[k - 1]'(by omega) by simp [List.getD, show k - 1 < X.length by omega]]
    have hhigh : ∀ a ∈ X.drop k, leL x a = true := fun a ha => by
      obtain ⟨i, hi, rfl⟩ := List.mem_iff_getElem.1 ha
      rw [List.length_drop] at hi
      rw [List.getElem_drop]
      have := hhi (k + i) (by omega) (by omega)
      rwa [show X.getD (k + i) [] = X[k + i]'(by omega) by simp [List.getD, show k + i < X.length by omega]] at this
    rw [List.pairwise_append, List.pairwise_append]
    refine ⟨⟨hs.take, List.pairwise_cons.2 ⟨fun _ h => by simp at h, .nil⟩, fun a ha b hb => ?_⟩, hs.drop, fun a ha b hb => ?_⟩
    · rw [List.mem_singleton.1 hb]; exact hlow a ha
    · rcases List.mem_append.1 ha with ha | ha
      · exact leL_trans _ _ _ (hlow a ha) (hhigh b hb)
      · rw [List.mem_singleton.1 ha]; exact hhigh b hb
set_option maxHeartbeats 1000000 in
theorem rsorted07_ac {gs : List Nat} (ls : List (List UInt8)) (hl : ls.length ≤ 1000000) : ACp gs Tryz.prog 48 [lbC ls] (lbC (sortL ls)) := by
  refine ac_of 48 Tryz.func48 rfl rfl rfl (fun al w0 F0 St0 => ?_)
  refine jcr ?_
  refine jq jrm ?_
  refine seq_nil ?_
  refine jcr ?_
  refine jqe (jebl 0 1 zr26 fun p1 => ?_)
  refine jq jrm ?_
  refine seq_nil ?_
  refine jcs ?_
  refine jcr ?_
  refine jq jrm ?_
  refine jq jrl ?_
  refine jq jrm ?_
  refine seq_nil ?_
  refine code_block ?_
  refine l_loop (α := Nat × List (List UInt8) × Option Nat) [3, 5, 6, 7, 11, 12, 13, 14, 15, 16, 17, 18, 19, 20, 21, 22, 23, 24, 25, 26, 27, 28, 29, 30, 31, 32, 33, 34, 35, 36, 37, 38, 39, 40, 41, 42, 43, 44, 45, 46] (fun (i, X, g) => [(11, .c (.int .i64 (i : Nat))), (3, .os 0 g 0 X.length 1)]) (fun (i, X, g) => [(g, .blk X.length (lbF X))]) (fun (i, X, g) => i ≤ ls.length ∧ X = sortL (ls.take i)) (fun (i, X, g) => ls.length - i) ((0, [], p1)) ?_ (fun _ => rfl) ?_ ?_ ?_
  · exact ⟨Nat.zero_le _, by simp [sortL]⟩
  · exact .cons (CEnt.refl _) (.cons (CEnt.refl _) .nil)
  · exact .blk rfl (fun j hj => absurd hj (Nat.not_lt_zero j)) .nil
  · rintro ⟨i, X, g⟩ ⟨(hi : i ≤ ls.length), hX⟩
    have hXl : X.length = i := by rw [hX, sortL_length, List.length_take]; omega
    obtain ⟨x, hx⟩ : ∃ x, x = ls.getD i [] := ⟨_, rfl⟩
    refine jcr ?_
    refine jq jrc ?_
    refine seq_nil ?_
    refine jcs ?_
    refine jcc (fun h115 => ?_) fun h115 => ?_
    rotate_left
    · refine code_exit (jte (jte (jbx (jtn ?_))))
      refine jcr ?_
      refine jq jrm ?_
      refine jq jrm ?_
      refine seq_nil ?_
      have hiL : i = ls.length := by omega
      rw [hiL, List.take_length] at hX
      refine code_ent (freeze 0 rfl) ?_
      refine code_ent (thaw 2 (fun b _ => bsC (X.getD b [])) rfl rfl (by omega) (fun a b ha hb => lb_thaw a b ha hb)) ?_
      refine code_ret (jrt (hv := ?_))
      rw [← hX]; exact CEnt.refl _
    refine code_skip (jtn ?_)
    refine jcs ?_
    refine code_block ?_
    refine jcr ?_
    refine jq jri ?_
    refine jq jrdr ?_
    refine jq jrm ?_
    refine seq_nil ?_
    refine code_ent (freeze 0 rfl) ?_
    refine code_ent (thaw 3 (fun b _ => bsC (X.getD b [])) rfl rfl (by omega) (fun a b ha hb => lb_thaw a b ha hb)) ?_
    refine code_ent (pick_ent (H' := []) [] (by decide) rfl) ?_
    refine jcr ?_
    refine jq jrm ?_
    refine jq jrl ?_
    refine jq jrm ?_
    refine seq_nil ?_
    refine jcs ?_
    refine code_block ?_
    refine code_ent (weaken 5 (bsC x) (CEnt.bs hx.symm)) ?_
    refine l_loop (α := Nat) [6, 17, 18, 19, 20, 21, 22, 23, 24, 25, 26, 27, 28, 29, 30, 31] (fun k => [(6, .c (.int .i64 (k : Nat)))]) (fun _ => []) (fun k => k ≤ X.length ∧ ∀ j, k ≤ j → j < X.length → leL x (X.getD j []) = true) (fun k => k) (X.length) ?_ (fun _ => rfl) ?_ ?_ ?_
    · exact ⟨Nat.le_refl _, fun j h1 h2 => by omega⟩
    · (repeat (first | exact EntE.nil | refine EntE.cons (CEnt.refl _) ?_ | refine EntE.cons (CEnt.int (by omega)) ?_))
    · (repeat (first | exact HEnt.nil | refine HEnt.same ?_ | refine HEnt.blk rfl (fun j hj => by rcases j with _|_|_|_|_|_|_|_|j <;> first | exact CEnt.refl _ | exact CEnt.int (by omega) | omega) ?_))
    · rintro k ⟨hk, hgt⟩
      refine jcs ?_
      refine jcs ?_
      refine jcd (.rd 0 (.rd 1 (.rd 2 (.rd 3 (.rd 4 (.rd 5 (.rd 6 (.rd 7 (.rd 8 (.rd 9 (.rd 10 (.rd 11 (.rd 12 .done))))))))))))) ?_
      refine jyq jrm ?_
      refine jyq jrc ?_
      refine jyq jrm ?_
      refine jysp 19 (fun g117 => ?_) fun g117 => ?_
      rotate_left
      · refine jys ?_
        refine jys ?_
        refine jys ?_
        refine jys ?_
        refine jys ?_
        refine jys ?_
        refine jys ?_
        refine jys ?_
        refine jys ?_
        refine jyq jrpF ?_
        refine jyd ?_
        refine jtn ?_
        refine jcF ?_
        refine code_exit (jte (jte (jbx (jtn ?_))))
        have hlo : k = 0 ∨ leL (X.getD (k - 1) []) x = true := by
          first
            | (left; omega)
            | (right; have hh := h117; rw [gt_cmp, decide_eq_false_iff_not] at hh; have := cmpL_swap (X.getD (k - 1) []) x; rw [leL_cmp]; omega)
        refine jcr ?_
        refine jqe (jebl 0 1 zr26 fun p2 => ?_)
        refine jq jrm ?_
        refine jq jrm ?_
        refine jq (jrsr (hl := (bd_none _ _)) (hu := (bd_some rfl (show _ = ((k : Nat) : Int) by omega)))) ?_
        refine jqm (m_appendC rowC_lb (l := []) (l2 := X.take k) rfl rfl rfl rfl (Nat.le_of_eq (Nat.zero_mul _)) (fun j hj => absurd hj (by simp)) (src_rs rfl) (by rw [List.length_take]; omega) (fun j hj => CEnt.of_eq (lb_take (by rw [List.length_take] at hj; omega))) Tryz.underlying56 nu56 sz26 zr26 by26 rfl (by simp; omega) (by simp; omega) (fun j hj => rfl) rfl rfl (Nat.mul_one _) (fun p3 => ?_))
        refine jq jrm ?_
        refine seq_nil ?_
        refine jcr ?_
        refine jq jrm ?_
        refine jq jrm ?_
        refine jqe (jebl 1 1 zr26 fun p4 => ?_)
        refine jqm (m_appendC rowC_lb (l := [] ++ X.take k) (l2 := [x]) rfl rfl (by simp) rfl (by simp) (fun j hj => CEnt.refl _) (src_os rfl (.inl rfl) (by decide)) rfl (fun j hj => by obtain rfl : j = 0 := (by simp at hj; omega); exact CEnt.refl _) Tryz.underlying56 nu56 sz26 zr26 by26 rfl (by simp; omega) (by simp; omega) (fun j hj => by obtain rfl : j = 0 := (by omega); rfl) rfl rfl (Nat.mul_one _) (fun p5 => ?_))
        refine jq jrm ?_
        refine seq_nil ?_
        refine jcg ?_
        refine jq jrm ?_
        refine jq jrm ?_
        refine jq jrm ?_
        refine jq (jrsr (hl := (bd_some rfl (show _ = ((k : Nat) : Int) by omega))) (hu := (bd_none _ _))) ?_
        refine jqm (m_appendC rowC_lb (l := [] ++ X.take k ++ [x]) (l2 := X.drop k) rfl rfl (by simp) rfl (by simp) (fun j hj => CEnt.refl _) (src_rs rfl) (by rw [List.length_drop]) (fun j hj => CEnt.of_eq lb_drop) Tryz.underlying56 nu56 sz26 zr26 by26 rfl (by simp; omega) (by simp; omega) (fun j hj => rfl) rfl rfl (Nat.mul_one _) (fun p6 => ?_))
        refine jq jrm ?_
        refine seq_nil ?_
        refine jbn (jtn ?_)
        refine jcg ?_
        refine jq jra ?_
        refine jq jrm ?_
        refine seq_nil ?_
        refine jtn ?_
        refine jlend ((i + 1, X.take k ++ [x] ++ X.drop k, p6)) ?_ ?_ (h5 := ?_) (h7 := ?_)
        · exact ⟨by omega, by
            have e : ls.take (i + 1) = ls.take i ++ [x] := by rw [hx, List.take_succ_eq_append_getElem (by omega)]; simp [List.getD, show i < ls.length by omega]
            rw [e]
            exact insert_sorted hX hk hlo (fun j h1 h2 => hgt j h1 h2)⟩
        · show ls.length - (i + 1) < ls.length - i; omega
        · exact .cons (CEnt.int (by omega)) (.cons (CEnt.refl _) .nil)
        · exact .same .nil
      refine jyq jrm ?_
      refine jyq jrm ?_
      refine jyq jra ?_
      refine jyq (jri (i := (k - 1)) (hz := by omega)) ?_
      refine jyq jrdr ?_
      refine jyq jrbs ?_
      refine jyq jrm ?_
      refine jyq jrbs ?_
      refine jyq jrcs ?_
      refine jyq jrpT ?_
      refine jyd ?_
      refine jtn ?_
      refine jcc (fun h117 => ?_) fun h117 => ?_
      · refine code_skip (jtn ?_)
        refine code_block ?_
        refine jcg ?_
        refine jq jrm ?_
        refine jq jra ?_
        refine jq jrm ?_
        refine seq_nil ?_
        refine jbn (jtn ?_)
        refine jlend (k - 1) ?_ ?_ (h5 := ?_)
        · exact ⟨by omega, fun j h1 h2 => by
            by_cases e : j = k - 1
            · subst e
              have := h117
              rw [gt_cmp, decide_eq_true_eq] at this
              rw [leL_cmp]; omega
            · exact hgt j (by omega) h2⟩
        · show k - 1 < k; omega
        · exact .cons (CEnt.int (by omega)) .nil
      refine code_exit (jte (jte (jbx (jtn ?_))))
      have hlo : k = 0 ∨ leL (X.getD (k - 1) []) x = true := by
        first
          | (left; omega)
          | (right; have hh := h117; rw [gt_cmp, decide_eq_false_iff_not] at hh; have := cmpL_swap (X.getD (k - 1) []) x; rw [leL_cmp]; omega)
      refine jcr ?_
      refine jqe (jebl 0 1 zr26 fun p2 => ?_)
      refine jq jrm ?_
      refine jq jrm ?_
      refine jq (jrsr (hl := (bd_none _ _)) (hu := (bd_some rfl (show _ = ((k : Nat) : Int) by omega)))) ?_
      refine jqm (m_appendC rowC_lb (l := []) (l2 := X.take k) rfl rfl rfl rfl (Nat.le_of_eq (Nat.zero_mul _)) (fun j hj => absurd hj (by simp)) (src_rs rfl) (by rw [List.length_take]; omega) (fun j hj => CEnt.of_eq (lb_take (by rw [List.length_take] at hj; omega))) Tryz.underlying56 nu56 sz26 zr26 by26 rfl (by simp; omega) (by simp; omega) (fun j hj => rfl) rfl rfl (Nat.mul_one _) (fun p3 => ?_))
      refine jq jrm ?_
      refine seq_nil ?_
      refine jcr ?_
      refine jq jrm ?_
      refine jq jrm ?_
      refine jqe (jebl 1 1 zr26 fun p4 => ?_)
      refine jqm (m_appendC rowC_lb (l := [] ++ X.take k) (l2 := [x]) rfl rfl (by simp) rfl (by simp) (fun j hj => CEnt.refl _) (src_os rfl (.inl rfl) (by decide)) rfl (fun j hj => by obtain rfl : j = 0 := (by simp at hj; omega); exact CEnt.refl _) Tryz.underlying56 nu56 sz26 zr26 by26 rfl (by simp; omega) (by simp; omega) (fun j hj => by obtain rfl : j = 0 := (by omega); rfl) rfl rfl (Nat.mul_one _) (fun p5 => ?_))
      refine jq jrm ?_
      refine seq_nil ?_
      refine jcg ?_
      refine jq jrm ?_
      refine jq jrm ?_
      refine jq jrm ?_
      refine jq (jrsr (hl := (bd_some rfl (show _ = ((k : Nat) : Int) by omega))) (hu := (bd_none _ _))) ?_
      refine jqm (m_appendC rowC_lb (l := [] ++ X.take k ++ [x]) (l2 := X.drop k) rfl rfl (by simp) rfl (by simp) (fun j hj => CEnt.refl _) (src_rs rfl) (by rw [List.length_drop]) (fun j hj => CEnt.of_eq lb_drop) Tryz.underlying56 nu56 sz26 zr26 by26 rfl (by simp; omega) (by simp; omega) (fun j hj => rfl) rfl rfl (Nat.mul_one _) (fun p6 => ?_))
      refine jq jrm ?_
      refine seq_nil ?_
      refine jbn (jtn ?_)
      refine jcg ?_
      refine jq jra ?_
      refine jq jrm ?_
      refine seq_nil ?_
      refine jtn ?_
      refine jlend ((i + 1, X.take k ++ [x] ++ X.drop k, p6)) ?_ ?_ (h5 := ?_) (h7 := ?_)
      · exact ⟨by omega, by
          have e : ls.take (i + 1) = ls.take i ++ [x] := by rw [hx, List.take_succ_eq_append_getElem (by omega)]; simp [List.getD, show i < ls.length by omega]
          rw [e]
          exact insert_sorted hX hk hlo (fun j h1 h2 => hgt j h1 h2)⟩
      · show ls.length - (i + 1) < ls.length - i; omega
      · exact .cons (CEnt.int (by omega)) (.cons (CEnt.refl _) .nil)
      · exact .same .nil
end Am
end Go.Proofs.YtjckfbpdieijeaaGreatDoor

/- Chapter 8: the writer: Open, Close, Done. -/
namespace Go.Proofs.YtjckfbpdieijeaaGreatDoor
set_option linter.unusedVariables false
namespace Am
variable {gs : List Nat} [OkG gs]
open Go.RowKit
set_option maxRecDepth 100000

theorem nilO8 : CEnt (.c (.slice none 0 0)) (.os 0 none 0 0 1) := fun al St w v h => ⟨rfl, h⟩
theorem know_os {G : Gh} {s : AS} (d : Nat) {i off n k : Nat} (hl : look s.env s.b d = .os i none off n k) : ∀ a w, Rel G s a w → n = 0 := fun a w ⟨St, hr⟩ => by
  have := evR hr (x := .tmp d) hl
  exact this.1
/-- bytes of its own, cloned -/
theorem cloneO_ac {gs : List Nat} (l : List UInt8) (g : Option Nat) (hl : l.length ≤ 100000000) : AC gs Tryz.prog 46 [(g, .blk l.length (byF l))] [.os 0 g 0 l.length 1] (fun r H' => r = bsC l ∧ H' = [(g, .blk l.length (byF l))]) := by
  refine ac_of 8 Tryz.func46 rfl rfl rfl (fun al w0 F0 St0 => ?_)
  refine jcr ?_
  refine jq jrm ?_
  refine seq_nil ?_
  refine jcs ?_
  refine jcr ?_
  refine jq jrm ?_
  refine jq (rd_eqSO rfl rfl rfl Tryz.underlying26) ?_
  refine seq_nil ?_
  refine jcc (fun h357 => ?_) fun h357 => ?_
  · obtain rfl : g = none := by cases g <;> simp at h357 ⊢
    refine code_knowG (know_os 0 rfl) fun hn => ?_
    refine jcr ?_
    refine jq jrm ?_
    refine seq_nil ?_
    refine code_ret (jtr ?_)
    exact end_ownV (.inl rfl) [0] (by decide) rfl (res_1 rfl (arv_tmp rfl)) (CEnt.nilS' hn) ⟨rfl, rfl⟩
  refine code_skip (jtn ?_)
  refine jcr ?_
  refine jqe (jebl 0 1 zr5 fun p1 => ?_)
  refine jq jrm ?_
  first | refine jqm (m_appendB (l := []) rfl rfl rfl (Nat.zero_le _) (fun j hj => absurd hj (Nat.not_lt_zero j)) (src_rs rfl) rfl (fun j hj => by simp only [Nat.div_one]; exact CEnt.refl _) Tryz.underlying26 nu26 sz5 zr5 by5 rfl (by first | omega | (simp; done) | (simp; omega) | (simp at *; omega)) (fun j hj => rfl) rfl rfl (fun p2 => ?_)) | refine jqm (m_appendB (l := []) rfl rfl rfl (Nat.zero_le _) (fun j hj => absurd hj (Nat.not_lt_zero j)) (src_str rfl) rfl (fun j hj => CEnt.refl _) Tryz.underlying26 nu26 sz5 zr5 by5 rfl (by first | omega | (simp; done) | (simp; omega) | (simp at *; omega)) (fun j hj => rfl) rfl rfl (fun p2 => ?_)) | refine jqm (m_appendB (l := []) rfl rfl rfl (Nat.zero_le _) (fun j hj => absurd hj (Nat.not_lt_zero j)) (src_os rfl (.inl rfl) (by omega)) rfl (fun j hj => by rw [Nat.zero_add]; exact CEnt.refl _) Tryz.underlying26 nu26 sz5 zr5 by5 rfl (by (simp; omega)) (fun j hj => rfl) rfl rfl (fun p2 => ?_))
  refine jq jrm ?_
  refine seq_nil ?_
  refine code_ent (freeze 1 rfl) ?_
  refine code_ent (thawB 2 ([] ++ l) rfl rfl (by rfl) rfl) ?_
  refine code_ret ?_
  exact end_ownV (.inl rfl) [0] (by decide) rfl (res_1 rfl (arv_tmp rfl)) (CEnt.bs (List.nil_append l)) ⟨rfl, rfl⟩
theorem body08_ac {gs : List Nat} (tag : Int) (ls : List (List UInt8)) (hl : ls.length ≤ 1000000) (hs : sumL ls ≤ 10000000000) : ACp gs Tryz.prog 83 [.agg 2 (fl [.c (.int .i64 tag), lbC ls])] (bsC (bodyF (tag, ls))) := by
  refine ac_of 12 Tryz.func83 rfl rfl rfl (fun al w0 F0 St0 => ?_)
  refine jcr ?_
  refine jqe (jebx 2 fun p1 => ?_)
  refine jq jrm ?_
  refine seq_nil ?_
  refine jcs ?_
  refine jcr ?_
  refine jq (jrfa 0 1 false) ?_
  refine jqo jrdo ?_
  refine jq jrc ?_
  refine seq_nil ?_
  refine jcc (fun h23 => ?_) fun h23 => ?_
  · refine jcr ?_
    refine jq (jrfa 1 1 false) ?_
    refine jqo jrdo ?_
    refine jqe (jecP (set_ac ls hl hs) ?_)
    refine jq jrm ?_
    refine seq_nil ?_
    refine code_ret (jtr (jrt (hv := CEnt.bs (by unfold bodyF; rw [if_pos h23]))))
  refine code_skip (jtn ?_)
  refine jcr ?_
  refine jq (jrfa 1 1 false) ?_
  refine jqo jrdo ?_
  refine jqe (jecP (concat8_ac ls hs hl) ?_)
  refine jq jrm ?_
  refine seq_nil ?_
  refine code_ret (jrt (hv := CEnt.bs (by unfold bodyF; rw [if_neg h23])))
theorem openW_ac (n : Nat) (s : W8) (tag : Int) (hs : OkW s) : AC gs Tryz.prog 42 [wrO n s] [.op 0 (some n) 0, .c (.int .i64 tag)] (fun r H' => r = .c (.tuple #[]) ∧ H' = [wrO n (openW tag s)]) := by
  have hsn := hs.n
  refine ac_of 40 Tryz.func42 rfl rfl rfl (fun al w0 F0 St0 => ?_)
  refine code_block ?_
  refine code_openW 0 rfl fun go gd zs hzs => ?_
  have hzl := fr_len hzs
  refine jcr ?_
  refine jq jrm ?_
  refine jq jrnc ?_
  refine jq (jrfa 2 1 false) ?_
  refine jqo jrdo ?_
  refine jq jre ?_
  refine jq jrm ?_
  refine seq_nil ?_
  refine jcc (fun h69 => ?_) fun h69 => ?_
  · refine code_skip (jbn ?_)
    have hP : openW tag s = s := by unfold openW; rw [if_pos (by omega)]
    rw [hP]
    exact end_pack (gd := fun z : WZ8 s.fr => z.1.1) (E := wrE s) (.inr rfl) _ ⟨(n, go, gd, zs), hzs⟩ [0, 1, 2, 3] (by decide) rfl (res_0 rfl) ⟨rfl, rfl⟩
  refine jcr ?_
  refine jq jrm ?_
  refine jqe (jecP (made_ac tag) ?_)
  refine jq jrn ?_
  refine jq jrm ?_
  refine seq_nil ?_
  refine jcc (fun h70 => ?_) fun h70 => ?_
  · refine jcg ?_
    refine jq jrm ?_
    refine jq (jrde 4) ?_
    refine jq jrnc ?_
    refine jq (jrfa 2 1 false) ?_
    refine jqm (jmstF 1 (wrB ⟨s.fr, s.d, 5⟩ 1 2 go gd) ?_ ?_)
    · exact (fun j hj => by rcases j with _ | _ | _ | j <;> exact CEnt.refl _)
    refine seq_nil ?_
    refine jbn ?_
    have hP : openW tag s = ⟨s.fr, s.d, 5⟩ := by unfold openW; rw [if_neg (by omega), if_pos (by simp [madeM] at h70 ⊢; omega)]
    rw [hP]
    exact end_pack (gd := fun z : WZ8 s.fr => z.1.1) (E := wrE ⟨s.fr, s.d, 5⟩) (.inr rfl) _ ⟨(n, go, gd, zs), hzs⟩ [0, 1, 2, 3] (by decide) rfl (res_0 rfl) ⟨rfl, rfl⟩
  refine jcr ?_
  refine jq jrm ?_
  refine jq jrnc ?_
  refine jq (jrfa 0 1 false) ?_
  refine jqo jrdo ?_
  refine jq jrl ?_
  refine jq jrc ?_
  refine jq jrm ?_
  refine seq_nil ?_
  refine jcc (fun h72 => ?_) fun h72 => ?_
  · refine jcg ?_
    refine jq jrm ?_
    refine jq (jrde 5) ?_
    refine jq jrnc ?_
    refine jq (jrfa 2 1 false) ?_
    refine jqm (jmstF 1 (wrB ⟨s.fr, s.d, 6⟩ 1 2 go gd) ?_ ?_)
    · exact (fun j hj => by rcases j with _ | _ | _ | j <;> exact CEnt.refl _)
    refine seq_nil ?_
    refine jbn ?_
    have hP : openW tag s = ⟨s.fr, s.d, 6⟩ := by unfold openW; rw [if_neg (by omega), if_neg (by simp [madeM] at h70 ⊢; omega), if_pos (by omega)]
    rw [hP]
    exact end_pack (gd := fun z : WZ8 s.fr => z.1.1) (E := wrE ⟨s.fr, s.d, 6⟩) (.inr rfl) _ ⟨(n, go, gd, zs), hzs⟩ [0, 1, 2, 3] (by decide) rfl (res_0 rfl) ⟨rfl, rfl⟩
  refine code_ent (ent_none (lbF [])) ?_
  refine code_ent (bag_push 3 4 rfl rfl rfl) ?_
  dsimp only [List.set_cons_zero, List.set_cons_succ, List.cons_append, List.nil_append, List.length_cons, List.length_nil, Nat.zero_add, Nat.reduceAdd]
  refine jcg ?_
  refine jq jrm ?_
  refine jq jrm ?_
  refine jq jrnc ?_
  refine jq (jrfa 0 1 false) ?_
  refine jqo jrdo ?_
  refine jq jrm ?_
  refine jq (rd_build (n := 2) rfl zr116 pl116 rfl rfl) ?_
  refine jqe (jebl 2 2 zr116 fun p1 => ?_)
  refine seq_ent (weakH 5 2 (rowF 2 frF frD [((tag, []), none)]) rfl (Nat.le_refl _) (fun j hj => by rcases j with _ | _ | j <;> first | exact CEnt.refl _ | exact nilO8 | omega)) ?_
  refine jqm (m_appendC (rowC_row 2 frF frD) (l := zs.reverse) (l2 := [((tag, []), none)]) rfl rfl (by simp [hzl]) rfl (by simp [hzl]) (fun _ _ => CEnt.refl _) (src_os rfl (.inl rfl) (by decide)) rfl (fun j hj => by rw [Nat.zero_add]; exact CEnt.refl _) Tryz.underlying25 nu25 sz116 zr116 by116 rfl (by simp; omega) (by simp; omega) (fun j hj => by rcases j with _ | _ | j <;> first | rfl | omega) rfl rfl rfl (fun p2 => ?_))
  refine jq jrnc ?_
  refine jq (jrfa 0 1 false) ?_
  refine jqm (jmstF 1 (wrB ⟨(tag, []) :: s.fr, s.d, s.k⟩ 1 2 p2 gd) ?_ ?_)
  · exact (fun j hj => by rcases j with _ | _ | _ | j <;> first | exact CEnt.osI (by simp [hzl]) | exact CEnt.refl _ | omega)
  refine seq_nil ?_
  refine jbn ?_
  have hP : openW tag s = ⟨(tag, []) :: s.fr, s.d, s.k⟩ := by unfold openW; rw [if_neg (by omega), if_neg (by simp [madeM] at h70 ⊢; omega), if_neg (by omega)]
  rw [hP]
  refine end_hr (H' := ?H2) ?hh ?hb
  case hh => intro _ _ _ _ _ hx; exact closeWh n ⟨(tag, []) :: s.fr, s.d, s.k⟩ (((tag, []), none) :: zs) 0 1 2 3 (by simp [hzs]) rfl rfl rfl rfl (by decide) (by exact CEnt.osI rfl) (by exact CEnt.osI rfl) (by exact CEnt.refl _) (by simp [hzl]) (fun a _ => by rw [List.reverse_cons]; exact CEnt.refl _) (Nat.le_refl _) (fun _ _ => CEnt.refl _) hx
  case hb => exact end_own (.inr rfl) _ [_] [0] (by decide) rfl (res_0 rfl) ⟨rfl, rfl⟩
theorem sum_perm {a b : List (List UInt8)} (h : a.Perm b) : sumL a = sumL b := by
  unfold sumL
  exact (h.map List.length).sum_nat
theorem bodyF_len (x : Int × List (List UInt8)) : (bodyF x).length = sumL x.2 := by
  unfold bodyF
  split
  · rw [flat_len]; exact sum_perm (sortL_perm _)
  · rw [flat_len]
theorem OkW.tail {x : Int × List (List UInt8)} {r : List (Int × List (List UInt8))} {s : W8} (h : OkW s) (hf : s.fr = x :: r) : OkW ⟨r, s.d, s.k⟩ := ⟨by have := h.n; rw [hf] at this; simp at this ⊢; omega, fun y hy => h.k y (by rw [hf]; exact List.mem_cons_of_mem _ hy), h.d⟩
theorem closeW_ac (n : Nat) (s : W8) (hs : OkW s) : AC gs Tryz.prog 43 [wrO n s] [.op 0 (some n) 0] (fun r H' => r = .c (.tuple #[]) ∧ H' = [wrO n (closeV s)]) := by
  have hsn := hs.n
  refine ac_of 45 Tryz.func43 rfl rfl rfl (fun al w0 F0 St0 => ?_)
  refine code_openW 0 rfl fun go gd zs hzs => ?_
  have hzl := fr_len hzs
  refine jcr ?_
  refine jq jrm ?_
  refine jq jrnc ?_
  refine jq (jrfa 0 1 false) ?_
  refine jqo jrdo ?_
  refine jq jrl ?_
  refine jq jra ?_
  refine jq jrm ?_
  refine seq_nil ?_
  refine code_block ?_
  refine jcr ?_
  refine jq jrm ?_
  refine jq jrnc ?_
  refine jq (jrfa 2 1 false) ?_
  refine jqo jrdo ?_
  refine jq jre ?_
  refine jq jrm ?_
  refine seq_nil ?_
  refine jcc (fun h83 => ?_) fun h83 => ?_
  · refine code_skip (jbn ?_)
    have hP : closeV s = s := by unfold closeV; rw [if_pos (by omega)]
    rw [hP]
    exact end_pack (gd := fun z : WZ8 s.fr => z.1.1) (E := wrE s) (.inr rfl) _ ⟨(n, go, gd, zs), hzs⟩ [0, 1, 2, 3] (by decide) rfl (res_0 rfl) ⟨rfl, rfl⟩
  refine jcr ?_
  refine jq jrm ?_
  refine jq jrc ?_
  refine jq jrm ?_
  refine seq_nil ?_
  refine jcc (fun h84 => ?_) fun h84 => ?_
  · refine jcg ?_
    refine jq jrm ?_
    refine jq (jrde 23) ?_
    refine jq jrnc ?_
    refine jq (jrfa 2 1 false) ?_
    refine jqm (jmstF 1 (wrB ⟨s.fr, s.d, 24⟩ 1 2 go gd) ?_ ?_)
    · exact (fun j hj => by rcases j with _ | _ | _ | j <;> exact CEnt.refl _)
    refine seq_nil ?_
    refine jbn ?_
    have hf0 : s.fr = [] := List.eq_nil_of_length_eq_zero (by omega)
    have hP : closeV s = ⟨s.fr, s.d, 24⟩ := by unfold closeV; rw [if_neg (by omega), hf0]
    rw [hP]
    exact end_pack (gd := fun z : WZ8 s.fr => z.1.1) (E := wrE ⟨s.fr, s.d, 24⟩) (.inr rfl) _ ⟨(n, go, gd, zs), hzs⟩ [0, 1, 2, 3] (by decide) rfl (res_0 rfl) ⟨rfl, rfl⟩
  obtain ⟨x, zr, rfl⟩ : ∃ x zr, zs = x :: zr := by
      cases zs with
      | nil => simp at hzl; omega
      | cons x zr => exact ⟨x, zr, rfl⟩
  have hfr : s.fr = x.1 :: zr.map Prod.fst := by rw [← hzs]; rfl
  have hxk := hs.k x.1 (by rw [hfr]; exact List.mem_cons_self)
  have hzl : s.fr.length = zr.length + 1 := by rw [← hzl]; rfl
  refine code_ent (bag_pop 3 rfl) ?_
  refine jcr ?_
  refine jq jrm ?_
  refine jq jrnc ?_
  refine jq (jrfa 0 1 false) ?_
  refine jqo jrdo ?_
  refine jq jrm ?_
  refine jq (jri (i := (s.fr.length - 1)) (hz := by omega)) ?_
  refine jqo (jrdoA 2) ?_
  refine seq_ent (freeze 4 rfl) ?_
  refine seq_ent (thawA 16 4 (fun a _ => bsC (x.1.2.getD a [])) (.c (.int .i64 x.1.1)) rfl rfl (by show CEnt (rowF 2 frF frD (x :: zr).reverse (0 + (s.fr.length - 1) * 2 + 0)) _; rw [top_at (by omega) hzl]; exact CEnt.refl _) (by show CEnt (rowF 2 frF frD (x :: zr).reverse (0 + (s.fr.length - 1) * 2 + 1)) _; rw [top_at (by omega) hzl]; exact CEnt.refl _) (by simp) (fun a b ha hb => by obtain rfl : b = 0 := (by omega); rw [Nat.zero_add, Nat.mul_one, Nat.add_zero]; exact CEnt.refl _)) ?_
  refine jqe (jeal (n := 2) zr116 rfl fun p1 => ?_)
  refine jqm (jmst 2 ?_)
  refine seq_nil ?_
  refine jcr ?_
  refine jq jrm ?_
  refine jq jrm ?_
  refine jq jrnc ?_
  refine jq (jrfa 0 1 false) ?_
  refine jqo jrdo ?_
  refine jq jrm ?_
  refine jq jrso ?_
  refine jq jrnc ?_
  refine jq (jrfa 0 1 false) ?_
  refine seq_ent (weakH 1 ((s.fr.length - 1) * 2) (rowF 2 frF frD zr.reverse) rfl (by omega) (fun j hj => by rw [row_low (by omega)]; exact CEnt.refl _)) ?_
  refine jqm (jmstF 1 (wrB ⟨zr.map Prod.fst, s.d, s.k⟩ 1 2 go gd) ?_ ?_)
  · exact (fun j hj => by rcases j with _ | _ | _ | j <;> first | exact CEnt.osI (by simp; omega) | exact CEnt.refl _ | omega)
  refine seq_nil ?_
  refine code_ent (closeW n ⟨zr.map Prod.fst, s.d, s.k⟩ zr 0 1 2 3 rfl rfl rfl rfl rfl (by decide) (CEnt.osI rfl) (CEnt.osI rfl) (CEnt.refl _) (by simp; omega) (fun _ _ => CEnt.refl _) (Nat.le_refl _) (fun _ _ => CEnt.refl _)) ?_
  dsimp only [List.set_cons_zero, List.set_cons_succ, List.cons_append, List.nil_append, List.length_cons, List.length_nil, Nat.zero_add, Nat.reduceAdd]
  refine code_ent (freeze 5 rfl) ?_
  refine code_ent (thawP 3 (m := 2) rfl rfl (by decide)) ?_
  have hto := hs.tail hfr
  refine jcdB 5 (.rd 0 (.rd 1 (.rd 2 (.rd 3 (.one 4 .done))))) ?_
  refine jyq jrm ?_
  refine jyq (jrfa 0 1 false) ?_
  refine jyq jrdr ?_
  refine jyq (jrdrA 2) ?_
  refine jye (jecP (body08_ac x.1.1 x.1.2 hxk.1 (by omega)) ?_)
  refine jyd ?_
  show ASeq _ _ _ _ _ _
  refine jqm (jmcH 0 (putW_ac n ⟨zr.map Prod.fst, s.d, s.k⟩ x.1.1 (bodyF x.1) 0 hto (by rw [bodyF_len]; exact hxk.2)) ?_)
  rintro _ _ ⟨rfl, rfl⟩
  refine ⟨_, _, rfl, CEnt.refl _, ?_⟩
  refine seq_nil ?_
  refine jbn ?_
  have hP : closeV s = putW x.1.1 (bodyF x.1) 0 ⟨zr.map Prod.fst, s.d, s.k⟩ := by unfold closeV; rw [if_neg (by omega), hfr]
  rw [hP]
  exact end_own (.inr rfl) _ [_] [0] (by decide) rfl (res_0 rfl) ⟨rfl, rfl⟩
end Am
end Go.Proofs.YtjckfbpdieijeaaGreatDoor

/- Chapter 4 in the abstract walk: figures and their numbers. -/
namespace Go.Proofs.YtjckfbpdieijeaaGreatDoor
set_option linter.unusedVariables false
namespace Am
variable {gs : List Nat} [Ok2 gs]
open Go.RowKit
set_option maxRecDepth 100000

/-! ### figures -/
def figR (l : List UInt8) : Nat × Bool := if (figM l).2 = 0 then ((figM l).1, true) else (0, false)
end Am
end Go.Proofs.YtjckfbpdieijeaaGreatDoor

/- Chapter 5: identifiers: right, septets, number, the iterators, Parse. -/
namespace Go.Proofs.YtjckfbpdieijeaaGreatDoor
set_option linter.unusedVariables false
namespace Am
variable {gs : List Nat} [Ok2 gs]
open Go.RowKit
set_option maxRecDepth 100000

def outA (n : Int) : Bool := decide (n < 0) || decide (2147483647 < n)
end Am
end Go.Proofs.YtjckfbpdieijeaaGreatDoor

/- Chapter 5: septets, number; the parts of a text, one by one; Parse. -/
namespace Go.Proofs.YtjckfbpdieijeaaGreatDoor
set_option linter.unusedVariables false
namespace Am
variable {gs : List Nat} [Ok2 gs]
open Go.RowKit
set_option maxRecDepth 100000

/-! ### numbers of seven bits a byte -/
/-! ### the parts of a text -/
/-- what strings.splitSeq hands out: the closure, and the box of what is left -/
def seqF (f : FuncId) (c : UInt8) (g : Option Nat) : CV := .fn f 3 (fl [.rp 1 fun _ => strC [c], .op 0 g 0, .rp 1 fun _ => .c (.int .i64 0)])
end Am
end Go.Proofs.YtjckfbpdieijeaaGreatDoor

/- Chapter 5: Parse. -/
namespace Go.Proofs.YtjckfbpdieijeaaGreatDoor
set_option linter.unusedVariables false
namespace Am
variable {gs : List Nat} [Ok2 gs]
open Go.RowKit
set_option maxRecDepth 100000

theorem take_get {α : Type} {l : List α} {k : Nat} (d : α) (h : k < l.length) : l.take (k + 1) = l.take k ++ [l.getD k d] := by
  rw [List.take_succ_eq_append_getElem h]
  simp [List.getD, h]
theorem getD_mem' {α : Type} {l : List α} {k : Nat} (d : α) (h : k < l.length) : l.getD k d ∈ l := by
  simp [List.getD, h]
end Am
end Go.Proofs.YtjckfbpdieijeaaGreatDoor

/- Chapter 5: order, equality; the reference's Parse; Put; the law's example. -/
namespace Go.Proofs.YtjckfbpdieijeaaGreatDoor
set_option linter.unusedVariables false
namespace Am
variable {gs : List Nat} [Ok2 gs]
open Go.RowKit
set_option maxRecDepth 100000

/-! ### lists of numbers -/
def cmpI (a b : Int) : Int := if a < b then -1 else if b < a then 1 else 0
theorem sameI_ac {gs : List Nat} (l r : List Int) : ACp gs Tryz.prog 23 [isC l, isC r] (.c (.bool (decide (l = r)))) := by
  refine ac_len 0 rfl fun hlen => ?_
  refine ac_of 26 Tryz.func23 rfl rfl rfl (fun al w0 F0 St0 => ?_)
  refine jcr ?_
  refine jq jrm ?_
  refine seq_nil ?_
  refine jcs ?_
  refine jcr ?_
  refine jq jrm ?_
  refine jq jrl ?_
  refine jq jrm ?_
  refine jq jrl ?_
  refine jq jrc ?_
  refine seq_nil ?_
  refine jcc (fun h59 => ?_) fun h59 => ?_
  · refine jcr ?_
    refine jq jrm ?_
    refine seq_nil ?_
    refine code_ret (jtr (jrt (hv := ?_)))
    refine CEnt.bool ?_
    refine (decide_eq_false fun h => ?_).symm
    rw [h] at h59; omega
  refine code_skip (jtn ?_)
  refine jcs ?_
  refine jcr ?_
  refine jq jrm ?_
  refine jq jrl ?_
  refine jq jrm ?_
  refine seq_nil ?_
  refine code_block ?_
  refine l_loop (α := Nat) [4, 5, 13, 14, 15, 16, 17, 18, 19, 20, 21, 22, 23, 24, 25] (fun i => [(13, .c (.int .i64 (i : Nat)))]) (fun _ => []) (fun i => i ≤ l.length ∧ l.take i = r.take i) (fun i => l.length - i) (0) ?_ (fun _ => rfl) ?_ ?_ ?_
  · exact ⟨by omega, by simp⟩
  · (repeat (first | exact EntE.nil | refine EntE.cons (CEnt.refl _) ?_ | refine EntE.cons (CEnt.int (by omega)) ?_))
  · (repeat (first | exact HEnt.nil | refine HEnt.same ?_ | refine HEnt.blk rfl (fun j hj => by rcases j with _|_|_|_|_|_|_|_|j <;> first | exact CEnt.refl _ | exact CEnt.int (by omega) | omega) ?_))
  · rintro i ⟨hi, he⟩
    refine jcr ?_
    refine jq jrc ?_
    refine seq_nil ?_
    refine jcs ?_
    refine jcc (fun h62 => ?_) fun h62 => ?_
    rotate_left
    · refine code_exit (jte (jte (jbx (jtn ?_))))
      refine jcr ?_
      refine jq jrm ?_
      refine seq_nil ?_
      refine code_ret (jrt (hv := ?_))
      refine CEnt.bool ?_
      refine (decide_eq_true ?_).symm
      have e1 : l.take i = l := List.take_of_length_le (by omega)
      have e2 : r.take i = r := List.take_of_length_le (by omega)
      rw [← e1, he, e2]
    refine code_skip (jtn ?_)
    refine jcs ?_
    refine code_block ?_
    refine jcr ?_
    refine jq jrm ?_
    refine jq jrm ?_
    refine seq_nil ?_
    refine jcs ?_
    refine jcd (.rd 0 (.rd 1 (.rd 2 (.rd 3 (.rd 4 (.rd 5 (.rd 6 (.rd 7 (.rd 8 .done))))))))) ?_
    refine jyq jrm ?_
    refine jyq jrm ?_
    refine jyq jri ?_
    refine jyq jrdr ?_
    refine jyq jrm ?_
    refine jyq jrm ?_
    refine jyq jri ?_
    refine jyq jrdr ?_
    refine jyq jrc ?_
    refine jyd ?_
    refine jtn ?_
    refine jcc (fun h63 => ?_) fun h63 => ?_
    · refine jcr ?_
      refine jq jrm ?_
      refine seq_nil ?_
      refine code_ret (jbr (jtr (jtr (jbr (jtr (jrt (hv := ?_)))))))
      refine CEnt.bool ?_
      refine (decide_eq_false fun h => ?_).symm
      rw [h] at h63; omega
    refine code_skip (jbn (jtn ?_))
    refine jcg ?_
    refine jq jra ?_
    refine jq jrm ?_
    refine seq_nil ?_
    refine jtn ?_
    refine jlend (i + 1) ?_ ?_
    · exact ⟨by omega, by rw [take_get 0 (by omega), take_get 0 (by omega), he, show l.getD i 0 = r.getD i 0 from by omega]⟩
    · omega
/-! ### Compare, Under -/
def underM (s t : List UInt8) : Bool := decide ((parseM s).2 = 0) && decide ((parseM t).2 = 0) && underA (parseM s).1 (parseM t).1
end Am
end Go.Proofs.YtjckfbpdieijeaaGreatDoor

/- Chapter 5: Put; the reference's Right, Split, Parse; the law's example; OidsOrder. -/
namespace Go.Proofs.YtjckfbpdieijeaaGreatDoor
set_option linter.unusedVariables false
namespace Am
variable {gs : List Nat} [Ok2 gs]
open Go.RowKit
set_option maxRecDepth 100000

theorem parse_ok {s : List UInt8} (h : (parseM s).2 = 0) : rightA (parseM s).1 = true := (parse_right (s := s) (l := (parseM s).1) (by rw [← h])).1
theorem sep_flat_len {l : List Int} (h : ∀ n ∈ l, 0 ≤ n ∧ n ≤ 2147483647) : ((l.map fun n => sepL n.toNat).flatten).length ≤ 5 * l.length := by
  induction l with
  | nil => simp
  | cons a l ih =>
    have h1 := sepL_len (n := a.toNat) (by have := h a (by simp); omega)
    have h2 := ih fun n hn => h n (by simp [hn])
    simp at h2 ⊢
    omega
theorem put_len (s : List UInt8) : (putM s).length ≤ 100 := by
  unfold putM
  split
  · rename_i h
    obtain ⟨hl2, hl16, hall, ha, hb⟩ := right_at (parse_ok h)
    unfold putA
    have h0 := hall _ (getD_mem' (l := (parseM s).1) (k := 0) 0 (by omega))
    have h1 := hall _ (getD_mem' (l := (parseM s).1) (k := 1) 0 (by omega))
    have e1 := sepL_len (n := (40 * (parseM s).1.getD 0 0 + (parseM s).1.getD 1 0).toNat) (by omega)
    have e2 := sep_flat_len (l := (parseM s).1.drop 2) (fun n hn => hall n (List.mem_of_mem_drop hn))
    rw [List.length_drop] at e2
    rw [List.length_append]
    omega
  · simp
end Am
end Go.Proofs.YtjckfbpdieijeaaGreatDoor

/- From a row's list of sentinels ('laid') to what the walks ask: each variable's pointer, no two the same. -/
namespace Go.Proofs.YtjckfbpdieijeaaGreatDoor
set_option linter.unusedVariables false
open Go.RowKit Go.ChangeShapes

def isErr (x : String × DataW Unit) : Bool := match x.2 with
  | .iface nm (.ptr (.agg [.lit (.string _)])) => nm == "*errors.errorString"
  | _ => false
theorem isErr_out {x : String × DataW Unit} (h : isErr x = true) : ∃ text, x.2 = .iface "*errors.errorString" (.ptr (.agg [.lit (.string text)])) := by
  obtain ⟨n, d⟩ := x
  unfold isErr at h
  dsimp only at h ⊢
  split at h
  · exact ⟨_, by rw [eq_of_beq h]⟩
  · cases h

theorem laid_list {P : Program} {W : World} {nm : String} {ti tp te ts : TypeId} {ms : Array (String × TypeId)} {f : Field}
    (hi : P.underlying ti = some (.interface ms)) (hrow : ∀ u, P.typeName? 3 u = some nm → u = tp)
    (hp : P.underlying tp = some (.pointer te)) (he : P.underlying te = some (.struct #[f])) (hft : f.type = ts) (hfo : f.offset = 0) (hs : P.underlying ts = some .string) (hc : P.cellsOf te = 1) (hcs : P.cellsOf ts = 1) :
    ∀ (L : List (String × DataW Unit)) (ps : List MemPlace), DataW.LaidVars P W L ps →
      (∀ b off, MemPlace.cell b off ∈ ps → (∃ c t, W.heap[b]? = some (.cells c t (0, 0))) ∧ ∀ u v, W.cell? ⟨b, off, none⟩ = some (.iface u v) → Value.okWide P W .any 0 u v) → ps.Nodup →
      (∀ x ∈ L, isErr x = true → (∃ text, x.2 = .iface nm (.ptr (.agg [.lit (.string text)]))) ∧ ∀ g, P.globalNamed x.1 = some g → (P.globals[g]?).map (·.type) = some ti) →
      ∃ al : List Addr, al.length = (L.filter isErr).length ∧ al.Nodup ∧ (∀ a ∈ al, a.spot = none ∧ MemPlace.cell a.block a.off ∈ ps) ∧
        ∀ (i : Nat) (x : String × DataW Unit) (a : Addr), (L.filter isErr)[i]? = some x → al[i]? = some a → ∃ g, P.globalNamed x.1 = some g ∧ W.cell? ⟨g, 0, none⟩ = some (.iface tp (.pointer (some a)))
  | [], ps, _, _, _, _ => ⟨[], rfl, List.nodup_nil, by simp, by simp⟩
  | (n, d) :: r, ps, hv, hrows, hnd, hL => by
    obtain ⟨g, t, cs, fuel, p, q, hg, ht, hvar, hd, hrest, rfl⟩ := hv
    have hnq : q.Nodup := List.Nodup.sublist (List.sublist_append_right _ _) hnd
    obtain ⟨al, h1, h2, h3, h4⟩ := laid_list hi hrow hp he hft hfo hs hc hcs r q hrest (fun b off hm => hrows b off (List.mem_append_right _ hm)) hnq (fun x hx => hL x (List.mem_cons_of_mem _ hx))
    by_cases hE : isErr (n, d) = true
    case neg =>
      have hE : isErr (n, d) = false := by simpa using hE
      rw [List.filter_cons_of_neg (by simp [hE])]
      exact ⟨al, h1, h2, fun a ha => ⟨(h3 a ha).1, List.mem_append_right _ (h3 a ha).2⟩, h4⟩
    obtain ⟨⟨text, hx⟩, hty⟩ := hL (n, d) (List.mem_cons_self ..) hE
    rw [List.filter_cons_of_pos hE]
    simp only at hx
    subst hx
    obtain rfl := Option.some.inj ((hty g hg).symm.trans ht)
    obtain ⟨l⟩ := cs
    have hcell0 : ∀ v, l = [v] → W.cell? ⟨g, 0, none⟩ = some v := fun v e => by
      subst e
      simpa using World.var?_cell hg hvar 0
    obtain ⟨a, s, rfl, ha, _, _, rfl⟩ := errorString_of_trod hi hrow hp he hft hfo hs hc hcs hd (fun u v e => by
      simp only at e
      subst e
      exact (hrows g 0 (by simp [MemPlace.row])).2 u v (hcell0 _ rfl))
    have hsp : a.spot = none := World.cell?_spot ha
    have hpl : MemPlace.cell a.block a.off ∈ MemPlace.row a 1 := by simp [MemPlace.row]
    refine ⟨a :: al, by simp [h1], List.nodup_cons.2 ⟨fun hm => ?_, h2⟩, ?_, ?_⟩
    · have hq := (h3 a hm).2
      have := (List.nodup_append.1 hnd).2.2 (MemPlace.cell a.block a.off) (List.mem_append_right _ hpl) _ hq
      exact this rfl
    · intro b hb
      rcases List.mem_cons.1 hb with rfl | hb
      · exact ⟨hsp, List.mem_append_left _ (List.mem_append_right _ hpl)⟩
      · exact ⟨(h3 b hb).1, List.mem_append_right _ (h3 b hb).2⟩
    · intro i x b hi' hb
      match i, hi', hb with
      | 0, hi', hb =>
        simp only [List.getElem?_cons_zero, Option.some.injEq] at hi' hb
        subst hi'
        subst hb
        exact ⟨g, hg, hcell0 _ rfl⟩
      | i + 1, hi', hb => exact h4 i x b (by simpa using hi') (by simpa using hb)

theorem starRow (u : TypeId) (h : Tryz.prog.typeName? 3 u = some "*errors.errorString") : u = 246 := by
  have e : "*errors.errorString" = "*" ++ "errors.errorString" := by decide +kernel
  exact typeName_ptr_named (nm := "errors.errorString") (by rw [← e]; kernel_rfl) (by kernel_rfl) (by decide) u (by rw [← e]; exact h)
theorem cellsErr : Tryz.prog.cellsOf 268 = 1 := by kernel_rfl
theorem cellsStr : Tryz.prog.cellsOf 9 = 1 := by kernel_rfl

/-- what a row's list of sentinels gives -/
theorem sent_of_laid {W : World} {L : List (String × DataW Unit)} {g0 : List Nat} (h : laidMetH Tryz.prog L W) (h1 : (L.all fun x => x.2.handleName?.isNone) = true)
    (h3 : ((L.filter isErr).map fun x => Tryz.prog.globalNamed x.1) = (errG g0).map some) (h4 : ((errG g0).map fun g => (Tryz.prog.globals[g]?).map (·.type)) = List.replicate (errG g0).length (some 28))
    (ht : tabA ∈ lst g0 → tabB ∈ lst g0 → Lib.Utf8Tabs tabA tabB W) (hAB : ((lst g0).contains tabA) = ((lst g0).contains tabB)) : ∃ al, SentL W g0 al := by
  rw [MakeChecks.laidMetH_plain _ _ _ h1] at h
  obtain ⟨ps, hv, hnd, hrows⟩ := h
  have hlen : (L.filter isErr).length = (errG g0).length := by simpa using congrArg List.length h3
  have hgl : ∀ (i : Nat) (x : String × DataW Unit), (L.filter isErr)[i]? = some x → ∃ g, (errG g0)[i]? = some g ∧ Tryz.prog.globalNamed x.1 = some g := by
    intro i x hx
    have := congrArg (fun l => l[i]?) h3
    simp only [List.getElem?_map, hx, Option.map_some] at this
    obtain ⟨g, hg, e⟩ := Option.map_eq_some_iff.1 this.symm
    exact ⟨g, hg, e.symm⟩
  obtain ⟨al, l1, l2, l3, l4⟩ := laid_list Tryz.underlying28 starRow Tryz.underlying246 Tryz.underlying268 rfl rfl Tryz.underlying9 cellsErr cellsStr L ps hv hrows hnd
    (fun x hx hE => ⟨isErr_out hE, fun g hg => by
      obtain ⟨i, hi⟩ := List.mem_iff_getElem?.1 (List.mem_filter.2 ⟨hx, hE⟩)
      obtain ⟨g', hg', e⟩ := hgl i x hi
      obtain rfl := Option.some.inj (e.symm.trans hg)
      have := congrArg (fun l => l[i]?) h4
      simp only [List.getElem?_map, hg', Option.map_some] at this
      have hlt : i < (errG g0).length := (List.getElem?_eq_some_iff.1 hg').1
      rw [List.getElem?_replicate, if_pos hlt] at this
      exact Option.some.inj this⟩)
  have hvar : ∀ i g, (errG g0)[i]? = some g → W.cell? ⟨g, 0, none⟩ = some (ev al (i + 1)) := by
    intro i g hg
    have hlt : i < (errG g0).length := (List.getElem?_eq_some_iff.1 hg).1
    obtain ⟨x, hx⟩ : ∃ x, (L.filter isErr)[i]? = some x := ⟨(L.filter isErr)[i], List.getElem?_eq_getElem (by omega)⟩
    obtain ⟨a, ha⟩ : ∃ a, al[i]? = some a := ⟨al[i], List.getElem?_eq_getElem (by omega)⟩
    obtain ⟨g', hg', e⟩ := hgl i x hx
    obtain rfl := Option.some.inj (hg.symm.trans hg')
    obtain ⟨g2, e2, hc⟩ := l4 i x a hx ha
    obtain rfl := Option.some.inj (e.symm.trans e2)
    rw [hc]
    simp [ev, ha]
  refine ⟨al, by omega, fun i j g g' hi _ hj _ e => (List.getElem?_inj (by have := (List.getElem?_eq_some_iff.1 hi).1; omega) l2).1 e, fun i g hi _ => hvar i g hi, fun a ha => (hrows a.block a.off (l3 a ha).2).1, ht, fun g hg => ?_⟩
  by_cases hT : (Nat.beq g tabA || Nat.beq g tabB) = true
  · have hc : tabA ∈ lst g0 ∧ tabB ∈ lst g0 := by
      rcases Bool.or_eq_true_iff.1 hT with e | e
      · have := Nat.eq_of_beq_eq_true e
        subst this
        have h5 : (lst g0).contains tabA = true := List.contains_iff_mem.2 hg
        exact ⟨hg, List.contains_iff_mem.1 (hAB ▸ h5)⟩
      · have := Nat.eq_of_beq_eq_true e
        subst this
        have h5 : (lst g0).contains tabB = true := List.contains_iff_mem.2 hg
        exact ⟨List.contains_iff_mem.1 (hAB.symm ▸ h5), hg⟩
    have hU := ht hc.1 hc.2
    rcases Bool.or_eq_true_iff.1 hT with e | e
    · have := Nat.eq_of_beq_eq_true e
      subst this
      exact World.block_lt_of_cell? W _ (hU.1 0 (by decide))
    · have := Nat.eq_of_beq_eq_true e
      subst this
      exact World.block_lt_of_cell? W _ (hU.2 0 (by decide)).1
  · have hm : g ∈ errG g0 := List.mem_filter.2 ⟨(lst_mem.1 hg).1, by
      cases hb : (Nat.beq g tabA || Nat.beq g tabB) with
      | true => exact absurd hb hT
      | false => rfl⟩
    obtain ⟨i, hi⟩ := List.mem_iff_getElem?.1 hm
    exact World.block_lt_of_cell? W _ (hvar i g hi)
/-! ### arguments that come in -/
end Go.Proofs.YtjckfbpdieijeaaGreatDoor

/- The tables of unicode/utf8 out of a row's list, at a seat that has the tables' types and variables. -/
namespace Go.Proofs.YtjckfbpdieijeaaGreatDoor
set_option linter.unusedVariables false
open Go.RowKit Go.ChangeShapes
def tabRen : Go.Shelf.Ren := ⟨fun n => n, fun | 5 => 5 | 119 => 224 | 138 => 226 | 139 => 227 | n => n, fun | 3 => 28 | 4 => 29 | n => n⟩
end Go.Proofs.YtjckfbpdieijeaaGreatDoor

/- utf8.ValidString at this seat: the kit's contract, laid here; the tables of unicode/utf8 out of a row's list. -/
namespace Go.Proofs.YtjckfbpdieijeaaGreatDoor
set_option linter.unusedVariables false
open Go.RowKit Go.ChangeShapes
def u8ren : Go.Shelf.Ren := ⟨fun | 196 => 172 | 259 => 189 | n => n, fun | 0 => 0 | 3 => 3 | 4 => 4 | 5 => 5 | 9 => 9 | 12 => 12 | 46 => 77 | 53 => 165 | 119 => 224 | 138 => 226 | 139 => 227 | n => n, fun | 3 => 28 | 4 => 29 | n => n⟩
namespace Am
/-- the tables are among the variables -/
class OkT (l : List Nat) : Prop where
  a : tabA ∈ lst l
  b : tabB ∈ lst l
instance okTT : OkT gsT := ⟨by decide, by decide⟩
end Am
end Go.Proofs.YtjckfbpdieijeaaGreatDoor

/- Chapter 7, plain: what the reference asks of a rune's bytes. -/
namespace Go.Proofs.YtjckfbpdieijeaaGreatDoor
namespace Am
open Go.RowKit Go.Lib
set_option linter.unusedVariables false

/-- what the first byte b says: n more bytes, the bits c, the least -/
def RefSt (b n c least : Nat) : Prop :=
  (n = 0 ∧ c = b ∧ least = 0 ∧ b < 128 ∧ 32 ≤ b ∧ b ≠ 127) ∨ (n = 1 ∧ c + 192 = b ∧ least = 128 ∧ b < 224) ∨ (n = 2 ∧ c + 224 = b ∧ least = 2048 ∧ b < 240) ∨ (n = 3 ∧ c + 240 = b ∧ least = 65536 ∧ b < 248)
def cR (d : List UInt8) (c0 : Nat) : Nat → Nat
  | 0 => c0
  | j + 1 => cR d c0 j * 64 + bt d (j + 1) - 128
end Am
end Go.Proofs.YtjckfbpdieijeaaGreatDoor

/- Chapter 7: which texts are plain. -/
namespace Go.Proofs.YtjckfbpdieijeaaGreatDoor
set_option linter.unusedVariables false
namespace Am
open Go.RowKit
set_option maxRecDepth 100000

end Am
end Go.Proofs.YtjckfbpdieijeaaGreatDoor

/- Chapter 7, plain: shifts and bits of numbers as the program computes them. -/
namespace Go.Proofs.YtjckfbpdieijeaaGreatDoor
namespace Am
open Go.RowKit
set_option linter.unusedVariables false
set_option maxRecDepth 100000

/-! ### the reference's reading of a body -/
/-- the bits of a body, the first one lowest -/
def bitsR (b : List UInt8) : Nat := rev8 (b.getD 1 0).toNat + 256 * (if b.length = 3 then rev8 (b.getD 2 0).toNat else 0)
/-- the bits of a mask, turned, while its bytes are laid -/
def turnM (m : Nat) : Nat → Nat
  | 0 => rev16 m
  | j + 1 => turnM m j % 256 * 256
def outL (m : Nat) : Nat → List UInt8
  | 0 => [UInt8.ofNat ((8 - bl m % 8) % 8)]
  | j + 1 => outL m j ++ [UInt8.ofNat (turnM m j / 256)]
/-- how many bits there are among the first ones -/
def bp (M : Nat) : Nat → Nat
  | 0 => 0
  | i + 1 => if M / 2 ^ i % 2 = 1 then i + 1 else bp M i
/-- a body's bits as a number of 16 bits, the first one highest -/
def turnedM (b : List UInt8) : Nat := (b.getD 1 0).toNat % 256 * 256 + (if b.length = 3 then (b.getD 2 0).toNat else 0)
end Am
end Go.Proofs.YtjckfbpdieijeaaGreatDoor

/- Chapter 7: bits in turn, masks and their bodies. -/
namespace Go.Proofs.YtjckfbpdieijeaaGreatDoor
set_option linter.unusedVariables false
namespace Am
variable {gs : List Nat} [OkG gs]
open Go.RowKit
set_option maxRecDepth 100000


def rF (M n i : Nat) (j : Nat) : CV := .c (.int .u8 ((gF M n i j : Nat) : Int))
end Am
end Go.Proofs.YtjckfbpdieijeaaGreatDoor

/- Chapter 7: the laws TextsFlags and TextsMask. -/
namespace Go.Proofs.YtjckfbpdieijeaaGreatDoor
namespace Am
variable {gs : List Nat} [OkG gs]
open Go.RowKit
set_option linter.unusedVariables false
set_option maxRecDepth 100000

end Am
end Go.Proofs.YtjckfbpdieijeaaGreatDoor

/- Chapter 9, plain: labels, subjects, their texts and parts. -/
namespace Go.Proofs.YtjckfbpdieijeaaGreatDoor
namespace Am
open Go.RowKit
set_option linter.unusedVariables false

/-! ### labels -/
def lch (c : UInt8) : Bool := (decide (97 ≤ c.toNat) && decide (c.toNat ≤ 122)) || (decide (48 ≤ c.toNat) && decide (c.toNat ≤ 57)) || decide (c.toNat = 45)
def labM (l : List UInt8) : Bool := decide (l ≠ []) && decide (l.length ≤ 24) && decide (l.getD 0 0 ≠ 45) && decide (l.getD (l.length - 1) 0 ≠ 45) && l.all lch
/-! ### subjects -/
abbrev S3 := Int × List UInt8 × List UInt8
def wordL : List (List UInt8) := [[110, 111, 100, 101], [119, 111, 114, 107, 108, 111, 97, 100], [111, 112, 101, 114, 97, 116, 111, 114], [98, 111, 111, 116], [99, 97]]
def wordM (k : Int) : List UInt8 := if k < 1 then [] else wordL.getD (k - 1).toNat []
def rightS (s : S3) : Bool := decide (1 ≤ s.1) && decide (s.1 ≤ 5) && labM s.2.2 && (if s.1 = 2 then labM s.2.1 else decide (s.2.1 = []))
theorem kinds {k : Int} (h1 : 1 ≤ k) (h5 : k ≤ 5) : k = 1 ∨ k = 2 ∨ k = 3 ∨ k = 4 ∨ k = 5 := by omega
/-- what stands before and behind the first byte c; is there one -/
def cutM (c : UInt8) : List UInt8 → List UInt8 × List UInt8 × Bool
  | [] => ([], [], false)
  | x :: l => if x = c then ([], l, true) else (x :: (cutM c l).1, (cutM c l).2.1, (cutM c l).2.2)
def textS (s : S3) : List UInt8 := wordM s.1 ++ 58 :: (if s.2.1 = [] then s.2.2 else s.2.1 ++ 47 :: s.2.2)
/-- the index of a word, from 1 on; 0: it is none -/
def idxW (w : List UInt8) : Int := if w ∈ wordL then (wordL.idxOf w : Nat) + 1 else 0
/-- what a text is taken for -/
def guessT (t : List UInt8) : S3 :=
  if (cutM 47 (cutM 58 t).2.1).2.2 = true then (idxW (cutM 58 t).1, (cutM 47 (cutM 58 t).2.1).1, (cutM 47 (cutM 58 t).2.1).2.1) else (idxW (cutM 58 t).1, [], (cutM 58 t).2.1)
def zeroS : S3 := (0, [], [])
/-- a text's subject; the error's number -/
def parseT (t : List UInt8) : S3 × Nat := if rightS (guessT t) = true ∧ textS (guessT t) = t then (guessT t, 0) else (zeroS, 9)
/-- the reference's: a text as a subject of a kind -/
def asKind (t : List UInt8) (k : Int) : S3 :=
  if k = 2 ∧ (cutM 47 (t.drop ((wordM k).length + 1))).2.2 = true then (k, (cutM 47 (t.drop ((wordM k).length + 1))).1, (cutM 47 (t.drop ((wordM k).length + 1))).2.1) else (k, [], t.drop ((wordM k).length + 1))
def isKind (t : List UInt8) (k : Int) : Prop := (wordM k).length + 1 ≤ t.length ∧ t.take ((wordM k).length + 1) = wordM k ++ [58] ∧ rightS (asKind t k) = true ∧ textS (asKind t k) = t
/-! ### parts -/
def oidB : List UInt8 := [49, 46, 51, 46, 57, 57, 57, 57, 46, 49, 46]
def oidK : List UInt8 := oidB ++ [49]
def oidS : List UInt8 := oidB ++ [50]
def oidN : List UInt8 := oidB ++ [51]
abbrev P2 := List UInt8 × List UInt8
def partsS (s : S3) : List P2 := if s.2.1 = [] then [(oidK, wordM s.1), (oidN, s.2.2)] else [(oidK, wordM s.1), (oidS, s.2.1), (oidN, s.2.2)]
/-- what parts make of a subject, part by part -/
def stepP (s : S3) (p : P2) : S3 := if p.1 = oidK then (idxW p.2, s.2.1, s.2.2) else if p.1 = oidS then (s.1, p.2, s.2.2) else if p.1 = oidN then (s.1, s.2.1, p.2) else s
def guessP (l : List P2) : S3 := l.foldl stepP zeroS
/-- the subject of parts; the error's number -/
def ofP (l : List P2) : S3 × Nat := if rightS (guessP l) = true ∧ partsS (guessP l) = l then (guessP l, 0) else (zeroS, 9)
/-- the reference's: parts as those of a subject of a kind -/
def asKindP (l : List P2) (k : Int) : S3 := (k, (if k = 2 ∧ 1 < l.length then (l.getD 1 ([], [])).2 else []), (if 0 < l.length then (l.getD (l.length - 1) ([], [])).2 else []))
def isKindP (l : List P2) (k : Int) : Prop := rightS (asKindP l k) = true ∧ partsS (asKindP l k) = l
end Am
end Go.Proofs.YtjckfbpdieijeaaGreatDoor

/- Chapter 7: labels. -/
namespace Go.Proofs.YtjckfbpdieijeaaGreatDoor
set_option linter.unusedVariables false
namespace Am
open Go.RowKit
set_option maxRecDepth 100000

/-! ### labels -/
def letL : List UInt8 := [97, 98, 99, 100, 101, 102, 103, 104, 105, 106, 107, 108, 109, 110, 111, 112, 113, 114, 115, 116, 117, 118, 119, 120, 121, 122, 48, 49, 50, 51, 52, 53, 54, 55, 56, 57]
end Am
end Go.Proofs.YtjckfbpdieijeaaGreatDoor

/- Chapter 7: labels; texts as bodies. -/
namespace Go.Proofs.YtjckfbpdieijeaaGreatDoor
set_option linter.unusedVariables false
namespace Am
variable {gs : List Nat} [OkG gs]
open Go.RowKit
set_option maxRecDepth 100000

/-! ### texts as bodies -/
theorem asked_bd (l : List UInt8) (most : Int) : askedM l most ≤ 8 := by
  unfold askedM
  repeat' split
  all_goals omega
end Am
end Go.Proofs.YtjckfbpdieijeaaGreatDoor

/- Chapter 8: the writer: Done; values. -/
namespace Go.Proofs.YtjckfbpdieijeaaGreatDoor
set_option linter.unusedVariables false
namespace Am
variable {gs : List Nat} [OkG gs]
open Go.RowKit Cal
set_option maxRecDepth 100000

theorem doneW_ac (n : Nat) (s : W8) (hs : OkW s) : AC gs Tryz.prog 11 [wrO n s] [.op 0 (some n) 0] (fun r H' => r = .tup 2 (fl [bsC (doneB s), .err (doneK s)]) ∧ H' = [wrO n s]) := by
  have hsd := hs.d
  have bad : ∀ {e}, doneK s = e → e ≠ 0 → doneB s = [] := fun h h0 => by unfold doneB; rw [h, if_neg h0]
  refine ac_of 35 Tryz.func11 rfl rfl rfl (fun al w0 F0 St0 => ?_)
  refine jcr ?_
  refine jq jrm ?_
  refine jq jrm ?_
  refine seq_nil ?_
  refine jcs ?_
  refine code_block ?_
  refine code_openW 0 rfl fun go gd zs hzs => ?_
  refine jcr ?_
  refine jq jrm ?_
  refine jq jrnc ?_
  refine jq (jrfa 2 1 false) ?_
  refine jqo jrdo ?_
  refine jq jre ?_
  refine jq jrm ?_
  refine seq_nil ?_
  refine jcc (fun h140 => ?_) fun h140 => ?_
  · refine jcs ?_
    refine jcd (.rd 0 (.rd 1 (.rd 2 (.rd 3 (.rd 4 (.rd 5 .done)))))) ?_
    refine jyq jrm ?_
    refine jyq jrnc ?_
    refine jyq (jrfa 2 1 false) ?_
    refine jyo jrdo ?_
    refine jyq jrm ?_
    refine jyq jrm ?_
    refine jyd ?_
    refine jtn ?_
    refine code_ret (jbr (jtr ?_))
    have e : doneK s = s.k := by unfold doneK; rw [if_pos (by omega)]
    exact end_packV (gd := fun z : WZ8 s.fr => z.1.1) (E := wrE s) (.inl rfl) ⟨(n, go, gd, zs), hzs⟩ [0, 1, 2, 3] (by decide) rfl (res_2 rfl javt javt) (CEnt.tup2 (by rw [bad e (by omega)]; exact CEnt.nilB) (CEnt.err e.symm))
  refine jcr ?_
  refine jq jrm ?_
  refine jq jrnc ?_
  refine jq (jrfa 0 1 false) ?_
  refine jqo jrdo ?_
  refine jq jrl ?_
  refine jq jrc ?_
  refine jq jrm ?_
  refine seq_nil ?_
  refine jcc (fun h142 => ?_) fun h142 => ?_
  · refine jcs ?_
    refine jcd (.rd 0 (.rd 1 (.rd 2 .done))) ?_
    refine jyq (jrde 23) ?_
    refine jyq jrm ?_
    refine jyq jrm ?_
    refine jyd ?_
    refine jtn ?_
    refine code_ret (jbr (jtr ?_))
    have e : doneK s = 24 := by unfold doneK; rw [if_neg (by omega), if_pos (by intro h; rw [h] at h142; simp at h142)]
    exact end_packV (gd := fun z : WZ8 s.fr => z.1.1) (E := wrE s) (.inl rfl) ⟨(n, go, gd, zs), hzs⟩ [0, 1, 2, 3] (by decide) rfl (res_2 rfl javt javt) (CEnt.tup2 (by rw [bad e (by omega)]; exact CEnt.nilB) (CEnt.err e.symm))
  refine jcr ?_
  refine jq jrm ?_
  refine jq jrnc ?_
  refine jq (jrfa 1 1 false) ?_
  refine jqo jrdo ?_
  refine jq jrl ?_
  refine jq jrc ?_
  refine jq jrm ?_
  refine seq_nil ?_
  refine jcc (fun h144 => ?_) fun h144 => ?_
  · refine jcs ?_
    refine jcd (.rd 0 (.rd 1 (.rd 2 .done))) ?_
    refine jyq (jrde 2) ?_
    refine jyq jrm ?_
    refine jyq jrm ?_
    refine jyd ?_
    refine jtn ?_
    refine code_ret (jbr (jtr ?_))
    have hf0 : s.fr = [] := List.eq_nil_of_length_eq_zero (by omega)
    have e : doneK s = 3 := by unfold doneK; rw [if_neg (by omega), if_neg (by simp [hf0]), if_pos (by omega)]
    exact end_packV (gd := fun z : WZ8 s.fr => z.1.1) (E := wrE s) (.inl rfl) ⟨(n, go, gd, zs), hzs⟩ [0, 1, 2, 3] (by decide) rfl (res_2 rfl javt javt) (CEnt.tup2 (by rw [bad e (by omega)]; exact CEnt.nilB) (CEnt.err e.symm))
  refine code_skip (jbn (jtn ?_))
  refine jcr ?_
  refine jq jrm ?_
  refine jq jrnc ?_
  refine jq (jrfa 1 1 false) ?_
  refine jqo jrdo ?_
  refine jqm (jmcH 2 (cloneO_ac s.d gd (by omega)) ?_)
  rintro _ _ ⟨rfl, rfl⟩
  refine ⟨_, _, rfl, CEnt.refl _, ?_⟩
  refine jq jrm ?_
  refine jq jrm ?_
  refine seq_nil ?_
  refine code_ret ?_
  have hf0 : s.fr = [] := List.eq_nil_of_length_eq_zero (by omega)
  have e : doneK s = 0 := by unfold doneK; rw [if_neg (by omega), if_neg (by simp [hf0]), if_neg (by omega)]
  exact end_packV (gd := fun z : WZ8 s.fr => z.1.1) (E := wrE s) (.inl rfl) ⟨(n, go, gd, zs), hzs⟩ [0, 1, 2, 3] (by decide) rfl (res_2 rfl javt javt) (CEnt.tup2 (CEnt.bs (by unfold doneB; rw [if_pos e])) (CEnt.nilE e))
theorem intW_ac (n : Nat) (s : W8) (z : Int) (hz : -9223372036854775808 ≤ z ∧ z ≤ 9223372036854775807) (hs : OkW s) : AC gs Tryz.prog 45 [wrO n s] [.op 0 (some n) 0, .c (.int .i64 z)] (fun r H' => r = .c (.tuple #[]) ∧ H' = [wrO n (putW 2 (putN z) 0 s)]) := by
  have hl := (putN_len z hz.1 hz.2).2
  refine ac_of 8 Tryz.func45 rfl rfl rfl (fun al w0 F0 St0 => ?_)
  refine jcg ?_
  refine jq jrm ?_
  refine jq jrm ?_
  refine jqe (jecP (wput_ac z hz.1 hz.2) ?_)
  refine jqm (jmcH 0 (putW_ac n s 2 (putN z) 0 hs (by omega)) ?_)
  rintro _ _ ⟨rfl, rfl⟩
  refine ⟨_, _, rfl, CEnt.refl _, ?_⟩
  refine seq_nil ?_
  exact end_own (.inr rfl) _ [_] [0] (by decide) rfl (res_0 rfl) ⟨rfl, rfl⟩
end Am
end Go.Proofs.YtjckfbpdieijeaaGreatDoor

/- Chapter 8: the laws' own functions: alive, put. -/
namespace Go.Proofs.YtjckfbpdieijeaaGreatDoor
set_option linter.unusedVariables false
namespace Am
variable {gs : List Nat} [OkG gs]
open Go.RowKit Cal
set_option maxRecDepth 100000

def w0W : W8 := ⟨[], [], 0⟩
theorem take_set_out {α : Type} (l : List α) (n i : Nat) (x : α) (h : n ≤ i) : (l.set i x).take n = l.take n := by
  rw [List.take_set, List.set_eq_of_length_le]
  rw [List.length_take]; omega
/-- a new writer -/
theorem newW {G : Gh} {env : List (Nat × CV)} {b0 : Nat → CV} {H : List (Option Nat × Res)} (n i : Nat) {f : Nat → CV} (hi : H[i]? = some (some n, .blk 3 f)) (h0 : CEnt (f 0) (.c (.slice none 0 0))) (h1 : CEnt (f 1) (.c (.slice none 0 0))) (h2 : CEnt (f 2) (.err 0)) : EntS G ⟨env, b0, H⟩ ⟨env, b0, H.set i (wrO n w0W)⟩ := by
  have hil := (List.getElem?_eq_some_iff.1 hi).1
  have os0 : ∀ {j k : Nat}, CEnt (.c (.slice none 0 0)) (.os j none 0 0 k) := fun al St w v h => ⟨rfl, h⟩
  intro St a w hr
  obtain ⟨S1, s1, r1⟩ := ent_none (G := G) (s := ⟨env, b0, H⟩) (rowF 2 frF frD []) St a w hr
  obtain ⟨S2, s2, r2⟩ := ent_none (G := G) (s := ⟨env, b0, H ++ [(none, .blk 0 (rowF 2 frF frD []))]⟩) (byF []) S1 a w r1
  obtain ⟨S3, s3, r3⟩ := bag_new (G := G) (env := env) (b0 := b0) (H := H ++ [(none, .blk 0 (rowF 2 frF frD []))] ++ [(none, .blk 0 (byF []))]) S2 a w r2
  obtain ⟨S4, s4, r4⟩ := closeW (G := G) (env := env) (b0 := b0) (H := H ++ [(none, .blk 0 (rowF 2 frF frD []))] ++ [(none, .blk 0 (byF []))] ++ [bagE []]) n w0W [] i H.length (H.length + 1) (H.length + 2) rfl (go := none) (gd := none) (No := 0) (Nd := 0) (f := f) (Fo := rowF 2 frF frD []) (Fd := byF [])
    (by rw [List.append_assoc, List.append_assoc, List.getElem?_append_left hil]; exact hi) (by simp) (by simp [List.getElem?_append]) (by simp [List.getElem?_append]) (by simp; omega) (h0.trans os0) (h1.trans os0) h2 (Nat.le_refl _) (fun a h => absurd h (Nat.not_lt_zero a)) (Nat.le_refl _) (fun a h => absurd h (Nat.not_lt_zero a)) S3 a w r3
  obtain ⟨S5, s5, r5⟩ := pick_ent (G := G) (H' := H.set i (wrO n w0W)) (List.range H.length) (range_nodup _) (by
    rw [pickL_range _ _ (by simp)]
    simp only [List.append_assoc]
    rw [take_set_out _ _ _ _ (by omega), take_set_out _ _ _ _ (by omega), take_set_out _ _ _ _ (by omega), List.take_set, List.take_left]) S4 a w r4
  exact ⟨S5, fun b hb => s5 b (s4 b (s3 b (s2 b (s1 b hb)))), r5⟩
theorem ok0 : OkW w0W := ⟨by decide, fun _ h => (by cases h), by decide⟩
def w1W : W8 := ⟨[(48, [])], [], 0⟩
def w2W : W8 := ⟨[(48, [[2, 1, 5]])], [], 0⟩
def w3W : W8 := ⟨[], [48, 3, 2, 1, 5], 0⟩
theorem e1W : openW 48 w0W = w1W := rfl
theorem e2W : putW 2 (putN 5) 0 w1W = w2W := rfl
theorem e3W : closeV w2W = w3W := rfl
theorem ok1 : OkW w1W := ⟨by decide, fun x h => (by obtain rfl := List.mem_singleton.1 h; decide), by decide⟩
theorem ok2 : OkW w2W := ⟨by decide, fun x h => (by obtain rfl := List.mem_singleton.1 h; decide), by decide⟩
theorem ok3 : OkW w3W := ⟨by decide, fun _ h => (by cases h), by decide⟩
theorem alive08_ac : ACp gs Tryz.prog 8 [] (.c (.bool true)) := by
  refine ac_of 24 Tryz.func8 rfl rfl rfl (fun al w0 F0 St0 => ?_)
  refine jcr ?_
  refine jq jrm ?_
  refine seq_nil ?_
  refine jcr ?_
  refine jq (rd_build (n := 3) rfl zr30 pl30 rfl rfl) ?_
  refine jqe (jebx 3 fun p1 => ?_)
  refine jq jrm ?_
  refine seq_nil ?_
  refine code_knowG (know_op 5 rfl) fun hn => ?_
  obtain ⟨n, rfl⟩ := hn
  refine code_ent (newW n 0 rfl (CEnt.refl _) (CEnt.refl _) CEnt.nil) ?_
  dsimp only [List.set_cons_zero, List.set_cons_succ, List.cons_append, List.nil_append, List.length_cons, List.length_nil, Nat.zero_add, Nat.reduceAdd]
  refine jcr ?_
  refine jq jrm ?_
  refine jqm (jmcH 0 (openW_ac n w0W 48 ok0) ?_)
  rintro _ _ ⟨rfl, rfl⟩
  refine ⟨_, _, rfl, CEnt.refl _, ?_⟩
  refine seq_nil ?_
  rw [e1W]
  refine jcr ?_
  refine jq jrm ?_
  refine jqm (jmcH 0 (intW_ac n w1W 5 (by decide) ok1) ?_)
  rintro _ _ ⟨rfl, rfl⟩
  refine ⟨_, _, rfl, CEnt.refl _, ?_⟩
  refine seq_nil ?_
  rw [e2W]
  refine jcr ?_
  refine jq jrm ?_
  refine jqm (jmcH 0 (closeW_ac n w2W ok2) ?_)
  rintro _ _ ⟨rfl, rfl⟩
  refine ⟨_, _, rfl, CEnt.refl _, ?_⟩
  refine seq_nil ?_
  rw [e3W]
  refine jcr ?_
  refine jq jrm ?_
  refine jqm (jmcH 0 (doneW_ac n w3W ok3) ?_)
  rintro _ _ ⟨rfl, rfl⟩
  refine ⟨_, _, rfl, CEnt.refl _, ?_⟩
  refine jq jrm ?_
  refine jq jrx ?_
  refine jq jrx ?_
  refine jq jrm ?_
  refine jq jrm ?_
  refine seq_nil ?_
  rw [show doneK w3W = 0 from rfl, show doneB w3W = [48, 3, 2, 1, 5] from rfl]
  refine jcr ?_
  refine jq jrm ?_
  refine jq jre ?_
  refine jq jrm ?_
  refine jqsp 19 (fun g20 => ?_) fun g20 => ?_
  rotate_left
  · exfalso; simp at g20
  refine jq jrm ?_
  refine jq jrbs ?_
  refine jq jrcs ?_
  refine jq jrpT ?_
  refine jq jrm ?_
  refine seq_nil ?_
  refine code_ret (jrt (hv := ?_))
  exact CEnt.refl _
def valC (v : VV) : CV := .agg 5 (fl [.c (.int .i64 v.kind), .c (.int .i64 v.n), .c (.bool v.is), bsC v.b, strC v.t])
structure OkV (v : VV) : Prop where
  n : -9223372036854775808 ≤ v.n ∧ v.n ≤ 9223372036854775807
  b : v.b.length ≤ 1000000
  t : v.t.length ≤ 1000000
end Am
end Go.Proofs.YtjckfbpdieijeaaGreatDoor

/- Chapter 8: the reference's writer: put, a value's body. -/
namespace Go.Proofs.YtjckfbpdieijeaaGreatDoor
set_option linter.unusedVariables false
namespace Am
variable {gs : List Nat} [OkG gs]
open Go.RowKit Cal
set_option maxRecDepth 100000

theorem rput08_ac {gs : List Nat} (n : Nat) (s : R8) (tag : Int) (b : List UInt8) (hs : OkR s) (ht : 0 ≤ tag ∧ tag < 256) (hb : b.length ≤ 1000000) : AC gs Tryz.prog 49 [rwO n s] [.op 0 (some n) 0, .c (.int .i64 tag), bsC b] (fun r H' => r = .c (.tuple #[]) ∧ H' = [rwO n (rputS tag b s)]) := by
  refine ac_of 17 Tryz.func49 rfl rfl rfl (fun al w0 F0 St0 => ?_)
  refine jcs ?_
  refine jcr ?_
  refine jq jrm ?_
  refine jq jrl ?_
  refine jq jrc ?_
  refine seq_nil ?_
  refine jcc (fun h64 => ?_) fun h64 => ?_
  · refine code_openRW 0 rfl fun gr => ?_
    refine jcr ?_
    refine jq jrm ?_
    refine jq jrnc ?_
    refine jq (jrfa 2 1 false) ?_
    refine jqm (jmstF 1 (rwB ⟨s.tags, s.rows, 3⟩ 1 gr) ?_ ?_)
    · exact (fun j hj => by rcases j with _ | _ | _ | j <;> exact CEnt.refl _)
    refine seq_nil ?_
    refine code_ret (jtr ?_)
    have hP : rputS tag b s = ⟨s.tags, s.rows, 3⟩ := by unfold rputS; rw [if_pos (by omega)]
    rw [hP]
    exact end_closeRW (.inl rfl) n ⟨s.tags, s.rows, 3⟩ 1 (res_0 rfl) (CEnt.refl _) rfl rfl rfl (by exact CEnt.refl _) (by exact CEnt.osI rfl) (by exact CEnt.refl _) (Nat.le_refl _) (fun _ _ => by exact CEnt.refl _)
  refine code_skip (jtn ?_)
  refine jcg ?_
  refine jq jrm ?_
  refine jq jrm ?_
  refine jq jrm ?_
  refine jqe (jecP (rput_ac tag b ht (by omega)) ?_)
  refine jqm (jmcH 0 (radd08_ac n s (putL tag b) hs) ?_)
  rintro _ _ ⟨rfl, rfl⟩
  refine ⟨_, _, rfl, CEnt.refl _, ?_⟩
  refine seq_nil ?_
  have hP : rputS tag b s = raddS (putL tag b) s := by unfold rputS; rw [if_neg (by omega)]
  rw [hP]
  exact end_own (.inr rfl) _ [_] [0] (by decide) rfl (res_0 rfl) ⟨rfl, rfl⟩
def BodyQ (v : VV) : CV → List (Option Nat × Res) → Prop := fun r H' => (∃ b, r = .tup 3 (fl [.c (.int .i64 (bodyV v).1), bsC b, .c (.int .i64 ((bodyV v).2.2 : Nat))]) ∧ ((bodyV v).2.2 = 0 → b = (bodyV v).2.1)) ∧ H' = []
theorem bodyQ {v : VV} {t : Int} {b b' : List UInt8} {e : Nat} (h : bodyV v = (t, b, e)) (hb : e = 0 → b' = b) : BodyQ v (.tup 3 (fl [.c (.int .i64 t), bsC b', .c (.int .i64 (e : Nat))])) [] := by
  refine ⟨⟨b', by rw [h], fun h0 => by rw [h] at h0 ⊢; exact hb h0⟩, rfl⟩
/-- a number's body, as the reference tells it -/
theorem rbody3_ac {gs : List Nat} (v : VV) (hv : OkV v) (h3 : v.kind = 3) : AC gs Tryz.prog 52 [] [valC v] (BodyQ v) := by
  have hvn := hv.n
  refine ac_of 77 Tryz.func52 rfl rfl rfl (fun al w0 F0 St0 => ?_)
  refine jcr ?_
  refine jqe (jebx 5 fun p1 => ?_)
  refine jq jrm ?_
  refine jq jrm ?_
  refine jq jrm ?_
  refine seq_nil ?_
  refine jcs ?_
  refine jcr ?_
  refine jq (jrfa 0 1 false) ?_
  refine jqo jrdo ?_
  refine seq_nil ?_
  refine code_block ?_
  refine jcr ?_
  refine jq jrc ?_
  refine jq jrm ?_
  refine seq_nil ?_
  refine jcc (fun h31 => ?_) fun h31 => ?_
  rotate_left
  · exfalso; omega
  refine jcr ?_
  refine jq (jrfa 1 1 false) ?_
  refine jqo jrdo ?_
  refine jqe (jecP (rput04_ac v.n hv.n.1 hv.n.2) ?_)
  refine jq jrm ?_
  refine jq jrm ?_
  refine jq jrm ?_
  refine seq_nil ?_
  refine code_ret (jbr (jtr ?_))
  exact end_ownV (.inl rfl) [] (by decide) rfl (res_3 rfl javt javt javt) (CEnt.refl _) (bodyQ (by unfold bodyV; rw [if_pos (by omega)]) (fun _ => rfl))
end Am
end Go.Proofs.YtjckfbpdieijeaaGreatDoor

/- Chapter 8: the reference's writer: Done. -/
namespace Go.Proofs.YtjckfbpdieijeaaGreatDoor
set_option linter.unusedVariables false
namespace Am
variable {gs : List Nat} [OkG gs]
open Go.RowKit Cal
set_option maxRecDepth 100000

structure OkRD (s : R8) : Prop where
  ok : OkR s
  sum : ∀ j, sumL (s.rows.getD j []) ≤ 1000000
  tag : ∀ x ∈ s.tags, 0 ≤ x ∧ x < 256
  lt : s.tags.length ≠ 0 → s.tags.length < s.rows.length
theorem rdone08_ac {gs : List Nat} (n : Nat) (s : R8) (hs : OkRD s) : AC gs Tryz.prog 15 [rwO n s] [.op 0 (some n) 0] (fun r H' => r = .tup 2 (fl [bsC (rdoneB s), .c (.int .i64 (rdoneE s : Nat))]) ∧ H' = [rwO n s]) := by
  have hk0 := okR_at hs.ok 0
  have hs0 := hs.sum 0
  have bad : ∀ {e}, rdoneE s = e → e ≠ 0 → rdoneB s = [] := fun h h0 => by unfold rdoneB; rw [h, if_neg h0]
  refine ac_of 48 Tryz.func15 rfl rfl rfl (fun al w0 F0 St0 => ?_)
  refine jcr ?_
  refine jq jrm ?_
  refine jq jrm ?_
  refine seq_nil ?_
  refine jcs ?_
  refine code_openRW 0 rfl fun gr => ?_
  refine jcr ?_
  refine jq jrm ?_
  refine jq jrnc ?_
  refine jq (jrfa 2 1 false) ?_
  refine jqo jrdo ?_
  refine jq jrc ?_
  refine seq_nil ?_
  refine jcc (fun h133 => ?_) fun h133 => ?_
  · refine jcs ?_
    refine jcd (.rd 0 (.rd 1 (.rd 2 (.rd 3 (.rd 4 (.rd 5 .done)))))) ?_
    refine jyq jrm ?_
    refine jyq jrnc ?_
    refine jyq (jrfa 2 1 false) ?_
    refine jyo jrdo ?_
    refine jyq jrm ?_
    refine jyq jrm ?_
    refine jyd ?_
    refine jtn ?_
    refine code_ret (jtr ?_)
    have e : rdoneE s = s.e := by unfold rdoneE; rw [if_pos (by omega)]
    exact end_closeRW (.inl rfl) n s 1 (res_2 rfl javt javt) (CEnt.tup2 (by rw [bad e (by omega)]; exact CEnt.nilB) (CEnt.int (by rw [e]))) rfl rfl rfl (by exact CEnt.refl _) (by exact CEnt.osI rfl) (by exact CEnt.refl _) (Nat.le_refl _) (fun _ _ => by exact CEnt.refl _)
  refine code_skip (jtn ?_)
  refine jcs ?_
  refine jcr ?_
  refine jq jrm ?_
  refine jq jrnc ?_
  refine jq (jrfa 0 1 false) ?_
  refine jqo jrdo ?_
  refine jq jrl ?_
  refine jq jrc ?_
  refine seq_nil ?_
  refine jcc (fun h136 => ?_) fun h136 => ?_
  · refine jcr ?_
    refine jq jrm ?_
    refine jq jrm ?_
    refine seq_nil ?_
    refine code_ret (jtr ?_)
    have e : rdoneE s = 24 := by unfold rdoneE; rw [if_neg (by omega), if_pos (by omega)]
    exact end_closeRW (.inl rfl) n s 1 (res_2 rfl javt javt) (CEnt.tup2 (by rw [bad e (by omega)]; exact CEnt.nilB) (CEnt.int (by rw [e]; rfl))) rfl rfl rfl (by exact CEnt.refl _) (by exact CEnt.osI rfl) (by exact CEnt.refl _) (Nat.le_refl _) (fun _ _ => by exact CEnt.refl _)
  refine code_skip (jtn ?_)
  refine jcr ?_
  refine jqe (jebl 0 1 zr5 fun p1 => ?_)
  refine jq jrm ?_
  refine seq_nil ?_
  refine jcs ?_
  refine jcr ?_
  refine jq jrm ?_
  refine jq jrnc ?_
  refine jq (jrfa 1 1 false) ?_
  refine jqo jrdo ?_
  refine jq jrl ?_
  refine jq jrc ?_
  refine seq_nil ?_
  refine jcc (fun h140 => ?_) fun h140 => ?_
  rotate_left
  · refine code_skip (jtn ?_)
    refine jcs ?_
    first
      | (have hiE : i = (s.rows.getD 0 []).length := by omega
         subst hiE
         dsimp only
         rw [List.take_length] at *
         have hfl := flat_len (s.rows.getD 0 []))
      | (have h00 : s.rows.getD 0 [] = [] := by rw [List.getD_eq_getElem?_getD, List.getElem?_eq_none (by omega)]; rfl
         have hfl : ((s.rows.getD 0 []).flatten).length = 0 := by rw [h00]; rfl)
    refine jcr ?_
    refine jq jrm ?_
    refine jq jrl ?_
    refine jq jrc ?_
    refine seq_nil ?_
    refine jcc (fun h145 => ?_) fun h145 => ?_
    · refine jcr ?_
      refine jq jrm ?_
      refine jq jrm ?_
      refine seq_nil ?_
      refine code_ret (jtr ?_)
      first
        | (exfalso; simp at h145; done)
        | (have e : rdoneE s = 3 := by unfold rdoneE; rw [if_neg (by omega), if_neg (by omega), if_pos (by omega)]
           exact end_closeRW (.inl rfl) n s 1 (res_2 rfl javt javt) (CEnt.tup2 (by rw [bad e (by omega)]; exact CEnt.nilB) (CEnt.int (by rw [e]; rfl))) rfl rfl rfl (by exact CEnt.refl _) (by exact CEnt.osI rfl) (by exact CEnt.refl _) (Nat.le_refl _) (fun _ _ => by exact CEnt.refl _))
    refine code_skip (jtn ?_)
    refine jcr ?_
    refine jq jrm ?_
    refine jq jrm ?_
    refine jq jrm ?_
    refine seq_nil ?_
    refine code_ent (freeze 2 rfl) ?_
    first
      | refine code_ent (thawB 2 ((s.rows.getD 0 []).flatten) rfl rfl rfl rfl) ?_
      | refine code_ent (thawBL 2 [] rfl rfl rfl rfl .nil) ?_
    refine code_ret ?_
    have e : rdoneE s = 0 := by unfold rdoneE; rw [if_neg (by omega), if_neg (by omega), if_neg (by omega)]
    exact end_closeRW (.inl rfl) n s 1 (res_2 rfl javt javt) (CEnt.tup2 (CEnt.bs (by unfold rdoneB; rw [if_pos e]; (rw [h00]; rfl))) (CEnt.int (by rw [e]; rfl))) rfl rfl rfl (by exact CEnt.refl _) (by exact CEnt.osI rfl) (by exact CEnt.refl _) (Nat.le_refl _) (fun _ _ => by exact CEnt.refl _)
  refine jcr ?_
  refine jq jrm ?_
  refine jq jrnc ?_
  refine jq (jrfa 1 1 false) ?_
  refine jqo jrdo ?_
  refine jq (jri (i := 0)) ?_
  refine jqo jrdo ?_
  refine jq jrl ?_
  refine jq jrm ?_
  refine seq_nil ?_
  refine code_block ?_
  refine l_loop (α := Nat × Option Nat) [4, 6, 36, 37, 38, 39, 40, 41, 42, 43] (fun (i, g) => [(4, .os 2 g 0 (((s.rows.getD 0 []).take i).flatten).length 1), (36, .c (.int .i64 (i : Nat)))]) (fun (i, g) => [(some n, .blk 3 (rwB s 1 gr)), (gr, .blk s.rows.length (rowsF s.rows)), (g, .blk (((s.rows.getD 0 []).take i).flatten).length (byF ((s.rows.getD 0 []).take i).flatten))]) (fun i => i.1 ≤ (s.rows.getD 0 []).length) (fun i => (s.rows.getD 0 []).length - i.1) ((0, p1)) ?_ (fun _ => rfl) ?_ ?_ ?_
  · exact Nat.zero_le _
  · exact .cons (CEnt.osI rfl) (.cons (CEnt.refl _) .nil)
  · exact .same (.same (.blk rfl (fun j hj => absurd hj (Nat.not_lt_zero j)) .nil))
  · rintro ⟨i, g⟩ (hi : i ≤ (s.rows.getD 0 []).length)
    refine jcr ?_
    refine jq jrc ?_
    refine seq_nil ?_
    refine jcs ?_
    refine jcc (fun h141 => ?_) fun h141 => ?_
    · refine code_skip (jtn ?_)
      refine jcs ?_
      refine code_block ?_
      refine jcr ?_
      refine jq jri ?_
      refine jq jrdr ?_
      refine jq jrm ?_
      refine seq_nil ?_
      have hf1 := sumL_take (ls := s.rows.getD 0 []) (i := i) (by omega)
      have hf2 := sumL_le (s.rows.getD 0 []) (i + 1)
      have hf3 := flat_len ((s.rows.getD 0 []).take i)
      refine jcg ?_
      refine jq jrm ?_
      refine jq jrm ?_
      first | refine jqm (m_appendB rfl rfl rfl (Nat.le_refl _) (fun _ _ => CEnt.refl _) (src_rs rfl) rfl (fun j hj => by simp only [Nat.div_one]; exact CEnt.refl _) Tryz.underlying26 nu26 sz5 zr5 by5 rfl (by omega) (fun j hj => rfl) rfl rfl (fun p2 => ?_)) | refine jqm (m_appendB rfl rfl rfl (Nat.le_refl _) (fun _ _ => CEnt.refl _) (src_str rfl) rfl (fun j hj => CEnt.refl _) Tryz.underlying26 nu26 sz5 zr5 by5 rfl (by first | omega | (simp; done) | (simp; omega) | (simp at *; omega)) (fun j hj => rfl) rfl rfl (fun p2 => ?_)) | refine jqm (m_appendB rfl rfl rfl (Nat.le_refl _) (fun _ _ => CEnt.refl _) (src_os rfl (.inl rfl) (by omega)) rfl (fun j hj => by rw [Nat.zero_add]; exact CEnt.refl _) Tryz.underlying26 nu26 sz5 zr5 by5 rfl (by first | omega | (simp; done) | (simp; omega) | (simp at *; omega)) (fun j hj => rfl) rfl rfl (fun p2 => ?_))
      refine jq jrm ?_
      refine seq_nil ?_
      refine jbn (jtn ?_)
      refine jcg ?_
      refine jq jra ?_
      refine jq jrm ?_
      refine seq_nil ?_
      refine jtn ?_
      refine jlend ((i + 1, p2)) ?_ ?_ (h5 := ?_) (h7 := ?_)
      · show i + 1 ≤ (s.rows.getD 0 []).length; omega
      · show (s.rows.getD 0 []).length - (i + 1) < (s.rows.getD 0 []).length - i; omega
      · simp only [flat_take (show i < (s.rows.getD 0 []).length by omega)]
        exact .cons (CEnt.osI rfl) (.cons (CEnt.int (by omega)) .nil)
      · simp only [flat_take (show i < (s.rows.getD 0 []).length by omega)]
        exact .same (.same (.same .nil))
    refine code_exit (jte (jte (jbx (jtn ?_))))
    refine jcs ?_
    first
      | (have hiE : i = (s.rows.getD 0 []).length := by omega
         subst hiE
         dsimp only
         rw [List.take_length] at *
         have hfl := flat_len (s.rows.getD 0 []))
      | (have h00 : s.rows.getD 0 [] = [] := by rw [List.getD_eq_getElem?_getD, List.getElem?_eq_none (by omega)]; rfl
         have hfl : ((s.rows.getD 0 []).flatten).length = 0 := by rw [h00]; rfl)
    refine jcr ?_
    refine jq jrm ?_
    refine jq jrl ?_
    refine jq jrc ?_
    refine seq_nil ?_
    refine jcc (fun h145 => ?_) fun h145 => ?_
    · refine jcr ?_
      refine jq jrm ?_
      refine jq jrm ?_
      refine seq_nil ?_
      refine code_ret (jtr ?_)
      first
        | (exfalso; simp at h145; done)
        | (have e : rdoneE s = 3 := by unfold rdoneE; rw [if_neg (by omega), if_neg (by omega), if_pos (by omega)]
           exact end_closeRW (.inl rfl) n s 1 (res_2 rfl javt javt) (CEnt.tup2 (by rw [bad e (by omega)]; exact CEnt.nilB) (CEnt.int (by rw [e]; rfl))) rfl rfl rfl (by exact CEnt.refl _) (by exact CEnt.osI rfl) (by exact CEnt.refl _) (Nat.le_refl _) (fun _ _ => by exact CEnt.refl _))
    refine code_skip (jtn ?_)
    refine jcr ?_
    refine jq jrm ?_
    refine jq jrm ?_
    refine jq jrm ?_
    refine seq_nil ?_
    refine code_ent (freeze 2 rfl) ?_
    first
      | refine code_ent (thawB 2 ((s.rows.getD 0 []).flatten) rfl rfl rfl rfl) ?_
      | refine code_ent (thawBL 2 [] rfl rfl rfl rfl .nil) ?_
    refine code_ret ?_
    have e : rdoneE s = 0 := by unfold rdoneE; rw [if_neg (by omega), if_neg (by omega), if_neg (by omega)]
    exact end_closeRW (.inl rfl) n s 1 (res_2 rfl javt javt) (CEnt.tup2 (CEnt.bs (by unfold rdoneB; rw [if_pos e]; done)) (CEnt.int (by rw [e]; rfl))) rfl rfl rfl (by exact CEnt.refl _) (by exact CEnt.osI rfl) (by exact CEnt.refl _) (Nat.le_refl _) (fun _ _ => by exact CEnt.refl _)
end Am
end Go.Proofs.YtjckfbpdieijeaaGreatDoor

/- Chapter 8: the reference's writer: Do. -/
namespace Go.Proofs.YtjckfbpdieijeaaGreatDoor
set_option linter.unusedVariables false
namespace Am
variable {gs : List Nat} [OkG gs]
open Go.RowKit Cal
set_option maxRecDepth 100000

theorem okRD_tail {s : R8} (h : OkRD s) : OkR ⟨s.tags.take (s.tags.length - 1), s.rows, s.e⟩ := ⟨by have := h.ok.n; simp only [List.length_take]; omega, h.ok.r, h.ok.k⟩
theorem bodyF_if (t : Int) (l : List (List UInt8)) : bodyF (t, l) = if t = 49 then (sortL l).flatten else l.flatten := rfl
theorem in_take {l : List Int} {i : Nat} (h : i < l.length - 1) : inF l i = inF (l.take (l.length - 1)) i := by
  simp only [inF, List.getD_eq_getElem?_getD, List.getElem?_take, h, if_true]
/-- what an element is made of, in order -/
def lsF (t : Int) (l : List (List UInt8)) : List (List UInt8) := if t = 49 then sortL l else l
theorem lsF_body (t : Int) (l : List (List UInt8)) : bodyF (t, l) = (lsF t l).flatten := by unfold lsF; rw [bodyF_if]; split <;> rfl
theorem lsF_len (t : Int) (l : List (List UInt8)) : (lsF t l).length = l.length ∧ sumL (lsF t l) = sumL l := by
  unfold lsF
  split
  · exact ⟨sortL_length l, sum_perm (sortL_perm l)⟩
  · exact ⟨rfl, rfl⟩
theorem body_tag (v : VV) : 0 ≤ (bodyV v).1 ∧ (bodyV v).1 < 256 := by
  unfold bodyV
  repeat' split
  all_goals (constructor <;> dsimp only <;> omega)
theorem bodyV_len {v : VV} (h : OkV v) : (bodyV v).2.1.length ≤ 1000000 := by
  have h1 := h.b
  have h2 := h.t
  have h3 := (putN_len v.n h.n.1 h.n.2).2
  have h4 := put_len v.t
  unfold bodyV
  split
  · show (putN v.n).length ≤ _; omega
  · split
    · show (putN v.n).length ≤ _; omega
    · split
      · show [if v.is then (255 : UInt8) else 0].length ≤ _; simp
      · split
        · exact h1
        · split
          · show (if askedM v.t v.n = 0 then v.t else []).length ≤ _; split <;> first | omega | simp
          · split
            · show (putM v.t).length ≤ _; omega
            · split
              · show (if inT v.n then bodyL (ofM v.n) else []).length ≤ _
                split
                · exact Nat.le_trans (Nat.le_of_eq (show (bodyL (ofM v.n)).length = 15 from rfl)) (by decide)
                · simp
              · show (bitsL v.n).length ≤ _
                unfold bitsL
                split
                · simp
                · rw [flags_len (by omega)]
                  have := (bl_is (m := v.n.toNat) (by omega)).2
                  omega
set_option maxHeartbeats 4000000 in
theorem rdoWB_ac {gs : List Nat} (n : Nat) (s : R8) (v : VV) (hs : OkRD s) (hv : OkV v) (hB : v.kind ≠ 1 → v.kind ≠ 2 → v.kind ≠ 11 → AC gs Tryz.prog 52 [] [valC v] (BodyQ v)) : AC gs Tryz.prog 14 [rwO n s] [.op 0 (some n) 0, valC v] (fun r H' => r = .c (.tuple #[]) ∧ H' = [rwO n (rdoS v s)]) := by
  have hsn := hs.ok.n
  have hsr := hs.ok.r
  have hvb := hv.b
  have hkk := okR_at hs.ok s.tags.length
  have hss := hs.sum s.tags.length
  refine ac_of 183 Tryz.func14 rfl rfl rfl (fun al w0 F0 St0 => ?_)
  refine jcr ?_
  refine jqe (jebx 5 fun p1 => ?_)
  refine seq_nil ?_
  refine jcs ?_
  refine code_openRW 0 rfl fun gr => ?_
  refine code_ent (freeze 1 rfl) ?_
  refine code_ent (thawP 3 (m := 5) rfl rfl (by decide)) ?_
  dsimp only [List.set_cons_zero, List.set_cons_succ, List.cons_append, List.nil_append, List.length_cons, List.length_nil, Nat.zero_add, Nat.reduceAdd]
  refine jcr ?_
  refine jq jrm ?_
  refine jq jrnc ?_
  refine jq (jrfa 2 1 false) ?_
  refine jqo jrdo ?_
  refine jq jrc ?_
  refine seq_nil ?_
  refine jcc (fun h81 => ?_) fun h81 => ?_
  · refine code_ret (jtr ?_)
    rw [show rdoS v s = s by unfold rdoS; rw [if_pos (by omega)]]
    exact end_closeRW (.inl rfl) n s 2 (res_0 rfl) (CEnt.refl _) rfl rfl rfl (by exact CEnt.refl _) (by exact CEnt.osI rfl) (by exact CEnt.refl _) (Nat.le_refl _) (fun _ _ => by exact CEnt.refl _)
  refine code_skip (jtn ?_)
  refine jcr ?_
  refine jq (jrfa 0 1 false) ?_
  refine jq jrdr ?_
  refine seq_nil ?_
  refine code_block ?_
  refine jcr ?_
  refine jq jrc ?_
  refine jq jrm ?_
  refine seq_nil ?_
  refine jcc (fun h85 => ?_) fun h85 => ?_
  · refine jcr ?_
    refine jq (jrfa 1 1 false) ?_
    refine jq jrdr ?_
    refine jqe (jecP (rmade_ac v.n) ?_)
    refine jq jrn ?_
    refine seq_nil ?_
    refine jcc (fun h86 => ?_) fun h86 => ?_
    · refine jcg ?_
      refine jq jrm ?_
      refine jq jrnc ?_
      refine jq (jrfa 2 1 false) ?_
      refine jqm (jmstF 1 (rwB ⟨s.tags, s.rows, 5⟩ 2 gr) ?_ ?_)
      · exact (fun j hj => by rcases j with _ | _ | _ | j <;> exact CEnt.refl _)
      refine seq_nil ?_
      refine jbn ?_
      rw [show rdoS v s = ⟨s.tags, s.rows, 5⟩ by unfold rdoS; rw [if_neg (by omega), if_pos (by omega)]; unfold ropenS; rw [if_pos (by simp [madeM] at h86 ⊢; omega)]]
      exact end_closeRW (.inr rfl) n ⟨s.tags, s.rows, 5⟩ 2 (res_0 rfl) (CEnt.refl _) rfl rfl rfl (by exact CEnt.refl _) (by exact CEnt.osI rfl) (by exact CEnt.refl _) (Nat.le_refl _) (fun _ _ => by exact CEnt.refl _)
    refine jcr ?_
    refine jq jrm ?_
    refine jq jrnc ?_
    refine jq (jrfa 0 1 false) ?_
    refine jqo jrdo ?_
    refine jq jrl ?_
    refine jq jrc ?_
    refine seq_nil ?_
    refine jcc (fun h88 => ?_) fun h88 => ?_
    · refine jcg ?_
      refine jq jrm ?_
      refine jq jrnc ?_
      refine jq (jrfa 2 1 false) ?_
      refine jqm (jmstF 1 (rwB ⟨s.tags, s.rows, 6⟩ 2 gr) ?_ ?_)
      · exact (fun j hj => by rcases j with _ | _ | _ | j <;> exact CEnt.refl _)
      refine seq_nil ?_
      refine jbn ?_
      rw [show rdoS v s = ⟨s.tags, s.rows, 6⟩ by unfold rdoS; rw [if_neg (by omega), if_pos (by omega)]; unfold ropenS; rw [if_neg (by simp [madeM] at h86 ⊢; omega), if_pos (by omega)]]
      exact end_closeRW (.inr rfl) n ⟨s.tags, s.rows, 6⟩ 2 (res_0 rfl) (CEnt.refl _) rfl rfl rfl (by exact CEnt.refl _) (by exact CEnt.osI rfl) (by exact CEnt.refl _) (Nat.le_refl _) (fun _ _ => by exact CEnt.refl _)
    refine jcs ?_
    refine code_block ?_
    refine l_loop (α := Nat × Option Nat) [56, 57, 58, 59, 60, 61, 62, 63, 64, 65, 66, 67, 68, 69, 70, 71, 72, 73, 74, 75, 76] (fun i => []) (fun (i, g) => [(some n, .blk 3 (rwB (moreS s i) 2 g)), (p1, .frz 5 (fl [.c (.int .i64 v.kind), .c (.int .i64 v.n), .c (.bool v.is), bsC v.b, strC v.t])), (g, .blk (moreS s i).rows.length (rowsF (moreS s i).rows))]) (fun i => i.1 ≤ s.tags.length + 2 - s.rows.length) (fun i => s.tags.length + 2 - s.rows.length - i.1) ((0, gr)) ?_ (fun _ => rfl) ?_ ?_ ?_
    · exact Nat.zero_le _
    · (repeat (exact EntE.nil))
    · (show HEnt _ [(some n, Res.blk 3 (rwB (moreS s 0) 2 gr)), _, (gr, .blk (moreS s 0).rows.length (rowsF (moreS s 0).rows))]; rw [show moreS s 0 = s by unfold moreS; simp]; exact HEnt.refl _)
    · rintro ⟨i, g⟩ (hi : i ≤ s.tags.length + 2 - s.rows.length)
      have hml : (moreS s i).rows.length = s.rows.length + i := by simp [moreS]
      have hmt : (moreS s i).tags.length = s.tags.length := rfl
      refine jcs ?_
      refine jcs ?_
      refine jcd (.rd 0 (.rd 1 (.rd 2 (.rd 3 (.rd 4 (.rd 5 (.rd 6 (.rd 7 (.rd 8 (.rd 9 (.rd 10 (.rd 11 .done)))))))))))) ?_
      refine jyq jrm ?_
      refine jyq jrnc ?_
      refine jyq (jrfa 1 1 false) ?_
      refine jyo jrdo ?_
      refine jyq jrl ?_
      refine jyq jrm ?_
      refine jyq jrnc ?_
      refine jyq (jrfa 0 1 false) ?_
      refine jyo jrdo ?_
      refine jyq jrl ?_
      refine jyq jra ?_
      refine jyq jrc ?_
      refine jyd ?_
      refine jtn ?_
      refine jcc (fun h91 => ?_) fun h91 => ?_
      · refine code_skip (jtn ?_)
        refine code_block ?_
        refine jcg ?_
        refine jq jrm ?_
        refine jq jrm ?_
        refine jq jrnc ?_
        refine jq (jrfa 1 1 false) ?_
        refine jqo jrdo ?_
        refine jqe (jebl 1 1 zr56 fun p2 => ?_)
        refine seq_ent (weakH 3 1 (rowsF [[]]) rfl (Nat.le_refl _) (fun j hj => by rcases j with _ | j <;> first | exact CEnt.nilS _ _ | omega)) ?_
        refine jqm (m_appendC rowC_rows (l2 := [[]]) rfl rfl rfl rfl (Nat.le_of_eq (Nat.mul_one _)) (fun _ _ => CEnt.refl _) (src_os rfl (.inl rfl) (by decide)) rfl (fun j hj => by rw [Nat.zero_add]; exact CEnt.refl _) Tryz.underlying38 nu38 sz56 zr56 by56 rfl (by simp; omega) (by simp; omega) (fun j hj => rfl) rfl rfl (Nat.mul_one _) (fun p3 => ?_))
        refine jq jrnc ?_
        refine jq (jrfa 1 1 false) ?_
        refine jqm (jmstF 1 (rwB (moreS s (i + 1)) 2 p3) ?_ ?_)
        · exact (fun j hj => by rcases j with _ | _ | _ | j <;> first | exact CEnt.refl _ | exact CEnt.osI (by rw [more_succ]) | omega)
        refine seq_nil ?_
        refine jbn (jtn ?_)
        refine jlend ((i + 1, p3)) ?_ ?_ (h7 := ?_)
        · (show i + 1 ≤ _; omega)
        · (show _ - (i + 1) < _ - i; omega)
        · simp only [more_succ]; exact HEnt.refl _
      refine code_exit (jte (jte (jbx (jtn ?_))))
      refine jcs ?_
      have hiE : i = s.tags.length + 2 - s.rows.length := by omega
      have hpl := pad_len (s.tags.length + 2) s.rows
      dsimp only
      rw [more_pad s i _ hiE]
      rw [more_pad s i _ hiE] at hml
      have hLl : ([] ++ s.tags ++ [v.n]).length = s.tags.length + 1 := by simp
      refine jcdZ (.rd 0 (.rd 2 (.rd 3 (.rd 4 (.rd 5 (.rd 7 (.rd 8 (.two 1 (.two 6 (.one 9 (.one 10 (.rd 11 (.rd 12 (.one 13 .done))))) 9 (.one 6 (.one 10 (.rd 11 (.rd 12 (.one 13 .done)))))) 9 (.one 1 (.one 6 (.one 10 (.rd 11 (.rd 12 (.one 13 .done)))))))))))))) ?_
      refine jzq jrm ?_
      refine jzq jrm ?_
      refine jzq jrnc ?_
      refine jzq (jrfa 0 1 false) ?_
      refine jzo jrdo ?_
      refine jzq (jrfa 1 1 false) ?_
      refine jzq jrdr ?_
      refine jztwo ?_ ?_
      · refine jze (jebl 0 1 zr3 fun p2 => ?_)
        refine jztwo ?_ ?_
        · refine jzm (m_appendC rowC_in (l := []) rfl rfl rfl rfl (Nat.zero_le _) (fun j hj => absurd hj (Nat.not_lt_zero j)) (src_rs rfl) rfl (fun j hj => by simp only [Nat.div_one]; exact CEnt.refl _) Tryz.underlying22 nu22 sz3 zr3 by3 rfl (by (simp; omega)) (by (simp; omega)) (fun j hj => rfl) rfl rfl (Nat.mul_one _) (fun p3 => ?_))
          refine jze (jebl 1 1 zr3 fun p4 => ?_)
          refine jzm (m_appendC rowC_in (l2 := [v.n]) rfl rfl rfl rfl (by exact Nat.le_of_eq (Nat.mul_one _)) (fun _ _ => CEnt.refl _) (src_os rfl (.inl rfl) (by decide)) rfl (hh_ints (.cons (CEnt.int (rfl)) .nil)) Tryz.underlying22 nu22 sz3 zr3 by3 rfl (by (simp; omega)) (by (simp; omega)) (leaf_flk rfl rfl) rfl rfl (Nat.mul_one _) (fun p5 => ?_))
          refine jzq jrnc ?_
          refine jzq (jrfa 0 1 false) ?_
          refine jzm (jmst 1 ?_)
          refine jzd ?_
          refine jtn ?_
          first
            | (refine code_ent (freeze 3 rfl) ?_; refine code_ent (thawC 0 0 3 (rwB ⟨([] ++ s.tags ++ [v.n]), padR (s.tags.length + 2) s.rows, s.e⟩ 2 g) (fun i _ => inF ([] ++ s.tags ++ [v.n]) i) rfl rfl (CEnt.refl _) (CEnt.refl _) (fun j hj h0 => by rcases j with _ | _ | _ | j <;> first | omega | exact CEnt.refl _) (by simp) (fun a c ha hc => by obtain rfl : c = 0 := (by omega); rw [Nat.zero_add, Nat.mul_one, Nat.add_zero]; exact CEnt.refl _)) ?_; dsimp only [List.set_cons_zero, List.set_cons_succ, List.cons_append, List.nil_append, List.length_cons, List.length_nil, Nat.zero_add, Nat.reduceAdd])
            | (refine code_ent (freeze 4 rfl) ?_; refine code_ent (thawC 0 0 4 (rwB ⟨([] ++ s.tags ++ [v.n]), padR (s.tags.length + 2) s.rows, s.e⟩ 2 g) (fun i _ => inF ([] ++ s.tags ++ [v.n]) i) rfl rfl (CEnt.refl _) (CEnt.refl _) (fun j hj h0 => by rcases j with _ | _ | _ | j <;> first | omega | exact CEnt.refl _) (by simp) (fun a c ha hc => by obtain rfl : c = 0 := (by omega); rw [Nat.zero_add, Nat.mul_one, Nat.add_zero]; exact CEnt.refl _)) ?_; dsimp only [List.set_cons_zero, List.set_cons_succ, List.cons_append, List.nil_append, List.length_cons, List.length_nil, Nat.zero_add, Nat.reduceAdd])
          refine jcdB 10 (.rd 0 (.rd 1 (.rd 2 (.rd 3 (.rd 4 (.rd 5 (.rd 6 (.rd 7 (.rd 8 (.rd 9 .done)))))))))) ?_
          refine jyq jrm ?_
          refine jyq jrnc ?_
          refine jyq (jrfa 1 1 false) ?_
          refine jyo jrdo ?_
          refine jyq jrm ?_
          refine jyq jrnc ?_
          refine jyq (jrfa 0 1 false) ?_
          refine jyo jrdo ?_
          refine jyq jrl ?_
          refine jyq (jri (i := ([] ++ s.tags ++ [v.n]).length) (hz := by (simp only [List.length_append, List.length_cons, List.length_nil]; omega))) ?_
          refine jyd ?_
          show ASeq _ _ _ _ _ _
          refine jqm (jmstF 1 (rowsF ((padR (s.tags.length + 2) s.rows).set ([] ++ s.tags ++ [v.n]).length [])) ?_ ?_)
          · exact (fun j hj => rows_set (CEnt.nilS _ _) hj)
          refine seq_nil ?_
          refine jbn ?_
          rw [show rdoS v s = ⟨([] ++ s.tags ++ [v.n]), (padR (s.tags.length + 2) s.rows).set (s.tags.length + 1) [], s.e⟩ by unfold rdoS; rw [if_neg (by omega), if_pos (by omega)]; unfold ropenS; rw [if_neg (by simp [madeM] at h86 ⊢; omega), if_neg (by omega)]; rfl]
          exact end_closeRW (.inr rfl) n ⟨([] ++ s.tags ++ [v.n]), (padR (s.tags.length + 2) s.rows).set (s.tags.length + 1) [], s.e⟩ 2 (res_0 rfl) (CEnt.refl _) rfl rfl rfl (by exact CEnt.refl _) (by exact CEnt.osI (by simp)) (by exact CEnt.refl _) (by simp) (fun _ _ => by rw [hLl]; exact CEnt.refl _)
        · refine jze (jebl 1 1 zr3 fun p3 => ?_)
          refine jzm (m_appendC rowC_in (l := []) rfl rfl rfl rfl (Nat.zero_le _) (fun j hj => absurd hj (Nat.not_lt_zero j)) (src_rs rfl) rfl (fun j hj => by simp only [Nat.div_one]; exact CEnt.refl _) Tryz.underlying22 nu22 sz3 zr3 by3 rfl (by (simp; omega)) (by (simp; omega)) (fun j hj => rfl) rfl rfl (Nat.mul_one _) (fun p4 => ?_))
          refine jzm (m_appendC rowC_in (l2 := [v.n]) rfl rfl rfl rfl (by exact Nat.le_of_eq (Nat.mul_one _)) (fun _ _ => CEnt.refl _) (src_os rfl (.inl rfl) (by decide)) rfl (hh_ints (.cons (CEnt.int (rfl)) .nil)) Tryz.underlying22 nu22 sz3 zr3 by3 rfl (by (simp; omega)) (by (simp; omega)) (leaf_flk rfl rfl) rfl rfl (Nat.mul_one _) (fun p5 => ?_))
          refine jzq jrnc ?_
          refine jzq (jrfa 0 1 false) ?_
          refine jzm (jmst 1 ?_)
          refine jzd ?_
          refine jtn ?_
          first
            | (refine code_ent (freeze 3 rfl) ?_; refine code_ent (thawC 0 0 3 (rwB ⟨([] ++ s.tags ++ [v.n]), padR (s.tags.length + 2) s.rows, s.e⟩ 2 g) (fun i _ => inF ([] ++ s.tags ++ [v.n]) i) rfl rfl (CEnt.refl _) (CEnt.refl _) (fun j hj h0 => by rcases j with _ | _ | _ | j <;> first | omega | exact CEnt.refl _) (by simp) (fun a c ha hc => by obtain rfl : c = 0 := (by omega); rw [Nat.zero_add, Nat.mul_one, Nat.add_zero]; exact CEnt.refl _)) ?_; dsimp only [List.set_cons_zero, List.set_cons_succ, List.cons_append, List.nil_append, List.length_cons, List.length_nil, Nat.zero_add, Nat.reduceAdd])
            | (refine code_ent (freeze 4 rfl) ?_; refine code_ent (thawC 0 0 4 (rwB ⟨([] ++ s.tags ++ [v.n]), padR (s.tags.length + 2) s.rows, s.e⟩ 2 g) (fun i _ => inF ([] ++ s.tags ++ [v.n]) i) rfl rfl (CEnt.refl _) (CEnt.refl _) (fun j hj h0 => by rcases j with _ | _ | _ | j <;> first | omega | exact CEnt.refl _) (by simp) (fun a c ha hc => by obtain rfl : c = 0 := (by omega); rw [Nat.zero_add, Nat.mul_one, Nat.add_zero]; exact CEnt.refl _)) ?_; dsimp only [List.set_cons_zero, List.set_cons_succ, List.cons_append, List.nil_append, List.length_cons, List.length_nil, Nat.zero_add, Nat.reduceAdd])
          refine jcdB 10 (.rd 0 (.rd 1 (.rd 2 (.rd 3 (.rd 4 (.rd 5 (.rd 6 (.rd 7 (.rd 8 (.rd 9 .done)))))))))) ?_
          refine jyq jrm ?_
          refine jyq jrnc ?_
          refine jyq (jrfa 1 1 false) ?_
          refine jyo jrdo ?_
          refine jyq jrm ?_
          refine jyq jrnc ?_
          refine jyq (jrfa 0 1 false) ?_
          refine jyo jrdo ?_
          refine jyq jrl ?_
          refine jyq (jri (i := ([] ++ s.tags ++ [v.n]).length) (hz := by (simp only [List.length_append, List.length_cons, List.length_nil]; omega))) ?_
          refine jyd ?_
          show ASeq _ _ _ _ _ _
          refine jqm (jmstF 1 (rowsF ((padR (s.tags.length + 2) s.rows).set ([] ++ s.tags ++ [v.n]).length [])) ?_ ?_)
          · exact (fun j hj => rows_set (CEnt.nilS _ _) hj)
          refine seq_nil ?_
          refine jbn ?_
          rw [show rdoS v s = ⟨([] ++ s.tags ++ [v.n]), (padR (s.tags.length + 2) s.rows).set (s.tags.length + 1) [], s.e⟩ by unfold rdoS; rw [if_neg (by omega), if_pos (by omega)]; unfold ropenS; rw [if_neg (by simp [madeM] at h86 ⊢; omega), if_neg (by omega)]; rfl]
          exact end_closeRW (.inr rfl) n ⟨([] ++ s.tags ++ [v.n]), (padR (s.tags.length + 2) s.rows).set (s.tags.length + 1) [], s.e⟩ 2 (res_0 rfl) (CEnt.refl _) rfl rfl rfl (by exact CEnt.refl _) (by exact CEnt.osI (by simp)) (by exact CEnt.refl _) (by simp) (fun _ _ => by rw [hLl]; exact CEnt.refl _)
      · refine jze (jebl 1 1 zr3 fun p2 => ?_)
        refine jze (jebl 0 1 zr3 fun p3 => ?_)
        refine jzm (m_appendC rowC_in (l := []) rfl rfl rfl rfl (Nat.zero_le _) (fun j hj => absurd hj (Nat.not_lt_zero j)) (src_rs rfl) rfl (fun j hj => by simp only [Nat.div_one]; exact CEnt.refl _) Tryz.underlying22 nu22 sz3 zr3 by3 rfl (by (simp; omega)) (by (simp; omega)) (fun j hj => rfl) rfl rfl (Nat.mul_one _) (fun p4 => ?_))
        refine jzm (m_appendC rowC_in (l2 := [v.n]) rfl rfl rfl rfl (by exact Nat.le_of_eq (Nat.mul_one _)) (fun _ _ => CEnt.refl _) (src_os rfl (.inl rfl) (by decide)) rfl (hh_ints (.cons (CEnt.int (rfl)) .nil)) Tryz.underlying22 nu22 sz3 zr3 by3 rfl (by (simp; omega)) (by (simp; omega)) (leaf_flk rfl rfl) rfl rfl (Nat.mul_one _) (fun p5 => ?_))
        refine jzq jrnc ?_
        refine jzq (jrfa 0 1 false) ?_
        refine jzm (jmst 1 ?_)
        refine jzd ?_
        refine jtn ?_
        first
          | (refine code_ent (freeze 3 rfl) ?_; refine code_ent (thawC 0 0 3 (rwB ⟨([] ++ s.tags ++ [v.n]), padR (s.tags.length + 2) s.rows, s.e⟩ 2 g) (fun i _ => inF ([] ++ s.tags ++ [v.n]) i) rfl rfl (CEnt.refl _) (CEnt.refl _) (fun j hj h0 => by rcases j with _ | _ | _ | j <;> first | omega | exact CEnt.refl _) (by simp) (fun a c ha hc => by obtain rfl : c = 0 := (by omega); rw [Nat.zero_add, Nat.mul_one, Nat.add_zero]; exact CEnt.refl _)) ?_; dsimp only [List.set_cons_zero, List.set_cons_succ, List.cons_append, List.nil_append, List.length_cons, List.length_nil, Nat.zero_add, Nat.reduceAdd])
          | (refine code_ent (freeze 4 rfl) ?_; refine code_ent (thawC 0 0 4 (rwB ⟨([] ++ s.tags ++ [v.n]), padR (s.tags.length + 2) s.rows, s.e⟩ 2 g) (fun i _ => inF ([] ++ s.tags ++ [v.n]) i) rfl rfl (CEnt.refl _) (CEnt.refl _) (fun j hj h0 => by rcases j with _ | _ | _ | j <;> first | omega | exact CEnt.refl _) (by simp) (fun a c ha hc => by obtain rfl : c = 0 := (by omega); rw [Nat.zero_add, Nat.mul_one, Nat.add_zero]; exact CEnt.refl _)) ?_; dsimp only [List.set_cons_zero, List.set_cons_succ, List.cons_append, List.nil_append, List.length_cons, List.length_nil, Nat.zero_add, Nat.reduceAdd])
        refine jcdB 10 (.rd 0 (.rd 1 (.rd 2 (.rd 3 (.rd 4 (.rd 5 (.rd 6 (.rd 7 (.rd 8 (.rd 9 .done)))))))))) ?_
        refine jyq jrm ?_
        refine jyq jrnc ?_
        refine jyq (jrfa 1 1 false) ?_
        refine jyo jrdo ?_
        refine jyq jrm ?_
        refine jyq jrnc ?_
        refine jyq (jrfa 0 1 false) ?_
        refine jyo jrdo ?_
        refine jyq jrl ?_
        refine jyq (jri (i := ([] ++ s.tags ++ [v.n]).length) (hz := by (simp only [List.length_append, List.length_cons, List.length_nil]; omega))) ?_
        refine jyd ?_
        show ASeq _ _ _ _ _ _
        refine jqm (jmstF 1 (rowsF ((padR (s.tags.length + 2) s.rows).set ([] ++ s.tags ++ [v.n]).length [])) ?_ ?_)
        · exact (fun j hj => rows_set (CEnt.nilS _ _) hj)
        refine seq_nil ?_
        refine jbn ?_
        rw [show rdoS v s = ⟨([] ++ s.tags ++ [v.n]), (padR (s.tags.length + 2) s.rows).set (s.tags.length + 1) [], s.e⟩ by unfold rdoS; rw [if_neg (by omega), if_pos (by omega)]; unfold ropenS; rw [if_neg (by simp [madeM] at h86 ⊢; omega), if_neg (by omega)]; rfl]
        exact end_closeRW (.inr rfl) n ⟨([] ++ s.tags ++ [v.n]), (padR (s.tags.length + 2) s.rows).set (s.tags.length + 1) [], s.e⟩ 2 (res_0 rfl) (CEnt.refl _) rfl rfl rfl (by exact CEnt.refl _) (by exact CEnt.osI (by simp)) (by exact CEnt.refl _) (by simp) (fun _ _ => by rw [hLl]; exact CEnt.refl _)
  refine jcr ?_
  refine jq jrc ?_
  refine jq jrm ?_
  refine seq_nil ?_
  refine jcc (fun h97 => ?_) fun h97 => ?_
  rotate_left
  · refine jcr ?_
    refine jq jrc ?_
    refine jq jrm ?_
    refine seq_nil ?_
    refine jcc (fun h114 => ?_) fun h114 => ?_
    · refine jcr ?_
      refine jq (jrfa 3 1 false) ?_
      refine jq jrdr ?_
      refine jqe (jecP (rcheck_ac v.b hvb) ?_)
      refine jq jrm ?_
      refine jq jrx ?_
      refine jq jrx ?_
      refine jq jrm ?_
      refine jq jrm ?_
      refine seq_nil ?_
      refine jcs ?_
      refine jcr ?_
      refine jq jrm ?_
      refine jq jrc ?_
      refine seq_nil ?_
      refine jcc (fun h116 => ?_) fun h116 => ?_
      · refine jcr ?_
        refine jq jrm ?_
        refine jq jrm ?_
        refine jq jrnc ?_
        refine jq (jrfa 2 1 false) ?_
        refine jqm (jmstF 1 (rwB ⟨s.tags, s.rows, (depthM v.b).2⟩ 2 gr) ?_ ?_)
        · exact (fun j hj => by rcases j with _ | _ | _ | j <;> exact CEnt.refl _)
        refine seq_nil ?_
        refine code_ret (jtr (jbr ?_))
        rw [show rdoS v s = ⟨s.tags, s.rows, (depthM v.b).2⟩ by unfold rdoS; rw [if_neg (by omega), if_neg (by omega), if_neg (by omega), if_pos (by omega), if_pos (by omega)]]
        exact end_closeRW (.inl rfl) n ⟨s.tags, s.rows, (depthM v.b).2⟩ 2 (res_0 rfl) (CEnt.refl _) rfl rfl rfl (by exact CEnt.refl _) (by exact CEnt.osI rfl) (by exact CEnt.refl _) (Nat.le_refl _) (fun _ _ => by exact CEnt.refl _)
      refine code_skip (jtn ?_)
      refine jcg ?_
      refine jq jrm ?_
      refine jqe (jebl 0 1 zr5 fun p2 => ?_)
      refine jq (jrfa 3 1 false) ?_
      refine jq jrdr ?_
      first | refine jqm (m_appendB (l := []) rfl rfl rfl (Nat.zero_le _) (fun j hj => absurd hj (Nat.not_lt_zero j)) (src_rs rfl) rfl (fun j hj => by simp only [Nat.div_one]; exact CEnt.refl _) Tryz.underlying26 nu26 sz5 zr5 by5 rfl (by (simp; omega)) (fun j hj => rfl) rfl rfl (fun p3 => ?_)) | refine jqm (m_appendB (l := []) rfl rfl rfl (Nat.zero_le _) (fun j hj => absurd hj (Nat.not_lt_zero j)) (src_str rfl) rfl (fun j hj => CEnt.refl _) Tryz.underlying26 nu26 sz5 zr5 by5 rfl (by first | omega | (simp; done) | (simp; omega) | (simp at *; omega)) (fun j hj => rfl) rfl rfl (fun p3 => ?_)) | refine jqm (m_appendB (l := []) rfl rfl rfl (Nat.zero_le _) (fun j hj => absurd hj (Nat.not_lt_zero j)) (src_os rfl (.inl rfl) (by omega)) rfl (fun j hj => by rw [Nat.zero_add]; exact CEnt.refl _) Tryz.underlying26 nu26 sz5 zr5 by5 rfl (by first | omega | (simp; done) | (simp; omega) | (simp at *; omega)) (fun j hj => rfl) rfl rfl (fun p3 => ?_))
      refine seq_ent (freeze 3 rfl) ?_
      refine seq_ent (thawB 181 ([] ++ v.b) rfl rfl rfl rfl) ?_
      refine seq_ent (closeRW n s 0 2 rfl rfl rfl (CEnt.refl _) (CEnt.osI rfl) (CEnt.refl _) (Nat.le_refl _) (fun _ _ => CEnt.refl _)) ?_
      refine jqm (jmcH 0 (radd08_ac n s ([] ++ v.b) hs.ok) ?_)
      rintro _ _ ⟨rfl, rfl⟩
      refine ⟨_, _, rfl, CEnt.refl _, ?_⟩
      refine seq_nil ?_
      refine jbn ?_
      rw [show rdoS v s = raddS ([] ++ v.b) s by unfold rdoS; rw [if_neg (by omega), if_neg (by omega), if_neg (by omega), if_pos (by omega), if_neg (by omega)]; rfl]
      exact end_own (.inr rfl) _ [_] [0] (by decide) rfl (res_0 rfl) ⟨rfl, rfl⟩
    refine jcr ?_
    refine jq (jrdrA 5) ?_
    refine jqe (jecS (hB (by omega) (by omega) (by omega)) ?_)
    rintro _ _ ⟨⟨bb, rfl, hbb⟩, rfl⟩
    refine jq jrm ?_
    refine jq jrx ?_
    refine jq jrx ?_
    refine jq jrx ?_
    refine jq jrm ?_
    refine jq jrm ?_
    refine jq jrm ?_
    refine seq_nil ?_
    refine jcs ?_
    refine jcr ?_
    refine jq jrm ?_
    refine jq jrc ?_
    refine seq_nil ?_
    refine jcc (fun h123 => ?_) fun h123 => ?_
    · refine jcr ?_
      refine jq jrm ?_
      refine jq jrm ?_
      refine jq jrnc ?_
      refine jq (jrfa 2 1 false) ?_
      refine jqm (jmstF 1 (rwB ⟨s.tags, s.rows, (bodyV v).2.2⟩ 2 gr) ?_ ?_)
      · exact (fun j hj => by rcases j with _ | _ | _ | j <;> exact CEnt.refl _)
      refine seq_nil ?_
      refine code_ret (jtr (jbr ?_))
      rw [show rdoS v s = ⟨s.tags, s.rows, (bodyV v).2.2⟩ by unfold rdoS; rw [if_neg (by omega), if_neg (by omega), if_neg (by omega), if_neg (by omega), if_pos (by omega)]]
      exact end_closeRW (.inl rfl) n ⟨s.tags, s.rows, (bodyV v).2.2⟩ 2 (res_0 rfl) (CEnt.refl _) rfl rfl rfl (by exact CEnt.refl _) (by exact CEnt.osI rfl) (by exact CEnt.refl _) (Nat.le_refl _) (fun _ _ => by exact CEnt.refl _)
    refine code_skip (jtn ?_)
    have hb0 : bb = (bodyV v).2.1 := hbb (by omega)
    subst hb0
    refine code_ent (closeRW n s 0 2 rfl rfl rfl (CEnt.refl _) (CEnt.osI rfl) (CEnt.refl _) (Nat.le_refl _) (fun _ _ => CEnt.refl _)) ?_
    dsimp only [List.set_cons_zero, List.set_cons_succ, List.cons_append, List.nil_append, List.length_cons, List.length_nil, Nat.zero_add, Nat.reduceAdd]
    refine jcg ?_
    refine jq jrm ?_
    refine jq jrm ?_
    refine jq jrm ?_
    refine jqm (jmcH 0 (rput08_ac n s (bodyV v).1 (bodyV v).2.1 hs.ok (body_tag v) (bodyV_len hv)) ?_)
    rintro _ _ ⟨rfl, rfl⟩
    refine ⟨_, _, rfl, CEnt.refl _, ?_⟩
    refine seq_nil ?_
    refine jbn ?_
    rw [show rdoS v s = rputS (bodyV v).1 (bodyV v).2.1 s by unfold rdoS; rw [if_neg (by omega), if_neg (by omega), if_neg (by omega), if_neg (by omega), if_neg (by omega)]]
    exact end_own (.inr rfl) _ [_] [0] (by decide) rfl (res_0 rfl) ⟨rfl, rfl⟩
  refine jcr ?_
  refine jq jrm ?_
  refine jq jrnc ?_
  refine jq (jrfa 0 1 false) ?_
  refine jqo jrdo ?_
  refine jq jrl ?_
  refine jq jrm ?_
  refine seq_nil ?_
  refine jcs ?_
  refine jcr ?_
  refine jq jrm ?_
  refine jq jrc ?_
  refine seq_nil ?_
  refine jcc (fun h99 => ?_) fun h99 => ?_
  · refine jcr ?_
    refine jq jrm ?_
    refine jq jrnc ?_
    refine jq (jrfa 2 1 false) ?_
    refine jqm (jmstF 1 (rwB ⟨s.tags, s.rows, 24⟩ 2 gr) ?_ ?_)
    · exact (fun j hj => by rcases j with _ | _ | _ | j <;> exact CEnt.refl _)
    refine seq_nil ?_
    refine code_ret (jtr (jbr ?_))
    rw [show rdoS v s = ⟨s.tags, s.rows, 24⟩ by unfold rdoS; rw [if_neg (by omega), if_neg (by omega), if_pos (by omega)]; unfold rcloseS; rw [if_pos (by omega)]]
    exact end_closeRW (.inl rfl) n ⟨s.tags, s.rows, 24⟩ 2 (res_0 rfl) (CEnt.refl _) rfl rfl rfl (by exact CEnt.refl _) (by exact CEnt.osI rfl) (by exact CEnt.refl _) (Nat.le_refl _) (fun _ _ => by exact CEnt.refl _)
  refine code_skip (jtn ?_)
  have hlt := hs.lt (by omega)
  have hmem : (s.tags.getD (s.tags.length - 1) 0) ∈ s.tags := getD_mem' 0 (by omega)
  have htg := hs.tag _ hmem
  have hll := lsF_len (s.tags.getD (s.tags.length - 1) 0) (s.rows.getD s.tags.length [])
  refine jcr ?_
  refine jq jrm ?_
  refine jq jrnc ?_
  refine jq (jrfa 1 1 false) ?_
  refine jqo jrdo ?_
  refine jq jrm ?_
  refine jq jri ?_
  refine jqo jrdo ?_
  refine jq jrm ?_
  refine seq_nil ?_
  refine jcs ?_
  refine jcr ?_
  refine jq jrm ?_
  refine jq jrnc ?_
  refine jq (jrfa 0 1 false) ?_
  refine jqo jrdo ?_
  refine jq jrm ?_
  refine jq jra ?_
  refine jq (jri (i := (s.tags.length - 1)) (hz := by omega)) ?_
  refine jq jrdr ?_
  refine jq jrc ?_
  refine seq_nil ?_
  refine jcc (fun h104 => ?_) fun h104 => ?_
  rotate_left
  · refine code_skip (jtn ?_)
    first
      | refine code_ent (weaken 5 (lbC (lsF (s.tags.getD (s.tags.length - 1) 0) (s.rows.getD s.tags.length []))) (by unfold lsF; rw [if_pos h104]; exact CEnt.refl _)) ?_
      | refine code_ent (weaken 5 (lbC (lsF (s.tags.getD (s.tags.length - 1) 0) (s.rows.getD s.tags.length []))) (by unfold lsF; rw [if_neg h104]; exact CEnt.refl _)) ?_
    refine jcr ?_
    refine jqe (jebl 0 1 zr5 fun p2 => ?_)
    refine jq jrm ?_
    refine seq_nil ?_
    refine jcs ?_
    refine jcr ?_
    refine jq jrm ?_
    refine jq jrl ?_
    refine jq jrm ?_
    refine seq_nil ?_
    refine code_block ?_
    refine l_loop (α := Nat × Option Nat) [6, 8, 133, 134, 135, 136, 137, 138, 139, 140] (fun (i, g) => [(6, .os 3 g 0 (((lsF (s.tags.getD (s.tags.length - 1) 0) (s.rows.getD s.tags.length [])).take i).flatten).length 1), (133, .c (.int .i64 (i : Nat)))]) (fun (i, g) => [(some n, .blk 3 (rwB s 2 gr)), (p1, .frz 5 (fl [.c (.int .i64 v.kind), .c (.int .i64 v.n), .c (.bool v.is), bsC v.b, strC v.t])), (gr, .blk s.rows.length (rowsF s.rows)), (g, .blk (((lsF (s.tags.getD (s.tags.length - 1) 0) (s.rows.getD s.tags.length [])).take i).flatten).length (byF ((lsF (s.tags.getD (s.tags.length - 1) 0) (s.rows.getD s.tags.length [])).take i).flatten))]) (fun i => i.1 ≤ (lsF (s.tags.getD (s.tags.length - 1) 0) (s.rows.getD s.tags.length [])).length) (fun i => (lsF (s.tags.getD (s.tags.length - 1) 0) (s.rows.getD s.tags.length [])).length - i.1) ((0, p2)) ?_ (fun _ => rfl) ?_ ?_ ?_
    · exact Nat.zero_le _
    · exact .cons (CEnt.osI rfl) (.cons (CEnt.refl _) .nil)
    · exact .same (.same (.same (.blk rfl (fun j hj => absurd hj (Nat.not_lt_zero j)) .nil)))
    · rintro ⟨i, g⟩ (hi : i ≤ (lsF (s.tags.getD (s.tags.length - 1) 0) (s.rows.getD s.tags.length [])).length)
      refine jcr ?_
      refine jq jrc ?_
      refine seq_nil ?_
      refine jcs ?_
      refine jcc (fun h108 => ?_) fun h108 => ?_
      · refine code_skip (jtn ?_)
        refine jcs ?_
        refine code_block ?_
        refine jcr ?_
        refine jq jri ?_
        refine jq jrdr ?_
        refine jq jrm ?_
        refine seq_nil ?_
        have hf1 := sumL_take (ls := (lsF (s.tags.getD (s.tags.length - 1) 0) (s.rows.getD s.tags.length []))) (i := i) (by omega)
        have hf2 := sumL_le (lsF (s.tags.getD (s.tags.length - 1) 0) (s.rows.getD s.tags.length [])) (i + 1)
        have hf3 := flat_len ((lsF (s.tags.getD (s.tags.length - 1) 0) (s.rows.getD s.tags.length [])).take i)
        refine jcg ?_
        refine jq jrm ?_
        refine jq jrm ?_
        first | refine jqm (m_appendB rfl rfl rfl (Nat.le_refl _) (fun _ _ => CEnt.refl _) (src_rs rfl) rfl (fun j hj => by simp only [Nat.div_one]; exact CEnt.refl _) Tryz.underlying26 nu26 sz5 zr5 by5 rfl (by omega) (fun j hj => rfl) rfl rfl (fun p3 => ?_)) | refine jqm (m_appendB rfl rfl rfl (Nat.le_refl _) (fun _ _ => CEnt.refl _) (src_str rfl) rfl (fun j hj => CEnt.refl _) Tryz.underlying26 nu26 sz5 zr5 by5 rfl (by first | omega | (simp; done) | (simp; omega) | (simp at *; omega)) (fun j hj => rfl) rfl rfl (fun p3 => ?_)) | refine jqm (m_appendB rfl rfl rfl (Nat.le_refl _) (fun _ _ => CEnt.refl _) (src_os rfl (.inl rfl) (by omega)) rfl (fun j hj => by rw [Nat.zero_add]; exact CEnt.refl _) Tryz.underlying26 nu26 sz5 zr5 by5 rfl (by first | omega | (simp; done) | (simp; omega) | (simp at *; omega)) (fun j hj => rfl) rfl rfl (fun p3 => ?_))
        refine jq jrm ?_
        refine seq_nil ?_
        refine jbn (jtn ?_)
        refine jcg ?_
        refine jq jra ?_
        refine jq jrm ?_
        refine seq_nil ?_
        refine jtn ?_
        refine jlend ((i + 1, p3)) ?_ ?_ (h5 := ?_) (h7 := ?_)
        · show i + 1 ≤ (lsF (s.tags.getD (s.tags.length - 1) 0) (s.rows.getD s.tags.length [])).length; omega
        · show (lsF (s.tags.getD (s.tags.length - 1) 0) (s.rows.getD s.tags.length [])).length - (i + 1) < (lsF (s.tags.getD (s.tags.length - 1) 0) (s.rows.getD s.tags.length [])).length - i; omega
        · simp only [flat_take (show i < (lsF (s.tags.getD (s.tags.length - 1) 0) (s.rows.getD s.tags.length [])).length by omega)]
          exact .cons (CEnt.osI rfl) (.cons (CEnt.int (by omega)) .nil)
        · simp only [flat_take (show i < (lsF (s.tags.getD (s.tags.length - 1) 0) (s.rows.getD s.tags.length [])).length by omega)]
          exact .same (.same (.same (.same .nil)))
      refine code_exit (jte (jte (jbx (jtn ?_))))
      have hiE : i = (lsF (s.tags.getD (s.tags.length - 1) 0) (s.rows.getD s.tags.length [])).length := by omega
      subst hiE
      dsimp only
      rw [List.take_length]
      refine jcr ?_
      refine jq jrm ?_
      refine jq jrnc ?_
      refine jq (jrfa 0 1 false) ?_
      refine jqo jrdo ?_
      refine jq jrm ?_
      refine jq jra ?_
      refine jq (jri (i := (s.tags.length - 1)) (hz := by omega)) ?_
      refine jq jrdr ?_
      refine jq jrm ?_
      refine seq_nil ?_
      refine jcr ?_
      refine jq jrm ?_
      refine jq jrm ?_
      refine jq jrnc ?_
      refine jq (jrfa 0 1 false) ?_
      refine jqo jrdo ?_
      refine jq jrm ?_
      refine jq jra ?_
      refine jq (jrsr (hl := (bd_none _ _)) (hu := (bd_some rfl (show _ = (((s.tags.length - 1) : Nat) : Int) by omega)))) ?_
      refine jq jrnc ?_
      refine jq (jrfa 0 1 false) ?_
      refine jqm (jmstF 1 (rwB ⟨s.tags.take (s.tags.length - 1), s.rows, s.e⟩ 2 gr) ?_ ?_)
      · exact (fun j hj => by rcases j with _ | _ | _ | j <;> first | exact CEnt.rs (by rw [List.length_take]; omega) (fun i q hi hq => CEnt.of_eq (by rw [Nat.zero_add]; exact in_take hi)) | exact CEnt.refl _ | omega)
      refine seq_nil ?_
      refine code_ent (freeze 3 rfl) ?_
      refine code_ent (thawB 6 ((lsF (s.tags.getD (s.tags.length - 1) 0) (s.rows.getD s.tags.length [])).flatten) rfl rfl rfl rfl) ?_
      refine code_ent (closeRW n ⟨s.tags.take (s.tags.length - 1), s.rows, s.e⟩ 0 2 rfl rfl rfl (CEnt.refl _) (CEnt.osI rfl) (CEnt.refl _) (Nat.le_refl _) (fun _ _ => CEnt.refl _)) ?_
      dsimp only [List.set_cons_zero, List.set_cons_succ, List.cons_append, List.nil_append, List.length_cons, List.length_nil, Nat.zero_add, Nat.reduceAdd]
      refine jcg ?_
      refine jq jrm ?_
      refine jq jrm ?_
      refine jq jrm ?_
      refine jqm (jmcH 0 (rput08_ac n ⟨s.tags.take (s.tags.length - 1), s.rows, s.e⟩ (s.tags.getD (s.tags.length - 1) 0) ((lsF (s.tags.getD (s.tags.length - 1) 0) (s.rows.getD s.tags.length [])).flatten) (okRD_tail hs) htg (by rw [flat_len]; omega)) ?_)
      rintro _ _ ⟨rfl, rfl⟩
      refine ⟨_, _, rfl, CEnt.refl _, ?_⟩
      refine seq_nil ?_
      refine jbn ?_
      rw [show rdoS v s = rputS (s.tags.getD (s.tags.length - 1) 0) ((lsF (s.tags.getD (s.tags.length - 1) 0) (s.rows.getD s.tags.length [])).flatten) ⟨s.tags.take (s.tags.length - 1), s.rows, s.e⟩ by unfold rdoS; rw [if_neg (by omega), if_neg (by omega), if_pos (by omega)]; unfold rcloseS; rw [if_neg (by omega), lsF_body]]
      exact end_own (.inr rfl) _ [_] [0] (by decide) rfl (res_0 rfl) ⟨rfl, rfl⟩
  refine jcg ?_
  refine jq jrm ?_
  refine jqe (jecP (rsorted07_ac (s.rows.getD s.tags.length []) hkk) ?_)
  refine jq jrm ?_
  refine seq_nil ?_
  refine jtn ?_
  first
    | refine code_ent (weaken 5 (lbC (lsF (s.tags.getD (s.tags.length - 1) 0) (s.rows.getD s.tags.length []))) (by unfold lsF; rw [if_pos h104]; exact CEnt.refl _)) ?_
    | refine code_ent (weaken 5 (lbC (lsF (s.tags.getD (s.tags.length - 1) 0) (s.rows.getD s.tags.length []))) (by unfold lsF; rw [if_neg h104]; exact CEnt.refl _)) ?_
  refine jcr ?_
  refine jqe (jebl 0 1 zr5 fun p2 => ?_)
  refine jq jrm ?_
  refine seq_nil ?_
  refine jcs ?_
  refine jcr ?_
  refine jq jrm ?_
  refine jq jrl ?_
  refine jq jrm ?_
  refine seq_nil ?_
  refine code_block ?_
  refine l_loop (α := Nat × Option Nat) [6, 8, 133, 134, 135, 136, 137, 138, 139, 140] (fun (i, g) => [(6, .os 3 g 0 (((lsF (s.tags.getD (s.tags.length - 1) 0) (s.rows.getD s.tags.length [])).take i).flatten).length 1), (133, .c (.int .i64 (i : Nat)))]) (fun (i, g) => [(some n, .blk 3 (rwB s 2 gr)), (p1, .frz 5 (fl [.c (.int .i64 v.kind), .c (.int .i64 v.n), .c (.bool v.is), bsC v.b, strC v.t])), (gr, .blk s.rows.length (rowsF s.rows)), (g, .blk (((lsF (s.tags.getD (s.tags.length - 1) 0) (s.rows.getD s.tags.length [])).take i).flatten).length (byF ((lsF (s.tags.getD (s.tags.length - 1) 0) (s.rows.getD s.tags.length [])).take i).flatten))]) (fun i => i.1 ≤ (lsF (s.tags.getD (s.tags.length - 1) 0) (s.rows.getD s.tags.length [])).length) (fun i => (lsF (s.tags.getD (s.tags.length - 1) 0) (s.rows.getD s.tags.length [])).length - i.1) ((0, p2)) ?_ (fun _ => rfl) ?_ ?_ ?_
  · exact Nat.zero_le _
  · exact .cons (CEnt.osI rfl) (.cons (CEnt.refl _) .nil)
  · exact .same (.same (.same (.blk rfl (fun j hj => absurd hj (Nat.not_lt_zero j)) .nil)))
  · rintro ⟨i, g⟩ (hi : i ≤ (lsF (s.tags.getD (s.tags.length - 1) 0) (s.rows.getD s.tags.length [])).length)
    refine jcr ?_
    refine jq jrc ?_
    refine seq_nil ?_
    refine jcs ?_
    refine jcc (fun h108 => ?_) fun h108 => ?_
    · refine code_skip (jtn ?_)
      refine jcs ?_
      refine code_block ?_
      refine jcr ?_
      refine jq jri ?_
      refine jq jrdr ?_
      refine jq jrm ?_
      refine seq_nil ?_
      have hf1 := sumL_take (ls := (lsF (s.tags.getD (s.tags.length - 1) 0) (s.rows.getD s.tags.length []))) (i := i) (by omega)
      have hf2 := sumL_le (lsF (s.tags.getD (s.tags.length - 1) 0) (s.rows.getD s.tags.length [])) (i + 1)
      have hf3 := flat_len ((lsF (s.tags.getD (s.tags.length - 1) 0) (s.rows.getD s.tags.length [])).take i)
      refine jcg ?_
      refine jq jrm ?_
      refine jq jrm ?_
      first | refine jqm (m_appendB rfl rfl rfl (Nat.le_refl _) (fun _ _ => CEnt.refl _) (src_rs rfl) rfl (fun j hj => by simp only [Nat.div_one]; exact CEnt.refl _) Tryz.underlying26 nu26 sz5 zr5 by5 rfl (by omega) (fun j hj => rfl) rfl rfl (fun p3 => ?_)) | refine jqm (m_appendB rfl rfl rfl (Nat.le_refl _) (fun _ _ => CEnt.refl _) (src_str rfl) rfl (fun j hj => CEnt.refl _) Tryz.underlying26 nu26 sz5 zr5 by5 rfl (by first | omega | (simp; done) | (simp; omega) | (simp at *; omega)) (fun j hj => rfl) rfl rfl (fun p3 => ?_)) | refine jqm (m_appendB rfl rfl rfl (Nat.le_refl _) (fun _ _ => CEnt.refl _) (src_os rfl (.inl rfl) (by omega)) rfl (fun j hj => by rw [Nat.zero_add]; exact CEnt.refl _) Tryz.underlying26 nu26 sz5 zr5 by5 rfl (by first | omega | (simp; done) | (simp; omega) | (simp at *; omega)) (fun j hj => rfl) rfl rfl (fun p3 => ?_))
      refine jq jrm ?_
      refine seq_nil ?_
      refine jbn (jtn ?_)
      refine jcg ?_
      refine jq jra ?_
      refine jq jrm ?_
      refine seq_nil ?_
      refine jtn ?_
      refine jlend ((i + 1, p3)) ?_ ?_ (h5 := ?_) (h7 := ?_)
      · show i + 1 ≤ (lsF (s.tags.getD (s.tags.length - 1) 0) (s.rows.getD s.tags.length [])).length; omega
      · show (lsF (s.tags.getD (s.tags.length - 1) 0) (s.rows.getD s.tags.length [])).length - (i + 1) < (lsF (s.tags.getD (s.tags.length - 1) 0) (s.rows.getD s.tags.length [])).length - i; omega
      · simp only [flat_take (show i < (lsF (s.tags.getD (s.tags.length - 1) 0) (s.rows.getD s.tags.length [])).length by omega)]
        exact .cons (CEnt.osI rfl) (.cons (CEnt.int (by omega)) .nil)
      · simp only [flat_take (show i < (lsF (s.tags.getD (s.tags.length - 1) 0) (s.rows.getD s.tags.length [])).length by omega)]
        exact .same (.same (.same (.same .nil)))
    refine code_exit (jte (jte (jbx (jtn ?_))))
    have hiE : i = (lsF (s.tags.getD (s.tags.length - 1) 0) (s.rows.getD s.tags.length [])).length := by omega
    subst hiE
    dsimp only
    rw [List.take_length]
    refine jcr ?_
    refine jq jrm ?_
    refine jq jrnc ?_
    refine jq (jrfa 0 1 false) ?_
    refine jqo jrdo ?_
    refine jq jrm ?_
    refine jq jra ?_
    refine jq (jri (i := (s.tags.length - 1)) (hz := by omega)) ?_
    refine jq jrdr ?_
    refine jq jrm ?_
    refine seq_nil ?_
    refine jcr ?_
    refine jq jrm ?_
    refine jq jrm ?_
    refine jq jrnc ?_
    refine jq (jrfa 0 1 false) ?_
    refine jqo jrdo ?_
    refine jq jrm ?_
    refine jq jra ?_
    refine jq (jrsr (hl := (bd_none _ _)) (hu := (bd_some rfl (show _ = (((s.tags.length - 1) : Nat) : Int) by omega)))) ?_
    refine jq jrnc ?_
    refine jq (jrfa 0 1 false) ?_
    refine jqm (jmstF 1 (rwB ⟨s.tags.take (s.tags.length - 1), s.rows, s.e⟩ 2 gr) ?_ ?_)
    · exact (fun j hj => by rcases j with _ | _ | _ | j <;> first | exact CEnt.rs (by rw [List.length_take]; omega) (fun i q hi hq => CEnt.of_eq (by rw [Nat.zero_add]; exact in_take hi)) | exact CEnt.refl _ | omega)
    refine seq_nil ?_
    refine code_ent (freeze 3 rfl) ?_
    refine code_ent (thawB 6 ((lsF (s.tags.getD (s.tags.length - 1) 0) (s.rows.getD s.tags.length [])).flatten) rfl rfl rfl rfl) ?_
    refine code_ent (closeRW n ⟨s.tags.take (s.tags.length - 1), s.rows, s.e⟩ 0 2 rfl rfl rfl (CEnt.refl _) (CEnt.osI rfl) (CEnt.refl _) (Nat.le_refl _) (fun _ _ => CEnt.refl _)) ?_
    dsimp only [List.set_cons_zero, List.set_cons_succ, List.cons_append, List.nil_append, List.length_cons, List.length_nil, Nat.zero_add, Nat.reduceAdd]
    refine jcg ?_
    refine jq jrm ?_
    refine jq jrm ?_
    refine jq jrm ?_
    refine jqm (jmcH 0 (rput08_ac n ⟨s.tags.take (s.tags.length - 1), s.rows, s.e⟩ (s.tags.getD (s.tags.length - 1) 0) ((lsF (s.tags.getD (s.tags.length - 1) 0) (s.rows.getD s.tags.length [])).flatten) (okRD_tail hs) htg (by rw [flat_len]; omega)) ?_)
    rintro _ _ ⟨rfl, rfl⟩
    refine ⟨_, _, rfl, CEnt.refl _, ?_⟩
    refine seq_nil ?_
    refine jbn ?_
    rw [show rdoS v s = rputS (s.tags.getD (s.tags.length - 1) 0) ((lsF (s.tags.getD (s.tags.length - 1) 0) (s.rows.getD s.tags.length [])).flatten) ⟨s.tags.take (s.tags.length - 1), s.rows, s.e⟩ by unfold rdoS; rw [if_neg (by omega), if_neg (by omega), if_pos (by omega)]; unfold rcloseS; rw [if_neg (by omega), lsF_body]]
    exact end_own (.inr rfl) _ [_] [0] (by decide) rfl (res_0 rfl) ⟨rfl, rfl⟩
end Am
end Go.Proofs.YtjckfbpdieijeaaGreatDoor
