/- What the law leans on, part 5: W07, L07, P09n, W07l, W07q, W08m, W08n, W08v, W08w, W08x, P08b, P08d, W08a, W08b, W08c, W08d, W08e, W08f, SsJ, W05f, W05g, W05h, W06c, P06c, W06d, W06e, W08g, W08h, W08p, P08f, P08g, ErrN, W08y -/
import Derived.Test.YtgnjjenalebiaaaGreatDoorM4DerBack

/- Chapter 7: bits in turn, masks and their bodies. -/
namespace Go.Proofs.YtgnjjenalebiaaaGreatDoor
set_option linter.unusedVariables false
namespace Am
variable {gs : List Nat} [Ok9 gs]
open Go.RowKit
set_option maxRecDepth 100000


theorem rev16_ac {gs : List Nat} (x : Nat) (hx : x < 65536) : ACp gs Tryz.prog 145 [.c (.int .u16 (x : Nat))] (.c (.int .u16 (rev16 x : Nat))) := by
  have h1 := rev8_lt (i := x / 256) (by omega)
  have h2 := rev8_lt (i := x % 256) (by omega)
  refine ac_of 13 Tryz.func145 rfl rfl rfl (fun al w0 F0 St0 => ?_)
  refine jcr ?_
  refine jq jrm ?_
  refine seq_nil ?_
  refine jcs ?_
  refine jcd (.rd 0 (.rd 1 (.rd 2 (.rd 3 (.rd 4 (.rd 5 (.rd 6 (.rd 7 (.rd 8 (.rd 9 (.rd 10 .done))))))))))) ?_
  refine jyq jrm ?_
  refine jyq (rd_shr rfl rfl rfl (by (omega)) (((x / 256 : Nat) : Int)) (shr8_16 _ rfl)) ?_
  refine jyq (rd_indexS rfl rfl rfl Tryz.underlying9 (show _ = ((x / 256 : Nat) : Int) by omega) (by exact Nat.lt_of_lt_of_eq (show x / 256 < 256 by omega) (by kernel_rfl))) ?_
  refine jyq (rd_convI rfl rfl Tryz.underlying5 Tryz.underlying181 (((rev8 (x / 256) : Nat) : Int)) (tab_wrap (T := rev8T) (by kernel_rfl) (rev8T_get (by omega)) rfl)) ?_
  refine jyq jrm ?_
  refine jyq (rd_and rfl rfl rfl (((x % 256 : Nat) : Int)) (and255 hx)) ?_
  refine jyq (rd_indexS rfl rfl rfl Tryz.underlying9 (show _ = ((x % 256 : Nat) : Int) by omega) (by exact Nat.lt_of_lt_of_eq (show x % 256 < 256 by omega) (by kernel_rfl))) ?_
  refine jyq (rd_convI rfl rfl Tryz.underlying5 Tryz.underlying181 (((rev8 (x % 256) : Nat) : Int)) (tab_wrap (T := rev8T) (by kernel_rfl) (rev8T_get (by omega)) rfl)) ?_
  refine jyq (rd_shl rfl rfl rfl (by (omega)) (((rev8 (x % 256) % 256 * 256 : Nat) : Int)) (shl8_16 _ rfl)) ?_
  refine jyq (rd_or rfl rfl rfl (((rev8 (x / 256) + 256 * (rev8 (x % 256) % 256) : Nat) : Int)) (or_hl h1 (by omega))) ?_
  refine jyq jrm ?_
  refine jyd ?_
  refine jtn ?_
  refine code_ret (jrt (hv := ?_))
  refine CEnt.int ?_
  unfold rev16; omega
theorem len64_ac {gs : List Nat} (m : Nat) (hm : m < 65536) : ACp gs Tryz.prog 163 [.c (.int .u64 (m : Nat))] (.c (.int .i64 (bl m : Nat))) := by
  refine ac_of 25 Tryz.func163 rfl rfl rfl (fun al w0 F0 St0 => ?_)
  refine jcr ?_
  refine jq jrm ?_
  refine seq_nil ?_
  refine jcs ?_
  refine jcr ?_
  refine jq jrm ?_
  refine jq jrc ?_
  refine seq_nil ?_
  refine jcc (fun h338 => ?_) fun h338 => ?_
  · exfalso; omega
  refine code_skip (jtn ?_)
  refine jcs ?_
  refine jcr ?_
  refine jq jrm ?_
  refine jq jrc ?_
  refine seq_nil ?_
  refine jcc (fun h342 => ?_) fun h342 => ?_
  · exfalso; omega
  refine code_skip (jtn ?_)
  refine jcs ?_
  refine jcr ?_
  refine jq jrm ?_
  refine jq jrc ?_
  refine seq_nil ?_
  refine jcc (fun h346 => ?_) fun h346 => ?_
  rotate_left
  · refine code_skip (jtn ?_)
    obtain ⟨q, hq, hq2⟩ : ∃ q, q = (if 256 ≤ m then m / 256 else m) ∧ q < 256 := ⟨_, rfl, by split <;> omega⟩
    refine code_ent (weaken 0 (.c (.int .u64 (q : Nat))) (CEnt.int (by rw [hq]; rw [if_neg (by omega)]))) ?_
    have hl := (len8_bd hq2).2.1
    refine jcr ?_
    refine jq jrm ?_
    refine jq jrm ?_
    refine jq (rd_convI rfl rfl Tryz.underlying165 Tryz.underlying5 (((q : Nat) : Int)) ((by rw [IntKind.wrap_u8]; omega))) ?_
    refine jq (rd_indexS rfl rfl rfl Tryz.underlying9 (show _ = ((q : Nat) : Int) by omega) (by exact Nat.lt_of_lt_of_eq hq2 (by kernel_rfl))) ?_
    refine jq (rd_convI rfl rfl Tryz.underlying5 Tryz.underlying3 (((len8 q : Nat) : Int)) (tab_wrap (T := len8T) (by kernel_rfl) (len8T_get hq2) rfl)) ?_
    refine jq jra ?_
    refine jq jrm ?_
    refine seq_nil ?_
    refine code_ret (jrt (hv := ?_))
    refine CEnt.int ?_
    unfold bl
    (rw [if_neg (by omega)] at hq ⊢; subst hq; omega)
  refine jcr ?_
  refine jq jrm ?_
  refine jq (rd_shr rfl rfl rfl (by (omega)) (((m / 256 : Nat) : Int)) (shr8_64 _ rfl)) ?_
  refine jq jrm ?_
  refine seq_nil ?_
  refine jcg ?_
  refine jq jrm ?_
  refine jq jra ?_
  refine jq jrm ?_
  refine seq_nil ?_
  refine jtn ?_
  obtain ⟨q, hq, hq2⟩ : ∃ q, q = (if 256 ≤ m then m / 256 else m) ∧ q < 256 := ⟨_, rfl, by split <;> omega⟩
  refine code_ent (weaken 0 (.c (.int .u64 (q : Nat))) (CEnt.int (by rw [hq]; rw [if_pos (by omega)]))) ?_
  have hl := (len8_bd hq2).2.1
  refine jcr ?_
  refine jq jrm ?_
  refine jq jrm ?_
  refine jq (rd_convI rfl rfl Tryz.underlying165 Tryz.underlying5 (((q : Nat) : Int)) ((by rw [IntKind.wrap_u8]; omega))) ?_
  refine jq (rd_indexS rfl rfl rfl Tryz.underlying9 (show _ = ((q : Nat) : Int) by omega) (by exact Nat.lt_of_lt_of_eq hq2 (by kernel_rfl))) ?_
  refine jq (rd_convI rfl rfl Tryz.underlying5 Tryz.underlying3 (((len8 q : Nat) : Int)) (tab_wrap (T := len8T) (by kernel_rfl) (len8T_get hq2) rfl)) ?_
  refine jq jra ?_
  refine jq jrm ?_
  refine seq_nil ?_
  refine code_ret (jrt (hv := ?_))
  refine CEnt.int ?_
  unfold bl
  (rw [if_pos (by omega)] at hq ⊢; subst hq; omega)
theorem blen_ac {gs : List Nat} (m : Nat) (hm : m < 65536) : ACp gs Tryz.prog 146 [.c (.int .u64 (m : Nat))] (.c (.int .i64 (bl m : Nat))) := by
  refine ac_of 8 Tryz.func146 rfl rfl rfl (fun al w0 F0 St0 => ?_)
  refine jcr ?_
  refine jq jrm ?_
  refine seq_nil ?_
  refine jcs ?_
  refine jcF ?_
  refine code_skip (jtn ?_)
  refine jcr ?_
  refine jq jrm ?_
  refine jqe (jecP (len64_ac m hm) ?_)
  refine jq jrm ?_
  refine seq_nil ?_
  refine code_ret (jrt (hv := CEnt.refl _))
theorem ntz_ac {gs : List Nat} (c : UInt8) : ACp gs Tryz.prog 153 [.c (.int .u8 (c.toNat : Nat))] (.c (.int .i64 (ntz8 c.toNat : Nat))) := by
  have hc : c.toNat < 256 := c.toNat_lt
  refine ac_of 6 Tryz.func153 rfl rfl rfl (fun al w0 F0 St0 => ?_)
  refine jcr ?_
  refine jq jrm ?_
  refine seq_nil ?_
  refine jcr ?_
  refine jq jrm ?_
  refine jq (rd_indexS rfl rfl rfl Tryz.underlying9 (show _ = ((c.toNat : Nat) : Int) by omega) (by exact Nat.lt_of_lt_of_eq hc (by kernel_rfl))) ?_
  refine jq (rd_convI rfl rfl Tryz.underlying5 Tryz.underlying3 (((ntz8 c.toNat : Nat) : Int)) (tab_wrap (T := ntz8T) (by kernel_rfl) (ntz8T_get hc) rfl)) ?_
  refine jq jrm ?_
  refine seq_nil ?_
  refine code_ret (jrt (hv := CEnt.refl _))

theorem flags_bad (z : Int) (hz : z < 0 ∨ 32767 < z) : ACp gs Tryz.prog 107 [.c (.int .i64 z)] (.tup 2 (fl [bsC [], .err 1])) := by
  refine ac_of 41 Tryz.func107 rfl rfl rfl (fun al w0 F0 St0 => ?_)
  refine jcr ?_
  refine jq jrm ?_
  refine jq jrm ?_
  refine seq_nil ?_
  refine jcs ?_
  refine jcr ?_
  refine jq jrm ?_
  refine jq jrc ?_
  refine jq jrm ?_
  refine jqsp 10 (fun g76 => ?_) fun g76 => ?_
  · refine jqs ?_
    refine jqs ?_
    refine jq jrpT ?_
    refine seq_nil ?_
    refine jcT ?_
    refine jcs ?_
    refine jcd (.rd 0 (.rd 1 (.rd 2 .done))) ?_
    refine jyq (jrde 0) ?_
    refine jyq jrm ?_
    refine jyq jrm ?_
    refine jyd ?_
    refine jtn ?_
    refine code_ret (jtr (jrt (hv := CEnt.tup2 CEnt.nilB (CEnt.refl _))))
  refine jq jrm ?_
  refine jq jrc ?_
  refine jq jrpF ?_
  refine seq_nil ?_
  refine jcc (fun h76 => ?_) fun h76 => ?_
  rotate_left
  · exfalso; simp at h76; omega
  refine jcs ?_
  refine jcd (.rd 0 (.rd 1 (.rd 2 .done))) ?_
  refine jyq (jrde 0) ?_
  refine jyq jrm ?_
  refine jyq jrm ?_
  refine jyd ?_
  refine jtn ?_
  refine code_ret (jtr (jrt (hv := CEnt.tup2 CEnt.nilB (CEnt.refl _))))
theorem flags_ac {gs : List Nat} (m : Nat) (hm : m < 32768) : ACp gs Tryz.prog 107 [.c (.int .i64 (m : Nat))] (.tup 2 (fl [bsC (flagsL m), .err 0])) := by
  have hb := (bl_is (m := m) (by omega)).2
  refine ac_of 41 Tryz.func107 rfl rfl rfl (fun al w0 F0 St0 => ?_)
  refine jcr ?_
  refine jq jrm ?_
  refine jq jrm ?_
  refine seq_nil ?_
  refine jcs ?_
  refine jcr ?_
  refine jq jrm ?_
  refine jq jrc ?_
  refine jq jrm ?_
  refine jqsp 10 (fun g76 => ?_) fun g76 => ?_
  · exfalso; omega
  refine jq jrm ?_
  refine jq jrc ?_
  refine jq jrpF ?_
  refine seq_nil ?_
  refine jcc (fun h76 => ?_) fun h76 => ?_
  · exfalso; omega
  refine code_skip (jtn ?_)
  refine jcr ?_
  refine jq jrm ?_
  refine jq (jrv .i64 .u16) ?_
  refine jqe (jecP (rev16_ac m (by omega)) ?_)
  refine jq jrm ?_
  refine seq_nil ?_
  refine jcr ?_
  refine jq jrm ?_
  refine jq (jrv .i64 .u64) ?_
  refine jqe (jecP (blen_ac m (by omega)) ?_)
  refine jq jrm ?_
  refine seq_nil ?_
  refine jcr ?_
  refine jq jrm ?_
  refine jq jrr ?_
  refine jq jra ?_
  refine jq jrr ?_
  refine jq (jrv .i64 .u8) ?_
  refine jqe (jebl 1 1 zr5 fun p1 => ?_)
  refine jq jrm ?_
  refine seq_nil ?_
  refine jcs ?_
  refine jcr ?_
  refine jq jrm ?_
  refine seq_nil ?_
  refine code_block ?_
  refine code_ent (blk_ent 0 rfl (Nat.le_refl _) (fun _ => rfl) (fl_by (l2 := [UInt8.ofNat ((8 - bl m % 8) % 8)]) (.cons (CEnt.int (by rw [u8_ofNat (by omega)]; omega)) .nil))) ?_
  refine l_loop (α := Nat × Option Nat) [4, 6, 7, 27, 28, 29, 30, 31, 32, 33, 34, 35, 36, 37, 38, 39] (fun (j, g) => [(4, .c (.int .u16 (turnM m j : Nat))), (6, .os 0 g 0 (outL m j).length 1), (7, .c (.int .i64 ((8 * j : Nat) : Int)))]) (fun (j, g) => [(g, .blk (outL m j).length (byF (outL m j)))]) (fun j => j.1 ≤ (bl m + 7) / 8) (fun j => 3 - j.1) ((0, p1)) ?_ (fun _ => rfl) ?_ ?_ ?_
  · exact Nat.zero_le _
  · exact .cons (CEnt.refl _) (.cons (CEnt.refl _) (.cons (CEnt.refl _) .nil))
  · exact .same .nil
  · rintro ⟨j, g'⟩ (hj : j ≤ (bl m + 7) / 8)
    have ht := turnM_lt (m := m) (by omega) j
    have hol := outL_len m j
    refine jcs ?_
    refine jcr ?_
    refine jq jrm ?_
    refine jq jrm ?_
    refine jq jrc ?_
    refine seq_nil ?_
    refine jcc (fun h83 => ?_) fun h83 => ?_
    rotate_left
    · refine code_exit (jte (jte (jbx (jtn ?_))))
      refine jcr ?_
      refine jq jrm ?_
      refine jq jrm ?_
      refine jq jrm ?_
      refine seq_nil ?_
      refine code_ent (freeze 0 rfl) ?_
      refine code_ent (thawB 2 (outL m j) rfl rfl (by rfl) rfl) ?_
      refine code_ret (jrt (hv := ?_))
      have e : j = (bl m + 7) / 8 := by omega
      refine CEnt.tup2 (CEnt.bs ?_) CEnt.nil
      rw [e]; exact outL_end (by omega)
    refine code_skip (jtn ?_)
    refine jcs ?_
    refine code_block ?_
    refine jcr ?_
    refine jq jrm ?_
    refine jq jrm ?_
    refine jq (rd_shr rfl rfl rfl (by (omega)) (((turnM m j / 256 : Nat) : Int)) (shr8_16 _ rfl)) ?_
    refine jq (jrv .u16 .u8) ?_
    refine jqe (jebl 1 1 zr5 fun p2 => ?_)
    refine jqm (m_appendB (l2 := [UInt8.ofNat (turnM m j / 256)]) rfl rfl rfl (Nat.le_refl _) (fun _ _ => CEnt.refl _) (src_os rfl (.inl rfl) (by decide)) rfl (hh_bytes (.cons (CEnt.int ((by rw [u8_ofNat (by omega)]))) .nil)) Tryz.underlying26 nu26 sz5 zr5 by5 rfl (by (simp; omega)) (leaf_fl rfl rfl) rfl rfl (fun p3 => ?_))
    refine jq jrm ?_
    refine seq_nil ?_
    refine jcg ?_
    refine jq jrm ?_
    refine jq (rd_shl rfl rfl rfl (by (omega)) (((turnM m j % 256 * 256 : Nat) : Int)) (shl8_16 _ rfl)) ?_
    refine jq jrm ?_
    refine seq_nil ?_
    refine jbn (jtn ?_)
    refine jcg ?_
    refine jq jrm ?_
    refine jq jra ?_
    refine jq jrm ?_
    refine seq_nil ?_
    refine jtn ?_
    refine jlend ((j + 1, p3)) ?_ ?_ (h5 := ?_) (h7 := ?_)
    · show j + 1 ≤ (bl m + 7) / 8; omega
    · show 3 - (j + 1) < 3 - j; omega
    · exact .cons (CEnt.refl _) (.cons (CEnt.refl _) (.cons (CEnt.int (by omega)) .nil))
    · exact .same .nil
set_option maxHeartbeats 2000000 in
theorem tmask_ac (b : List UInt8) : ACp gs Tryz.prog 124 [bsC b] (.tup 2 (fl [.c (.int .i64 (maskM b).1), .err (maskM b).2])) := by
  have h8 : (b.getD 0 0).toNat < 256 := UInt8.toNat_lt _
  have h81 : (b.getD 1 0).toNat < 256 := UInt8.toNat_lt _
  have h82 : (b.getD 2 0).toNat < 256 := UInt8.toNat_lt _
  refine ac_of 72 Tryz.func124 rfl rfl rfl (fun al w0 F0 St0 => ?_)
  refine jcr ?_
  refine jq jrm ?_
  refine jq jrm ?_
  refine seq_nil ?_
  refine jcs ?_
  refine jcr ?_
  refine jq jrm ?_
  refine jq jrl ?_
  refine jq jrc ?_
  refine seq_nil ?_
  refine jcc (fun h92 => ?_) fun h92 => ?_
  · refine jcs ?_
    refine jcd (.rd 0 (.rd 1 (.rd 2 .done))) ?_
    refine jyq (jrde 1) ?_
    refine jyq jrm ?_
    refine jyq jrm ?_
    refine jyd ?_
    refine jtn ?_
    refine code_ret (jtr (jrt (hv := ?_)))
    have e0 : b.length = 0 := by omega
    unfold maskM; rw [if_pos e0]
    exact CEnt.refl _
  refine code_skip (jtn ?_)
  refine jcs ?_
  refine jcd (.rd 0 (.rd 1 (.rd 2 (.rd 3 (.rd 4 (.rd 5 (.rd 6 (.rd 7 .done)))))))) ?_
  refine jyq jrm ?_
  refine jyq (jri (i := 0)) ?_
  refine jyq jrdr ?_
  refine jyq (jrv8 .i64) ?_
  refine jyq jrm ?_
  refine jyq (jrsf (hz1 := (show (1 : Int) = ((1 : Nat) : Int) from rfl))) ?_
  refine jyq jrm ?_
  refine jyq jrm ?_
  refine jyd ?_
  refine jtn ?_
  refine jcs ?_
  refine code_block ?_
  obtain ⟨x, hx⟩ : ∃ x, x = (b.getD 0 0).toNat := ⟨_, rfl⟩
  have e0 : b.length ≠ 0 := by omega
  refine code_ent (weaken 4 (.c (.int .i64 (x : Nat))) (CEnt.int (by rw [hx]))) ?_
  have e1 : ∀ j, (b.drop 1).getD j 0 = b.getD (j + 1) 0 := fun j => by simp [List.getD, Nat.add_comm]
  have e2 : (b.drop 1).length = b.length - 1 := by simp
  refine jcr ?_
  refine jq jrm ?_
  refine jq jrc ?_
  refine jq jrm ?_
  refine jqsp 21 (fun g97 => ?_) fun g97 => ?_
  · refine jqs ?_
    refine jqs ?_
    refine jqs ?_
    refine jq jrpT ?_
    refine jq jrm ?_
    refine jqs ?_
    refine jqs ?_
    refine jqs ?_
    refine jqs ?_
    refine jqs ?_
    refine jqs ?_
    refine jqs ?_
    refine jq jrpT ?_
    refine jq jrm ?_
    refine seq_nil ?_
    refine jcT ?_
    refine jcs ?_
    refine jcd (.rd 0 (.rd 1 (.rd 2 .done))) ?_
    refine jyq (jrde 3) ?_
    refine jyq jrm ?_
    refine jyq jrm ?_
    refine jyd ?_
    refine jtn ?_
    refine code_ret (jbr (jtr (jrt (hv := ?_))))
    have hM : maskM b = (0, 4) := by
      unfold maskM; rw [if_neg e0, if_pos (by omega)]
    rw [hM]; exact CEnt.refl _
  refine jq jrm ?_
  refine jq jrl ?_
  refine jq jrc ?_
  refine jq jrpF ?_
  refine jq jrm ?_
  refine jqsp 26 (fun g97_2 => ?_) fun g97_2 => ?_
  · refine jqs ?_
    refine jqs ?_
    refine jqs ?_
    refine jqs ?_
    refine jqs ?_
    refine jqs ?_
    refine jqs ?_
    refine jq jrpT ?_
    refine jq jrm ?_
    refine seq_nil ?_
    refine jcT ?_
    refine jcs ?_
    refine jcd (.rd 0 (.rd 1 (.rd 2 .done))) ?_
    refine jyq (jrde 3) ?_
    refine jyq jrm ?_
    refine jyq jrm ?_
    refine jyd ?_
    refine jtn ?_
    refine code_ret (jbr (jtr (jrt (hv := ?_))))
    have hM : maskM b = (0, 4) := by
      unfold maskM; rw [if_neg e0, if_pos (by omega)]
    rw [hM]; exact CEnt.refl _
  refine jq jrm ?_
  refine jq jrl ?_
  refine jq jrc ?_
  refine jq jrm ?_
  refine jqsp 30 (fun g97_3 => ?_) fun g97_3 => ?_
  rotate_left
  · refine jqs ?_
    refine jqs ?_
    refine jq jrpF ?_
    refine jq jrpF ?_
    refine jq jrm ?_
    refine seq_nil ?_
    refine jcF ?_
    refine jcr ?_
    refine jq jrm ?_
    refine jq jrl ?_
    refine jq jrc ?_
    refine jq jrm ?_
    refine seq_nil ?_
    refine jcc (fun h99 => ?_) fun h99 => ?_
    · refine jcr ?_
      refine jq jrm ?_
      refine jq jrm ?_
      refine seq_nil ?_
      refine code_ret (jbr (jtr (jrt (hv := ?_))))
      have hM : maskM b = (0, 0) := by
        unfold maskM; rw [if_neg e0, if_neg (by omega), if_pos (by omega)]
      rw [hM]; exact CEnt.tup2 (CEnt.refl _) CEnt.nil
    have e3 : (b.drop 1).getD (b.length - 2) 0 = b.getD (b.length - 1) 0 := by rw [e1]; congr 1; omega
    refine jcr ?_
    refine jq jrm ?_
    refine jq jrm ?_
    refine jq jrl ?_
    refine jq jra ?_
    refine jq (jri (i := (b.length - 2)) (hz := by omega)) ?_
    refine jq jrdr ?_
    refine jqe (jecP (ntz_ac ((b.drop 1).getD (b.length - 2) 0)) ?_)
    refine jq jrm ?_
    refine jq jrc ?_
    refine jq jrm ?_
    refine seq_nil ?_
    refine jcc (fun h101 => ?_) fun h101 => ?_
    · refine jcs ?_
      refine jcd (.rd 0 (.rd 1 (.rd 2 .done))) ?_
      refine jyq (jrde 3) ?_
      refine jyq jrm ?_
      refine jyq jrm ?_
      refine jyd ?_
      refine jtn ?_
      refine code_ret (jbr (jtr (jrt (hv := ?_))))
      rw [e3] at h101
      have hM : maskM b = (0, 4) := by
        unfold maskM; rw [if_neg e0, if_neg (by omega), if_neg (by omega), if_pos (by omega)]
      rw [hM]; exact CEnt.refl _
    refine code_skip (jbn (jtn ?_))
    rw [e3] at h101
    refine jcr ?_
    refine jq jrm ?_
    refine jq (jri (i := 0)) ?_
    refine jq jrdr ?_
    refine jq (jrv8 .u16) ?_
    refine jq (rd_shl rfl rfl rfl (by (omega)) ((((b.getD 1 0).toNat % 256 * 256 : Nat) : Int)) ((by rw [e1]; exact shl8_16 _ rfl))) ?_
    refine jq jrm ?_
    refine seq_nil ?_
    refine jcs ?_
    refine jcr ?_
    refine jq jrm ?_
    refine jq jrl ?_
    refine jq jrc ?_
    refine seq_nil ?_
    refine jcc (fun h105 => ?_) fun h105 => ?_
    rotate_left
    · refine code_skip (jtn ?_)
      have hT := turned_rev (b := b) (by omega)
      refine code_ent (weaken 6 (.c (.int .u16 (turnedM b : Nat))) (CEnt.int (by unfold turnedM; (rw [if_neg (by omega)]; omega)))) ?_
      refine jcr ?_
      refine jq jrm ?_
      refine jqe (jecP (rev16_ac (turnedM b) hT.1) ?_)
      refine jq (rd_convI rfl rfl Tryz.underlying181 Tryz.underlying3 (((bitsR b : Nat) : Int)) ((by rw [hT.2]; exact wrap_id (k := .i64) (by show _ ∧ _; have := rev16_lt hT.1; rw [hT.2] at this; omega)))) ?_
      refine jq jrm ?_
      refine seq_nil ?_
      refine jcs ?_
      have hM : maskM b = if 32768 ≤ bitsR b then (0, 1) else (bitsR b, 0) := by
        unfold maskM
        rw [if_neg e0, if_neg (by omega), if_neg (by omega), if_neg (by omega)]
        rfl
      refine jcr ?_
      refine jq jrm ?_
      refine jq jrc ?_
      refine seq_nil ?_
      refine jcc (fun h109 => ?_) fun h109 => ?_
      · refine jcs ?_
        refine jcd (.rd 0 (.rd 1 (.rd 2 .done))) ?_
        refine jyq (jrde 0) ?_
        refine jyq jrm ?_
        refine jyq jrm ?_
        refine jyd ?_
        refine jtn ?_
        refine code_ret (jtr (jrt (hv := ?_)))
        rw [hM, if_pos (by omega)]; exact CEnt.refl _
      refine code_skip (jtn ?_)
      refine jcr ?_
      refine jq jrm ?_
      refine jq jrm ?_
      refine jq jrm ?_
      refine seq_nil ?_
      refine code_ret (jrt (hv := ?_))
      have e1 : (maskM b).1 = bitsR b := by rw [hM, if_neg (by omega)]
      have e2 : (maskM b).2 = 0 := by rw [hM, if_neg (by omega)]
      exact CEnt.tup2 (CEnt.int (by rw [e1])) (CEnt.nilE e2)
    refine jcg ?_
    refine jq jrm ?_
    refine jq jrm ?_
    refine jq (jri (i := 1)) ?_
    refine jq jrdr ?_
    refine jq (jrv8 .u16) ?_
    refine jq (rd_or rfl rfl rfl ((((b.getD 2 0).toNat + 256 * ((b.getD 1 0).toNat % 256) : Nat) : Int)) ((by rw [e1]; exact or_lh h82 (by omega)))) ?_
    refine jq jrm ?_
    refine seq_nil ?_
    refine jtn ?_
    have hT := turned_rev (b := b) (by omega)
    refine code_ent (weaken 6 (.c (.int .u16 (turnedM b : Nat))) (CEnt.int (by unfold turnedM; (rw [if_pos (by omega)]; omega)))) ?_
    refine jcr ?_
    refine jq jrm ?_
    refine jqe (jecP (rev16_ac (turnedM b) hT.1) ?_)
    refine jq (rd_convI rfl rfl Tryz.underlying181 Tryz.underlying3 (((bitsR b : Nat) : Int)) ((by rw [hT.2]; exact wrap_id (k := .i64) (by show _ ∧ _; have := rev16_lt hT.1; rw [hT.2] at this; omega)))) ?_
    refine jq jrm ?_
    refine seq_nil ?_
    refine jcs ?_
    have hM : maskM b = if 32768 ≤ bitsR b then (0, 1) else (bitsR b, 0) := by
      unfold maskM
      rw [if_neg e0, if_neg (by omega), if_neg (by omega), if_neg (by omega)]
      rfl
    refine jcr ?_
    refine jq jrm ?_
    refine jq jrc ?_
    refine seq_nil ?_
    refine jcc (fun h109 => ?_) fun h109 => ?_
    · refine jcs ?_
      refine jcd (.rd 0 (.rd 1 (.rd 2 .done))) ?_
      refine jyq (jrde 0) ?_
      refine jyq jrm ?_
      refine jyq jrm ?_
      refine jyd ?_
      refine jtn ?_
      refine code_ret (jtr (jrt (hv := ?_)))
      rw [hM, if_pos (by omega)]; exact CEnt.refl _
    refine code_skip (jtn ?_)
    refine jcr ?_
    refine jq jrm ?_
    refine jq jrm ?_
    refine jq jrm ?_
    refine seq_nil ?_
    refine code_ret (jrt (hv := ?_))
    have e1 : (maskM b).1 = bitsR b := by rw [hM, if_neg (by omega)]
    have e2 : (maskM b).2 = 0 := by rw [hM, if_neg (by omega)]
    exact CEnt.tup2 (CEnt.int (by rw [e1])) (CEnt.nilE e2)
  refine jq jrm ?_
  refine jq jrc ?_
  refine jq jrpT ?_
  refine jq jrpF ?_
  refine jq jrm ?_
  refine seq_nil ?_
  refine jcc (fun h97 => ?_) fun h97 => ?_
  · refine jcs ?_
    refine jcd (.rd 0 (.rd 1 (.rd 2 .done))) ?_
    refine jyq (jrde 3) ?_
    refine jyq jrm ?_
    refine jyq jrm ?_
    refine jyd ?_
    refine jtn ?_
    refine code_ret (jbr (jtr (jrt (hv := ?_))))
    have hM : maskM b = (0, 4) := by
      unfold maskM; rw [if_neg e0, if_pos (by omega)]
    rw [hM]; exact CEnt.refl _
  refine jcr ?_
  refine jq jrm ?_
  refine jq jrl ?_
  refine jq jrc ?_
  refine jq jrm ?_
  refine seq_nil ?_
  refine jcc (fun h99 => ?_) fun h99 => ?_
  · refine jcr ?_
    refine jq jrm ?_
    refine jq jrm ?_
    refine seq_nil ?_
    refine code_ret (jbr (jtr (jrt (hv := ?_))))
    have hM : maskM b = (0, 0) := by
      unfold maskM; rw [if_neg e0, if_neg (by omega), if_pos (by omega)]
    rw [hM]; exact CEnt.tup2 (CEnt.refl _) CEnt.nil
  have e3 : (b.drop 1).getD (b.length - 2) 0 = b.getD (b.length - 1) 0 := by rw [e1]; congr 1; omega
  refine jcr ?_
  refine jq jrm ?_
  refine jq jrm ?_
  refine jq jrl ?_
  refine jq jra ?_
  refine jq (jri (i := (b.length - 2)) (hz := by omega)) ?_
  refine jq jrdr ?_
  refine jqe (jecP (ntz_ac ((b.drop 1).getD (b.length - 2) 0)) ?_)
  refine jq jrm ?_
  refine jq jrc ?_
  refine jq jrm ?_
  refine seq_nil ?_
  refine jcc (fun h101 => ?_) fun h101 => ?_
  · refine jcs ?_
    refine jcd (.rd 0 (.rd 1 (.rd 2 .done))) ?_
    refine jyq (jrde 3) ?_
    refine jyq jrm ?_
    refine jyq jrm ?_
    refine jyd ?_
    refine jtn ?_
    refine code_ret (jbr (jtr (jrt (hv := ?_))))
    rw [e3] at h101
    have hM : maskM b = (0, 4) := by
      unfold maskM; rw [if_neg e0, if_neg (by omega), if_neg (by omega), if_pos (by omega)]
    rw [hM]; exact CEnt.refl _
  refine code_skip (jbn (jtn ?_))
  rw [e3] at h101
  refine jcr ?_
  refine jq jrm ?_
  refine jq (jri (i := 0)) ?_
  refine jq jrdr ?_
  refine jq (jrv8 .u16) ?_
  refine jq (rd_shl rfl rfl rfl (by (omega)) ((((b.getD 1 0).toNat % 256 * 256 : Nat) : Int)) ((by rw [e1]; exact shl8_16 _ rfl))) ?_
  refine jq jrm ?_
  refine seq_nil ?_
  refine jcs ?_
  refine jcr ?_
  refine jq jrm ?_
  refine jq jrl ?_
  refine jq jrc ?_
  refine seq_nil ?_
  refine jcc (fun h105 => ?_) fun h105 => ?_
  rotate_left
  · refine code_skip (jtn ?_)
    have hT := turned_rev (b := b) (by omega)
    refine code_ent (weaken 6 (.c (.int .u16 (turnedM b : Nat))) (CEnt.int (by unfold turnedM; (rw [if_pos (by omega)]; omega)))) ?_
    refine jcr ?_
    refine jq jrm ?_
    refine jqe (jecP (rev16_ac (turnedM b) hT.1) ?_)
    refine jq (rd_convI rfl rfl Tryz.underlying181 Tryz.underlying3 (((bitsR b : Nat) : Int)) ((by rw [hT.2]; exact wrap_id (k := .i64) (by show _ ∧ _; have := rev16_lt hT.1; rw [hT.2] at this; omega)))) ?_
    refine jq jrm ?_
    refine seq_nil ?_
    refine jcs ?_
    have hM : maskM b = if 32768 ≤ bitsR b then (0, 1) else (bitsR b, 0) := by
      unfold maskM
      rw [if_neg e0, if_neg (by omega), if_neg (by omega), if_neg (by omega)]
      rfl
    refine jcr ?_
    refine jq jrm ?_
    refine jq jrc ?_
    refine seq_nil ?_
    refine jcc (fun h109 => ?_) fun h109 => ?_
    · refine jcs ?_
      refine jcd (.rd 0 (.rd 1 (.rd 2 .done))) ?_
      refine jyq (jrde 0) ?_
      refine jyq jrm ?_
      refine jyq jrm ?_
      refine jyd ?_
      refine jtn ?_
      refine code_ret (jtr (jrt (hv := ?_)))
      rw [hM, if_pos (by omega)]; exact CEnt.refl _
    refine code_skip (jtn ?_)
    refine jcr ?_
    refine jq jrm ?_
    refine jq jrm ?_
    refine jq jrm ?_
    refine seq_nil ?_
    refine code_ret (jrt (hv := ?_))
    have e1 : (maskM b).1 = bitsR b := by rw [hM, if_neg (by omega)]
    have e2 : (maskM b).2 = 0 := by rw [hM, if_neg (by omega)]
    exact CEnt.tup2 (CEnt.int (by rw [e1])) (CEnt.nilE e2)
  refine jcg ?_
  refine jq jrm ?_
  refine jq jrm ?_
  refine jq (jri (i := 1)) ?_
  refine jq jrdr ?_
  refine jq (jrv8 .u16) ?_
  refine jq (rd_or rfl rfl rfl ((((b.getD 2 0).toNat + 256 * ((b.getD 1 0).toNat % 256) : Nat) : Int)) ((by rw [e1]; exact or_lh h82 (by omega)))) ?_
  refine jq jrm ?_
  refine seq_nil ?_
  refine jtn ?_
  have hT := turned_rev (b := b) (by omega)
  refine code_ent (weaken 6 (.c (.int .u16 (turnedM b : Nat))) (CEnt.int (by unfold turnedM; (rw [if_pos (by omega)]; omega)))) ?_
  refine jcr ?_
  refine jq jrm ?_
  refine jqe (jecP (rev16_ac (turnedM b) hT.1) ?_)
  refine jq (rd_convI rfl rfl Tryz.underlying181 Tryz.underlying3 (((bitsR b : Nat) : Int)) ((by rw [hT.2]; exact wrap_id (k := .i64) (by show _ ∧ _; have := rev16_lt hT.1; rw [hT.2] at this; omega)))) ?_
  refine jq jrm ?_
  refine seq_nil ?_
  refine jcs ?_
  have hM : maskM b = if 32768 ≤ bitsR b then (0, 1) else (bitsR b, 0) := by
    unfold maskM
    rw [if_neg e0, if_neg (by omega), if_neg (by omega), if_neg (by omega)]
    rfl
  refine jcr ?_
  refine jq jrm ?_
  refine jq jrc ?_
  refine seq_nil ?_
  refine jcc (fun h109 => ?_) fun h109 => ?_
  · refine jcs ?_
    refine jcd (.rd 0 (.rd 1 (.rd 2 .done))) ?_
    refine jyq (jrde 0) ?_
    refine jyq jrm ?_
    refine jyq jrm ?_
    refine jyd ?_
    refine jtn ?_
    refine code_ret (jtr (jrt (hv := ?_)))
    rw [hM, if_pos (by omega)]; exact CEnt.refl _
  refine code_skip (jtn ?_)
  refine jcr ?_
  refine jq jrm ?_
  refine jq jrm ?_
  refine jq jrm ?_
  refine seq_nil ?_
  refine code_ret (jrt (hv := ?_))
  have e1 : (maskM b).1 = bitsR b := by rw [hM, if_neg (by omega)]
  have e2 : (maskM b).2 = 0 := by rw [hM, if_neg (by omega)]
  exact CEnt.tup2 (CEnt.int (by rw [e1])) (CEnt.nilE e2)

def rF (M n i : Nat) (j : Nat) : CV := .c (.int .u8 ((gF M n i j : Nat) : Int))
end Am
end Go.Proofs.YtgnjjenalebiaaaGreatDoor

/- Chapter 7: the laws TextsFlags and TextsMask. -/
namespace Go.Proofs.YtgnjjenalebiaaaGreatDoor
namespace Am
variable {gs : List Nat} [OkG gs]
open Go.RowKit
set_option linter.unusedVariables false
set_option maxRecDepth 100000

end Am
end Go.Proofs.YtgnjjenalebiaaaGreatDoor

/- Chapter 9, plain: labels, subjects, their texts and parts. -/
namespace Go.Proofs.YtgnjjenalebiaaaGreatDoor
namespace Am
open Go.RowKit
set_option linter.unusedVariables false

/-! ### labels -/
def lch (c : UInt8) : Bool := (decide (97 ≤ c.toNat) && decide (c.toNat ≤ 122)) || (decide (48 ≤ c.toNat) && decide (c.toNat ≤ 57)) || decide (c.toNat = 45)
def labM (l : List UInt8) : Bool := decide (l ≠ []) && decide (l.length ≤ 24) && decide (l.getD 0 0 ≠ 45) && decide (l.getD (l.length - 1) 0 ≠ 45) && l.all lch
/-! ### subjects -/
abbrev S3 := Int × List UInt8 × List UInt8
def wordL : List (List UInt8) := [[110, 111, 100, 101], [119, 111, 114, 107, 108, 111, 97, 100], [111, 112, 101, 114, 97, 116, 111, 114], [98, 111, 111, 116], [99, 97]]
def wordM (k : Int) : List UInt8 := if k < 1 then [] else wordL.getD (k - 1).toNat []
def rightS (s : S3) : Bool := decide (1 ≤ s.1) && decide (s.1 ≤ 5) && labM s.2.2 && (if s.1 = 2 then labM s.2.1 else decide (s.2.1 = []))
theorem kinds {k : Int} (h1 : 1 ≤ k) (h5 : k ≤ 5) : k = 1 ∨ k = 2 ∨ k = 3 ∨ k = 4 ∨ k = 5 := by omega
/-- what stands before and behind the first byte c; is there one -/
def cutM (c : UInt8) : List UInt8 → List UInt8 × List UInt8 × Bool
  | [] => ([], [], false)
  | x :: l => if x = c then ([], l, true) else (x :: (cutM c l).1, (cutM c l).2.1, (cutM c l).2.2)
def textS (s : S3) : List UInt8 := wordM s.1 ++ 58 :: (if s.2.1 = [] then s.2.2 else s.2.1 ++ 47 :: s.2.2)
/-- the index of a word, from 1 on; 0: it is none -/
def idxW (w : List UInt8) : Int := if w ∈ wordL then (wordL.idxOf w : Nat) + 1 else 0
/-- what a text is taken for -/
def guessT (t : List UInt8) : S3 :=
  if (cutM 47 (cutM 58 t).2.1).2.2 = true then (idxW (cutM 58 t).1, (cutM 47 (cutM 58 t).2.1).1, (cutM 47 (cutM 58 t).2.1).2.1) else (idxW (cutM 58 t).1, [], (cutM 58 t).2.1)
def zeroS : S3 := (0, [], [])
/-- a text's subject; the error's number -/
def parseT (t : List UInt8) : S3 × Nat := if rightS (guessT t) = true ∧ textS (guessT t) = t then (guessT t, 0) else (zeroS, 9)
/-- the reference's: a text as a subject of a kind -/
def asKind (t : List UInt8) (k : Int) : S3 :=
  if k = 2 ∧ (cutM 47 (t.drop ((wordM k).length + 1))).2.2 = true then (k, (cutM 47 (t.drop ((wordM k).length + 1))).1, (cutM 47 (t.drop ((wordM k).length + 1))).2.1) else (k, [], t.drop ((wordM k).length + 1))
def isKind (t : List UInt8) (k : Int) : Prop := (wordM k).length + 1 ≤ t.length ∧ t.take ((wordM k).length + 1) = wordM k ++ [58] ∧ rightS (asKind t k) = true ∧ textS (asKind t k) = t
/-! ### parts -/
def oidB : List UInt8 := [49, 46, 51, 46, 57, 57, 57, 57, 46, 49, 46]
def oidK : List UInt8 := oidB ++ [49]
def oidS : List UInt8 := oidB ++ [50]
def oidN : List UInt8 := oidB ++ [51]
abbrev P2 := List UInt8 × List UInt8
def partsS (s : S3) : List P2 := if s.2.1 = [] then [(oidK, wordM s.1), (oidN, s.2.2)] else [(oidK, wordM s.1), (oidS, s.2.1), (oidN, s.2.2)]
/-- what parts make of a subject, part by part -/
def stepP (s : S3) (p : P2) : S3 := if p.1 = oidK then (idxW p.2, s.2.1, s.2.2) else if p.1 = oidS then (s.1, p.2, s.2.2) else if p.1 = oidN then (s.1, s.2.1, p.2) else s
def guessP (l : List P2) : S3 := l.foldl stepP zeroS
/-- the subject of parts; the error's number -/
def ofP (l : List P2) : S3 × Nat := if rightS (guessP l) = true ∧ partsS (guessP l) = l then (guessP l, 0) else (zeroS, 9)
/-- the reference's: parts as those of a subject of a kind -/
def asKindP (l : List P2) (k : Int) : S3 := (k, (if k = 2 ∧ 1 < l.length then (l.getD 1 ([], [])).2 else []), (if 0 < l.length then (l.getD (l.length - 1) ([], [])).2 else []))
def isKindP (l : List P2) (k : Int) : Prop := rightS (asKindP l k) = true ∧ partsS (asKindP l k) = l
end Am
end Go.Proofs.YtgnjjenalebiaaaGreatDoor

/- Chapter 7: labels. -/
namespace Go.Proofs.YtgnjjenalebiaaaGreatDoor
set_option linter.unusedVariables false
namespace Am
open Go.RowKit
set_option maxRecDepth 100000

/-! ### labels -/
def letL : List UInt8 := [97, 98, 99, 100, 101, 102, 103, 104, 105, 106, 107, 108, 109, 110, 111, 112, 113, 114, 115, 116, 117, 118, 119, 120, 121, 122, 48, 49, 50, 51, 52, 53, 54, 55, 56, 57]
end Am
end Go.Proofs.YtgnjjenalebiaaaGreatDoor

/- Chapter 7: labels; texts as bodies. -/
namespace Go.Proofs.YtgnjjenalebiaaaGreatDoor
set_option linter.unusedVariables false
namespace Am
variable {gs : List Nat} [Ok9 gs]
open Go.RowKit
set_option maxRecDepth 100000

/-! ### texts as bodies -/
theorem asked_ac [OkT gs] (l : List UInt8) (most : Int) (hl : l.length ≤ 1000000000) : ACp gs Tryz.prog 140 [strC l, .c (.int .i64 most)] (.err (askedM l most)) := by
  refine ac_of 20 Tryz.func140 rfl rfl rfl (fun al w0 F0 St0 => ?_)
  refine jcr ?_
  refine jq jrm ?_
  refine seq_nil ?_
  refine jcs ?_
  refine code_block ?_
  refine jcr ?_
  refine jq jrm ?_
  refine jq jrcs ?_
  refine jq jrm ?_
  refine seq_nil ?_
  refine jcc (fun h47 => ?_) fun h47 => ?_
  · refine jcr ?_
    refine jq (jrde 1) ?_
    refine jq jrm ?_
    refine seq_nil ?_
    refine code_ret (jbr (jtr (jrt (hv := CEnt.errN (by unfold askedM; rw [if_pos (by simpa using h47)])))))
  refine jcr ?_
  refine jq jrm ?_
  refine jq jrls ?_
  refine jq jrm ?_
  refine jq jrc ?_
  refine jq jrm ?_
  refine seq_nil ?_
  refine jcc (fun h49 => ?_) fun h49 => ?_
  · refine jcr ?_
    refine jq (jrde 2) ?_
    refine jq jrm ?_
    refine seq_nil ?_
    refine code_ret (jbr (jtr (jrt (hv := CEnt.errN (by unfold askedM; rw [if_neg (by simpa using h47), if_pos h49])))))
  refine jcr ?_
  refine jq jrm ?_
  refine jqe (jecP (plain07_ac l hl) ?_)
  refine jq jrn ?_
  refine jq jrm ?_
  refine seq_nil ?_
  refine jcc (fun h51 => ?_) fun h51 => ?_
  · refine jcr ?_
    refine jq (jrde 7) ?_
    refine jq jrm ?_
    refine seq_nil ?_
    refine code_ret (jbr (jtr (jrt (hv := CEnt.errN (by unfold askedM; rw [if_neg (by simpa using h47), if_neg h49, if_pos (by simpa using h51)])))))
  refine code_skip (jbn (jtn ?_))
  refine jcr ?_
  refine jq jrm ?_
  refine seq_nil ?_
  refine code_ret (jrt (hv := CEnt.nilE (by unfold askedM; rw [if_neg (by simpa using h47), if_neg h49, if_neg (by simpa using h51)])))
theorem xput_ac [OkT gs] (l : List UInt8) (most : Int) (hl : l.length ≤ 1000000000) : ACp gs Tryz.prog 103 [strC l, .c (.int .i64 most)] (.tup 2 (fl [bsC (if askedM l most = 0 then l else []), .err (askedM l most)])) := by
  refine ac_of 15 Tryz.func103 rfl rfl rfl (fun al w0 F0 St0 => ?_)
  refine jcr ?_
  refine jq jrm ?_
  refine jq jrm ?_
  refine seq_nil ?_
  refine jcs ?_
  refine jcr ?_
  refine jq jrm ?_
  refine jq jrm ?_
  refine jqe (jecP (asked_ac l most hl) ?_)
  refine jq jrm ?_
  refine seq_nil ?_
  refine jcr ?_
  refine jq jrm ?_
  refine jq jre ?_
  refine seq_nil ?_
  refine jcc (fun h59 => ?_) fun h59 => ?_
  · refine jcr ?_
    refine jq jrm ?_
    refine jq jrm ?_
    refine jq jrm ?_
    refine seq_nil ?_
    refine code_ret (jtr (jrt (hv := CEnt.tup2 (CEnt.nilS' (by rw [if_neg h59]; rfl)) (CEnt.refl _))))
  refine code_skip (jtn ?_)
  refine jcr ?_
  refine jq jrm ?_
  refine jqe (jecv ?_)
  refine jq jrm ?_
  refine jq jrm ?_
  refine seq_nil ?_
  refine code_ret (jrt (hv := ?_))
  have h : askedM l most = 0 := by omega
  exact CEnt.tup2 (CEnt.bs (by rw [if_pos h])) (CEnt.nilE h)
theorem xget_ac [OkT gs] (l : List UInt8) (most : Int) (hl : l.length ≤ 1000000000) : ACp gs Tryz.prog 121 [bsC l, .c (.int .i64 most)] (.tup 2 (fl [strC (if askedM l most = 0 then l else []), .err (askedM l most)])) := by
  refine ac_of 17 Tryz.func121 rfl rfl rfl (fun al w0 F0 St0 => ?_)
  refine jcr ?_
  refine jq jrm ?_
  refine jq jrm ?_
  refine seq_nil ?_
  refine jcr ?_
  refine jq jrm ?_
  first | refine jq jrbs ?_ | refine jqo jrbo ?_ | refine jq jrbn ?_
  refine jq jrm ?_
  refine seq_nil ?_
  refine jcs ?_
  refine jcr ?_
  refine jq jrm ?_
  refine jq jrm ?_
  refine jqe (jecP (asked_ac l most hl) ?_)
  refine jq jrm ?_
  refine seq_nil ?_
  refine jcr ?_
  refine jq jrm ?_
  refine jq jre ?_
  refine seq_nil ?_
  refine jcc (fun h68 => ?_) fun h68 => ?_
  · refine jcr ?_
    refine jq jrm ?_
    refine jq jrm ?_
    refine jq jrm ?_
    refine seq_nil ?_
    refine code_ret (jtr (jrt (hv := CEnt.tup2 (CEnt.strL (by rw [if_neg h68])) (CEnt.refl _))))
  refine code_skip (jtn ?_)
  refine jcr ?_
  refine jq jrm ?_
  refine jq jrm ?_
  refine jq jrm ?_
  refine seq_nil ?_
  refine code_ret (jrt (hv := ?_))
  have h : askedM l most = 0 := by omega
  exact CEnt.tup2 (CEnt.strL (by rw [if_pos h])) (CEnt.nilE h)
end Am
end Go.Proofs.YtgnjjenalebiaaaGreatDoor

/- Chapter 8: the writer: Done; values. -/
namespace Go.Proofs.YtgnjjenalebiaaaGreatDoor
set_option linter.unusedVariables false
namespace Am
variable {gs : List Nat} [Ok9 gs]
open Go.RowKit Cal
set_option maxRecDepth 100000

theorem doneW_ac (n : Nat) (s : W8) (hs : OkW s) : AC gs Tryz.prog 11 [wrO n s] [.op 0 (some n) 0] (fun r H' => r = .tup 2 (fl [bsC (doneB s), .err (doneK s)]) ∧ H' = [wrO n s]) := by
  have hsd := hs.d
  have bad : ∀ {e}, doneK s = e → e ≠ 0 → doneB s = [] := fun h h0 => by unfold doneB; rw [h, if_neg h0]
  refine ac_of 35 Tryz.func11 rfl rfl rfl (fun al w0 F0 St0 => ?_)
  refine jcr ?_
  refine jq jrm ?_
  refine jq jrm ?_
  refine seq_nil ?_
  refine jcs ?_
  refine code_block ?_
  refine code_openW 0 rfl fun go gd zs hzs => ?_
  refine jcr ?_
  refine jq jrm ?_
  refine jq jrnc ?_
  refine jq (jrfa 2 1 false) ?_
  refine jqo jrdo ?_
  refine jq jre ?_
  refine jq jrm ?_
  refine seq_nil ?_
  refine jcc (fun h140 => ?_) fun h140 => ?_
  · refine jcs ?_
    refine jcd (.rd 0 (.rd 1 (.rd 2 (.rd 3 (.rd 4 (.rd 5 .done)))))) ?_
    refine jyq jrm ?_
    refine jyq jrnc ?_
    refine jyq (jrfa 2 1 false) ?_
    refine jyo jrdo ?_
    refine jyq jrm ?_
    refine jyq jrm ?_
    refine jyd ?_
    refine jtn ?_
    refine code_ret (jbr (jtr ?_))
    have e : doneK s = s.k := by unfold doneK; rw [if_pos (by omega)]
    exact end_packV (gd := fun z : WZ8 s.fr => z.1.1) (E := wrE s) (.inl rfl) ⟨(n, go, gd, zs), hzs⟩ [0, 1, 2, 3] (by decide) rfl (res_2 rfl javt javt) (CEnt.tup2 (by rw [bad e (by omega)]; exact CEnt.nilB) (CEnt.err e.symm))
  refine jcr ?_
  refine jq jrm ?_
  refine jq jrnc ?_
  refine jq (jrfa 0 1 false) ?_
  refine jqo jrdo ?_
  refine jq jrl ?_
  refine jq jrc ?_
  refine jq jrm ?_
  refine seq_nil ?_
  refine jcc (fun h142 => ?_) fun h142 => ?_
  · refine jcs ?_
    refine jcd (.rd 0 (.rd 1 (.rd 2 .done))) ?_
    refine jyq (jrde 23) ?_
    refine jyq jrm ?_
    refine jyq jrm ?_
    refine jyd ?_
    refine jtn ?_
    refine code_ret (jbr (jtr ?_))
    have e : doneK s = 24 := by unfold doneK; rw [if_neg (by omega), if_pos (by intro h; rw [h] at h142; simp at h142)]
    exact end_packV (gd := fun z : WZ8 s.fr => z.1.1) (E := wrE s) (.inl rfl) ⟨(n, go, gd, zs), hzs⟩ [0, 1, 2, 3] (by decide) rfl (res_2 rfl javt javt) (CEnt.tup2 (by rw [bad e (by omega)]; exact CEnt.nilB) (CEnt.err e.symm))
  refine jcr ?_
  refine jq jrm ?_
  refine jq jrnc ?_
  refine jq (jrfa 1 1 false) ?_
  refine jqo jrdo ?_
  refine jq jrl ?_
  refine jq jrc ?_
  refine jq jrm ?_
  refine seq_nil ?_
  refine jcc (fun h144 => ?_) fun h144 => ?_
  · refine jcs ?_
    refine jcd (.rd 0 (.rd 1 (.rd 2 .done))) ?_
    refine jyq (jrde 2) ?_
    refine jyq jrm ?_
    refine jyq jrm ?_
    refine jyd ?_
    refine jtn ?_
    refine code_ret (jbr (jtr ?_))
    have hf0 : s.fr = [] := List.eq_nil_of_length_eq_zero (by omega)
    have e : doneK s = 3 := by unfold doneK; rw [if_neg (by omega), if_neg (by simp [hf0]), if_pos (by omega)]
    exact end_packV (gd := fun z : WZ8 s.fr => z.1.1) (E := wrE s) (.inl rfl) ⟨(n, go, gd, zs), hzs⟩ [0, 1, 2, 3] (by decide) rfl (res_2 rfl javt javt) (CEnt.tup2 (by rw [bad e (by omega)]; exact CEnt.nilB) (CEnt.err e.symm))
  refine code_skip (jbn (jtn ?_))
  refine jcr ?_
  refine jq jrm ?_
  refine jq jrnc ?_
  refine jq (jrfa 1 1 false) ?_
  refine jqo jrdo ?_
  refine jqm (jmcH 2 (cloneO_ac s.d gd (by omega)) ?_)
  rintro _ _ ⟨rfl, rfl⟩
  refine ⟨_, _, rfl, CEnt.refl _, ?_⟩
  refine jq jrm ?_
  refine jq jrm ?_
  refine seq_nil ?_
  refine code_ret ?_
  have hf0 : s.fr = [] := List.eq_nil_of_length_eq_zero (by omega)
  have e : doneK s = 0 := by unfold doneK; rw [if_neg (by omega), if_neg (by simp [hf0]), if_neg (by omega)]
  exact end_packV (gd := fun z : WZ8 s.fr => z.1.1) (E := wrE s) (.inl rfl) ⟨(n, go, gd, zs), hzs⟩ [0, 1, 2, 3] (by decide) rfl (res_2 rfl javt javt) (CEnt.tup2 (CEnt.bs (by unfold doneB; rw [if_pos e])) (CEnt.nilE e))
theorem intW_ac (n : Nat) (s : W8) (z : Int) (hz : -9223372036854775808 ≤ z ∧ z ≤ 9223372036854775807) (hs : OkW s) : AC gs Tryz.prog 45 [wrO n s] [.op 0 (some n) 0, .c (.int .i64 z)] (fun r H' => r = .c (.tuple #[]) ∧ H' = [wrO n (putW 2 (putN z) 0 s)]) := by
  have hl := (putN_len z hz.1 hz.2).2
  refine ac_of 8 Tryz.func45 rfl rfl rfl (fun al w0 F0 St0 => ?_)
  refine jcg ?_
  refine jq jrm ?_
  refine jq jrm ?_
  refine jqe (jecP (wput_ac z hz.1 hz.2) ?_)
  refine jqm (jmcH 0 (putW_ac n s 2 (putN z) 0 hs (by omega)) ?_)
  rintro _ _ ⟨rfl, rfl⟩
  refine ⟨_, _, rfl, CEnt.refl _, ?_⟩
  refine seq_nil ?_
  exact end_own (.inr rfl) _ [_] [0] (by decide) rfl (res_0 rfl) ⟨rfl, rfl⟩
theorem enumW_ac (n : Nat) (s : W8) (z : Int) (hz : -9223372036854775808 ≤ z ∧ z ≤ 9223372036854775807) (hs : OkW s) : AC gs Tryz.prog 55 [wrO n s] [.op 0 (some n) 0, .c (.int .i64 z)] (fun r H' => r = .c (.tuple #[]) ∧ H' = [wrO n (putW 10 (putN z) 0 s)]) := by
  have hl := (putN_len z hz.1 hz.2).2
  refine ac_of 8 Tryz.func55 rfl rfl rfl (fun al w0 F0 St0 => ?_)
  refine jcg ?_
  refine jq jrm ?_
  refine jq jrm ?_
  refine jqe (jecP (wput_ac z hz.1 hz.2) ?_)
  refine jqm (jmcH 0 (putW_ac n s 10 (putN z) 0 hs (by omega)) ?_)
  rintro _ _ ⟨rfl, rfl⟩
  refine ⟨_, _, rfl, CEnt.refl _, ?_⟩
  refine seq_nil ?_
  exact end_own (.inr rfl) _ [_] [0] (by decide) rfl (res_0 rfl) ⟨rfl, rfl⟩
theorem boolW_ac (n : Nat) (s : W8) (z : Bool) (hs : OkW s) : AC gs Tryz.prog 56 [wrO n s] [.op 0 (some n) 0, .c (.bool z)] (fun r H' => r = .c (.tuple #[]) ∧ H' = [wrO n (putW 1 [if z then 255 else 0] 0 s)]) := by
  refine ac_of 8 Tryz.func56 rfl rfl rfl (fun al w0 F0 St0 => ?_)
  refine jcg ?_
  refine jq jrm ?_
  refine jq jrm ?_
  refine jqe (jecP (truth_ac z) ?_)
  refine jqm (jmcH 0 (putW_ac n s 1 [if z then 255 else 0] 0 hs (by simp)) ?_)
  rintro _ _ ⟨rfl, rfl⟩
  refine ⟨_, _, rfl, CEnt.refl _, ?_⟩
  refine seq_nil ?_
  exact end_own (.inr rfl) _ [_] [0] (by decide) rfl (res_0 rfl) ⟨rfl, rfl⟩
theorem octetsW_ac (n : Nat) (s : W8) (b : List UInt8) (hb : b.length ≤ 1000000) (hs : OkW s) : AC gs Tryz.prog 57 [wrO n s] [.op 0 (some n) 0, bsC b] (fun r H' => r = .c (.tuple #[]) ∧ H' = [wrO n (putW 4 b 0 s)]) := by
  refine ac_of 7 Tryz.func57 rfl rfl rfl (fun al w0 F0 St0 => ?_)
  refine jcg ?_
  refine jq jrm ?_
  refine jq jrm ?_
  refine jqm (jmcH 0 (putW_ac n s 4 b 0 hs hb) ?_)
  rintro _ _ ⟨rfl, rfl⟩
  refine ⟨_, _, rfl, CEnt.refl _, ?_⟩
  refine seq_nil ?_
  exact end_own (.inr rfl) _ [_] [0] (by decide) rfl (res_0 rfl) ⟨rfl, rfl⟩
theorem textW_ac [OkT gs] (n : Nat) (s : W8) (t : List UInt8) (most : Int) (ht : t.length ≤ 1000000) (hs : OkW s) : AC gs Tryz.prog 58 [wrO n s] [.op 0 (some n) 0, strC t, .c (.int .i64 most)] (fun r H' => r = .c (.tuple #[]) ∧ H' = [wrO n (putW 12 (if askedM t most = 0 then t else []) (askedM t most) s)]) := by
  have hl : (if askedM t most = 0 then t else []).length ≤ 1000000 := by split <;> first | omega | simp
  refine ac_of 18 Tryz.func58 rfl rfl rfl (fun al w0 F0 St0 => ?_)
  refine jcr ?_
  refine jq jrm ?_
  refine jq jrm ?_
  refine jqe (jecP (xput_ac t most (by omega)) ?_)
  refine jq jrm ?_
  refine jq jrx ?_
  refine jq jrx ?_
  refine jq jrm ?_
  refine jq jrm ?_
  refine seq_nil ?_
  refine jcg ?_
  refine jq jrm ?_
  refine jq jrm ?_
  refine jq jrm ?_
  refine jqm (jmcH 0 (putW_ac n s 12 (if askedM t most = 0 then t else []) (askedM t most) hs hl) ?_)
  rintro _ _ ⟨rfl, rfl⟩
  refine ⟨_, _, rfl, CEnt.refl _, ?_⟩
  refine seq_nil ?_
  exact end_own (.inr rfl) _ [_] [0] (by decide) rfl (res_0 rfl) ⟨rfl, rfl⟩
theorem momentW_ac (n : Nat) (s : W8) (z : Int) (hs : OkW s) : AC gs Tryz.prog 60 [wrO n s] [.op 0 (some n) 0, .c (.int .i64 z)] (fun r H' => r = .c (.tuple #[]) ∧ H' = [wrO n (putW 24 (if inT z then bodyL (ofM z) else []) (ofE z) s)]) := by
  have hbl : (if inT z then bodyL (ofM z) else []).length ≤ 1000000 := by
    split
    · exact Nat.le_trans (Nat.le_of_eq (show (bodyL (ofM z)).length = 15 from rfl)) (by decide)
    · simp
  refine ac_of 15 Tryz.func60 rfl rfl rfl (fun al w0 F0 St0 => ?_)
  refine jcr ?_
  refine jq jrm ?_
  refine jqe (jecP (put_ac z) ?_)
  refine jq jrm ?_
  refine jq jrx ?_
  refine jq jrx ?_
  refine jq jrm ?_
  refine jq jrm ?_
  refine seq_nil ?_
  refine jcg ?_
  refine jq jrm ?_
  refine jq jrm ?_
  refine jq jrm ?_
  refine jqm (jmcH 0 (putW_ac n s 24 (if inT z then bodyL (ofM z) else []) (ofE z) hs hbl) ?_)
  rintro _ _ ⟨rfl, rfl⟩
  refine ⟨_, _, rfl, CEnt.refl _, ?_⟩
  refine seq_nil ?_
  exact end_own (.inr rfl) _ [_] [0] (by decide) rfl (res_0 rfl) ⟨rfl, rfl⟩
theorem oidW_ac (n : Nat) (s : W8) (t : List UInt8) (ht : t.length ≤ 1000000) (hs : OkW s) : AC gs Tryz.prog 59 [wrO n s] [.op 0 (some n) 0, strC t] (fun r H' => r = .c (.tuple #[]) ∧ H' = [wrO n (putW 6 (putM t) (parseM t).2 s)]) := by
  have hl : (putM t).length ≤ 1000000 := Nat.le_trans (put_len t) (by decide)
  refine ac_of 15 Tryz.func59 rfl rfl rfl (fun al w0 F0 St0 => ?_)
  refine jcr ?_
  refine jq jrm ?_
  refine jqe (jecP (oput_ac t (by omega)) ?_)
  refine jq jrm ?_
  refine jq jrx ?_
  refine jq jrx ?_
  refine jq jrm ?_
  refine jq jrm ?_
  refine seq_nil ?_
  refine jcg ?_
  refine jq jrm ?_
  refine jq jrm ?_
  refine jq jrm ?_
  refine jqm (jmcH 0 (putW_ac n s 6 (putM t) (parseM t).2 hs hl) ?_)
  rintro _ _ ⟨rfl, rfl⟩
  refine ⟨_, _, rfl, CEnt.refl _, ?_⟩
  refine seq_nil ?_
  exact end_own (.inr rfl) _ [_] [0] (by decide) rfl (res_0 rfl) ⟨rfl, rfl⟩
theorem flagsW_ac (n : Nat) (s : W8) (z : Int) (hs : OkW s) : AC gs Tryz.prog 62 [wrO n s] [.op 0 (some n) 0, .c (.int .i64 z)] (fun r H' => r = .c (.tuple #[]) ∧ H' = [wrO n (putW 3 (bitsL z) (bitsE z) s)]) := by
  have hf : ACp gs Tryz.prog 107 [.c (.int .i64 z)] (.tup 2 (fl [bsC (bitsL z), .err (bitsE z)])) := by
    unfold bitsL bitsE
    by_cases h : z < 0 ∨ 32767 < z
    · rw [if_pos h, if_pos h]; exact flags_bad z h
    · rw [if_neg h, if_neg h]
      have := flags_ac (gs := gs) z.toNat (by omega)
      rwa [Int.toNat_of_nonneg (by omega)] at this
  have hl : (bitsL z).length ≤ 1000000 := by
    unfold bitsL
    split
    · simp
    · rw [flags_len (by omega)]
      have := (bl_is (m := z.toNat) (by omega)).2
      omega
  refine ac_of 15 Tryz.func62 rfl rfl rfl (fun al w0 F0 St0 => ?_)
  refine jcr ?_
  refine jq jrm ?_
  refine jqe (jecP hf ?_)
  refine jq jrm ?_
  refine jq jrx ?_
  refine jq jrx ?_
  refine jq jrm ?_
  refine jq jrm ?_
  refine seq_nil ?_
  refine jcg ?_
  refine jq jrm ?_
  refine jq jrm ?_
  refine jq jrm ?_
  refine jqm (jmcH 0 (putW_ac n s 3 (bitsL z) (bitsE z) hs hl) ?_)
  rintro _ _ ⟨rfl, rfl⟩
  refine ⟨_, _, rfl, CEnt.refl _, ?_⟩
  refine seq_nil ?_
  exact end_own (.inr rfl) _ [_] [0] (by decide) rfl (res_0 rfl) ⟨rfl, rfl⟩
theorem rawW_ac (n : Nat) (s : W8) (b : List UInt8) (hb : b.length ≤ 1000000) (hs : OkW s) : AC gs Tryz.prog 61 [wrO n s] [.op 0 (some n) 0, bsC b] (fun r H' => r = .c (.tuple #[]) ∧ H' = [wrO n (rawW b s)]) := by
  refine ac_of 16 Tryz.func61 rfl rfl rfl (fun al w0 F0 St0 => ?_)
  refine jcr ?_
  refine jq jrm ?_
  refine jq jrm ?_
  refine jqe (jecP (check_ac b (by omega)) ?_)
  refine jqm (jmcH 0 (failW_ac n s (depthM b).2) ?_)
  rintro _ _ ⟨rfl, rfl⟩
  refine ⟨_, _, rfl, CEnt.refl _, ?_⟩
  refine seq_nil ?_
  refine code_openW 0 rfl fun go gd zs hzs => ?_
  refine jcr ?_
  refine jq jrm ?_
  refine jq jrnc ?_
  refine jq (jrfa 2 1 false) ?_
  refine jqo jrdo ?_
  refine jq jre ?_
  refine seq_nil ?_
  refine jcc (fun h132 => ?_) fun h132 => ?_
  rotate_left
  · refine code_skip ?_
    have hP : rawW b s = failW (depthM b).2 s := by unfold rawW; rw [if_neg (by omega)]
    rw [hP]
    exact end_pack (gd := fun z : WZ8 (failW (depthM b).2 s).fr => z.1.1) (E := wrE (failW (depthM b).2 s)) (.inr rfl) _ ⟨(n, go, gd, zs), hzs⟩ [0, 1, 2, 3] (by decide) rfl (res_0 rfl) ⟨rfl, rfl⟩
  have hk : (failW (depthM b).2 s).k = 0 := by omega
  refine code_ent (closeW n (failW (depthM b).2 s) zs 0 1 2 3 hzs rfl rfl rfl rfl (by decide) (CEnt.osI rfl) (CEnt.osI rfl) (CEnt.refl _) (Nat.le_refl _) (fun _ _ => CEnt.refl _) (Nat.le_refl _) (fun _ _ => CEnt.refl _)) ?_
  dsimp only [List.set_cons_zero, List.set_cons_succ, List.cons_append, List.nil_append, List.length_cons, List.length_nil, Nat.zero_add, Nat.reduceAdd]
  have hF : failW (depthM b).2 s = s := by
    obtain ⟨fr, d, k⟩ := s
    unfold failW at hk ⊢
    split
    · rename_i h
      rw [if_pos h] at hk
      have h : k = 0 := h
      have hk0 : (depthM b).2 = 0 := hk
      rw [h, hk0]
    · rfl
  rw [hF]
  refine jcg ?_
  refine jq jrm ?_
  refine jq jrm ?_
  refine jqm (jmcH 0 (addW_ac n s b hs (by omega)) ?_)
  rintro _ _ ⟨rfl, rfl⟩
  refine ⟨_, _, rfl, CEnt.refl _, ?_⟩
  refine seq_nil ?_
  have hP : rawW b s = addW b s := by unfold rawW; rw [if_pos hk]
  rw [hP]
  exact end_own (.inr rfl) _ [_] [0] (by decide) rfl (res_0 rfl) ⟨rfl, rfl⟩
end Am
end Go.Proofs.YtgnjjenalebiaaaGreatDoor

/- Chapter 8: the laws' own functions: alive, put. -/
namespace Go.Proofs.YtgnjjenalebiaaaGreatDoor
set_option linter.unusedVariables false
namespace Am
variable {gs : List Nat} [Ok9 gs]
open Go.RowKit Cal
set_option maxRecDepth 100000

def w0W : W8 := ⟨[], [], 0⟩
theorem take_set_out {α : Type} (l : List α) (n i : Nat) (x : α) (h : n ≤ i) : (l.set i x).take n = l.take n := by
  rw [List.take_set, List.set_eq_of_length_le]
  rw [List.length_take]; omega
/-- a new writer -/
theorem newW {G : Gh} {env : List (Nat × CV)} {b0 : Nat → CV} {H : List (Option Nat × Res)} (n i : Nat) {f : Nat → CV} (hi : H[i]? = some (some n, .blk 3 f)) (h0 : CEnt (f 0) (.c (.slice none 0 0))) (h1 : CEnt (f 1) (.c (.slice none 0 0))) (h2 : CEnt (f 2) (.err 0)) : EntS G ⟨env, b0, H⟩ ⟨env, b0, H.set i (wrO n w0W)⟩ := by
  have hil := (List.getElem?_eq_some_iff.1 hi).1
  have os0 : ∀ {j k : Nat}, CEnt (.c (.slice none 0 0)) (.os j none 0 0 k) := fun al St w v h => ⟨rfl, h⟩
  intro St a w hr
  obtain ⟨S1, s1, r1⟩ := ent_none (G := G) (s := ⟨env, b0, H⟩) (rowF 2 frF frD []) St a w hr
  obtain ⟨S2, s2, r2⟩ := ent_none (G := G) (s := ⟨env, b0, H ++ [(none, .blk 0 (rowF 2 frF frD []))]⟩) (byF []) S1 a w r1
  obtain ⟨S3, s3, r3⟩ := bag_new (G := G) (env := env) (b0 := b0) (H := H ++ [(none, .blk 0 (rowF 2 frF frD []))] ++ [(none, .blk 0 (byF []))]) S2 a w r2
  obtain ⟨S4, s4, r4⟩ := closeW (G := G) (env := env) (b0 := b0) (H := H ++ [(none, .blk 0 (rowF 2 frF frD []))] ++ [(none, .blk 0 (byF []))] ++ [bagE []]) n w0W [] i H.length (H.length + 1) (H.length + 2) rfl (go := none) (gd := none) (No := 0) (Nd := 0) (f := f) (Fo := rowF 2 frF frD []) (Fd := byF [])
    (by rw [List.append_assoc, List.append_assoc, List.getElem?_append_left hil]; exact hi) (by simp) (by simp [List.getElem?_append]) (by simp [List.getElem?_append]) (by simp; omega) (h0.trans os0) (h1.trans os0) h2 (Nat.le_refl _) (fun a h => absurd h (Nat.not_lt_zero a)) (Nat.le_refl _) (fun a h => absurd h (Nat.not_lt_zero a)) S3 a w r3
  obtain ⟨S5, s5, r5⟩ := pick_ent (G := G) (H' := H.set i (wrO n w0W)) (List.range H.length) (range_nodup _) (by
    rw [pickL_range _ _ (by simp)]
    simp only [List.append_assoc]
    rw [take_set_out _ _ _ _ (by omega), take_set_out _ _ _ _ (by omega), take_set_out _ _ _ _ (by omega), List.take_set, List.take_left]) S4 a w r4
  exact ⟨S5, fun b hb => s5 b (s4 b (s3 b (s2 b (s1 b hb)))), r5⟩
theorem ok0 : OkW w0W := ⟨by decide, fun _ h => (by cases h), by decide⟩
def w1W : W8 := ⟨[(48, [])], [], 0⟩
def w2W : W8 := ⟨[(48, [[2, 1, 5]])], [], 0⟩
def w3W : W8 := ⟨[], [48, 3, 2, 1, 5], 0⟩
theorem e1W : openW 48 w0W = w1W := rfl
theorem e2W : putW 2 (putN 5) 0 w1W = w2W := rfl
theorem e3W : closeV w2W = w3W := rfl
theorem ok1 : OkW w1W := ⟨by decide, fun x h => (by obtain rfl := List.mem_singleton.1 h; decide), by decide⟩
theorem ok2 : OkW w2W := ⟨by decide, fun x h => (by obtain rfl := List.mem_singleton.1 h; decide), by decide⟩
theorem ok3 : OkW w3W := ⟨by decide, fun _ h => (by cases h), by decide⟩
theorem alive08_ac : ACp gs Tryz.prog 8 [] (.c (.bool true)) := by
  refine ac_of 24 Tryz.func8 rfl rfl rfl (fun al w0 F0 St0 => ?_)
  refine jcr ?_
  refine jq jrm ?_
  refine seq_nil ?_
  refine jcr ?_
  refine jq (rd_build (n := 3) rfl zr30 pl30 rfl rfl) ?_
  refine jqe (jebx 3 fun p1 => ?_)
  refine jq jrm ?_
  refine seq_nil ?_
  refine code_knowG (know_op 5 rfl) fun hn => ?_
  obtain ⟨n, rfl⟩ := hn
  refine code_ent (newW n 0 rfl (CEnt.refl _) (CEnt.refl _) CEnt.nil) ?_
  dsimp only [List.set_cons_zero, List.set_cons_succ, List.cons_append, List.nil_append, List.length_cons, List.length_nil, Nat.zero_add, Nat.reduceAdd]
  refine jcr ?_
  refine jq jrm ?_
  refine jqm (jmcH 0 (openW_ac n w0W 48 ok0) ?_)
  rintro _ _ ⟨rfl, rfl⟩
  refine ⟨_, _, rfl, CEnt.refl _, ?_⟩
  refine seq_nil ?_
  rw [e1W]
  refine jcr ?_
  refine jq jrm ?_
  refine jqm (jmcH 0 (intW_ac n w1W 5 (by decide) ok1) ?_)
  rintro _ _ ⟨rfl, rfl⟩
  refine ⟨_, _, rfl, CEnt.refl _, ?_⟩
  refine seq_nil ?_
  rw [e2W]
  refine jcr ?_
  refine jq jrm ?_
  refine jqm (jmcH 0 (closeW_ac n w2W ok2) ?_)
  rintro _ _ ⟨rfl, rfl⟩
  refine ⟨_, _, rfl, CEnt.refl _, ?_⟩
  refine seq_nil ?_
  rw [e3W]
  refine jcr ?_
  refine jq jrm ?_
  refine jqm (jmcH 0 (doneW_ac n w3W ok3) ?_)
  rintro _ _ ⟨rfl, rfl⟩
  refine ⟨_, _, rfl, CEnt.refl _, ?_⟩
  refine jq jrm ?_
  refine jq jrx ?_
  refine jq jrx ?_
  refine jq jrm ?_
  refine jq jrm ?_
  refine seq_nil ?_
  rw [show doneK w3W = 0 from rfl, show doneB w3W = [48, 3, 2, 1, 5] from rfl]
  refine jcr ?_
  refine jq jrm ?_
  refine jq jre ?_
  refine jq jrm ?_
  refine jqsp 19 (fun g20 => ?_) fun g20 => ?_
  rotate_left
  · exfalso; simp at g20
  refine jq jrm ?_
  refine jq jrbs ?_
  refine jq jrcs ?_
  refine jq jrpT ?_
  refine jq jrm ?_
  refine seq_nil ?_
  refine code_ret (jrt (hv := ?_))
  exact CEnt.refl _
def valC (v : VV) : CV := .agg 5 (fl [.c (.int .i64 v.kind), .c (.int .i64 v.n), .c (.bool v.is), bsC v.b, strC v.t])
structure OkV (v : VV) : Prop where
  n : -9223372036854775808 ≤ v.n ∧ v.n ≤ 9223372036854775807
  b : v.b.length ≤ 1000000
  t : v.t.length ≤ 1000000
theorem doW_bad {v : VV} {s : W8} (h1 : v.kind ≠ 1) (h2 : v.kind ≠ 2) (h3 : v.kind ≠ 11) : doW v s = putW (bodyV v).1 (bodyV v).2.1 (bodyV v).2.2 s := by unfold doW; rw [if_neg h1, if_neg h2, if_neg h3]
set_option maxHeartbeats 1000000 in
theorem put08_ac [OkT gs] (n : Nat) (s : W8) (v : VV) (hs : OkW s) (hv : OkV v) : AC gs Tryz.prog 25 [wrO n s] [.op 0 (some n) 0, valC v] (fun r H' => r = .c (.tuple #[]) ∧ H' = [wrO n (doW v s)]) := by
  have D : ∀ {t b e}, bodyV v = (t, b, e) → v.kind ≠ 1 → v.kind ≠ 2 → v.kind ≠ 11 → doW v s = putW t b e s := fun h h1 h2 h3 => by rw [doW_bad h1 h2 h3, h]
  refine ac_of 70 Tryz.func25 rfl rfl rfl (fun al w0 F0 St0 => ?_)
  refine jcr ?_
  refine jqe (jebx 5 fun p1 => ?_)
  refine seq_nil ?_
  refine jcr ?_
  refine jq (jrfa 0 1 false) ?_
  refine jqo jrdo ?_
  refine seq_nil ?_
  refine code_block ?_
  refine jcr ?_
  refine jq jrc ?_
  refine jq jrm ?_
  refine seq_nil ?_
  refine jcc (fun h26 => ?_) fun h26 => ?_
  · refine jcg ?_
    refine jq jrm ?_
    refine jq (jrfa 1 1 false) ?_
    refine jqo jrdo ?_
    refine jqm (jmcH 0 (openW_ac n s v.n hs) ?_)
    rintro _ _ ⟨rfl, rfl⟩
    refine ⟨_, _, rfl, CEnt.refl _, ?_⟩
    refine seq_nil ?_
    refine jbn ?_
    rw [show doW v s = openW v.n s by unfold doW; rw [if_pos (by omega)]]
    exact end_own (.inr rfl) _ [_] [0] (by decide) rfl (res_0 rfl) ⟨rfl, rfl⟩
  refine jcr ?_
  refine jq jrc ?_
  refine jq jrm ?_
  refine seq_nil ?_
  refine jcc (fun h28 => ?_) fun h28 => ?_
  · refine jcg ?_
    refine jq jrm ?_
    refine jqm (jmcH 0 (closeW_ac n s hs) ?_)
    rintro _ _ ⟨rfl, rfl⟩
    refine ⟨_, _, rfl, CEnt.refl _, ?_⟩
    refine seq_nil ?_
    refine jbn ?_
    rw [show doW v s = closeV s by unfold doW; rw [if_neg (by omega), if_pos (by omega)]]
    exact end_own (.inr rfl) _ [_] [0] (by decide) rfl (res_0 rfl) ⟨rfl, rfl⟩
  refine jcr ?_
  refine jq jrc ?_
  refine jq jrm ?_
  refine seq_nil ?_
  refine jcc (fun h30 => ?_) fun h30 => ?_
  · refine jcg ?_
    refine jq jrm ?_
    refine jq (jrfa 1 1 false) ?_
    refine jqo jrdo ?_
    refine jqm (jmcH 0 (intW_ac n s v.n hv.n hs) ?_)
    rintro _ _ ⟨rfl, rfl⟩
    refine ⟨_, _, rfl, CEnt.refl _, ?_⟩
    refine seq_nil ?_
    refine jbn ?_
    rw [D (by unfold bodyV; rw [if_pos (by omega)]) (by omega) (by omega) (by omega)]
    exact end_own (.inr rfl) _ [_] [0] (by decide) rfl (res_0 rfl) ⟨rfl, rfl⟩
  refine jcr ?_
  refine jq jrc ?_
  refine jq jrm ?_
  refine seq_nil ?_
  refine jcc (fun h32 => ?_) fun h32 => ?_
  · refine jcg ?_
    refine jq jrm ?_
    refine jq (jrfa 1 1 false) ?_
    refine jqo jrdo ?_
    refine jqm (jmcH 0 (enumW_ac n s v.n hv.n hs) ?_)
    rintro _ _ ⟨rfl, rfl⟩
    refine ⟨_, _, rfl, CEnt.refl _, ?_⟩
    refine seq_nil ?_
    refine jbn ?_
    rw [D (by unfold bodyV; rw [if_neg (by omega), if_pos (by omega)]) (by omega) (by omega) (by omega)]
    exact end_own (.inr rfl) _ [_] [0] (by decide) rfl (res_0 rfl) ⟨rfl, rfl⟩
  refine jcr ?_
  refine jq jrc ?_
  refine jq jrm ?_
  refine seq_nil ?_
  refine jcc (fun h34 => ?_) fun h34 => ?_
  · refine jcg ?_
    refine jq jrm ?_
    refine jq (jrfa 2 1 false) ?_
    refine jqo jrdo ?_
    refine jqm (jmcH 0 (boolW_ac n s v.is hs) ?_)
    rintro _ _ ⟨rfl, rfl⟩
    refine ⟨_, _, rfl, CEnt.refl _, ?_⟩
    refine seq_nil ?_
    refine jbn ?_
    rw [D (by unfold bodyV; rw [if_neg (by omega), if_neg (by omega), if_pos (by omega)]) (by omega) (by omega) (by omega)]
    exact end_own (.inr rfl) _ [_] [0] (by decide) rfl (res_0 rfl) ⟨rfl, rfl⟩
  refine jcr ?_
  refine jq jrc ?_
  refine jq jrm ?_
  refine seq_nil ?_
  refine jcc (fun h36 => ?_) fun h36 => ?_
  · refine jcg ?_
    refine jq jrm ?_
    refine jq (jrfa 3 1 false) ?_
    refine jqo jrdo ?_
    refine jqm (jmcH 0 (octetsW_ac n s v.b hv.b hs) ?_)
    rintro _ _ ⟨rfl, rfl⟩
    refine ⟨_, _, rfl, CEnt.refl _, ?_⟩
    refine seq_nil ?_
    refine jbn ?_
    rw [D (by unfold bodyV; rw [if_neg (by omega), if_neg (by omega), if_neg (by omega), if_pos (by omega)]) (by omega) (by omega) (by omega)]
    exact end_own (.inr rfl) _ [_] [0] (by decide) rfl (res_0 rfl) ⟨rfl, rfl⟩
  refine jcr ?_
  refine jq jrc ?_
  refine jq jrm ?_
  refine seq_nil ?_
  refine jcc (fun h38 => ?_) fun h38 => ?_
  · refine jcg ?_
    refine jq jrm ?_
    refine jq (jrfa 4 1 false) ?_
    refine jqo jrdo ?_
    refine jq (jrfa 1 1 false) ?_
    refine jqo jrdo ?_
    refine jqm (jmcH 0 (textW_ac n s v.t v.n hv.t hs) ?_)
    rintro _ _ ⟨rfl, rfl⟩
    refine ⟨_, _, rfl, CEnt.refl _, ?_⟩
    refine seq_nil ?_
    refine jbn ?_
    rw [D (by unfold bodyV; rw [if_neg (by omega), if_neg (by omega), if_neg (by omega), if_neg (by omega), if_pos (by omega)]) (by omega) (by omega) (by omega)]
    exact end_own (.inr rfl) _ [_] [0] (by decide) rfl (res_0 rfl) ⟨rfl, rfl⟩
  refine jcr ?_
  refine jq jrc ?_
  refine jq jrm ?_
  refine seq_nil ?_
  refine jcc (fun h40 => ?_) fun h40 => ?_
  · refine jcg ?_
    refine jq jrm ?_
    refine jq (jrfa 4 1 false) ?_
    refine jqo jrdo ?_
    refine jqm (jmcH 0 (oidW_ac n s v.t hv.t hs) ?_)
    rintro _ _ ⟨rfl, rfl⟩
    refine ⟨_, _, rfl, CEnt.refl _, ?_⟩
    refine seq_nil ?_
    refine jbn ?_
    rw [D (by unfold bodyV; rw [if_neg (by omega), if_neg (by omega), if_neg (by omega), if_neg (by omega), if_neg (by omega), if_pos (by omega)]) (by omega) (by omega) (by omega)]
    exact end_own (.inr rfl) _ [_] [0] (by decide) rfl (res_0 rfl) ⟨rfl, rfl⟩
  refine jcr ?_
  refine jq jrc ?_
  refine jq jrm ?_
  refine seq_nil ?_
  refine jcc (fun h42 => ?_) fun h42 => ?_
  · refine jcg ?_
    refine jq jrm ?_
    refine jq (jrfa 1 1 false) ?_
    refine jqo jrdo ?_
    refine jqm (jmcH 0 (momentW_ac n s v.n hs) ?_)
    rintro _ _ ⟨rfl, rfl⟩
    refine ⟨_, _, rfl, CEnt.refl _, ?_⟩
    refine seq_nil ?_
    refine jbn ?_
    rw [D (by unfold bodyV; rw [if_neg (by omega), if_neg (by omega), if_neg (by omega), if_neg (by omega), if_neg (by omega), if_neg (by omega), if_pos (by omega)]) (by omega) (by omega) (by omega)]
    exact end_own (.inr rfl) _ [_] [0] (by decide) rfl (res_0 rfl) ⟨rfl, rfl⟩
  refine jcr ?_
  refine jq jrc ?_
  refine jq jrm ?_
  refine seq_nil ?_
  refine jcc (fun h44 => ?_) fun h44 => ?_
  · refine jcg ?_
    refine jq jrm ?_
    refine jq (jrfa 3 1 false) ?_
    refine jqo jrdo ?_
    refine jqm (jmcH 0 (rawW_ac n s v.b hv.b hs) ?_)
    rintro _ _ ⟨rfl, rfl⟩
    refine ⟨_, _, rfl, CEnt.refl _, ?_⟩
    refine seq_nil ?_
    refine jbn ?_
    rw [show doW v s = rawW v.b s by unfold doW; rw [if_neg (by omega), if_neg (by omega), if_pos (by omega)]]
    exact end_own (.inr rfl) _ [_] [0] (by decide) rfl (res_0 rfl) ⟨rfl, rfl⟩
  refine jcg ?_
  refine jq jrm ?_
  refine jq (jrfa 1 1 false) ?_
  refine jqo jrdo ?_
  refine jqm (jmcH 0 (flagsW_ac n s v.n hs) ?_)
  rintro _ _ ⟨rfl, rfl⟩
  refine ⟨_, _, rfl, CEnt.refl _, ?_⟩
  refine seq_nil ?_
  refine jbn ?_
  rw [D (by unfold bodyV; rw [if_neg (by omega), if_neg (by omega), if_neg (by omega), if_neg (by omega), if_neg (by omega), if_neg (by omega), if_neg (by omega)]) (by omega) (by omega) (by omega)]
  exact end_own (.inr rfl) _ [_] [0] (by decide) rfl (res_0 rfl) ⟨rfl, rfl⟩
end Am
end Go.Proofs.YtgnjjenalebiaaaGreatDoor

/- Chapter 8: the reference's writer: put, a value's body. -/
namespace Go.Proofs.YtgnjjenalebiaaaGreatDoor
set_option linter.unusedVariables false
namespace Am
variable {gs : List Nat} [Ok9 gs]
open Go.RowKit Cal
set_option maxRecDepth 100000

def BodyQ (v : VV) : CV → List (Option Nat × Res) → Prop := fun r H' => (∃ b, r = .tup 3 (fl [.c (.int .i64 (bodyV v).1), bsC b, .c (.int .i64 ((bodyV v).2.2 : Nat))]) ∧ ((bodyV v).2.2 = 0 → b = (bodyV v).2.1)) ∧ H' = []
end Am
end Go.Proofs.YtgnjjenalebiaaaGreatDoor

/- Chapter 8: the reference's writer: Done. -/
namespace Go.Proofs.YtgnjjenalebiaaaGreatDoor
set_option linter.unusedVariables false
namespace Am
variable {gs : List Nat} [Ok9 gs]
open Go.RowKit Cal
set_option maxRecDepth 100000

structure OkRD (s : R8) : Prop where
  ok : OkR s
  sum : ∀ j, sumL (s.rows.getD j []) ≤ 1000000
  tag : ∀ x ∈ s.tags, 0 ≤ x ∧ x < 256
  lt : s.tags.length ≠ 0 → s.tags.length < s.rows.length
end Am
end Go.Proofs.YtgnjjenalebiaaaGreatDoor

/- Chapter 8: the reference's writer: Do. -/
namespace Go.Proofs.YtgnjjenalebiaaaGreatDoor
set_option linter.unusedVariables false
namespace Am
variable {gs : List Nat} [Ok9 gs]
open Go.RowKit Cal
set_option maxRecDepth 100000

/-- what an element is made of, in order -/
def lsF (t : Int) (l : List (List UInt8)) : List (List UInt8) := if t = 49 then sortL l else l
end Am
end Go.Proofs.YtgnjjenalebiaaaGreatDoor

/- Chapter 8, plain: writers stay small. -/
namespace Go.Proofs.YtgnjjenalebiaaaGreatDoor
set_option linter.unusedVariables false
namespace Am
open Go.RowKit Cal
set_option maxRecDepth 100000

/-- a value of a guarded list -/
structure SmallV (v : VV) : Prop where
  n : -9223372036854775808 ≤ v.n ∧ v.n ≤ 9223372036854775807
  b : v.b.length ≤ 300
  t : v.t.length ≤ 300
theorem SmallV.ok {v : VV} (h : SmallV v) : OkV v := ⟨h.n, by have := h.b; omega, by have := h.t; omega⟩
def frW (fr : List (Int × List (List UInt8))) : Nat := (fr.map fun x => sumL x.2 + 6).sum
def wtW (s : W8) : Nat := s.d.length + frW s.fr
theorem frW_cons (x : Int × List (List UInt8)) (fr : List (Int × List (List UInt8))) : frW (x :: fr) = sumL x.2 + 6 + frW fr := by simp [frW]
theorem sumL_snoc (l : List (List UInt8)) (b : List UInt8) : sumL (l ++ [b]) = sumL l + b.length := by rw [sumL_app]; simp [sumL]
theorem putL_len (tag : Int) (b : List UInt8) : (putL tag b).length ≤ b.length + 6 := by
  unfold putL
  have := lenL_bd b.length
  simp only [List.length_cons, List.length_append]
  omega
theorem wt_add (b : List UInt8) (s : W8) : wtW (addW b s) = wtW s + b.length := by
  obtain ⟨fr, d, k⟩ := s
  cases fr with
  | nil => simp [wtW, addW, frW]
  | cons x fr =>
    show d.length + frW ((x.1, x.2 ++ [b]) :: fr) = d.length + frW (x :: fr) + _
    rw [frW_cons, frW_cons]
    show d.length + (sumL (x.2 ++ [b]) + 6 + frW fr) = _
    rw [sumL_snoc]
    omega
theorem wt_fail (e : Nat) (s : W8) : wtW (failW e s) = wtW s := by unfold failW; split <;> rfl
theorem wt_put (tag : Int) (b : List UInt8) (e : Nat) (s : W8) : wtW (putW tag b e s) ≤ wtW s + b.length + 6 := by
  unfold putW
  split
  · rw [wt_fail]; omega
  · split
    · show s.d.length + frW s.fr ≤ _; unfold wtW; omega
    · rw [wt_add]; have := putL_len tag b; omega
theorem bodyV_small {v : VV} (h : SmallV v) : (bodyV v).2.1.length ≤ 300 := by
  have h1 := h.b
  have h2 := h.t
  have h3 := (putN_len v.n h.n.1 h.n.2).2
  have h4 := put_len v.t
  unfold bodyV
  split
  · show (putN v.n).length ≤ _; omega
  · split
    · show (putN v.n).length ≤ _; omega
    · split
      · show [if v.is then (255 : UInt8) else 0].length ≤ _; simp
      · split
        · exact h1
        · split
          · show (if askedM v.t v.n = 0 then v.t else []).length ≤ _; split <;> first | omega | simp
          · split
            · show (putM v.t).length ≤ _; omega
            · split
              · show (if inT v.n then bodyL (ofM v.n) else []).length ≤ _
                split
                · exact Nat.le_trans (Nat.le_of_eq (show (bodyL (ofM v.n)).length = 15 from rfl)) (by decide)
                · simp
              · show (bitsL v.n).length ≤ _
                unfold bitsL
                split
                · simp
                · rw [flags_len (by omega)]
                  have := (bl_is (m := v.n.toNat) (by omega)).2
                  omega
theorem wt_do {v : VV} (h : SmallV v) (s : W8) : wtW (doW v s) ≤ wtW s + 400 := by
  have hb := h.b
  unfold doW
  split
  · unfold openW
    split
    · omega
    · split
      · show s.d.length + frW s.fr ≤ _; unfold wtW; omega
      · split
        · show s.d.length + frW s.fr ≤ _; unfold wtW; omega
        · show s.d.length + frW _ ≤ _
          rw [frW_cons]
          unfold wtW
          simp [sumL]; omega
  · split
    · unfold closeV
      split
      · omega
      · obtain ⟨fr, d, k⟩ := s
        cases fr with
        | nil => show d.length + frW [] ≤ d.length + frW [] + _; omega
        | cons x fr =>
          have h1 := wt_put x.1 (bodyF x) 0 ⟨fr, d, k⟩
          rw [bodyF_len] at h1
          refine Nat.le_trans h1 ?_
          show d.length + frW fr + _ + _ ≤ d.length + frW (x :: fr) + _
          rw [frW_cons]
          omega
    · split
      · unfold rawW
        split
        · rw [wt_add]; omega
        · rw [wt_fail]; omega
      · have h1 := wt_put (bodyV v).1 (bodyV v).2.1 (bodyV v).2.2 s
        have h2 := bodyV_small h
        omega
/-! ### the rows -/
theorem pad_mem {m : Nat} {r : List (List (List UInt8))} {x : List (List UInt8)} (h : x ∈ padR m r) : x ∈ r ∨ x = [] := by
  unfold padR at h
  rcases List.mem_append.1 h with h | h
  · exact .inl h
  · exact .inr (List.eq_of_mem_replicate h)
theorem at_mem (r : List (List (List UInt8))) (j : Nat) : r.getD j [] ∈ r ∨ r.getD j [] = [] := by
  rw [List.getD_eq_getElem?_getD]
  cases e : r[j]? with
  | none => exact .inr rfl
  | some x => exact .inl (List.mem_of_getElem? e)
/-- each row is an old one, or empty, or the innermost one with one element more -/
def Grown (r r' : R8) : Prop := (r'.rows.length ≤ max r.rows.length (r'.tags.length + 1)) ∧ ∀ x ∈ r'.rows, x ∈ r.rows ∨ x = [] ∨ ∃ y b, (y ∈ r.rows ∨ y = []) ∧ x = y ++ [b] ∧ x = r'.rows.getD r'.tags.length []
theorem grown_rows {r r' : R8} (h : r'.rows = r.rows) : Grown r r' := ⟨by rw [h]; omega, fun x hx => .inl (h ▸ hx)⟩
theorem grown_add (b : List UInt8) (r : R8) : Grown r (raddS b r) := by
  have hp : r.tags.length < (padR (r.tags.length + 1) r.rows).length := by rw [pad_len]; omega
  refine ⟨?_, fun x hx => ?_⟩
  · show (List.set _ _ _).length ≤ max _ (r.tags.length + 1)
    rw [List.length_set, pad_len]
    omega
  · rcases List.mem_or_eq_of_mem_set hx with h | h
    · rcases pad_mem h with h | h
      · exact .inl h
      · exact .inr (.inl h)
    · refine .inr (.inr ⟨_, b, ?_, h, ?_⟩)
      · rw [pad_get]; exact at_mem _ _
      · show x = List.getD (List.set _ _ _) r.tags.length []
        rw [set_get _ _ _ _ hp, if_pos rfl]
        exact h
theorem grown_put (t : Int) (b : List UInt8) (r : R8) : Grown r (rputS t b r) := by
  unfold rputS
  split
  · exact grown_rows rfl
  · exact grown_add _ r
theorem grown_do (v : VV) (r : R8) : Grown r (rdoS v r) := by
  unfold rdoS
  split
  · exact grown_rows rfl
  · split
    · unfold ropenS
      split
      · exact grown_rows rfl
      · split
        · exact grown_rows rfl
        · refine ⟨?_, fun x hx => ?_⟩
          · show (List.set _ _ _).length ≤ max _ ((r.tags ++ [v.n]).length + 1)
            rw [List.length_set, pad_len, List.length_append, List.length_singleton]
            omega
          · rcases List.mem_or_eq_of_mem_set hx with h | h
            · rcases pad_mem h with h | h
              · exact .inl h
              · exact .inr (.inl h)
            · exact .inr (.inl h)
    · split
      · unfold rcloseS
        split
        · exact grown_rows rfl
        · exact grown_put _ _ ⟨_, r.rows, r.e⟩
      · split
        · split
          · exact grown_rows rfl
          · exact grown_add _ r
        · split
          · exact grown_rows rfl
          · exact grown_put _ _ r
theorem frW_mem {fr : List (Int × List (List UInt8))} {x : Int × List (List UInt8)} (h : x ∈ fr) : sumL x.2 ≤ frW fr := by
  induction fr with
  | nil => cases h
  | cons y fr ih =>
    rw [frW_cons]
    rcases List.mem_cons.1 h with rfl | h
    · omega
    · have := ih h; omega
theorem active_sum {r : R8} {s : W8} (h : Same8 r s) : sumL (r.rows.getD r.tags.length []) ≤ wtW s := by
  have hl : r.tags.length = s.fr.length := by rw [h.tags]; simp
  obtain ⟨fr, d, k⟩ := s
  cases fr with
  | nil =>
    rw [hl]
    show sumL (r.rows.getD 0 []) ≤ _
    rw [← flat_len, h.row0]
    unfold wtW
    omega
  | cons x fr =>
    have hr := h.row fr.length (by simp)
    rw [hl]
    show sumL (r.rows.getD (fr.length + 1) []) ≤ _
    rw [hr]
    have e : ((x :: fr).map Prod.snd).reverse.getD fr.length [] = x.2 := by simp [List.getD_eq_getElem?_getD]
    show sumL (((x :: fr).map Prod.snd).reverse.getD fr.length []) ≤ _
    rw [e]
    have := frW_mem (fr := x :: fr) (x := x) List.mem_cons_self
    unfold wtW
    show _ ≤ d.length + frW (x :: fr)
    omega
/-- both writers behind i values -/
structure Inv8 (i : Nat) (r : R8) (s : W8) : Prop where
  same : Same8 r s
  w : wtW s ≤ 400 * i
  rows : ∀ x ∈ r.rows, x.length ≤ i ∧ sumL x ≤ 400 * i
  n : r.rows.length ≤ 18
theorem inv_zero : Inv8 0 ⟨[], [], 0⟩ ⟨[], [], 0⟩ := ⟨same_zero, by decide, fun _ h => (by cases h), by decide⟩
theorem inv_do {i : Nat} {r : R8} {s : W8} (h : Inv8 i r s) {v : VV} (hv : SmallV v) : Inv8 (i + 1) (rdoS v r) (doW v s) := by
  have hs := same_do h.same v
  have hw := wt_do hv s
  have hg := grown_do v r
  have h0 := h.w
  have hl : (rdoS v r).tags.length ≤ 16 := by rw [hs.tags]; simpa using hs.lim
  refine ⟨hs, by omega, fun x hx => ?_, ?_⟩
  · rcases hg.2 x hx with h1 | h1 | ⟨y, b, h1, h2, h3⟩
    · have := h.rows x h1; omega
    · subst h1; simp [sumL]
    · have ha := active_sum hs
      rw [← h3] at ha
      refine ⟨?_, by omega⟩
      rw [h2, List.length_append, List.length_singleton]
      rcases h1 with h1 | h1
      · have := h.rows y h1; omega
      · subst h1; simp
  · have := hg.1
    have := h.n
    omega
theorem inv_okW {i : Nat} {r : R8} {s : W8} (h : Inv8 i r s) (hi : i ≤ 1000) : OkW s := by
  have hw := h.w
  refine ⟨h.same.lim, fun x hx => ?_, by unfold wtW at hw; omega⟩
  obtain ⟨j, hj⟩ := List.mem_iff_getElem?.1 hx
  have hjl := (List.getElem?_eq_some_iff.1 hj).1
  have hr := h.same.row (s.fr.length - 1 - j) (by omega)
  have e : (s.fr.map Prod.snd).reverse.getD (s.fr.length - 1 - j) [] = x.2 := by
    rw [List.getD_eq_getElem?_getD, List.getElem?_reverse (by simp; omega)]
    simp only [List.length_map, List.getElem?_map]
    rw [show s.fr.length - 1 - (s.fr.length - 1 - j) = j by omega, hj]
    rfl
  rw [e] at hr
  have hs := frW_mem hx
  unfold wtW at hw
  refine ⟨?_, by omega⟩
  rcases at_mem r.rows (s.fr.length - 1 - j + 1) with h1 | h1
  · have := (h.rows _ h1).1
    rw [hr] at this
    omega
  · rw [hr] at h1
    rw [h1]; simp
end Am
end Go.Proofs.YtgnjjenalebiaaaGreatDoor

/- Chapter 8, plain: what is written is elements that are whole, as far as they are not too deep. -/
namespace Go.Proofs.YtgnjjenalebiaaaGreatDoor
set_option linter.unusedVariables false
namespace Am
open Go.RowKit Cal
set_option maxRecDepth 100000

/-- an element that is whole, as far as it is not too deep -/
structure Elt (x : List UInt8) (t : Nat) (b : List UInt8) : Prop where
  nx : ∀ r, nextM (x ++ r) = ⟨0, t, b, r⟩
  pos : 0 < x.length
  wh : ∀ lv, lv ≤ 16 → (wholeM lv t b).2 = 0 ∨ (wholeM lv t b).2 = 6
def IsE (x : List UInt8) : Prop := ∃ t b, Elt x t b
structure GoodW (s : W8) : Prop where
  fr : ∀ f ∈ s.fr, madeM f.1 = true ∧ ∀ y ∈ f.2, IsE y
  d : ∃ xs : List (List UInt8), s.d = xs.flatten ∧ ∀ x ∈ xs, IsE x
end Am
end Go.Proofs.YtgnjjenalebiaaaGreatDoor

/- Chapter 8: the reader as one thing; what it reads of itself. -/
namespace Go.Proofs.YtgnjjenalebiaaaGreatDoor
set_option linter.unusedVariables false
namespace Am
open Go.RowKit
set_option maxRecDepth 100000

def rdE (l : List (List UInt8)) (k : Nat) (z : Nat × Option Nat) : List (Option Nat × Res) := [(some z.1, .blk 2 (fl [.os 1 z.2 0 l.length 1, .err k])), (z.2, .blk l.length (lbF l))]
/-- a reader: what is left of the elements that it has entered, and its error -/
def rdO (n : Nat) (l : List (List UInt8)) (k : Nat) : Option Nat × Res := objE n (fun z : Nat × Option Nat => z.1) (rdE l k)
section
variable {P : Program} {G : Gh} {s : AS} {c : Code} {R : Exit → AS → Prop} {n k : Nat} {l : List (List UInt8)}
theorem code_openR0 (i : Nat) (hi : s.H[i]? = some (rdO n l k)) (h : ∀ gl, ACode P G c ⟨s.env, s.b, s.H.set i (some n, .blk 2 (fl [.os s.H.length gl 0 l.length 1, .err k])) ++ [(gl, .blk l.length (lbF l))]⟩ R) : ACode P G c s R := by
  have hlt := (List.getElem?_eq_some_iff.1 hi).1
  refine code_unpack i hi fun z hz => ?_
  obtain ⟨n', gl⟩ := z
  obtain rfl : n' = n := hz
  refine code_ent (weakH i 2 (fl [.os s.H.length gl 0 l.length 1, .err k]) (n := 2) (g := some n') (f := fl [.os 1 gl 0 l.length 1, .err k]) ?_ (Nat.le_refl _) fun j hj => ?_) ?_
  · show (s.H.set i _ ++ _)[i]? = _
    rw [List.getElem?_append_left (by simpa using hlt)]
    simp [hlt]
  · rcases j with _ | _ | j
    · exact CEnt.osI rfl
    · exact CEnt.refl _
    · omega
  · have e : (s.H.set i (some n', Res.blk 2 (fl [.os 1 gl 0 l.length 1, .err k])) ++ [(gl, Res.blk l.length (lbF l))]).set i (some n', .blk 2 (fl [.os s.H.length gl 0 l.length 1, .err k])) = s.H.set i (some n', .blk 2 (fl [.os s.H.length gl 0 l.length 1, .err k])) ++ [(gl, .blk l.length (lbF l))] := by
      rw [List.set_append_left _ _ (by simpa using hlt), List.set_set]
    have := h gl
    rw [← e] at this
    exact this
theorem closeR0 (n k : Nat) (l : List (List UInt8)) (i j : Nat) {gl : Option Nat} {N : Nat} {f F : Nat → CV} (hi : s.H[i]? = some (some n, .blk 2 f)) (hj : s.H[j]? = some (gl, .blk N F)) (hij : Nat.beq i j = false) (h0 : CEnt (f 0) (.os 1 gl 0 l.length 1)) (h1 : CEnt (f 1) (.err k)) (hN : l.length ≤ N) (hF : ∀ a, a < l.length → CEnt (F a) (lbF l a)) :
    EntS G s ⟨s.env, s.b, (s.H.set i (rdO n l k)).set j (none, .dead)⟩ := by
  have hij := Nat.ne_of_beq_eq_false hij
  have hil := (List.getElem?_eq_some_iff.1 hi).1
  have hjl := (List.getElem?_eq_some_iff.1 hj).1
  refine EntS.hrel fun h => ?_
  have h2 := h.weak (F := fl [.os 1 gl 0 l.length 1, .err k]) hi (Nat.le_refl _) fun a ha => by
    rcases a with _ | _ | a
    · exact h0
    · exact h1
    · omega
  have h3 := h2.weak (i := j) (F := lbF l) (by rw [List.getElem?_set_ne hij]; exact hj) hN hF
  have h4 := h3.closeN (gd := fun z : Nat × Option Nat => z.1) (E := rdE l k) (n, gl) i [j] (by simp [hij]) (by simp [hil, hjl]) (by
    simp only [pickL, List.map_cons, List.map_nil, List.getD_eq_getElem?_getD]
    rw [List.getElem?_set_ne (Ne.symm hij)]
    simp [hil, hjl, rdE])
  have e : killL (((s.H.set i (some n, Res.blk 2 (fl [CV.os 1 gl 0 l.length 1, CV.err k]))).set j (gl, Res.blk l.length (lbF l))).set i (objE n (fun z : Nat × Option Nat => z.1) (rdE l k))) [j] = (s.H.set i (rdO n l k)).set j (none, .dead) := by
    show ((((s.H.set i _).set j _).set i _).set j _) = _
    rw [List.set_comm _ _ (Ne.symm hij), List.set_set, List.set_set]
    rfl
  rw [← e]
  exact h4
theorem code_openR {env : List (Nat × CV)} {b0 : Nat → CV} {H : List (Option Nat × Res)} (i : Nat) (hi : H[i]? = some (rdO n l k)) (h : ∀ gl, ACode P G c ⟨env, b0, H.set i (some n, .blk 2 (fl [.os H.length gl 0 l.length 1, .err k])) ++ [(gl, .blk l.length (lbF l))]⟩ R) : ACode P G c ⟨env, b0, H⟩ R := code_openR0 i hi h
theorem closeR {env : List (Nat × CV)} {b0 : Nat → CV} {H : List (Option Nat × Res)} (n k : Nat) (l : List (List UInt8)) (i j : Nat) {gl : Option Nat} {N : Nat} {f F : Nat → CV} (hi : H[i]? = some (some n, .blk 2 f)) (hj : H[j]? = some (gl, .blk N F)) (hij : Nat.beq i j = false) (h0 : CEnt (f 0) (.os 1 gl 0 l.length 1)) (h1 : CEnt (f 1) (.err k)) (hN : l.length ≤ N) (hF : ∀ a, a < l.length → CEnt (F a) (lbF l a)) :
    EntS G ⟨env, b0, H⟩ ⟨env, b0, (H.set i (rdO n l k)).set j (none, .dead)⟩ := closeR0 n k l i j hi hj hij h0 h1 hN hF
end
/-- what is left of the innermost element -/
def nowL (l : List (List UInt8)) : List UInt8 := l.getD (l.length - 1) []
def moreM (l : List (List UInt8)) (k : Nat) : Bool := decide (k = 0) && decide (0 < (nowL l).length)
theorem now_ac {gs : List Nat} (n : Nat) (l : List (List UInt8)) (k : Nat) (hl : 0 < l.length ∧ l.length ≤ 1000000) : AC gs Tryz.prog 68 [rdO n l k] [.op 0 (some n) 0] (fun r H' => r = bsC (nowL l) ∧ H' = [rdO n l k]) := by
  refine ac_of 15 Tryz.func68 rfl rfl rfl (fun al w0 F0 St0 => ?_)
  refine code_openR 0 rfl fun gl => ?_
  refine jcr ?_
  refine jq jrm ?_
  refine seq_nil ?_
  refine jcs ?_
  skip
  refine jcd (.rd 0 (.rd 1 (.rd 2 (.rd 3 (.rd 4 (.rd 5 (.rd 6 (.rd 7 (.rd 8 (.rd 9 (.rd 10 (.rd 11 (.rd 12 .done))))))))))))) ?_
  refine jyq jrm ?_
  refine jyq jrnc ?_
  refine jyq (jrfa 0 1 false) ?_
  refine jyo jrdo ?_
  refine jyq jrm ?_
  refine jyq jrnc ?_
  refine jyq (jrfa 0 1 false) ?_
  refine jyo jrdo ?_
  refine jyq jrl ?_
  refine jyq jra ?_
  refine jyq (jri (i := (l.length - 1)) (hz := by omega)) ?_
  refine jyo jrdo ?_
  refine jyq jrm ?_
  refine jyd ?_
  refine jtn ?_
  refine code_ret ?_
  exact end_pack (gd := fun z : Nat × Option Nat => z.1) (E := rdE l k) (.inl rfl) _ (n, gl) [0, 1] (by decide) rfl (res_1 rfl (arv_tmp rfl)) ⟨rfl, rfl⟩
end Am
end Go.Proofs.YtgnjjenalebiaaaGreatDoor

/- Chapter 8: the reader's next element. -/
namespace Go.Proofs.YtgnjjenalebiaaaGreatDoor
set_option linter.unusedVariables false
namespace Am
variable {gs : List Nat} [Ok9 gs]
open Go.RowKit
set_option maxRecDepth 100000

structure NR where
  l : List (List UInt8)
  k : Nat
  tag : Nat
  body : List UInt8
  raw : List UInt8
  is : Bool
/-- the next element of a tag -/
def nextR (tag : Int) (l : List (List UInt8)) (k : Nat) : NR :=
  if k ≠ 0 then ⟨l, k, 0, [], [], false⟩ else
  if (nextM (nowL l)).e ≠ 0 then ⟨l, (nextM (nowL l)).e, 0, [], [], false⟩ else
  if tag ≠ 0 ∧ ((nextM (nowL l)).tag : Int) ≠ tag then ⟨l, 5, 0, [], [], false⟩ else
  ⟨l.set (l.length - 1) (nextM (nowL l)).rest, 0, (nextM (nowL l)).tag, (nextM (nowL l)).body, (nowL l).take ((nowL l).length - (nextM (nowL l)).rest.length), true⟩
theorem lb_set {l : List (List UInt8)} {i : Nat} {x : List UInt8} {j : Nat} (hj : j < l.length) : CEnt (updF (lbF l) i [bsC x] j) (lbF (l.set i x) j) := by
  refine CEnt.of_eq ?_
  rw [updF_get]
  simp only [lbF, List.length_singleton, List.getD_eq_getElem?_getD, List.getElem?_set]
  by_cases h : i = j
  · subst h
    rw [if_pos (by omega), if_pos rfl, if_pos hj, Nat.sub_self]
    rfl
  · rw [if_neg (by omega), if_neg h]
theorem nextR_ac (n : Nat) (l : List (List UInt8)) (k : Nat) (tag : Int) (hl : 0 < l.length ∧ l.length ≤ 1000000) (hb : (nowL l).length ≤ 10000000) : AC gs Tryz.prog 78 [rdO n l k] [.op 0 (some n) 0, .c (.int .i64 tag)]
    (fun r H' => r = .tup 3 (fl [elC (nextR tag l k).tag (nextR tag l k).body, bsC (nextR tag l k).raw, .c (.bool (nextR tag l k).is)]) ∧ H' = [rdO n (nextR tag l k).l (nextR tag l k).k]) := by
  have hnb := nextM_bd (nowL l)
  refine ac_of 67 Tryz.func78 rfl rfl rfl (fun al w0 F0 St0 => ?_)
  refine jcr ?_
  refine jqe (jeal (n := 2) zr68 rfl fun p1 => ?_)
  refine jq jrm ?_
  refine jq jrm ?_
  refine seq_nil ?_
  refine jcs ?_
  refine code_openR 0 rfl fun gl => ?_
  refine jcr ?_
  refine jq jrm ?_
  refine jq jrnc ?_
  refine jq (jrfa 1 1 false) ?_
  refine jqo jrdo ?_
  refine jq jre ?_
  refine seq_nil ?_
  refine jcc (fun h185 => ?_) fun h185 => ?_
  · refine code_ent (closeR n k l 0 2 rfl rfl rfl (CEnt.osI rfl) (CEnt.refl _) (Nat.le_refl _) (fun _ _ => CEnt.refl _)) ?_
    dsimp only [List.set_cons_zero, List.set_cons_succ, List.cons_append, List.nil_append, List.length_cons, List.length_nil, Nat.zero_add, Nat.reduceAdd]
    refine jcr ?_
    refine jq (rd_build (n := 2) rfl zr68 pl68 rfl rfl) ?_
    refine jqm (jmst 2 ?_)
    refine jq jrm ?_
    refine jq jrm ?_
    refine seq_nil ?_
    refine code_ret (jtr ?_)
    have hN : nextR tag l k = ⟨l, k, 0, [], [], false⟩ := by unfold nextR; rw [if_pos (by omega)]
    rw [hN]
    refine end_H (.inl rfl) rfl (res_3 rfl (javA 2) javt javt) ?_
    exact CEnt.tup3 (CEnt.agg2 (CEnt.refl _) CEnt.nilB) CEnt.nilB (CEnt.refl _)
  refine code_skip (jtn ?_)
  obtain rfl : k = 0 := by omega
  refine code_ent (closeR n 0 l 0 2 rfl rfl rfl (CEnt.osI rfl) (CEnt.refl _) (Nat.le_refl _) (fun _ _ => CEnt.refl _)) ?_
  dsimp only [List.set_cons_zero, List.set_cons_succ, List.cons_append, List.nil_append, List.length_cons, List.length_nil, Nat.zero_add, Nat.reduceAdd]
  refine jcr ?_
  refine jq jrm ?_
  refine jqm (jmcH 0 (now_ac n l 0 hl) ?_)
  rintro _ _ ⟨rfl, rfl⟩
  refine ⟨_, _, rfl, CEnt.refl _, ?_⟩
  refine jqe (jecP (next_ac (nowL l) hb) ?_)
  refine jq jrm ?_
  refine jq jrx ?_
  refine jq jrx ?_
  refine jq jrx ?_
  refine jqe (jeal (n := 2) zr68 rfl fun p3 => ?_)
  refine jqm (jmst 2 ?_)
  refine jq jrm ?_
  refine jq jrm ?_
  refine seq_nil ?_
  refine jcs ?_
  refine code_block ?_
  refine jcr ?_
  refine jq jrm ?_
  refine jq jre ?_
  refine jq jrm ?_
  refine seq_nil ?_
  refine jcc (fun h190 => ?_) fun h190 => ?_
  · refine code_openR 0 rfl fun gl2 => ?_
    refine jcg ?_
    refine jq jrm ?_
    refine jq jrm ?_
    refine jq jrnc ?_
    refine jq (jrfa 1 1 false) ?_
    refine jqm (jmstF 1 (fl [.os 4 gl2 0 l.length 1, .err (nextM (nowL l)).e]) ?_ ?_)
    · exact (fun j hj => by rcases j with _ | _ | j <;> exact CEnt.refl _)
    refine seq_nil ?_
    refine jbn (jtn ?_)
    first
      | refine code_ent (closeR n (nextM (nowL l)).e l 0 4 rfl rfl rfl (CEnt.osI rfl) (CEnt.refl _) (Nat.le_refl _) (fun _ _ => CEnt.refl _)) ?_
      | refine code_ent (closeR n 5 l 0 4 rfl rfl rfl (CEnt.osI rfl) (CEnt.refl _) (Nat.le_refl _) (fun _ _ => CEnt.refl _)) ?_
    refine jcr ?_
    refine jq (rd_build (n := 2) rfl zr68 pl68 rfl rfl) ?_
    refine jqm (jmst 2 ?_)
    refine jq jrm ?_
    refine jq jrm ?_
    refine seq_nil ?_
    refine code_ret ?_
    first
      | (have hN : nextR tag l 0 = ⟨l, (nextM (nowL l)).e, 0, [], [], false⟩ := by unfold nextR; rw [if_neg (by omega), if_pos (by omega)])
      | (have hN : nextR tag l 0 = ⟨l, 5, 0, [], [], false⟩ := by unfold nextR; rw [if_neg (by omega), if_neg (by omega), if_pos (by omega)])
    rw [hN]
    refine end_H (.inl rfl) rfl (res_3 rfl (javA 2) javt javt) ?_
    exact CEnt.tup3 (CEnt.agg2 (CEnt.refl _) CEnt.nilB) CEnt.nilB (CEnt.refl _)
  refine jcr ?_
  refine jq jrm ?_
  refine jq jrc ?_
  refine jq jrm ?_
  refine jqsp 56 (fun g192 => ?_) fun g192 => ?_
  rotate_left
  · refine jqs ?_
    refine jqs ?_
    refine jqs ?_
    refine jqs ?_
    refine jq jrpF ?_
    refine jq jrm ?_
    refine seq_nil ?_
    refine jcF ?_
    refine jcr ?_
    refine jq jrm ?_
    refine jqm (jmcH 0 (now_ac n l 0 hl) ?_)
    rintro _ _ ⟨rfl, rfl⟩
    refine ⟨_, _, rfl, CEnt.refl _, ?_⟩
    refine jq jrm ?_
    refine seq_nil ?_
    refine jcs ?_
    refine code_openR 0 rfl fun gl2 => ?_
    refine jcdB 12 (.rd 0 (.rd 1 (.rd 2 (.rd 3 (.rd 4 (.rd 5 (.rd 6 (.rd 7 (.rd 8 (.rd 9 (.rd 10 (.rd 11 .done)))))))))))) ?_
    refine jyq jrm ?_
    refine jyq jrnc ?_
    refine jyq (jrfa 0 1 false) ?_
    refine jyo jrdo ?_
    refine jyq jrm ?_
    refine jyq jrnc ?_
    refine jyq (jrfa 0 1 false) ?_
    refine jyo jrdo ?_
    refine jyq jrl ?_
    refine jyq jra ?_
    refine jyq jrm ?_
    refine jyq (jri (i := (l.length - 1)) (hz := by omega)) ?_
    refine jyd ?_
    show ASeq _ _ _ _ _ _
    refine jqm (jmstF 1 (lbF (l.set (l.length - 1) (nextM (nowL l)).rest)) ?_ ?_)
    · exact (fun j hj => lb_set hj)
    refine seq_nil ?_
    refine jtn ?_
    refine jcs ?_
    refine code_ent (closeR n 0 (l.set (l.length - 1) (nextM (nowL l)).rest) 0 4 rfl rfl rfl (CEnt.osI (by simp)) (CEnt.refl _) (by simp) (fun _ _ => CEnt.refl _)) ?_
    dsimp only [List.set_cons_zero, List.set_cons_succ, List.cons_append, List.nil_append, List.length_cons, List.length_nil, Nat.zero_add, Nat.reduceAdd]
    refine code_ent (freeze 3 rfl) ?_
    refine code_ent (thawP 7 (m := 2) rfl rfl (by decide)) ?_
    refine jcdZ (.rd 0 (.rd 1 (.rd 2 (.rd 3 (.rd 4 (.rd 5 (.rd 6 (.rd 7 (.one 8 (.rd 9 (.rd 10 .done))))))))))) ?_
    refine jzq (jrdrA 2) ?_
    refine jzq jrm ?_
    refine jzq jrm ?_
    refine jzq jrl ?_
    refine jzq jrm ?_
    refine jzq jrl ?_
    refine jzq jra ?_
    refine jzq jrst ?_
    refine jzm (jmst 2 ?_)
    refine jzq jrm ?_
    refine jzq jrm ?_
    refine jzd ?_
    refine jtn ?_
    refine code_ret (jbr (jtr ?_))
    have hN : nextR tag l 0 = ⟨l.set (l.length - 1) (nextM (nowL l)).rest, 0, (nextM (nowL l)).tag, (nextM (nowL l)).body, (nowL l).take ((nowL l).length - (nextM (nowL l)).rest.length), true⟩ := by unfold nextR; rw [if_neg (by omega), if_neg (by omega), if_neg (by omega)]
    rw [hN]
    refine end_H (.inl rfl) rfl (res_3 rfl (javA 2) javt javt) ?_
    exact CEnt.tup3 (CEnt.agg2 (CEnt.refl _) (CEnt.refl _)) (CEnt.bs (by congr 1; omega)) (CEnt.refl _)
  refine jq (jrfa 0 1 false) ?_
  refine jqo jrdo ?_
  refine jq jrm ?_
  refine jq jrc ?_
  refine jq jrpT ?_
  refine jq jrm ?_
  refine seq_nil ?_
  refine jcc (fun h192 => ?_) fun h192 => ?_
  · refine code_openR 0 rfl fun gl2 => ?_
    refine jcg ?_
    refine jq jrm ?_
    refine jq (jrde 4) ?_
    refine jq jrnc ?_
    refine jq (jrfa 1 1 false) ?_
    refine jqm (jmstF 1 (fl [.os 4 gl2 0 l.length 1, .err 5]) ?_ ?_)
    · exact (fun j hj => by rcases j with _ | _ | j <;> exact CEnt.refl _)
    refine seq_nil ?_
    refine jbn (jtn ?_)
    first
      | refine code_ent (closeR n (nextM (nowL l)).e l 0 4 rfl rfl rfl (CEnt.osI rfl) (CEnt.refl _) (Nat.le_refl _) (fun _ _ => CEnt.refl _)) ?_
      | refine code_ent (closeR n 5 l 0 4 rfl rfl rfl (CEnt.osI rfl) (CEnt.refl _) (Nat.le_refl _) (fun _ _ => CEnt.refl _)) ?_
    refine jcr ?_
    refine jq (rd_build (n := 2) rfl zr68 pl68 rfl rfl) ?_
    refine jqm (jmst 2 ?_)
    refine jq jrm ?_
    refine jq jrm ?_
    refine seq_nil ?_
    refine code_ret ?_
    first
      | (have hN : nextR tag l 0 = ⟨l, (nextM (nowL l)).e, 0, [], [], false⟩ := by unfold nextR; rw [if_neg (by omega), if_pos (by omega)])
      | (have hN : nextR tag l 0 = ⟨l, 5, 0, [], [], false⟩ := by unfold nextR; rw [if_neg (by omega), if_neg (by omega), if_pos (by omega)])
    rw [hN]
    refine end_H (.inl rfl) rfl (res_3 rfl (javA 2) javt javt) ?_
    exact CEnt.tup3 (CEnt.agg2 (CEnt.refl _) CEnt.nilB) CEnt.nilB (CEnt.refl _)
  refine jcr ?_
  refine jq jrm ?_
  refine jqm (jmcH 0 (now_ac n l 0 hl) ?_)
  rintro _ _ ⟨rfl, rfl⟩
  refine ⟨_, _, rfl, CEnt.refl _, ?_⟩
  refine jq jrm ?_
  refine seq_nil ?_
  refine jcs ?_
  refine code_openR 0 rfl fun gl2 => ?_
  refine jcdB 12 (.rd 0 (.rd 1 (.rd 2 (.rd 3 (.rd 4 (.rd 5 (.rd 6 (.rd 7 (.rd 8 (.rd 9 (.rd 10 (.rd 11 .done)))))))))))) ?_
  refine jyq jrm ?_
  refine jyq jrnc ?_
  refine jyq (jrfa 0 1 false) ?_
  refine jyo jrdo ?_
  refine jyq jrm ?_
  refine jyq jrnc ?_
  refine jyq (jrfa 0 1 false) ?_
  refine jyo jrdo ?_
  refine jyq jrl ?_
  refine jyq jra ?_
  refine jyq jrm ?_
  refine jyq (jri (i := (l.length - 1)) (hz := by omega)) ?_
  refine jyd ?_
  show ASeq _ _ _ _ _ _
  refine jqm (jmstF 1 (lbF (l.set (l.length - 1) (nextM (nowL l)).rest)) ?_ ?_)
  · exact (fun j hj => lb_set hj)
  refine seq_nil ?_
  refine jtn ?_
  refine jcs ?_
  refine code_ent (closeR n 0 (l.set (l.length - 1) (nextM (nowL l)).rest) 0 4 rfl rfl rfl (CEnt.osI (by simp)) (CEnt.refl _) (by simp) (fun _ _ => CEnt.refl _)) ?_
  dsimp only [List.set_cons_zero, List.set_cons_succ, List.cons_append, List.nil_append, List.length_cons, List.length_nil, Nat.zero_add, Nat.reduceAdd]
  refine code_ent (freeze 3 rfl) ?_
  refine code_ent (thawP 7 (m := 2) rfl rfl (by decide)) ?_
  refine jcdZ (.rd 0 (.rd 1 (.rd 2 (.rd 3 (.rd 4 (.rd 5 (.rd 6 (.rd 7 (.one 8 (.rd 9 (.rd 10 .done))))))))))) ?_
  refine jzq (jrdrA 2) ?_
  refine jzq jrm ?_
  refine jzq jrm ?_
  refine jzq jrl ?_
  refine jzq jrm ?_
  refine jzq jrl ?_
  refine jzq jra ?_
  refine jzq jrst ?_
  refine jzm (jmst 2 ?_)
  refine jzq jrm ?_
  refine jzq jrm ?_
  refine jzd ?_
  refine jtn ?_
  refine code_ret (jbr (jtr ?_))
  have hN : nextR tag l 0 = ⟨l.set (l.length - 1) (nextM (nowL l)).rest, 0, (nextM (nowL l)).tag, (nextM (nowL l)).body, (nowL l).take ((nowL l).length - (nextM (nowL l)).rest.length), true⟩ := by unfold nextR; rw [if_neg (by omega), if_neg (by omega), if_neg (by omega)]
  rw [hN]
  refine end_H (.inl rfl) rfl (res_3 rfl (javA 2) javt javt) ?_
  exact CEnt.tup3 (CEnt.agg2 (CEnt.refl _) (CEnt.refl _)) (CEnt.bs (by congr 1; omega)) (CEnt.refl _)
end Am
end Go.Proofs.YtgnjjenalebiaaaGreatDoor

/- Chapter 8: the reader: Enter, Leave, End, Raw, Read. -/
namespace Go.Proofs.YtgnjjenalebiaaaGreatDoor
set_option linter.unusedVariables false
namespace Am
variable {gs : List Nat} [Ok9 gs]
open Go.RowKit
set_option maxRecDepth 100000

/-- an element is entered -/
def enterR (tag : Int) (l : List (List UInt8)) (k : Nat) : NR :=
  nextR tag l (if moreM l k = true ∧ madeM tag = false then 5 else k)
def enterL (tag : Int) (l : List (List UInt8)) (k : Nat) : List (List UInt8) := if (enterR tag l k).is = true then (enterR tag l k).l ++ [(enterR tag l k).body] else (enterR tag l k).l
theorem enter_ac (n : Nat) (l : List (List UInt8)) (k : Nat) (tag : Int) (hl : 0 < l.length ∧ l.length ≤ 1000000) (hb : (nowL l).length ≤ 10000000) : AC gs Tryz.prog 40 [rdO n l k] [.op 0 (some n) 0, .c (.int .i64 tag)]
    (fun r H' => r = .c (.bool (enterR tag l k).is) ∧ H' = [rdO n (enterL tag l k) (enterR tag l k).k]) := by
  have hnl : ∀ k, 0 < (nextR tag l k).l.length ∧ (nextR tag l k).l.length ≤ 1000000 := fun k => by
    unfold nextR
    split
    · exact hl
    · split
      · exact hl
      · split
        · exact hl
        · simp only [List.length_set]; exact hl
  refine ac_of 48 Tryz.func40 rfl rfl rfl (fun al w0 F0 St0 => ?_)
  refine jcr ?_
  refine jq jrm ?_
  refine seq_nil ?_
  refine jcs ?_
  refine code_openR 0 rfl fun gl => ?_
  refine jcr ?_
  refine jq jrm ?_
  refine jq jrnc ?_
  refine jq (jrfa 1 1 false) ?_
  refine jqo jrdo ?_
  refine seq_ent (closeR n k l 0 1 rfl rfl rfl (CEnt.osI rfl) (CEnt.refl _) (Nat.le_refl _) (fun _ _ => CEnt.refl _)) ?_
  refine jq jre ?_
  refine jq jrm ?_
  refine jqsp 13 (fun g204 => ?_) fun g204 => ?_
  rotate_left
  · refine jqs ?_
    refine jqs ?_
    refine jqs ?_
    refine jqs ?_
    refine jq jrpF ?_
    refine jq jrm ?_
    refine jqs ?_
    refine jqs ?_
    refine jqs ?_
    refine jq jrpF ?_
    refine seq_nil ?_
    refine jcF ?_
    refine code_skip (jtn ?_)
    first
      | (refine code_ent (closeR n 5 l 0 2 rfl rfl rfl (CEnt.osI rfl) (CEnt.refl _) (Nat.le_refl _) (fun _ _ => CEnt.refl _)) ?_; refine code_ent (pick_ent (H' := [rdO n l 5]) [0] (by decide) rfl) ?_; have hE : enterR tag l k = nextR tag l 5 := by unfold enterR; rw [if_pos (by simp_all [moreM, madeM])])
      | (refine code_ent (pick_ent (H' := [rdO n l k]) [0] (by decide) rfl) ?_; have hE : enterR tag l k = nextR tag l k := by unfold enterR; rw [if_neg (by simp_all [moreM, madeM])])
    refine jcr ?_
    refine jq jrm ?_
    refine jq jrm ?_
    refine jqm (jmcH 0 (nextR_ac n l _ tag hl hb) ?_)
    rintro _ _ ⟨rfl, rfl⟩
    refine ⟨_, _, rfl, CEnt.refl _, ?_⟩
    refine jq jrm ?_
    refine jq jrx ?_
    refine jq jrx ?_
    refine jq jrx ?_
    refine jqe (jeal (n := 2) zr68 rfl fun p2 => ?_)
    refine jqm (jmst 2 ?_)
    refine jq jrm ?_
    refine jq jrm ?_
    refine seq_nil ?_
    refine jcs ?_
    rw [← hE]
    have hel : 0 < (enterR tag l k).l.length ∧ (enterR tag l k).l.length ≤ 1000000 := by rw [hE]; exact hnl _
    refine jcr ?_
    refine jq jrm ?_
    refine seq_nil ?_
    refine jcc (fun h208 => ?_) fun h208 => ?_
    rotate_left
    · refine code_skip (jtn ?_)
      first
        | (refine code_ent (closeR n (enterR tag l k).k ((enterR tag l k).l ++ [(enterR tag l k).body]) 0 2 rfl rfl rfl (CEnt.osI (by simp)) (CEnt.refl _) (by simp) (fun _ _ => CEnt.refl _)) ?_; have hL : enterL tag l k = (enterR tag l k).l ++ [(enterR tag l k).body] := by unfold enterL; rw [if_pos (by simpa using h208)])
        | have hL : enterL tag l k = (enterR tag l k).l := by unfold enterL; rw [if_neg (by simpa using h208)]
      refine jcr ?_
      refine jq jrm ?_
      refine jq jrm ?_
      refine seq_nil ?_
      refine code_ret ?_
      rw [hL]
      exact end_H (.inl rfl) rfl (res_1 rfl (arv_tmp rfl)) (CEnt.refl _)
    refine code_ent (freeze 1 rfl) ?_
    refine code_ent (thawP 5 (m := 2) rfl rfl (by decide)) ?_
    dsimp only [List.set_cons_zero, List.set_cons_succ, List.cons_append, List.nil_append, List.length_cons, List.length_nil, Nat.zero_add, Nat.reduceAdd]
    refine code_openR 0 rfl fun gl3 => ?_
    refine jcdZ (.rd 0 (.rd 1 (.rd 2 (.rd 3 (.rd 4 (.rd 5 (.rd 6 (.one 7 (.one 8 (.rd 9 (.rd 10 (.one 11 .done)))))))))))) ?_
    refine jzq jrm ?_
    refine jzq jrm ?_
    refine jzq jrnc ?_
    refine jzq (jrfa 0 1 false) ?_
    refine jzo jrdo ?_
    refine jzq (jrfa 1 1 false) ?_
    refine jzq jrdr ?_
    refine jze (jebl 1 1 zr26 fun p3 => ?_)
    refine jzm (m_appendC (rowC_lb) (l2 := [(enterR tag l k).body]) rfl rfl rfl rfl (by omega) (fun _ _ => CEnt.refl _) (src_os rfl (.inl rfl) (by decide)) rfl (fun j hj => by rcases j with _|j <;> first | exact CEnt.refl _ | exact CEnt.int (by omega) | (exfalso; simp at hj <;> omega)) Tryz.underlying56 nu56 sz26 zr26 by26 rfl (by (simp; omega)) (by (simp; omega)) (leaf_flk rfl rfl) rfl rfl rfl (fun p4 => ?_))
    refine jzq jrnc ?_
    refine jzq (jrfa 0 1 false) ?_
    refine jzm (jmst 1 ?_)
    refine jzd ?_
    refine jtn ?_
    first
      | (refine code_ent (closeR n (enterR tag l k).k ((enterR tag l k).l ++ [(enterR tag l k).body]) 0 2 rfl rfl rfl (CEnt.osI (by simp)) (CEnt.refl _) (by simp) (fun _ _ => CEnt.refl _)) ?_; have hL : enterL tag l k = (enterR tag l k).l ++ [(enterR tag l k).body] := by unfold enterL; rw [if_pos (by simpa using h208)])
      | have hL : enterL tag l k = (enterR tag l k).l := by unfold enterL; rw [if_neg (by simpa using h208)]
    refine jcr ?_
    refine jq jrm ?_
    refine jq jrm ?_
    refine seq_nil ?_
    refine code_ret ?_
    rw [hL]
    exact end_H (.inl rfl) rfl (res_1 rfl (arv_tmp rfl)) (CEnt.refl _)
  refine jq jrm ?_
  refine jqm (jmcH 0 (now_ac n l k hl) ?_)
  rintro _ _ ⟨rfl, rfl⟩
  refine ⟨_, _, rfl, CEnt.refl _, ?_⟩
  refine jq jrl ?_
  refine jq jrc ?_
  refine jq jrpT ?_
  refine jq jrm ?_
  refine jqsp 19 (fun g204_2 => ?_) fun g204_2 => ?_
  rotate_left
  · refine jqs ?_
    refine jqs ?_
    refine jqs ?_
    refine jq jrpF ?_
    refine seq_nil ?_
    refine jcF ?_
    refine code_skip (jtn ?_)
    first
      | (refine code_ent (closeR n 5 l 0 2 rfl rfl rfl (CEnt.osI rfl) (CEnt.refl _) (Nat.le_refl _) (fun _ _ => CEnt.refl _)) ?_; refine code_ent (pick_ent (H' := [rdO n l 5]) [0] (by decide) rfl) ?_; have hE : enterR tag l k = nextR tag l 5 := by unfold enterR; rw [if_pos (by simp_all [moreM, madeM])])
      | (refine code_ent (pick_ent (H' := [rdO n l k]) [0] (by decide) rfl) ?_; have hE : enterR tag l k = nextR tag l k := by unfold enterR; rw [if_neg (by simp_all [moreM, madeM])])
    refine jcr ?_
    refine jq jrm ?_
    refine jq jrm ?_
    refine jqm (jmcH 0 (nextR_ac n l _ tag hl hb) ?_)
    rintro _ _ ⟨rfl, rfl⟩
    refine ⟨_, _, rfl, CEnt.refl _, ?_⟩
    refine jq jrm ?_
    refine jq jrx ?_
    refine jq jrx ?_
    refine jq jrx ?_
    refine jqe (jeal (n := 2) zr68 rfl fun p3 => ?_)
    refine jqm (jmst 2 ?_)
    refine jq jrm ?_
    refine jq jrm ?_
    refine seq_nil ?_
    refine jcs ?_
    rw [← hE]
    have hel : 0 < (enterR tag l k).l.length ∧ (enterR tag l k).l.length ≤ 1000000 := by rw [hE]; exact hnl _
    refine jcr ?_
    refine jq jrm ?_
    refine seq_nil ?_
    refine jcc (fun h208 => ?_) fun h208 => ?_
    rotate_left
    · refine code_skip (jtn ?_)
      first
        | (refine code_ent (closeR n (enterR tag l k).k ((enterR tag l k).l ++ [(enterR tag l k).body]) 0 2 rfl rfl rfl (CEnt.osI (by simp)) (CEnt.refl _) (by simp) (fun _ _ => CEnt.refl _)) ?_; have hL : enterL tag l k = (enterR tag l k).l ++ [(enterR tag l k).body] := by unfold enterL; rw [if_pos (by simpa using h208)])
        | have hL : enterL tag l k = (enterR tag l k).l := by unfold enterL; rw [if_neg (by simpa using h208)]
      refine jcr ?_
      refine jq jrm ?_
      refine jq jrm ?_
      refine seq_nil ?_
      refine code_ret ?_
      rw [hL]
      exact end_H (.inl rfl) rfl (res_1 rfl (arv_tmp rfl)) (CEnt.refl _)
    refine code_ent (freeze 1 rfl) ?_
    refine code_ent (thawP 5 (m := 2) rfl rfl (by decide)) ?_
    dsimp only [List.set_cons_zero, List.set_cons_succ, List.cons_append, List.nil_append, List.length_cons, List.length_nil, Nat.zero_add, Nat.reduceAdd]
    refine code_openR 0 rfl fun gl3 => ?_
    refine jcdZ (.rd 0 (.rd 1 (.rd 2 (.rd 3 (.rd 4 (.rd 5 (.rd 6 (.one 7 (.one 8 (.rd 9 (.rd 10 (.one 11 .done)))))))))))) ?_
    refine jzq jrm ?_
    refine jzq jrm ?_
    refine jzq jrnc ?_
    refine jzq (jrfa 0 1 false) ?_
    refine jzo jrdo ?_
    refine jzq (jrfa 1 1 false) ?_
    refine jzq jrdr ?_
    refine jze (jebl 1 1 zr26 fun p4 => ?_)
    refine jzm (m_appendC (rowC_lb) (l2 := [(enterR tag l k).body]) rfl rfl rfl rfl (by omega) (fun _ _ => CEnt.refl _) (src_os rfl (.inl rfl) (by decide)) rfl (fun j hj => by rcases j with _|j <;> first | exact CEnt.refl _ | exact CEnt.int (by omega) | (exfalso; simp at hj <;> omega)) Tryz.underlying56 nu56 sz26 zr26 by26 rfl (by (simp; omega)) (by (simp; omega)) (leaf_flk rfl rfl) rfl rfl rfl (fun p5 => ?_))
    refine jzq jrnc ?_
    refine jzq (jrfa 0 1 false) ?_
    refine jzm (jmst 1 ?_)
    refine jzd ?_
    refine jtn ?_
    first
      | (refine code_ent (closeR n (enterR tag l k).k ((enterR tag l k).l ++ [(enterR tag l k).body]) 0 2 rfl rfl rfl (CEnt.osI (by simp)) (CEnt.refl _) (by simp) (fun _ _ => CEnt.refl _)) ?_; have hL : enterL tag l k = (enterR tag l k).l ++ [(enterR tag l k).body] := by unfold enterL; rw [if_pos (by simpa using h208)])
      | have hL : enterL tag l k = (enterR tag l k).l := by unfold enterL; rw [if_neg (by simpa using h208)]
    refine jcr ?_
    refine jq jrm ?_
    refine jq jrm ?_
    refine seq_nil ?_
    refine code_ret ?_
    rw [hL]
    exact end_H (.inl rfl) rfl (res_1 rfl (arv_tmp rfl)) (CEnt.refl _)
  refine jq jrm ?_
  refine jqe (jecP (made_ac _) ?_)
  refine jq jrn ?_
  refine jq jrpT ?_
  refine seq_nil ?_
  refine jcc (fun h204 => ?_) fun h204 => ?_
  rotate_left
  · refine code_skip (jtn ?_)
    first
      | (refine code_ent (closeR n 5 l 0 2 rfl rfl rfl (CEnt.osI rfl) (CEnt.refl _) (Nat.le_refl _) (fun _ _ => CEnt.refl _)) ?_; refine code_ent (pick_ent (H' := [rdO n l 5]) [0] (by decide) rfl) ?_; have hE : enterR tag l k = nextR tag l 5 := by unfold enterR; rw [if_pos (by simp_all [moreM, madeM])])
      | (refine code_ent (pick_ent (H' := [rdO n l k]) [0] (by decide) rfl) ?_; have hE : enterR tag l k = nextR tag l k := by unfold enterR; rw [if_neg (by simp_all [moreM, madeM])])
    refine jcr ?_
    refine jq jrm ?_
    refine jq jrm ?_
    refine jqm (jmcH 0 (nextR_ac n l _ tag hl hb) ?_)
    rintro _ _ ⟨rfl, rfl⟩
    refine ⟨_, _, rfl, CEnt.refl _, ?_⟩
    refine jq jrm ?_
    refine jq jrx ?_
    refine jq jrx ?_
    refine jq jrx ?_
    refine jqe (jeal (n := 2) zr68 rfl fun p3 => ?_)
    refine jqm (jmst 2 ?_)
    refine jq jrm ?_
    refine jq jrm ?_
    refine seq_nil ?_
    refine jcs ?_
    rw [← hE]
    have hel : 0 < (enterR tag l k).l.length ∧ (enterR tag l k).l.length ≤ 1000000 := by rw [hE]; exact hnl _
    refine jcr ?_
    refine jq jrm ?_
    refine seq_nil ?_
    refine jcc (fun h208 => ?_) fun h208 => ?_
    rotate_left
    · refine code_skip (jtn ?_)
      first
        | (refine code_ent (closeR n (enterR tag l k).k ((enterR tag l k).l ++ [(enterR tag l k).body]) 0 2 rfl rfl rfl (CEnt.osI (by simp)) (CEnt.refl _) (by simp) (fun _ _ => CEnt.refl _)) ?_; have hL : enterL tag l k = (enterR tag l k).l ++ [(enterR tag l k).body] := by unfold enterL; rw [if_pos (by simpa using h208)])
        | have hL : enterL tag l k = (enterR tag l k).l := by unfold enterL; rw [if_neg (by simpa using h208)]
      refine jcr ?_
      refine jq jrm ?_
      refine jq jrm ?_
      refine seq_nil ?_
      refine code_ret ?_
      rw [hL]
      exact end_H (.inl rfl) rfl (res_1 rfl (arv_tmp rfl)) (CEnt.refl _)
    refine code_ent (freeze 1 rfl) ?_
    refine code_ent (thawP 5 (m := 2) rfl rfl (by decide)) ?_
    dsimp only [List.set_cons_zero, List.set_cons_succ, List.cons_append, List.nil_append, List.length_cons, List.length_nil, Nat.zero_add, Nat.reduceAdd]
    refine code_openR 0 rfl fun gl3 => ?_
    refine jcdZ (.rd 0 (.rd 1 (.rd 2 (.rd 3 (.rd 4 (.rd 5 (.rd 6 (.one 7 (.one 8 (.rd 9 (.rd 10 (.one 11 .done)))))))))))) ?_
    refine jzq jrm ?_
    refine jzq jrm ?_
    refine jzq jrnc ?_
    refine jzq (jrfa 0 1 false) ?_
    refine jzo jrdo ?_
    refine jzq (jrfa 1 1 false) ?_
    refine jzq jrdr ?_
    refine jze (jebl 1 1 zr26 fun p4 => ?_)
    refine jzm (m_appendC (rowC_lb) (l2 := [(enterR tag l k).body]) rfl rfl rfl rfl (by omega) (fun _ _ => CEnt.refl _) (src_os rfl (.inl rfl) (by decide)) rfl (fun j hj => by rcases j with _|j <;> first | exact CEnt.refl _ | exact CEnt.int (by omega) | (exfalso; simp at hj <;> omega)) Tryz.underlying56 nu56 sz26 zr26 by26 rfl (by (simp; omega)) (by (simp; omega)) (leaf_flk rfl rfl) rfl rfl rfl (fun p5 => ?_))
    refine jzq jrnc ?_
    refine jzq (jrfa 0 1 false) ?_
    refine jzm (jmst 1 ?_)
    refine jzd ?_
    refine jtn ?_
    first
      | (refine code_ent (closeR n (enterR tag l k).k ((enterR tag l k).l ++ [(enterR tag l k).body]) 0 2 rfl rfl rfl (CEnt.osI (by simp)) (CEnt.refl _) (by simp) (fun _ _ => CEnt.refl _)) ?_; have hL : enterL tag l k = (enterR tag l k).l ++ [(enterR tag l k).body] := by unfold enterL; rw [if_pos (by simpa using h208)])
      | have hL : enterL tag l k = (enterR tag l k).l := by unfold enterL; rw [if_neg (by simpa using h208)]
    refine jcr ?_
    refine jq jrm ?_
    refine jq jrm ?_
    refine seq_nil ?_
    refine code_ret ?_
    rw [hL]
    exact end_H (.inl rfl) rfl (res_1 rfl (arv_tmp rfl)) (CEnt.refl _)
  refine code_openR 0 rfl fun gl2 => ?_
  refine jcg ?_
  refine jq jrm ?_
  refine jq (jrde 4) ?_
  refine jq jrnc ?_
  refine jq (jrfa 1 1 false) ?_
  refine jqm (jmstF 1 (fl [.os 2 gl2 0 l.length 1, .err 5]) ?_ ?_)
  · exact (fun j hj => by rcases j with _ | _ | j <;> exact CEnt.refl _)
  refine seq_nil ?_
  refine jtn ?_
  first
    | (refine code_ent (closeR n 5 l 0 2 rfl rfl rfl (CEnt.osI rfl) (CEnt.refl _) (Nat.le_refl _) (fun _ _ => CEnt.refl _)) ?_; refine code_ent (pick_ent (H' := [rdO n l 5]) [0] (by decide) rfl) ?_; have hE : enterR tag l k = nextR tag l 5 := by unfold enterR; rw [if_pos (by simp_all [moreM, madeM])])
    | (refine code_ent (pick_ent (H' := [rdO n l k]) [0] (by decide) rfl) ?_; have hE : enterR tag l k = nextR tag l k := by unfold enterR; rw [if_neg (by simp_all [moreM, madeM])])
  refine jcr ?_
  refine jq jrm ?_
  refine jq jrm ?_
  refine jqm (jmcH 0 (nextR_ac n l _ tag hl hb) ?_)
  rintro _ _ ⟨rfl, rfl⟩
  refine ⟨_, _, rfl, CEnt.refl _, ?_⟩
  refine jq jrm ?_
  refine jq jrx ?_
  refine jq jrx ?_
  refine jq jrx ?_
  refine jqe (jeal (n := 2) zr68 rfl fun p3 => ?_)
  refine jqm (jmst 2 ?_)
  refine jq jrm ?_
  refine jq jrm ?_
  refine seq_nil ?_
  refine jcs ?_
  rw [← hE]
  have hel : 0 < (enterR tag l k).l.length ∧ (enterR tag l k).l.length ≤ 1000000 := by rw [hE]; exact hnl _
  refine jcr ?_
  refine jq jrm ?_
  refine seq_nil ?_
  refine jcc (fun h208 => ?_) fun h208 => ?_
  rotate_left
  · refine code_skip (jtn ?_)
    first
      | (refine code_ent (closeR n (enterR tag l k).k ((enterR tag l k).l ++ [(enterR tag l k).body]) 0 2 rfl rfl rfl (CEnt.osI (by simp)) (CEnt.refl _) (by simp) (fun _ _ => CEnt.refl _)) ?_; have hL : enterL tag l k = (enterR tag l k).l ++ [(enterR tag l k).body] := by unfold enterL; rw [if_pos (by simpa using h208)])
      | have hL : enterL tag l k = (enterR tag l k).l := by unfold enterL; rw [if_neg (by simpa using h208)]
    refine jcr ?_
    refine jq jrm ?_
    refine jq jrm ?_
    refine seq_nil ?_
    refine code_ret ?_
    rw [hL]
    exact end_H (.inl rfl) rfl (res_1 rfl (arv_tmp rfl)) (CEnt.refl _)
  refine code_ent (freeze 1 rfl) ?_
  refine code_ent (thawP 5 (m := 2) rfl rfl (by decide)) ?_
  dsimp only [List.set_cons_zero, List.set_cons_succ, List.cons_append, List.nil_append, List.length_cons, List.length_nil, Nat.zero_add, Nat.reduceAdd]
  refine code_openR 0 rfl fun gl3 => ?_
  refine jcdZ (.rd 0 (.rd 1 (.rd 2 (.rd 3 (.rd 4 (.rd 5 (.rd 6 (.one 7 (.one 8 (.rd 9 (.rd 10 (.one 11 .done)))))))))))) ?_
  refine jzq jrm ?_
  refine jzq jrm ?_
  refine jzq jrnc ?_
  refine jzq (jrfa 0 1 false) ?_
  refine jzo jrdo ?_
  refine jzq (jrfa 1 1 false) ?_
  refine jzq jrdr ?_
  refine jze (jebl 1 1 zr26 fun p4 => ?_)
  refine jzm (m_appendC (rowC_lb) (l2 := [(enterR tag l k).body]) rfl rfl rfl rfl (by omega) (fun _ _ => CEnt.refl _) (src_os rfl (.inl rfl) (by decide)) rfl (fun j hj => by rcases j with _|j <;> first | exact CEnt.refl _ | exact CEnt.int (by omega) | (exfalso; simp at hj <;> omega)) Tryz.underlying56 nu56 sz26 zr26 by26 rfl (by (simp; omega)) (by (simp; omega)) (leaf_flk rfl rfl) rfl rfl rfl (fun p5 => ?_))
  refine jzq jrnc ?_
  refine jzq (jrfa 0 1 false) ?_
  refine jzm (jmst 1 ?_)
  refine jzd ?_
  refine jtn ?_
  first
    | (refine code_ent (closeR n (enterR tag l k).k ((enterR tag l k).l ++ [(enterR tag l k).body]) 0 2 rfl rfl rfl (CEnt.osI (by simp)) (CEnt.refl _) (by simp) (fun _ _ => CEnt.refl _)) ?_; have hL : enterL tag l k = (enterR tag l k).l ++ [(enterR tag l k).body] := by unfold enterL; rw [if_pos (by simpa using h208)])
    | have hL : enterL tag l k = (enterR tag l k).l := by unfold enterL; rw [if_neg (by simpa using h208)]
  refine jcr ?_
  refine jq jrm ?_
  refine jq jrm ?_
  refine seq_nil ?_
  refine code_ret ?_
  rw [hL]
  exact end_H (.inl rfl) rfl (res_1 rfl (arv_tmp rfl)) (CEnt.refl _)
/-- an element is left -/
def leaveK (l : List (List UInt8)) (k : Nat) : Nat := if k ≠ 0 then k else if l.length = 1 then 24 else if 0 < (nowL l).length then 4 else 0
def leaveL (l : List (List UInt8)) (k : Nat) : List (List UInt8) := if leaveK l k = 0 then l.take (l.length - 1) else l
theorem lbF_take {l : List (List UInt8)} {m j : Nat} (h : j < m) : CEnt (lbF l j) (lbF (l.take m) j) := by
  refine CEnt.of_eq ?_
  simp [lbF, List.getD_eq_getElem?_getD, List.getElem?_take, h]
theorem leave_ac (n : Nat) (l : List (List UInt8)) (k : Nat) (hl : 0 < l.length ∧ l.length ≤ 1000000) : AC gs Tryz.prog 44 [rdO n l k] [.op 0 (some n) 0]
    (fun r H' => r = .c (.tuple #[]) ∧ H' = [rdO n (leaveL l k) (leaveK l k)]) := by
  have stay : ∀ {e}, leaveK l k = e → e ≠ 0 → leaveL l k = l := fun h h0 => by unfold leaveL; rw [h, if_neg h0]
  refine ac_of 45 Tryz.func44 rfl rfl rfl (fun al w0 F0 St0 => ?_)
  refine code_openR 0 rfl fun gl => ?_
  refine jcr ?_
  refine jq jrm ?_
  refine jq jrnc ?_
  refine jq (jrfa 0 1 false) ?_
  refine jqo jrdo ?_
  refine jq jrl ?_
  refine jq jra ?_
  refine jq jrm ?_
  refine seq_nil ?_
  refine code_block ?_
  refine jcr ?_
  refine jq jrm ?_
  refine jq jrnc ?_
  refine jq (jrfa 1 1 false) ?_
  refine jqo jrdo ?_
  refine jq jre ?_
  refine jq jrm ?_
  refine seq_nil ?_
  refine jcc (fun h218 => ?_) fun h218 => ?_
  · refine code_skip (jbn ?_)
    have e : leaveK l k = k := by unfold leaveK; rw [if_pos (by omega)]
    rw [stay e (by omega), e]
    exact end_pack (gd := fun z : Nat × Option Nat => z.1) (E := rdE l k) (.inr rfl) _ (n, gl) [0, 1] (by decide) rfl (res_0 rfl) ⟨rfl, rfl⟩
  refine jcr ?_
  refine jq jrm ?_
  refine jq jrc ?_
  refine jq jrm ?_
  refine seq_nil ?_
  refine jcc (fun h219 => ?_) fun h219 => ?_
  · refine jcg ?_
    refine jq jrm ?_
    refine jq (jrde 23) ?_
    refine jq jrnc ?_
    refine jq (jrfa 1 1 false) ?_
    refine jqm (jmstF 1 (fl [.os 1 gl 0 l.length 1, .err 24]) ?_ ?_)
    · exact (fun j hj => by rcases j with _ | _ | j <;> exact CEnt.refl _)
    refine seq_nil ?_
    refine jbn ?_
    have e : leaveK l k = 24 := by unfold leaveK; rw [if_neg (by omega), if_pos (by omega)]
    rw [stay e (by omega), e]
    exact end_pack (gd := fun z : Nat × Option Nat => z.1) (E := rdE l 24) (.inr rfl) _ (n, gl) [0, 1] (by decide) rfl (res_0 rfl) ⟨rfl, rfl⟩
  refine jcr ?_
  refine jq jrm ?_
  refine jq jrnc ?_
  refine jq (jrfa 0 1 false) ?_
  refine jqo jrdo ?_
  refine jq jrm ?_
  refine jq (jri (i := (l.length - 1)) (hz := by omega)) ?_
  refine jqo jrdo ?_
  refine jq jrl ?_
  refine jq jrc ?_
  refine jq jrm ?_
  refine seq_nil ?_
  refine jcc (fun h221 => ?_) fun h221 => ?_
  · refine jcg ?_
    refine jq jrm ?_
    refine jq (jrde 3) ?_
    refine jq jrnc ?_
    refine jq (jrfa 1 1 false) ?_
    refine jqm (jmstF 1 (fl [.os 1 gl 0 l.length 1, .err 4]) ?_ ?_)
    · exact (fun j hj => by rcases j with _ | _ | j <;> exact CEnt.refl _)
    refine seq_nil ?_
    refine jbn ?_
    have e : leaveK l k = 4 := by unfold leaveK; rw [if_neg (by omega), if_neg (by omega), if_pos (by unfold nowL; omega)]
    rw [stay e (by omega), e]
    exact end_pack (gd := fun z : Nat × Option Nat => z.1) (E := rdE l 4) (.inr rfl) _ (n, gl) [0, 1] (by decide) rfl (res_0 rfl) ⟨rfl, rfl⟩
  refine jcg ?_
  refine jq jrm ?_
  refine jq jrm ?_
  refine jq jrnc ?_
  refine jq (jrfa 0 1 false) ?_
  refine jqo jrdo ?_
  refine jq jrm ?_
  refine jq jrso ?_
  refine jq jrnc ?_
  refine jq (jrfa 0 1 false) ?_
  have hk0 : k = 0 := by omega
  refine seq_ent (weakH 1 (l.length - 1) (lbF (l.take (l.length - 1))) rfl (by omega) (fun j hj => lbF_take hj)) ?_
  refine jqm (jmstF 1 (fl [.os 1 gl 0 (l.length - 1) 1, .err 0]) ?_ ?_)
  · exact (fun j hj => by rcases j with _ | _ | j <;> first | exact CEnt.refl _ | exact CEnt.osI (by omega) | exact CEnt.err hk0 | omega)
  refine seq_nil ?_
  refine jbn ?_
  have e : leaveK l k = 0 := by unfold leaveK; rw [if_neg (by omega), if_neg (by omega), if_neg (by unfold nowL; omega)]
  have e2 : leaveL l k = l.take (l.length - 1) := by unfold leaveL; rw [if_pos e]
  have e3 : (l.take (l.length - 1)).length = l.length - 1 := by rw [List.length_take]; omega
  rw [e2, e]
  exact end_pack (gd := fun z : Nat × Option Nat => z.1) (E := rdE (l.take (l.length - 1)) 0) (.inr rfl) _ (n, gl) [0, 1] (by decide) (by unfold rdE; rw [e3]; rfl) (res_0 rfl) ⟨rfl, rfl⟩
/-- the first error, at the end -/
def endK (l : List (List UInt8)) (k : Nat) : Nat := if k ≠ 0 then k else if 1 < l.length then 24 else if 0 < (l.getD 0 []).length then 4 else 0
theorem end08_ac (n : Nat) (l : List (List UInt8)) (k : Nat) (hl : 0 < l.length ∧ l.length ≤ 1000000) : AC gs Tryz.prog 33 [rdO n l k] [.op 0 (some n) 0]
    (fun r H' => r = .err (endK l k) ∧ H' = [rdO n l k]) := by
  refine ac_of 31 Tryz.func33 rfl rfl rfl (fun al w0 F0 St0 => ?_)
  refine jcr ?_
  refine jq jrm ?_
  refine seq_nil ?_
  refine jcs ?_
  refine code_block ?_
  refine code_openR 0 rfl fun gl => ?_
  refine jcr ?_
  refine jq jrm ?_
  refine jq jrnc ?_
  refine jq (jrfa 1 1 false) ?_
  refine jqo jrdo ?_
  refine jq jre ?_
  refine jq jrm ?_
  refine seq_nil ?_
  refine jcc (fun h292 => ?_) fun h292 => ?_
  · refine jcr ?_
    refine jq jrm ?_
    refine jq jrnc ?_
    refine jq (jrfa 1 1 false) ?_
    refine jqo jrdo ?_
    refine jq jrm ?_
    refine seq_nil ?_
    refine code_ret (jbr (jtr ?_))
    exact end_packV (gd := fun z : Nat × Option Nat => z.1) (E := rdE l k) (.inl rfl) (n, gl) [0, 1] (by decide) rfl (res_1 rfl (arv_tmp rfl)) (CEnt.err (by unfold endK; rw [if_pos (by omega)]))
  refine jcr ?_
  refine jq jrm ?_
  refine jq jrnc ?_
  refine jq (jrfa 0 1 false) ?_
  refine jqo jrdo ?_
  refine jq jrl ?_
  refine jq jrc ?_
  refine jq jrm ?_
  refine seq_nil ?_
  refine jcc (fun h294 => ?_) fun h294 => ?_
  · refine jcr ?_
    refine jq (jrde 23) ?_
    refine jq jrm ?_
    refine seq_nil ?_
    refine code_ret (jbr (jtr ?_))
    exact end_packV (gd := fun z : Nat × Option Nat => z.1) (E := rdE l k) (.inl rfl) (n, gl) [0, 1] (by decide) rfl (res_1 rfl (arv_tmp rfl)) (CEnt.err (by unfold endK; rw [if_neg (by omega), if_pos (by omega)]))
  refine jcr ?_
  refine jq jrm ?_
  refine jq jrnc ?_
  refine jq (jrfa 0 1 false) ?_
  refine jqo jrdo ?_
  refine jq (jri (i := 0)) ?_
  refine jqo jrdo ?_
  refine jq jrl ?_
  refine jq jrc ?_
  refine jq jrm ?_
  refine seq_nil ?_
  refine jcc (fun h296 => ?_) fun h296 => ?_
  · refine jcr ?_
    refine jq (jrde 3) ?_
    refine jq jrm ?_
    refine seq_nil ?_
    refine code_ret (jbr (jtr ?_))
    exact end_packV (gd := fun z : Nat × Option Nat => z.1) (E := rdE l k) (.inl rfl) (n, gl) [0, 1] (by decide) rfl (res_1 rfl (arv_tmp rfl)) (CEnt.err (by unfold endK; rw [if_neg (by omega), if_neg (by omega), if_pos (by omega)]))
  refine code_skip (jbn (jtn ?_))
  refine jcr ?_
  refine jq jrm ?_
  refine seq_nil ?_
  refine code_ret ?_
  have e : endK l k = 0 := by unfold endK; rw [if_neg (by omega), if_neg (by omega), if_neg (by omega)]
  rw [e]
  exact end_packV (gd := fun z : Nat × Option Nat => z.1) (E := rdE l k) (.inl rfl) (n, gl) [0, 1] (by decide) rfl (res_1 rfl (arv_tmp rfl)) CEnt.nil
theorem raw08_ac (n : Nat) (l : List (List UInt8)) (k : Nat) (hl : 0 < l.length ∧ l.length ≤ 1000000) (hb : (nowL l).length ≤ 10000000) : AC gs Tryz.prog 75 [rdO n l k] [.op 0 (some n) 0]
    (fun r H' => r = bsC (nextR 0 l k).raw ∧ H' = [rdO n (nextR 0 l k).l (nextR 0 l k).k]) := by
  have hr : (nextR 0 l k).raw.length ≤ 100000000000 := by
    unfold nextR
    split
    · simp
    · split
      · simp
      · split
        · simp
        · simp only [List.length_take]; omega
  refine ac_of 14 Tryz.func75 rfl rfl rfl (fun al w0 F0 St0 => ?_)
  refine jcr ?_
  refine jq jrm ?_
  refine seq_nil ?_
  refine jcr ?_
  refine jq jrm ?_
  refine jqm (jmcH 0 (nextR_ac n l k 0 hl hb) ?_)
  rintro _ _ ⟨rfl, rfl⟩
  refine ⟨_, _, rfl, CEnt.refl _, ?_⟩
  refine jq jrm ?_
  refine jq jrx ?_
  refine jq jrx ?_
  refine jq jrx ?_
  refine jqe (jeal (n := 2) zr68 rfl fun p2 => ?_)
  refine jqm (jmst 2 ?_)
  refine jq jrm ?_
  refine jq jrm ?_
  refine seq_nil ?_
  refine jcr ?_
  refine jq jrm ?_
  refine jqe (jecP (clone8_ac (nextR 0 l k).raw hr) ?_)
  refine jq jrm ?_
  refine seq_nil ?_
  refine code_ret ?_
  exact end_H (.inl rfl) rfl (res_1 rfl (arv_tmp rfl)) (CEnt.refl _)
end Am
end Go.Proofs.YtgnjjenalebiaaaGreatDoor

/- Chapter 8: the reader's values: whole numbers. -/
namespace Go.Proofs.YtgnjjenalebiaaaGreatDoor
set_option linter.unusedVariables false
namespace Am
variable {gs : List Nat} [Ok9 gs]
open Go.RowKit
set_option maxRecDepth 100000

theorem nextR_is {tag : Int} {l : List (List UInt8)} {k : Nat} (h : (nextR tag l k).is = true) : (nextR tag l k).k = 0 ∧ (nextR tag l k).body.length ≤ 65530 := by
  have hb := nextM_bd (nowL l)
  unfold nextR at h ⊢
  split
  · rename_i h1; rw [if_pos h1] at h; cases h
  · rename_i h1; rw [if_neg h1] at h
    split
    · rename_i h2; rw [if_pos h2] at h; cases h
    · rename_i h2; rw [if_neg h2] at h
      split
      · rename_i h3; rw [if_pos h3] at h; cases h
      · exact ⟨rfl, hb.2.2.1⟩
/-- the reader's error behind a value whose body has this error -/
def valK (tag : Int) (l : List (List UInt8)) (k : Nat) (e : List UInt8 → Nat) : Nat := if (nextR tag l k).is = true then e (nextR tag l k).body else (nextR tag l k).k
theorem nextR_len {tag : Int} {l : List (List UInt8)} {k : Nat} : (nextR tag l k).l.length = l.length := by
  unfold nextR
  split
  · rfl
  · split
    · rfl
    · split
      · rfl
      · simp
theorem valueI_ac {gs : List Nat} [Ok9 gs] {f : FuncId} {m : Nat} {fv : Nat → CV} (hc : calleeB Tryz.prog f = true) (n : Nat) (l : List (List UInt8)) (k : Nat) (tag : Int) (get : List UInt8 → Int × Nat) (hl : 0 < l.length ∧ l.length ≤ 1000000) (hb : (nowL l).length ≤ 10000000) (hp : ∀ b : List UInt8, b.length ≤ 65530 → ACp gs Tryz.prog f (bsC b :: (List.range m).map fv) (.tup 2 (fl [.c (.int .i64 (get b).1), .err (get b).2]))) :
    AC gs Tryz.prog 79 [rdO n l k] [.op 0 (some n) 0, .c (.int .i64 tag), .fn f m fv]
      (fun r H' => r = .c (.int .i64 (if (nextR tag l k).is = true ∧ (get (nextR tag l k).body).2 = 0 then (get (nextR tag l k).body).1 else 0)) ∧ H' = [rdO n (nextR tag l k).l (valK tag l k fun b => (get b).2)]) := by
  have hln : (nextR tag l k).l.length = l.length := nextR_len
  refine ac_of 38 Tryz.func79 rfl rfl rfl (fun al w0 F0 St0 => ?_)
  refine jcr ?_
  refine jq jrm ?_
  refine seq_nil ?_
  refine jcr ?_
  refine jq jrm ?_
  refine seq_nil ?_
  refine jcr ?_
  refine jq jrm ?_
  refine jq jrm ?_
  refine jqm (jmcH 0 (nextR_ac n l k tag hl hb) ?_)
  rintro _ _ ⟨rfl, rfl⟩
  refine ⟨_, _, rfl, CEnt.refl _, ?_⟩
  refine jq jrm ?_
  refine jq jrx ?_
  refine jq jrx ?_
  refine jq jrx ?_
  refine jqe (jeal (n := 2) zr68 rfl fun p2 => ?_)
  refine jqm (jmst 2 ?_)
  refine jq jrm ?_
  refine jq jrm ?_
  refine seq_nil ?_
  refine jcs ?_
  refine jcr ?_
  refine jq jrm ?_
  refine jq jrn ?_
  refine seq_nil ?_
  refine jcc (fun h232 => ?_) fun h232 => ?_
  · refine jcr ?_
    refine jq jrm ?_
    refine jq jrm ?_
    refine seq_nil ?_
    refine code_ret (jtr ?_)
    rw [if_neg (by simp_all)]
    have e : (valK tag l k fun b => (get b).2) = (nextR tag l k).k := by unfold valK; rw [if_neg (by simpa using h232)]
    rw [e]
    exact end_H (.inl rfl) rfl (res_1 rfl (arv_tmp rfl)) (CEnt.refl _)
  refine code_skip (jtn ?_)
  have his := nextR_is (by simpa using h232)
  refine jcr ?_
  refine jq jrm ?_
  refine jq (jrfa 1 1 false) ?_
  refine jqo jrdo ?_
  refine jqe (e_callV rfl rfl (by assumption) (hp (nextR tag l k).body his.2) (entL_fn (CEnt.refl _) _) rfl rfl ?_)
  rintro _ _ ⟨rfl, rfl⟩
  refine jq jrm ?_
  refine jq jrx ?_
  refine jq jrx ?_
  refine jq jrm ?_
  refine jq jrm ?_
  refine seq_nil ?_
  refine jcs ?_
  refine jcr ?_
  refine jq jrm ?_
  refine jq jre ?_
  refine seq_nil ?_
  refine jcc (fun h236 => ?_) fun h236 => ?_
  rotate_left
  · refine code_skip (jtn ?_)
    refine jcr ?_
    refine jq jrm ?_
    refine jq jrm ?_
    refine seq_nil ?_
    refine code_ret ?_
    have h0 : (get (nextR tag l k).body).2 = 0 := by omega
    rw [if_pos ⟨by simpa using h232, h0⟩]
    have e : (valK tag l k fun b => (get b).2) = (nextR tag l k).k := by unfold valK; rw [if_pos (by simpa using h232), his.1]; exact h0
    rw [e]
    exact end_H (.inl rfl) rfl (res_1 rfl (arv_tmp rfl)) (CEnt.refl _)
  refine code_openR 0 rfl fun gl => ?_
  refine jcr ?_
  refine jq jrm ?_
  refine jq jrm ?_
  refine jq jrnc ?_
  refine jq (jrfa 1 1 false) ?_
  refine jqm (jmst 1 ?_)
  refine seq_nil ?_
  refine code_ent (closeR n (get (nextR tag l k).body).2 (nextR tag l k).l 0 2 rfl rfl rfl (CEnt.osI rfl) (CEnt.refl _) (Nat.le_refl _) (fun _ _ => CEnt.refl _)) ?_
  refine jcr ?_
  refine jq jrm ?_
  refine jq jrm ?_
  refine seq_nil ?_
  refine code_ret (jtr ?_)
  rw [if_neg (by omega)]
  have e : (valK tag l k fun b => (get b).2) = (get (nextR tag l k).body).2 := by unfold valK; rw [if_pos (by simpa using h232)]
  rw [e]
  exact end_H (.inl rfl) rfl (res_1 rfl (arv_tmp rfl)) (CEnt.refl _)
theorem CEnt.fn2' {k : FuncId} {f g : Nat → CV} (h0 : CEnt (f 0) (g 0)) (h1 : CEnt (f 1) (g 1)) : CEnt (.fn k 2 f) (.fn k 2 g) := fun al St w v ⟨cs, k1, k2, k3⟩ => ⟨cs, k1, k2, fun i hi => by
  rcases i with _ | _ | i
  · exact h0 _ _ _ _ (k3 0 (by omega))
  · exact h1 _ _ _ _ (k3 1 (by omega))
  · omega⟩
theorem int_box {z : Int} : ∀ j, j < 1 → CEnt (fl [CV.c (.int .i64 z)] (0 + j)) (CV.c (.int .i64 z)) := fun j hj => by
  obtain rfl : j = 0 := by omega
  exact CEnt.refl _
/-- two numbers that a closure holds -/
def twoF (a b : Int) : Nat → CV := fl [.rp 1 fun _ => .c (.int .i64 a), .rp 1 fun _ => .c (.int .i64 b)]
theorem intG_ac (least most : Int) (b : List UInt8) : ACp gs Tryz.prog 80 (bsC b :: (List.range 2).map (twoF least most)) (.tup 2 (fl [.c (.int .i64 (rangeM b least most).1), .err (rangeM b least most).2])) := by
  refine ac_of 12 Tryz.func80 rfl rfl rfl (fun al w0 F0 St0 => ?_)
  refine jcr ?_
  refine jq jrm ?_
  refine jq jrm ?_
  refine seq_nil ?_
  refine jcr ?_
  refine jq jrm ?_
  refine jq jrdr ?_
  refine jq jrdr ?_
  refine jqe (jecP (wrange_ac b least most) ?_)
  refine jq jrx ?_
  refine jq jrx ?_
  refine jq jrm ?_
  refine jq jrm ?_
  refine seq_nil ?_
  refine code_ret jrt
theorem int08_ac (n : Nat) (l : List (List UInt8)) (k : Nat) (least most : Int) (hl : 0 < l.length ∧ l.length ≤ 1000000) (hb : (nowL l).length ≤ 10000000) :
    AC gs Tryz.prog 41 [rdO n l k] [.op 0 (some n) 0, .c (.int .i64 least), .c (.int .i64 most)]
      (fun r H' => r = .c (.int .i64 (if (nextR 2 l k).is = true ∧ (rangeM (nextR 2 l k).body least most).2 = 0 then (rangeM (nextR 2 l k).body least most).1 else 0)) ∧ H' = [rdO n (nextR 2 l k).l (valK 2 l k fun b => (rangeM b least most).2)]) := by
  refine ac_of 10 Tryz.func41 rfl rfl rfl (fun al w0 F0 St0 => ?_)
  refine jcr ?_
  refine jqe (jebx 1 fun p1 => ?_)
  refine jqe (jebx 1 fun p2 => ?_)
  refine jq jrm ?_
  refine seq_nil ?_
  refine code_ent (freeze 1 rfl) ?_
  refine code_ent (freeze 2 rfl) ?_
  refine code_ent (thawP 4 (m := 1) rfl rfl (by decide)) ?_
  refine code_ent (thawP 5 (m := 1) rfl rfl (by decide)) ?_
  refine jcr ?_
  refine jq jrm ?_
  refine jq jrmf ?_
  refine jqm (jmcH 0 (valueI_ac (fv := twoF least most) (by kernel_rfl) n l k 2 (fun b => rangeM b least most) hl hb (fun b _ => intG_ac least most b)) ?_ (ho := rfl) (he := (.cons (se rfl CEnt.opI) (.cons (se rfl (CEnt.refl _)) (.cons (se rfl (CEnt.fn2' (CEnt.rp int_box) (CEnt.rp int_box))) .nil)))))
  rintro _ _ ⟨rfl, rfl⟩
  refine ⟨_, _, rfl, CEnt.refl _, ?_⟩
  refine jq jrm ?_
  refine seq_nil ?_
  refine code_ret ?_
  exact end_H (.inl rfl) rfl (res_1 rfl (arv_tmp rfl)) (CEnt.refl _)
end Am
end Go.Proofs.YtgnjjenalebiaaaGreatDoor

/- Chapter 8: a reader is made. -/
namespace Go.Proofs.YtgnjjenalebiaaaGreatDoor
set_option linter.unusedVariables false
namespace Am
variable {gs : List Nat} [Ok9 gs]
open Go.RowKit
set_option maxRecDepth 100000

theorem read08_ac (b : List UInt8) (hb : b.length ≤ 10000000) : AC gs Tryz.prog 16 [] [bsC b] (fun r H' => ∃ n, r = .op 0 (some n) 0 ∧ H' = [rdO n [b] (depthM b).2]) := by
  refine ac_of 10 Tryz.func16 rfl rfl rfl (fun al w0 F0 St0 => ?_)
  refine jcr ?_
  refine jq jrm ?_
  refine seq_nil ?_
  refine jcr ?_
  refine jq jrm ?_
  refine jqe (jecP (clone8_ac b (by omega)) ?_)
  refine jqe (jebl 1 1 zr26 fun p1 => ?_)
  refine jq jrm ?_
  refine jqe (jecP (check_ac b hb) ?_)
  refine jq (rd_build (n := 2) rfl zr93 pl93 rfl rfl) ?_
  refine jqe (jebx 2 fun p2 => ?_)
  refine jq jrm ?_
  refine seq_nil ?_
  refine code_knowG (know_op 2 rfl) fun hn => ?_
  obtain ⟨n, rfl⟩ := hn
  refine code_ent (closeR n (depthM b).2 [b] 1 0 rfl rfl rfl (CEnt.osI rfl) (CEnt.refl _) (Nat.le_refl _) (fun a ha => by obtain rfl : a = 0 := (by simpa using ha); exact CEnt.refl _)) ?_
  refine code_ret ?_
  exact end_ownV (.inl rfl) [1] (by decide) rfl (res_1 rfl (arv_tmp rfl)) (CEnt.opI (j := 0)) ⟨n, rfl, rfl⟩
end Am
end Go.Proofs.YtgnjjenalebiaaaGreatDoor

/- Chapter 8: the reader's values of other kinds. -/
namespace Go.Proofs.YtgnjjenalebiaaaGreatDoor
set_option linter.unusedVariables false
namespace Am
variable {gs : List Nat} [Ok9 gs]
open Go.RowKit
set_option maxRecDepth 100000

theorem valueB_ac {gs : List Nat} [Ok9 gs] {f : FuncId} {m : Nat} {fv : Nat → CV} (hc : calleeB Tryz.prog f = true) (n : Nat) (l : List (List UInt8)) (k : Nat) (tag : Int) (get : List UInt8 → (Bool) × Nat) (hl : 0 < l.length ∧ l.length ≤ 1000000) (hb : (nowL l).length ≤ 10000000) (hp : ∀ b : List UInt8, b.length ≤ 65530 → ACp gs Tryz.prog f (bsC b :: (List.range m).map fv) (.tup 2 (fl [(fun z : Bool => CV.c (.bool z)) (get b).1, .err (get b).2]))) :
    AC gs Tryz.prog 115 [rdO n l k] [.op 0 (some n) 0, .c (.int .i64 tag), .fn f m fv]
      (fun r H' => r = (fun z : Bool => CV.c (.bool z)) (if (nextR tag l k).is = true ∧ (get (nextR tag l k).body).2 = 0 then (get (nextR tag l k).body).1 else false) ∧ H' = [rdO n (nextR tag l k).l (valK tag l k fun b => (get b).2)]) := by
  have hln : (nextR tag l k).l.length = l.length := nextR_len
  refine ac_of 38 Tryz.func115 rfl rfl rfl (fun al w0 F0 St0 => ?_)
  refine jcr ?_
  refine jq jrm ?_
  refine seq_nil ?_
  refine jcr ?_
  refine jq jrm ?_
  refine seq_nil ?_
  refine jcr ?_
  refine jq jrm ?_
  refine jq jrm ?_
  refine jqm (jmcH 0 (nextR_ac n l k tag hl hb) ?_)
  rintro _ _ ⟨rfl, rfl⟩
  refine ⟨_, _, rfl, CEnt.refl _, ?_⟩
  refine jq jrm ?_
  refine jq jrx ?_
  refine jq jrx ?_
  refine jq jrx ?_
  refine jqe (jeal (n := 2) zr68 rfl fun p2 => ?_)
  refine jqm (jmst 2 ?_)
  refine jq jrm ?_
  refine jq jrm ?_
  refine seq_nil ?_
  refine jcs ?_
  refine jcr ?_
  refine jq jrm ?_
  refine jq jrn ?_
  refine seq_nil ?_
  refine jcc (fun h232 => ?_) fun h232 => ?_
  · refine jcr ?_
    refine jq jrm ?_
    refine jq jrm ?_
    refine seq_nil ?_
    refine code_ret (jtr ?_)
    rw [if_neg (by simp_all)]
    have e : (valK tag l k fun b => (get b).2) = (nextR tag l k).k := by unfold valK; rw [if_neg (by simpa using h232)]
    rw [e]
    exact end_H (.inl rfl) rfl (res_1 rfl (arv_tmp rfl)) (CEnt.refl _)
  refine code_skip (jtn ?_)
  have his := nextR_is (by simpa using h232)
  refine jcr ?_
  refine jq jrm ?_
  refine jq (jrfa 1 1 false) ?_
  refine jqo jrdo ?_
  refine jqe (e_callV rfl rfl (by assumption) (hp (nextR tag l k).body his.2) (entL_fn (CEnt.refl _) _) rfl rfl ?_)
  rintro _ _ ⟨rfl, rfl⟩
  refine jq jrm ?_
  refine jq jrx ?_
  refine jq jrx ?_
  refine jq jrm ?_
  refine jq jrm ?_
  refine seq_nil ?_
  refine jcs ?_
  refine jcr ?_
  refine jq jrm ?_
  refine jq jre ?_
  refine seq_nil ?_
  refine jcc (fun h236 => ?_) fun h236 => ?_
  rotate_left
  · refine code_skip (jtn ?_)
    refine jcr ?_
    refine jq jrm ?_
    refine jq jrm ?_
    refine seq_nil ?_
    refine code_ret ?_
    have h0 : (get (nextR tag l k).body).2 = 0 := by omega
    rw [if_pos ⟨by simpa using h232, h0⟩]
    have e : (valK tag l k fun b => (get b).2) = (nextR tag l k).k := by unfold valK; rw [if_pos (by simpa using h232), his.1]; exact h0
    rw [e]
    exact end_H (.inl rfl) rfl (res_1 rfl (arv_tmp rfl)) (CEnt.refl _)
  refine code_openR 0 rfl fun gl => ?_
  refine jcr ?_
  refine jq jrm ?_
  refine jq jrm ?_
  refine jq jrnc ?_
  refine jq (jrfa 1 1 false) ?_
  refine jqm (jmst 1 ?_)
  refine seq_nil ?_
  refine code_ent (closeR n (get (nextR tag l k).body).2 (nextR tag l k).l 0 2 rfl rfl rfl (CEnt.osI rfl) (CEnt.refl _) (Nat.le_refl _) (fun _ _ => CEnt.refl _)) ?_
  refine jcr ?_
  refine jq jrm ?_
  refine jq jrm ?_
  refine seq_nil ?_
  refine code_ret (jtr ?_)
  rw [if_neg (by omega)]
  have e : (valK tag l k fun b => (get b).2) = (get (nextR tag l k).body).2 := by unfold valK; rw [if_pos (by simpa using h232)]
  rw [e]
  exact end_H (.inl rfl) rfl (res_1 rfl (arv_tmp rfl)) (CEnt.refl _)
theorem valueL_ac {gs : List Nat} [Ok9 gs] {f : FuncId} {m : Nat} {fv : Nat → CV} (hc : calleeB Tryz.prog f = true) (n : Nat) (l : List (List UInt8)) (k : Nat) (tag : Int) (get : List UInt8 → (List UInt8) × Nat) (hl : 0 < l.length ∧ l.length ≤ 1000000) (hb : (nowL l).length ≤ 10000000) (hp : ∀ b : List UInt8, b.length ≤ 65530 → ACp gs Tryz.prog f (bsC b :: (List.range m).map fv) (.tup 2 (fl [bsC (get b).1, .err (get b).2]))) :
    AC gs Tryz.prog 117 [rdO n l k] [.op 0 (some n) 0, .c (.int .i64 tag), .fn f m fv]
      (fun r H' => r = bsC (if (nextR tag l k).is = true ∧ (get (nextR tag l k).body).2 = 0 then (get (nextR tag l k).body).1 else []) ∧ H' = [rdO n (nextR tag l k).l (valK tag l k fun b => (get b).2)]) := by
  have hln : (nextR tag l k).l.length = l.length := nextR_len
  refine ac_of 38 Tryz.func117 rfl rfl rfl (fun al w0 F0 St0 => ?_)
  refine jcr ?_
  refine jq jrm ?_
  refine seq_nil ?_
  refine jcr ?_
  refine jq jrm ?_
  refine seq_nil ?_
  refine jcr ?_
  refine jq jrm ?_
  refine jq jrm ?_
  refine jqm (jmcH 0 (nextR_ac n l k tag hl hb) ?_)
  rintro _ _ ⟨rfl, rfl⟩
  refine ⟨_, _, rfl, CEnt.refl _, ?_⟩
  refine jq jrm ?_
  refine jq jrx ?_
  refine jq jrx ?_
  refine jq jrx ?_
  refine jqe (jeal (n := 2) zr68 rfl fun p2 => ?_)
  refine jqm (jmst 2 ?_)
  refine jq jrm ?_
  refine jq jrm ?_
  refine seq_nil ?_
  refine jcs ?_
  refine jcr ?_
  refine jq jrm ?_
  refine jq jrn ?_
  refine seq_nil ?_
  refine jcc (fun h232 => ?_) fun h232 => ?_
  · refine jcr ?_
    refine jq jrm ?_
    refine jq jrm ?_
    refine seq_nil ?_
    refine code_ret (jtr ?_)
    rw [if_neg (by simp_all)]
    have e : (valK tag l k fun b => (get b).2) = (nextR tag l k).k := by unfold valK; rw [if_neg (by simpa using h232)]
    rw [e]
    exact end_H (.inl rfl) rfl (res_1 rfl (arv_tmp rfl)) (by exact CEnt.nilB)
  refine code_skip (jtn ?_)
  have his := nextR_is (by simpa using h232)
  refine jcr ?_
  refine jq jrm ?_
  refine jq (jrfa 1 1 false) ?_
  refine jqo jrdo ?_
  refine jqe (e_callV rfl rfl (by assumption) (hp (nextR tag l k).body his.2) (entL_fn (CEnt.refl _) _) rfl rfl ?_)
  rintro _ _ ⟨rfl, rfl⟩
  refine jq jrm ?_
  refine jq jrx ?_
  refine jq jrx ?_
  refine jq jrm ?_
  refine jq jrm ?_
  refine seq_nil ?_
  refine jcs ?_
  refine jcr ?_
  refine jq jrm ?_
  refine jq jre ?_
  refine seq_nil ?_
  refine jcc (fun h236 => ?_) fun h236 => ?_
  rotate_left
  · refine code_skip (jtn ?_)
    refine jcr ?_
    refine jq jrm ?_
    refine jq jrm ?_
    refine seq_nil ?_
    refine code_ret ?_
    have h0 : (get (nextR tag l k).body).2 = 0 := by omega
    rw [if_pos ⟨by simpa using h232, h0⟩]
    have e : (valK tag l k fun b => (get b).2) = (nextR tag l k).k := by unfold valK; rw [if_pos (by simpa using h232), his.1]; exact h0
    rw [e]
    exact end_H (.inl rfl) rfl (res_1 rfl (arv_tmp rfl)) (by exact CEnt.refl _)
  refine code_openR 0 rfl fun gl => ?_
  refine jcr ?_
  refine jq jrm ?_
  refine jq jrm ?_
  refine jq jrnc ?_
  refine jq (jrfa 1 1 false) ?_
  refine jqm (jmst 1 ?_)
  refine seq_nil ?_
  refine code_ent (closeR n (get (nextR tag l k).body).2 (nextR tag l k).l 0 2 rfl rfl rfl (CEnt.osI rfl) (CEnt.refl _) (Nat.le_refl _) (fun _ _ => CEnt.refl _)) ?_
  refine jcr ?_
  refine jq jrm ?_
  refine jq jrm ?_
  refine seq_nil ?_
  refine code_ret (jtr ?_)
  rw [if_neg (by omega)]
  have e : (valK tag l k fun b => (get b).2) = (get (nextR tag l k).body).2 := by unfold valK; rw [if_pos (by simpa using h232)]
  rw [e]
  exact end_H (.inl rfl) rfl (res_1 rfl (arv_tmp rfl)) (by exact CEnt.nilB)
theorem valueS_ac {gs : List Nat} [Ok9 gs] {f : FuncId} {m : Nat} {fv : Nat → CV} (hc : calleeB Tryz.prog f = true) (n : Nat) (l : List (List UInt8)) (k : Nat) (tag : Int) (get : List UInt8 → (List UInt8) × Nat) (hl : 0 < l.length ∧ l.length ≤ 1000000) (hb : (nowL l).length ≤ 10000000) (hp : ∀ b : List UInt8, b.length ≤ 65530 → ACp gs Tryz.prog f (bsC b :: (List.range m).map fv) (.tup 2 (fl [strC (get b).1, .err (get b).2]))) :
    AC gs Tryz.prog 119 [rdO n l k] [.op 0 (some n) 0, .c (.int .i64 tag), .fn f m fv]
      (fun r H' => r = strC (if (nextR tag l k).is = true ∧ (get (nextR tag l k).body).2 = 0 then (get (nextR tag l k).body).1 else []) ∧ H' = [rdO n (nextR tag l k).l (valK tag l k fun b => (get b).2)]) := by
  have hln : (nextR tag l k).l.length = l.length := nextR_len
  refine ac_of 38 Tryz.func119 rfl rfl rfl (fun al w0 F0 St0 => ?_)
  refine jcr ?_
  refine jq jrm ?_
  refine seq_nil ?_
  refine jcr ?_
  refine jq jrm ?_
  refine seq_nil ?_
  refine jcr ?_
  refine jq jrm ?_
  refine jq jrm ?_
  refine jqm (jmcH 0 (nextR_ac n l k tag hl hb) ?_)
  rintro _ _ ⟨rfl, rfl⟩
  refine ⟨_, _, rfl, CEnt.refl _, ?_⟩
  refine jq jrm ?_
  refine jq jrx ?_
  refine jq jrx ?_
  refine jq jrx ?_
  refine jqe (jeal (n := 2) zr68 rfl fun p2 => ?_)
  refine jqm (jmst 2 ?_)
  refine jq jrm ?_
  refine jq jrm ?_
  refine seq_nil ?_
  refine jcs ?_
  refine jcr ?_
  refine jq jrm ?_
  refine jq jrn ?_
  refine seq_nil ?_
  refine jcc (fun h232 => ?_) fun h232 => ?_
  · refine jcr ?_
    refine jq jrm ?_
    refine jq jrm ?_
    refine seq_nil ?_
    refine code_ret (jtr ?_)
    rw [if_neg (by simp_all)]
    have e : (valK tag l k fun b => (get b).2) = (nextR tag l k).k := by unfold valK; rw [if_neg (by simpa using h232)]
    rw [e]
    exact end_H (.inl rfl) rfl (res_1 rfl (arv_tmp rfl)) (CEnt.refl _)
  refine code_skip (jtn ?_)
  have his := nextR_is (by simpa using h232)
  refine jcr ?_
  refine jq jrm ?_
  refine jq (jrfa 1 1 false) ?_
  refine jqo jrdo ?_
  refine jqe (e_callV rfl rfl (by assumption) (hp (nextR tag l k).body his.2) (entL_fn (CEnt.refl _) _) rfl rfl ?_)
  rintro _ _ ⟨rfl, rfl⟩
  refine jq jrm ?_
  refine jq jrx ?_
  refine jq jrx ?_
  refine jq jrm ?_
  refine jq jrm ?_
  refine seq_nil ?_
  refine jcs ?_
  refine jcr ?_
  refine jq jrm ?_
  refine jq jre ?_
  refine seq_nil ?_
  refine jcc (fun h236 => ?_) fun h236 => ?_
  rotate_left
  · refine code_skip (jtn ?_)
    refine jcr ?_
    refine jq jrm ?_
    refine jq jrm ?_
    refine seq_nil ?_
    refine code_ret ?_
    have h0 : (get (nextR tag l k).body).2 = 0 := by omega
    rw [if_pos ⟨by simpa using h232, h0⟩]
    have e : (valK tag l k fun b => (get b).2) = (nextR tag l k).k := by unfold valK; rw [if_pos (by simpa using h232), his.1]; exact h0
    rw [e]
    exact end_H (.inl rfl) rfl (res_1 rfl (arv_tmp rfl)) (CEnt.refl _)
  refine code_openR 0 rfl fun gl => ?_
  refine jcr ?_
  refine jq jrm ?_
  refine jq jrm ?_
  refine jq jrnc ?_
  refine jq (jrfa 1 1 false) ?_
  refine jqm (jmst 1 ?_)
  refine seq_nil ?_
  refine code_ent (closeR n (get (nextR tag l k).body).2 (nextR tag l k).l 0 2 rfl rfl rfl (CEnt.osI rfl) (CEnt.refl _) (Nat.le_refl _) (fun _ _ => CEnt.refl _)) ?_
  refine jcr ?_
  refine jq jrm ?_
  refine jq jrm ?_
  refine seq_nil ?_
  refine code_ret (jtr ?_)
  rw [if_neg (by omega)]
  have e : (valK tag l k fun b => (get b).2) = (get (nextR tag l k).body).2 := by unfold valK; rw [if_pos (by simpa using h232)]
  rw [e]
  exact end_H (.inl rfl) rfl (res_1 rfl (arv_tmp rfl)) (CEnt.refl _)
theorem enum08_ac (n : Nat) (l : List (List UInt8)) (k : Nat) (least most : Int) (hl : 0 < l.length ∧ l.length ≤ 1000000) (hb : (nowL l).length ≤ 10000000) :
    AC gs Tryz.prog 69 [rdO n l k] [.op 0 (some n) 0, .c (.int .i64 least), .c (.int .i64 most)]
      (fun r H' => r = .c (.int .i64 (if (nextR 10 l k).is = true ∧ (rangeM (nextR 10 l k).body least most).2 = 0 then (rangeM (nextR 10 l k).body least most).1 else 0)) ∧ H' = [rdO n (nextR 10 l k).l (valK 10 l k fun b => (rangeM b least most).2)]) := by
  have g : ∀ b, ACp gs Tryz.prog 114 (bsC b :: (List.range 2).map (twoF least most)) (.tup 2 (fl [.c (.int .i64 (rangeM b least most).1), .err (rangeM b least most).2])) := fun b => by
    refine ac_of 12 Tryz.func114 rfl rfl rfl (fun al w0 F0 St0 => ?_)
    refine jcr ?_
    refine jq jrm ?_
    refine jq jrm ?_
    refine seq_nil ?_
    refine jcr ?_
    refine jq jrm ?_
    refine jq jrdr ?_
    refine jq jrdr ?_
    refine jqe (jecP (wrange_ac b least most) ?_)
    refine jq jrx ?_
    refine jq jrx ?_
    refine jq jrm ?_
    refine jq jrm ?_
    refine seq_nil ?_
    refine code_ret jrt
  refine ac_of 10 Tryz.func69 rfl rfl rfl (fun al w0 F0 St0 => ?_)
  refine jcr ?_
  refine jqe (jebx 1 fun p1 => ?_)
  refine jqe (jebx 1 fun p2 => ?_)
  refine jq jrm ?_
  refine seq_nil ?_
  refine code_ent (freeze 1 rfl) ?_
  refine code_ent (freeze 2 rfl) ?_
  refine code_ent (thawP 4 (m := 1) rfl rfl (by decide)) ?_
  refine code_ent (thawP 5 (m := 1) rfl rfl (by decide)) ?_
  refine jcr ?_
  refine jq jrm ?_
  refine jq jrmf ?_
  refine jqm (jmcH 0 (valueI_ac (fv := twoF least most) (by kernel_rfl) n l k 10 (fun b => rangeM b least most) hl hb (fun b _ => g b)) ?_ (ho := rfl) (he := (.cons (se rfl CEnt.opI) (.cons (se rfl (CEnt.refl _)) (.cons (se rfl (CEnt.fn2' (CEnt.rp int_box) (CEnt.rp int_box))) .nil)))))
  rintro _ _ ⟨rfl, rfl⟩
  refine ⟨_, _, rfl, CEnt.refl _, ?_⟩
  refine jq jrm ?_
  refine seq_nil ?_
  refine code_ret ?_
  exact end_H (.inl rfl) rfl (res_1 rfl (arv_tmp rfl)) (CEnt.refl _)
end Am
end Go.Proofs.YtgnjjenalebiaaaGreatDoor

/- Texts in a row; texts joined. -/
namespace Go.Proofs.YtgnjjenalebiaaaGreatDoor
set_option linter.unusedVariables false
namespace Am
open Go.RowKit
set_option maxRecDepth 100000

/-! ### texts in a row -/
def ssF (ls : List (List UInt8)) (j : Nat) : CV := strC (ls.getD j [])
def ssC (ls : List (List UInt8)) : CV := .rs 1 ls.length fun i _ => strC (ls.getD i [])
theorem rowC_ss : RowC 1 ssF := fun l l2 j hj => by
  simp only [ssF, List.getD_eq_getElem?_getD]
  split
  · rw [List.getElem?_append_left (by omega)]
  · rw [List.getElem?_append_right (by omega), Nat.mul_one]
theorem ss_thaw {ls : List (List UInt8)} : ∀ a b, a < ls.length → b < 1 → CEnt (ssF ls (0 + (a * 1 + b))) (strC (ls.getD a [])) := fun a b ha hb => CEnt.of_eq (by rw [show 0 + (a * 1 + b) = a by omega]; rfl)

theorem join_ac {gs : List Nat} (ls : List (List UInt8)) (sep : List UInt8) (h1 : ls.length ≤ 1000000000) (h2 : (Lib.join ls sep).length ≤ 100000000000) : ACp gs Tryz.prog 169 [ssC ls, strC sep] (strC (Lib.join ls sep)) :=
  ac_old fun al w St vals hs hv hr => by
    obtain ⟨ao, cap, k1, k2, k3, k4, k5⟩ := hr 0
    rw [vals2 hv, show vals.getD 0 undef = .slice ao ls.length cap from k1, show vals.getD 1 undef = .string ⟨sep.toArray⟩ from hr 1]
    by_cases hn : ls = []
    · subst hn
      exact (Tryz.strings_Join_none ao cap _ w).mono (by rintro e w' ⟨rfl, rfl⟩; exact ⟨rfl, Below.refl _ _⟩)
    · have hp : 0 < ls.length := List.length_pos_iff.2 hn
      obtain ⟨a, rfl⟩ : ∃ a, ao = some a := by
        cases ao with
        | none => have := k4 rfl; omega
        | some a => exact ⟨a, rfl⟩
      obtain ⟨e1, e2, e3⟩ := k5 a rfl hp
      obtain ⟨bk, o, sp⟩ := a
      obtain rfl : sp = none := e1
      have hm : (ls.map fun l => (⟨l.toArray⟩ : ByteArray)).map (·.data.toList) = ls := by
        rw [List.map_map]
        exact (List.map_congr_left fun x _ => by simp).trans (List.map_id ls)
      have hc : ∀ (j : Nat) x, (ls.map fun l => (⟨l.toArray⟩ : ByteArray))[j]? = some x → w.cell? ⟨bk, o + j, none⟩ = some (.string x) := fun j x hx => by
        rw [List.getElem?_map] at hx
        obtain ⟨y, hy, rfl⟩ := Option.map_eq_some_iff.1 hx
        have hj : j < ls.length := (List.getElem?_eq_some_iff.1 hy).1
        obtain ⟨v, hv1, hv2⟩ := e3 j 0 hj (by omega)
        rw [show o + (j * 1 + 0) = o + j by omega] at hv1
        rw [hv1]
        have : v = .string ⟨(ls.getD j []).toArray⟩ := hv2
        rw [this, List.getD_eq_getElem?_getD, hy]; rfl
      have hb : bk < w.heap.size := by
        obtain ⟨v, hv1, hv2⟩ := e3 0 0 hp (by omega)
        exact World.block_lt_of_cell? w _ hv1
      have hj := Tryz.strings_Join bk o cap (ls.map fun l => (⟨l.toArray⟩ : ByteArray)) ⟨sep.toArray⟩ w hc hb (by rw [List.length_map]; omega) (by rw [List.length_map]; exact k2) (by rw [hm]; show (Lib.join ls sep).length ≤ _; omega)
      rw [hm, List.length_map] at hj
      exact hj

end Am
end Go.Proofs.YtgnjjenalebiaaaGreatDoor

/- Chapter 5: the reference's Right, Split, Parse. -/
namespace Go.Proofs.YtgnjjenalebiaaaGreatDoor
set_option linter.unusedVariables false
namespace Am
variable {gs : List Nat} [Ok2 gs]
open Go.RowKit
set_option maxRecDepth 100000

def inR (n : Int) : Bool := decide (0 ≤ n) && decide (n ≤ 2147483647)
end Am
end Go.Proofs.YtgnjjenalebiaaaGreatDoor

/- Chapter 5: a body's runs; Text, Get. -/
namespace Go.Proofs.YtgnjjenalebiaaaGreatDoor
set_option linter.unusedVariables false
namespace Am
variable {gs : List Nat} [Ok9 gs]
open Go.RowKit
set_option maxRecDepth 100000

/-! ### a body's runs -/
theorem u8idx_ac {gs : List Nat} {g : FuncId} {n : Nat} {fv : Nat → CV} (hc : calleeB Tryz.prog g = true) (l : List (UInt8)) (p : (UInt8) → Bool) (hp : ∀ r, ACp gs Tryz.prog g ((fun z : UInt8 => .c (.int .u8 (z.toNat : Nat))) r :: (List.range n).map fv) (.c (.bool (p r)))) :
    ACp gs Tryz.prog 166 [bsC l, .fn g n fv] (.c (.int .i64 (firstI p l))) := by
  refine ac_len 0 rfl fun hlen => ?_
  refine ac_of 19 Tryz.func166 rfl rfl rfl (fun al w0 F0 St0 => ?_)
  refine jcr ?_
  refine jq jrm ?_
  refine seq_nil ?_
  refine jcs ?_
  refine jcr ?_
  refine jq jrm ?_
  refine jq jrl ?_
  refine jq jrm ?_
  refine seq_nil ?_
  refine code_block ?_
  refine l_loop (α := Nat) [4, 5, 8, 9, 10, 11, 12, 13, 14, 15, 16, 17, 18] (fun i => [(8, .c (.int .i64 (i : Nat)))]) (fun _ => []) (fun i => i ≤ l.length ∧ ∀ j (hj : j < l.length), j < i → p l[j] = false) (fun i => l.length - i) (0) ?_ (fun _ => rfl) ?_ ?_ ?_
  · exact ⟨by omega, fun j _ hj => absurd hj (Nat.not_lt_zero j)⟩
  · (repeat (first | exact EntE.nil | refine EntE.cons (CEnt.refl _) ?_ | refine EntE.cons (CEnt.int (by omega)) ?_))
  · (repeat (first | exact HEnt.nil | refine HEnt.same ?_ | refine HEnt.blk rfl (fun j hj => by rcases j with _|_|_|_|_|_|_|_|j <;> first | exact CEnt.refl _ | exact CEnt.int (by omega) | omega) ?_))
  · rintro i ⟨hi, he⟩
    refine jcr ?_
    refine jq jrc ?_
    refine seq_nil ?_
    refine jcs ?_
    refine jcc (fun h108 => ?_) fun h108 => ?_
    rotate_left
    · refine code_exit (jte (jte (jbx (jtn ?_))))
      refine jcr ?_
      refine jq jrm ?_
      refine seq_nil ?_
      refine code_ret (jrt (hv := ?_))
      refine CEnt.int ?_
      exact (firstI_none fun j hj => he j hj (by omega)).symm
    refine code_skip (jtn ?_)
    refine jcs ?_
    refine code_block ?_
    refine jcr ?_
    refine jq jrm ?_
    refine jq jrm ?_
    refine seq_nil ?_
    refine jcr ?_
    refine jq jrm ?_
    refine jq jrm ?_
    refine jq jrm ?_
    refine jq jri ?_
    refine jq jrdr ?_
    refine jqe (e_callV rfl rfl (by assumption) (hp (l.getD i 0)) (entL_fn (CEnt.refl _) _) rfl rfl ?_)
    rintro _ _ ⟨rfl, rfl⟩
    refine seq_nil ?_
    refine jcc (fun h109 => ?_) fun h109 => ?_
    · refine jcr ?_
      refine jq jrm ?_
      refine jq jrm ?_
      refine seq_nil ?_
      refine code_ret (jbr (jtr (jtr (jbr (jtr (jrt (hv := ?_)))))))
      refine CEnt.int ?_
      have hlt : i < l.length := by omega
      exact (firstI_at i hlt (by simpa [List.getD, hlt] using h109) (fun j hj => he j (by omega) hj)).symm
    refine code_skip (jbn (jtn ?_))
    refine jcg ?_
    refine jq jra ?_
    refine jq jrm ?_
    refine seq_nil ?_
    refine jtn ?_
    refine jlend (i + 1) ?_ ?_
    · exact ⟨by omega, fun j hj hj1 => by
        by_cases e : j = i
        · subst e
          simpa [List.getD, hj] using h109
        · exact he j hj (by omega)⟩
    · omega
theorem low_ac {gs : List Nat} (c : UInt8) : ACp gs Tryz.prog 167 (.c (.int .u8 (c.toNat : Nat)) :: (List.range 0).map fun _ => .top) (.c (.bool (decide (c.toNat < 128)))) := by
  refine ac_of 5 Tryz.func167 rfl rfl rfl (fun al w0 F0 St0 => ?_)
  refine jcr ?_
  refine jq jrm ?_
  refine seq_nil ?_
  refine jcr ?_
  refine jq jrm ?_
  refine jq jrc ?_
  refine jq jrm ?_
  refine seq_nil ?_
  refine code_ret (jrt (hv := ?_))
  refine CEnt.bool ?_
  (simp_all; omega)
def runsF (f : FuncId) (g : Option Nat) : CV := .fn f 1 (fl [.op 0 g 0])
theorem runs_ac {gs : List Nat} (b : List UInt8) : AC gs Tryz.prog 149 [] [bsC b] (fun r H' => ∃ g, r = runsF 165 g ∧ H' = [(g, .blk 1 (fun _ => bsC b))]) := by
  refine ac_of 4 Tryz.func149 rfl rfl rfl (fun al w0 F0 St0 => ?_)
  refine jcr ?_
  refine jqe (jebx 1 fun p1 => ?_)
  refine jq jrm ?_
  refine seq_nil ?_
  refine code_ent (blk_ent 0 (m := 1) (F := fun _ => bsC b) rfl (Nat.le_refl _) (fun _ => rfl) (fun j hj => by obtain rfl : j = 0 := (by omega); exact CEnt.refl _)) ?_
  refine jcr ?_
  refine jq jrmf ?_
  refine jq jrm ?_
  refine seq_nil ?_
  refine code_ret ?_
  exact end_own (.inl rfl) (runsF 165 p1) _ [0] (by decide) rfl ((res_1 rfl (arv_tmp rfl)).ent (by refine CEnt.fn1 ?_; exact CEnt.opI)) ⟨_, rfl, rfl⟩
theorem runs_drop {b rest : List UInt8} {k : Nat} (h : (runsL b).drop k = runsL rest) (hr : rest ≠ []) : k < (runsL b).length ∧ (runsL b).getD k [] = rest.take (runLen rest) ∧ (runsL b).drop (k + 1) = runsL (rest.drop (runLen rest)) := by
  rw [runsL_cons hr] at h
  have h2 := drop_getD (d := []) h
  refine ⟨?_, h2.1, h2.2⟩
  apply Classical.byContradiction
  intro hn
  rw [List.drop_eq_nil_of_le (by omega)] at h
  cases h
theorem runs_all {b rest : List UInt8} {k : Nat} (h : (runsL b).drop k = runsL rest) (hr : rest = []) (hk : k ≤ (runsL b).length) : k = (runsL b).length := by
  subst hr
  rw [runsL_nil] at h
  have := List.drop_eq_nil_iff.1 h
  omega
theorem runs_iter {gs : List Nat} (b : List UInt8) (g : Option Nat) (hb : b.length ≤ 100000000000) : IterC gs Tryz.prog 165 [(g, .blk 1 (fun _ => bsC b))] ((List.range 1).map (fl [.op 0 g 0])) (runsL b).length (fun k => [bsC ((runsL b).getD k [])]) := fun l J Jx hY => by
  refine ac_ofY true 23 Tryz.func165 rfl rfl rfl (fun al w0 F0 St0 => ?_)
  refine code_block ?_
  refine l_loop (α := Nat × List UInt8) [3, 4, 5, 6, 7, 8, 9, 10, 11, 12, 13, 14, 15, 16, 17, 18, 19, 20, 21, 22] (fun _ => []) (fun (k, rest) => [(g, .blk 1 (fun _ => bsC rest)), (some l, .obj (J k))]) (fun (k, rest) => (runsL b).drop k = runsL rest ∧ rest.length ≤ b.length ∧ k ≤ (runsL b).length) (fun (k, rest) => rest.length) ((0, b)) ?_ (fun _ => rfl) ?_ ?_ ?_
  · exact ⟨rfl, Nat.le_refl _, Nat.zero_le _⟩
  · exact .nil
  · exact .same (.same .nil)
  · rintro ⟨k, rest⟩ ⟨hk, hlen, hkn⟩
    refine jcs ?_
    refine jcr ?_
    refine jqo jrdo ?_
    refine jq jrl ?_
    refine jq jrc ?_
    refine seq_nil ?_
    refine jcc (fun h83 => ?_) fun h83 => ?_
    rotate_left
    · refine code_exit (jte (jte (jbx ?_)))
      exact end_own (.inr rfl) _ _ [1] (by decide) rfl (res_0 rfl) (.inl (by rw [← runs_all hk (List.length_eq_zero_iff.1 (by omega)) hkn]; rfl))
    refine code_skip (jtn ?_)
    refine code_block ?_
    have hne : rest ≠ [] := List.length_pos_iff.1 (by omega)
    have hk2 := runs_drop hk hne
    have hrl := low_run rest (fun c => decide (c.toNat < 128)) (fun _ => rfl)
    have hrp := runLen_pos hne
    have hrn := runLen_le rest
    have hfb := firstI_bd (fun c : UInt8 => decide (c.toNat < 128)) rest
    refine jcr ?_
    refine jqo jrdo ?_
    refine jqe (jecP (u8idx_ac (n := 0) (fv := fun _ => .top) (by kernel_rfl) rest (fun c => decide (c.toNat < 128)) low_ac) ?_ (ho := rfl) (he := (.cons (se rfl (CEnt.refl _)) (.cons (se rfl CEnt.fn0) .nil))))
    refine jq jra ?_
    refine jq jrm ?_
    refine seq_nil ?_
    refine code_join (α := Unit) [3, 10, 11, 12, 13] (fun _ => [(3, .c (.int .i64 (runLen rest : Nat)))]) (fun _ => [(g, .blk 1 (fun _ => bsC rest)), (some l, .obj (J k))]) (fun _ => True) (fun _ => rfl) ?_ ?_
    · refine jcr ?_
      refine jq jrm ?_
      refine jq jrc ?_
      refine seq_nil ?_
      refine jcc (fun h85 => ?_) fun h85 => ?_
      rotate_left
      · refine code_skip (jtn ?_)
        refine jjend (()) ?_ (h5 := ?_) (h7 := ?_)
        · trivial
        · exact .cons (CEnt.int (by omega)) .nil
        · exact .same (.same .nil)
      refine jcg ?_
      refine jqo jrdo ?_
      refine jq jrl ?_
      refine jq jrm ?_
      refine seq_nil ?_
      refine jtn ?_
      refine jjend (()) ?_ (h5 := ?_) (h7 := ?_)
      · trivial
      · exact .cons (CEnt.int (by omega)) .nil
      · exact .same (.same .nil)
    · rintro u _
      refine jcs ?_
      refine jcr ?_
      refine jq jrm ?_
      refine jqo jrdo ?_
      refine jq jrm ?_
      refine jq (jrst (hz2 := (show _ = (((runLen rest) : Nat) : Int) by omega))) ?_
      refine seq_mdI (wanted_none rfl) rfl (m_callY (i := 1) rfl rfl rfl (hY k hk2.1) (.cons (se rfl (CEnt.bs hk2.2.1.symm)) .nil) rfl rfl ?_)
      rintro _ _ (⟨rfl, rfl⟩ | ⟨rfl, rfl⟩)
      · refine ⟨_, _, rfl, CEnt.refl _, ?_⟩
        refine jq jrn ?_
        refine seq_nil ?_
        refine jcF ?_
        refine code_skip (jtn ?_)
        refine jcg ?_
        refine jqo jrdo ?_
        refine jq jrm ?_
        refine jq (jrsf (hz1 := (show _ = (((runLen rest) : Nat) : Int) by omega))) ?_
        refine jqm (jmst 1 ?_)
        refine seq_nil ?_
        refine jbn (jtn ?_)
        refine jlend ((k + 1, rest.drop (runLen rest))) ?_ ?_ (h5 := ?_) (h7 := ?_)
        · exact ⟨hk2.2.2, by rw [List.length_drop]; omega, by omega⟩
        · show (rest.drop (runLen rest)).length < rest.length; rw [List.length_drop]; omega
        · exact .nil
        · exact .blk rfl (fun j hj => by obtain rfl : j = 0 := (by omega); exact CEnt.refl _) (.same .nil)
      · refine ⟨_, _, rfl, CEnt.refl _, ?_⟩
        refine jq jrn ?_
        refine seq_nil ?_
        refine jcT ?_
        refine code_ret (jtr (jbr (jtr (jbr ?_))))
        exact end_own (.inl rfl) _ _ [1] (by decide) rfl (res_0 rfl) (.inr rfl)

/-! ### Text -/
theorem ser_take {l : List Int} {i : Nat} (h : i < l.length) : ((l.take (i + 1)).map fun n => dec n.toNat) = ((l.take i).map fun n => dec n.toNat) ++ [dec (l.getD i 0).toNat] := by
  rw [take_get 0 h, List.map_append]; rfl
theorem otext_ac (l : List Int) : ACp gs Tryz.prog 151 [isC l] (.tup 2 (fl [strC (textM l).1, .err (textM l).2])) := by
  refine ac_len 0 rfl fun hlen => ?_
  refine ac_of 25 Tryz.func151 rfl rfl rfl (fun al w0 F0 St0 => ?_)
  refine jcr ?_
  refine jq jrm ?_
  refine jq jrm ?_
  refine seq_nil ?_
  refine jcs ?_
  refine jcr ?_
  refine jq jrm ?_
  refine jqe (jecP (oright_ac l) ?_)
  refine jq jrn ?_
  refine seq_nil ?_
  refine jcc (fun h47 => ?_) fun h47 => ?_
  · refine jcs ?_
    refine jcd (.rd 0 (.rd 1 (.rd 2 .done))) ?_
    refine jyq (jrde 0) ?_
    refine jyq jrm ?_
    refine jyq jrm ?_
    refine jyd ?_
    refine jtn ?_
    refine code_ret (jtr (jrt (hv := ?_)))
    have hb : textM l = ([], 1) := by unfold textM; rw [if_neg (by simp_all)]
    exact CEnt.tup2 (CEnt.strL (by rw [hb])) (CEnt.errN (by rw [hb]))
  refine code_skip (jtn ?_)
  refine jcr ?_
  refine jq jrm ?_
  refine seq_nil ?_
  refine jcs ?_
  refine code_ent (ent_none (ssF [])) ?_
  refine jcr ?_
  refine jq jrm ?_
  refine jq jrl ?_
  refine jq jrm ?_
  refine seq_nil ?_
  refine code_block ?_
  refine l_loop (α := Nat × List (List UInt8) × Option Nat) [4, 6, 13, 14, 15, 16, 17, 18, 19, 20, 21, 22] (fun (i, X, g) => [(13, .c (.int .i64 (i : Nat))), (4, .os 0 g 0 X.length 1)]) (fun (i, X, g) => [(g, .blk (X.length * 1) (ssF X))]) (fun (i, X, g) => i ≤ l.length ∧ X = (l.take i).map fun n => dec n.toNat) (fun (i, X, g) => l.length - i) ((0, [], none)) ?_ (fun _ => rfl) ?_ ?_ ?_
  · exact ⟨Nat.zero_le _, rfl⟩
  · exact .cons (CEnt.refl _) (.cons CEnt.nilO .nil)
  · exact .blk rfl (fun j hj => absurd hj (Nat.not_lt_zero j)) .nil
  · rintro ⟨i, X, g⟩ ⟨(hi : i ≤ l.length), hX⟩
    have hXl : X.length = i := by rw [hX, List.length_map, List.length_take]; omega
    obtain ⟨r1, r2, r3, _, _⟩ := right_at (l := l) (by simp_all)
    refine code_ent (ent_none (ssF [])) ?_
    refine jcr ?_
    refine jq jrc ?_
    refine seq_nil ?_
    refine jcs ?_
    refine jcc (fun h51 => ?_) fun h51 => ?_
    rotate_left
    · refine code_exit (jte (jte (jbx (jtn ?_))))
      have hi2 : i = l.length := by omega
      rw [hi2, List.take_length] at hX
      have hb : textM l = (textL l, 0) := by unfold textM; rw [if_pos (by simp_all)]
      obtain ⟨q1, q2, q3, _, _⟩ := right_at (l := l) (by simp_all)
      have hjl := join_len (c := 46) (m := 10) (ls := X) (fun p hp => by
        rw [hX] at hp
        obtain ⟨n, hn, rfl⟩ := List.mem_map.1 hp
        exact dec_len 9 n.toNat (by have := q3 n hn; omega))
      have hjo := join_lib 46 X
      refine code_ent (freeze 0 rfl) ?_
      refine code_ent (thaw 4 (fun b _ => strC (X.getD b [])) rfl rfl (by omega) ss_thaw) ?_
      refine jcr ?_
      refine jq jrm ?_
      refine jqe (jecP (join_ac X [46] (by omega) (by rw [hjo]; omega)) ?_)
      refine jq jrm ?_
      refine jq jrm ?_
      refine seq_nil ?_
      refine code_ret (jrt (hv := CEnt.tup2 (CEnt.strL (by rw [hb, hjo, hX]; rfl)) (CEnt.nilE (by rw [hb]))))
    refine code_skip (jtn ?_)
    refine jcs ?_
    refine code_block ?_
    refine code_ent (ent_none (ssF [])) ?_
    refine jcr ?_
    refine jq jri ?_
    refine jq jrdr ?_
    refine jq jrm ?_
    refine seq_nil ?_
    have hn := r3 _ (getD_mem' (l := l) (k := i) 0 (by omega))
    refine jcg ?_
    refine jq jrm ?_
    refine jq jrm ?_
    refine jqe (jecP (wser_ac (l.getD i 0).toNat (by omega)) ?_ (ho := rfl) (he := (.cons (se rfl (CEnt.int (by omega))) .nil)))
    refine jqe (jebl 1 1 zr9 fun p1 => ?_)
    refine jqm (m_appendC (rowC_ss) (l2 := [dec (l.getD i 0).toNat]) rfl rfl rfl rfl (by exact Nat.le_refl _) (fun _ _ => CEnt.refl _) (src_os rfl (.inl rfl) (by decide)) rfl (fun j hj => by rcases j with _|j <;> first | exact CEnt.refl _ | exact CEnt.int (by omega) | (exfalso; simp at hj <;> omega)) Tryz.underlying167 nu167 sz9 zr9 by9 rfl (by (simp; omega)) (by (simp; omega)) (leaf_flk rfl rfl) rfl rfl rfl (fun p2 => ?_))
    refine jq jrm ?_
    refine seq_nil ?_
    refine jbn (jtn ?_)
    refine code_ent (ent_none (ssF [])) ?_
    refine jcg ?_
    refine jq jra ?_
    refine jq jrm ?_
    refine seq_nil ?_
    refine jtn ?_
    refine jlend ((i + 1, X ++ [dec (l.getD i 0).toNat], p2)) ?_ ?_ (h5 := ?_) (h7 := ?_)
    · exact ⟨by omega, by rw [hX, ser_take (by omega)]⟩
    · show l.length - (i + 1) < l.length - i; omega
    · exact .cons (CEnt.int (by omega)) (.cons (CEnt.refl _) .nil)
    · exact .same .nil
end Am
end Go.Proofs.YtgnjjenalebiaaaGreatDoor

/- Chapter 5: Get. -/
namespace Go.Proofs.YtgnjjenalebiaaaGreatDoor
set_option linter.unusedVariables false
namespace Am
variable {gs : List Nat} [Ok9 gs]
open Go.RowKit
set_option maxRecDepth 100000

theorem res_at {b : List UInt8} {k : Nat} (hk : k < (runsL b).length) : (resB b).getD k (0, 0) = numM ((runsL b).getD k []) (if k = 0 then 2147483727 else 2147483647) := resL_get _ _ _ hk
theorem res_take {b : List UInt8} {k : Nat} (hk : k < (runsL b).length) : (((resB b).take (k + 1)).map (·.1)) = (((resB b).take k).map (·.1)) ++ [((resB b).getD k (0, 0)).1] := by
  rw [take_get (0, 0) (by rw [resB_len]; exact hk), List.map_append]; rfl
theorem numM_bd (r : List UInt8) (most : Nat) : (numM r most).1 ≤ most := by
  unfold numM
  split
  · exact Nat.zero_le _
  split
  · exact Nat.zero_le _
  split
  · exact Nat.zero_le _
  · show valSO r ≤ most; omega
theorem two_ent {a b c d : Int} (h1 : a = c) (h2 : b = d) : ∀ j, j < [c, d].length → CEnt (fl [.c (.int .i64 a), .c (.int .i64 b)] j) (inF [c, d] j) := fun j hj => by
  rcases j with _ | _ | j
  · exact CEnt.int h1
  · exact CEnt.int h2
  · exact absurd hj (by simp)
section
variable {b : List UInt8} {k : Nat} {X : List Int}
theorem badKE (hk : k < (runsL b).length) (h0 : 0 < k) (herr : errL ((resB b).take k) = 0) (h : (numM ((runsL b).getD k []) 2147483647).2 ≠ 0) : (numM ((runsL b).getD k []) 2147483647).2 = errL (resB b) := by
  have hat := res_at hk
  rw [if_neg (by omega)] at hat
  rw [← hat] at h ⊢
  exact (errL_bad (by rw [resB_len]; exact hk) herr h).symm
theorem bad0E (hk : k < (runsL b).length) (h0 : k = 0) (herr : errL ((resB b).take k) = 0) (h : (numM ((runsL b).getD k []) 2147483727).2 ≠ 0) : (numM ((runsL b).getD k []) 2147483727).2 = errL (resB b) := by
  have hat := res_at hk
  rw [if_pos h0] at hat
  rw [← hat] at h ⊢
  exact (errL_bad (by rw [resB_len]; exact hk) herr h).symm
theorem badK (hk : k < (runsL b).length) (h0 : 0 < k) (herr : errL ((resB b).take k) = 0) (h : (numM ((runsL b).getD k []) 2147483647).2 ≠ 0) : errL (resB b) ≠ 0 := by
  rw [← badKE hk h0 herr h]; exact h
theorem bad0 (hk : k < (runsL b).length) (h0 : k = 0) (herr : errL ((resB b).take k) = 0) (h : (numM ((runsL b).getD k []) 2147483727).2 ≠ 0) : errL (resB b) ≠ 0 := by
  rw [← bad0E hk h0 herr h]; exact h
theorem keepK (hk : k < (runsL b).length) (h0 : 0 < k) (hX : X = arcsOf (((resB b).take k).map (·.1))) (herr : errL ((resB b).take k) = 0) (h : (numM ((runsL b).getD k []) 2147483647).2 = 0) : X ++ [((numM ((runsL b).getD k []) 2147483647).1 : Int)] = arcsOf (((resB b).take (k + 1)).map (·.1)) ∧ errL ((resB b).take (k + 1)) = 0 := by
  have hat := res_at hk
  rw [if_neg (by omega)] at hat
  have hkR : k < (resB b).length := by rw [resB_len]; exact hk
  refine ⟨?_, by rw [errL_one hkR herr, hat, h]⟩
  rw [res_take hk, hat, arcs_snoc _ (fun e => by have := congrArg List.length e; rw [List.length_map, List.length_take, List.length_nil] at this; omega), hX]
theorem keep0 (hk : k < (runsL b).length) (h0 : k = 0) (herr : errL ((resB b).take k) = 0) (h : (numM ((runsL b).getD k []) 2147483727).2 = 0) : [((min ((numM ((runsL b).getD k []) 2147483727).1 / 40) 2 : Nat) : Int), ((numM ((runsL b).getD k []) 2147483727).1 : Int) - 40 * ((min ((numM ((runsL b).getD k []) 2147483727).1 / 40) 2 : Nat) : Int)] = arcsOf (((resB b).take (k + 1)).map (·.1)) ∧ errL ((resB b).take (k + 1)) = 0 := by
  have hat := res_at hk
  rw [if_pos h0] at hat
  have hkR : k < (resB b).length := by rw [resB_len]; exact hk
  refine ⟨?_, by rw [errL_one hkR herr, hat, h]⟩
  rw [res_take hk, hat, h0]
  rfl
end
set_option maxHeartbeats 1000000 in
theorem oget_ac (b : List UInt8) (hb : b.length ≤ 1000000) : ACp gs Tryz.prog 122 [bsC b] (.tup 2 (fl [strC (ogetM b).1, .err (ogetM b).2])) := by
  have hrl := runs_len b.length b (Nat.le_refl _)
  have hRl := resB_len b
  refine ac_of 54 Tryz.func122 rfl rfl rfl (fun al w0 F0 St0 => ?_)
  refine jcr ?_
  refine jqe (jeal (n := 1) zr9 rfl fun p1 => ?_)
  refine jqe (jeal (n := 1) zr28 rfl fun p2 => ?_)
  refine seq_nil ?_
  refine jcs ?_
  refine jcr ?_
  refine jq jrm ?_
  refine jq jrl ?_
  refine jq jrc ?_
  refine seq_nil ?_
  refine jcc (fun h116 => ?_) fun h116 => ?_
  · refine jcs ?_
    refine jcdZ (.rd 0 (.one 1 (.one 2 .done))) ?_
    refine jzq (jrde 1) ?_
    refine jzm (jmst 1 ?_)
    refine jzm (jmst 1 ?_)
    refine jzd ?_
    refine jtn ?_
    refine code_ret (jtr (jrt (hres := res_2 rfl javc javc) (hv := ?_)))
    have h0 : ogetM b = ([], 2) := by rw [List.length_eq_zero_iff.1 (show b.length = 0 by omega), get_nil]
    exact CEnt.tup2 (CEnt.strL (by rw [h0])) (CEnt.errN (by rw [h0]))
  refine code_skip (jtn ?_)
  have hne : b ≠ [] := fun e => by subst e; simp_all
  refine jcr ?_
  refine jqe (jeal (n := 1) zr22 rfl fun p3 => ?_)
  refine seq_nil ?_
  refine jcs ?_
  refine jcr ?_
  refine jq jrm ?_
  refine jqe (jecS (runs_ac b) ?_)
  rintro _ _ ⟨gS, rfl, rfl⟩
  refine seq_nil ?_
  refine code_block ?_
  refine code_ent (blk_ent 0 (m := 1) (F := fun _ => strC []) rfl (Nat.le_refl _) (fun _ => rfl) (fun j hj => by obtain rfl : j = 0 := (by omega); exact CEnt.refl _)) ?_
  refine code_ent (blk_ent 1 (m := 1) (F := fun _ => .c .nilIface) rfl (Nat.le_refl _) (fun _ => rfl) (fun j hj => by obtain rfl : j = 0 := (by omega); exact CEnt.refl _)) ?_
  refine code_ent (blk_ent 2 (m := 1) (F := fun _ => .os 3 none 0 0 1) rfl (Nat.le_refl _) (fun _ => rfl) (fun j hj => by obtain rfl : j = 0 := (by omega); exact CEnt.nilO)) ?_
  refine code_ent (ent_none (inF [])) ?_
  refine code_range (π := List Int × Option Nat) (q := List Int × Option Nat) ((runsL b).length) (fun k => [bsC ((runsL b).getD k [])]) ([(gS, .blk 1 (fun _ => bsC b))]) (fun (X, ga) => [(p1, .blk 1 (fun _ => strC [])), (p2, .blk 1 (fun _ => .c .nilIface)), (p3, .blk 1 (fun _ => .os 3 ga 0 X.length 1)), (ga, .blk X.length (inF X))]) (fun k (X, ga) => X = arcsOf (((resB b).take k).map (·.1)) ∧ errL ((resB b).take k) = 0) (fun (X, ga) => [(p1, .blk 1 (fun _ => strC [])), (p2, .blk 1 (fun _ => .err (errL (resB b)))), (p3, .blk 1 (fun _ => .os 3 ga 0 X.length 1)), (ga, .blk X.length (inF X))]) (fun c _ => c = .ret ∧ errL (resB b) ≠ 0) (([], none)) [3, 0, 1, 2, 4] rfl rfl (by kernel_rfl) (runs_iter b gS (by omega)) (⟨rfl, rfl⟩) (by decide) rfl (fun _ _ => rfl) rfl ?_ ?_ ?_
  · intro k hk l al2 w2 F2 S2 R0 R1
    rintro ⟨X, ga⟩ ⟨hX, herr⟩
    have hXl := arcs_len (((resB b).take k).map (·.1))
    rw [← hX, List.length_map, List.length_take] at hXl
    have hkR : k < (resB b).length := by omega
    have hrun : 0 < ((runsL b).getD k []).length := runs_pos b.length b (Nat.le_refl _) _ (getD_mem' [] hk)
    have hat := res_at hk
    have hX0 : X.length > 0 ↔ 0 < k := ⟨fun h => Nat.pos_of_ne_zero fun e => by subst e; rw [hX] at h; simp [arcsOf] at h, fun h => by have := hXl.2 (fun e => by have := congrArg List.length e; rw [List.length_map, List.length_take, List.length_nil] at this; omega); omega⟩
    refine jcg ?_
    refine jq jrm ?_
    refine seq_nil ?_
    refine assign_norm ?_
    refine code_block ?_
    refine jcs ?_
    refine jcr ?_
    refine jqo jrdo ?_
    refine jq jrl ?_
    refine jq jrc ?_
    refine seq_nil ?_
    refine jcc (fun h121 => ?_) fun h121 => ?_
    · refine jcr ?_
      refine jq jrm ?_
      refine jqe (jecP (number_ac ((runsL b).getD k []) 2147483647 hrun (by omega)) ?_)
      refine jq jrm ?_
      refine jq jrx ?_
      refine jq jrx ?_
      refine jq jrm ?_
      refine jq jrm ?_
      refine seq_nil ?_
      refine jcs ?_
      refine jcr ?_
      refine jq jrm ?_
      refine jq jre ?_
      refine seq_nil ?_
      refine jcc (fun h123 => ?_) fun h123 => ?_
      · refine jcr ?_
        refine jq jrm ?_
        refine jqm (jmst 1 ?_)
        refine jqm (jmst 1 ?_)
        refine seq_nil ?_
        refine code_ret (jtr (jtr (jbr ?_)))
        refine round_ret ((X, ga)) ?_ rfl ?_
        · exact ⟨rfl, badK hk (by omega) herr (by assumption)⟩
        · exact .blk rfl (fun j hj => by obtain rfl : j = 0 := (by omega); exact CEnt.refl _) (.blk rfl (fun j hj => by obtain rfl : j = 0 := (by omega); exact CEnt.errN (badKE hk (by omega) herr (by assumption)).symm) (.same (.same (.same .nil))))
      refine code_skip (jtn ?_)
      refine jcr ?_
      refine jqo jrdo ?_
      refine jq jrm ?_
      refine jqe (jebl 1 1 zr3 fun p4 => ?_)
      refine jqm (m_appendC rowC_in (l2 := [((numM ((runsL b).getD k []) 2147483647).1 : Int)]) rfl rfl rfl rfl (by exact Nat.le_of_eq (Nat.mul_one _)) (fun _ _ => CEnt.refl _) (src_os rfl (.inl rfl) (by decide)) rfl (hh_ints (.cons (CEnt.int (rfl)) .nil)) Tryz.underlying22 nu22 sz3 zr3 by3 rfl (by (simp; omega)) (by (simp; omega)) (leaf_flk rfl rfl) rfl rfl (Nat.mul_one _) (fun p5 => ?_))
      refine jqm (jmst 1 ?_)
      refine seq_nil ?_
      refine code_exit (jte (jbx ?_))
      refine round_norm ((X ++ [((numM ((runsL b).getD k []) 2147483647).1 : Int)], p5)) ?_ rfl ?_
      · exact keepK hk (by omega) hX herr (by omega)
      · exact .same (.same (.blk rfl (fun j hj => by obtain rfl : j = 0 := (by omega); exact CEnt.refl _) (.same (.same .nil))))
    refine code_skip (jtn ?_)
    refine jcr ?_
    refine jq jrm ?_
    refine jqe (jecP (number_ac ((runsL b).getD k []) 2147483727 hrun (by omega)) ?_)
    refine jq jrm ?_
    refine jq jrx ?_
    refine jq jrx ?_
    refine jq jrm ?_
    refine jq jrm ?_
    refine seq_nil ?_
    refine jcs ?_
    refine jcr ?_
    refine jq jrm ?_
    refine jq jre ?_
    refine seq_nil ?_
    refine jcc (fun h130 => ?_) fun h130 => ?_
    · refine jcr ?_
      refine jq jrm ?_
      refine jqm (jmst 1 ?_)
      refine jqm (jmst 1 ?_)
      refine seq_nil ?_
      refine code_ret (jtr (jbr ?_))
      refine round_ret ((X, ga)) ?_ rfl ?_
      · exact ⟨rfl, bad0 hk (by omega) herr (by assumption)⟩
      · exact .blk rfl (fun j hj => by obtain rfl : j = 0 := (by omega); exact CEnt.refl _) (.blk rfl (fun j hj => by obtain rfl : j = 0 := (by omega); exact CEnt.errN (bad0E hk (by omega) herr (by assumption)).symm) (.same (.same (.same .nil))))
    refine code_skip (jtn ?_)
    have hbd := numM_bd ((runsL b).getD k []) 2147483727
    refine jcr ?_
    refine jq jrm ?_
    refine jq jrq ?_
    refine jq (rd_min2 rfl rfl rfl) ?_
    refine jq jrm ?_
    refine seq_nil ?_
    refine jcg ?_
    refine jq jrm ?_
    refine jq jrm ?_
    refine jq jrm ?_
    refine jq jra ?_
    refine jq jra ?_
    refine jqe (jebl 2 1 zr3 fun p4 => ?_)
    refine seq_ent (pick_ent [0, 1, 2, 5, 4] (by decide) rfl) ?_
    refine jqm (jmst 1 ?_)
    refine seq_nil ?_
    refine jbn ?_
    refine round_norm (([((min ((numM ((runsL b).getD k []) 2147483727).1 / 40) 2 : Nat) : Int), ((numM ((runsL b).getD k []) 2147483727).1 : Int) - 40 * ((min ((numM ((runsL b).getD k []) 2147483727).1 / 40) 2 : Nat) : Int)], p4)) ?_ rfl ?_
    · exact keep0 hk (by omega) herr (by omega)
    · exact .same (.same (.blk rfl (fun j hj => by obtain rfl : j = 0 := (by omega); exact CEnt.osI rfl) (.blk rfl (two_ent (by omega) (by omega)) (.same .nil))))
  · rintro ⟨X, ga⟩ ⟨hX, herr⟩
    rw [List.take_of_length_le (by omega)] at hX herr
    refine jbn (jtn ?_)
    refine jcr ?_
    refine jqo jrdo ?_
    refine seq_ent (freeze 3 rfl) ?_
    refine seq_ent (thawIL 50 X rfl rfl rfl (Nat.ble_eq_true_of_le (Nat.le_refl _)) (fun j hj => CEnt.refl _)) ?_
    refine jqe (jecP (otext_ac X) ?_)
    refine jq jrx ?_
    refine jq jrx ?_
    refine jqm (jmst 1 ?_)
    refine jqm (jmst 1 ?_)
    refine seq_nil ?_
    refine code_ret (jrt (hres := res_2 rfl javc javc) (hv := ?_))
    have hg := get_text hne herr
    rw [← hX] at hg
    exact CEnt.tup2 (CEnt.strL (by rw [hg])) (CEnt.errN (by rw [hg]))
  · rintro _ ⟨X, ga⟩ ⟨rfl, hbad⟩
    refine .inl ⟨rfl, ?_⟩
    refine jbr (jtr (jrt (hres := res_2 rfl javc javc) (hv := ?_)))
    have hb := get_err hne hbad
    exact CEnt.tup2 (CEnt.strL (by rw [hb])) (CEnt.errN (by rw [hb]))
end Am
end Go.Proofs.YtgnjjenalebiaaaGreatDoor

/- Chapter 6: the reference's dates and moments, the example, the laws MomentsSeconds and MomentsAdd. -/
namespace Go.Proofs.YtgnjjenalebiaaaGreatDoor
set_option linter.unusedVariables false
namespace Am
variable {gs : List Nat} [Ok9 gs]
open Go.RowKit Cal
set_option linter.unusedVariables false
set_option maxRecDepth 100000

end Am
end Go.Proofs.YtgnjjenalebiaaaGreatDoor

/- Chapter 6, plain: what bodies are read as. -/
namespace Go.Proofs.YtgnjjenalebiaaaGreatDoor
namespace Am
open Go.RowKit Cal
set_option linter.unusedVariables false

def dg (b : List UInt8) (i : Nat) : Int := ((b.getD i 0).toNat : Int) - 48
def isDg (b : List UInt8) (i : Nat) : Prop := 48 ≤ ((b.getD i 0).toNat : Int) ∧ ((b.getD i 0).toNat : Int) ≤ 57
instance (b : List UInt8) (i : Nat) : Decidable (isDg b i) := by unfold isDg; infer_instance
def two (b : List UInt8) (j : Nat) : Int := 10 * dg b (2 * j) + dg b (2 * j + 1)
def getD6 (b : List UInt8) : D6 := ⟨100 * two b 0 + two b 1, two b 2, two b 3, two b 4, two b 5, two b 6⟩
def formP (b : List UInt8) : Prop := b.length = 15 ∧ ((b.getD 14 0).toNat : Int) = 90 ∧ ∀ i, i < 14 → isDg b i
instance (b : List UInt8) : Decidable (formP b) := by unfold formP; infer_instance
def getE (b : List UInt8) : Nat := if formP b then (if RightP (getD6 b) then 0 else 1) else 4
def getV (b : List UInt8) : Int := if formP b ∧ RightP (getD6 b) then secM (getD6 b) else 0

theorem body_dg {x : D6} (h : RightP x) : (∀ i, i < 14 → isDg (bodyL x) i) ∧ getD6 (bodyL x) = x := by
  obtain ⟨q1, q2, q3, q4, q5, q6, q7, q8, q9, q10⟩ := id h
  have qm := days_pos q3 q4
  have qd := days_le x.y x.m
  have q : ∀ n p : Int, 0 ≤ n → 1 ≤ p → ((figc n p).toNat : Int) = 48 + n / p % 10 := fun n p hn hp => figc_nat (Int.ediv_nonneg hn (by omega))
  have e : ∀ i, i < 14 → ∃ n p : Int, (bodyL x).getD i 0 = figc n p ∧ 0 ≤ n ∧ 1 ≤ p := by
    intro i hi
    rcases i with _|_|_|_|_|_|_|_|_|_|_|_|_|_|i
    · exact ⟨x.y, 1000, rfl, by omega, by omega⟩
    · exact ⟨x.y, 100, rfl, by omega, by omega⟩
    · exact ⟨x.y, 10, rfl, by omega, by omega⟩
    · exact ⟨x.y, 1, rfl, by omega, by omega⟩
    · exact ⟨x.m, 10, rfl, by omega, by omega⟩
    · exact ⟨x.m, 1, rfl, by omega, by omega⟩
    · exact ⟨x.d, 10, rfl, by omega, by omega⟩
    · exact ⟨x.d, 1, rfl, by omega, by omega⟩
    · exact ⟨x.h, 10, rfl, by omega, by omega⟩
    · exact ⟨x.h, 1, rfl, by omega, by omega⟩
    · exact ⟨x.mi, 10, rfl, by omega, by omega⟩
    · exact ⟨x.mi, 1, rfl, by omega, by omega⟩
    · exact ⟨x.s, 10, rfl, by omega, by omega⟩
    · exact ⟨x.s, 1, rfl, by omega, by omega⟩
    · omega
  refine ⟨fun i hi => ?_, ?_⟩
  · obtain ⟨n, p, h1, h2, h3⟩ := e i hi
    unfold isDg
    rw [h1, q n p h2 h3]
    omega
  · have dd : ∀ (i : Nat) (n p : Int), (bodyL x).getD i 0 = figc n p → 0 ≤ n → 1 ≤ p → dg (bodyL x) i = n / p % 10 := fun i n p h1 h2 h3 => by
      unfold dg
      rw [h1, q n p h2 h3]
      omega
    have t0 : two (bodyL x) 0 = 10 * (x.y / 1000 % 10) + x.y / 100 % 10 := by unfold two; rw [dd (2 * 0) x.y 1000 rfl (by omega) (by omega), dd (2 * 0 + 1) x.y 100 rfl (by omega) (by omega)]
    have t1 : two (bodyL x) 1 = 10 * (x.y / 10 % 10) + x.y / 1 % 10 := by unfold two; rw [dd (2 * 1) x.y 10 rfl (by omega) (by omega), dd (2 * 1 + 1) x.y 1 rfl (by omega) (by omega)]
    have t2 : two (bodyL x) 2 = x.m := by unfold two; rw [dd (2 * 2) x.m 10 rfl (by omega) (by omega), dd (2 * 2 + 1) x.m 1 rfl (by omega) (by omega)]; omega
    have t3 : two (bodyL x) 3 = x.d := by unfold two; rw [dd (2 * 3) x.d 10 rfl (by omega) (by omega), dd (2 * 3 + 1) x.d 1 rfl (by omega) (by omega)]; omega
    have t4 : two (bodyL x) 4 = x.h := by unfold two; rw [dd (2 * 4) x.h 10 rfl (by omega) (by omega), dd (2 * 4 + 1) x.h 1 rfl (by omega) (by omega)]; omega
    have t5 : two (bodyL x) 5 = x.mi := by unfold two; rw [dd (2 * 5) x.mi 10 rfl (by omega) (by omega), dd (2 * 5 + 1) x.mi 1 rfl (by omega) (by omega)]; omega
    have t6 : two (bodyL x) 6 = x.s := by unfold two; rw [dd (2 * 6) x.s 10 rfl (by omega) (by omega), dd (2 * 6 + 1) x.s 1 rfl (by omega) (by omega)]; omega
    unfold getD6
    rw [t0, t1, t2, t3, t4, t5, t6]
    have : 100 * (10 * (x.y / 1000 % 10) + x.y / 100 % 10) + (10 * (x.y / 10 % 10) + x.y / 1 % 10) = x.y := by omega
    rw [this]
theorem get_body {x : D6} (h : RightP x) : getE (bodyL x) = 0 ∧ getV (bodyL x) = secM x := by
  have hf : formP (bodyL x) := ⟨rfl, by show (((90 : UInt8).toNat : Nat) : Int) = 90; rfl, (body_dg h).1⟩
  have hg := (body_dg h).2
  unfold getE getV
  rw [hg, if_pos hf, if_pos h, if_pos ⟨hf, h⟩]
  exact ⟨rfl, rfl⟩

/-- the reference's text of a date -/
def texF (x : D6) : List Int := [x.y / 100, x.y % 100, x.m, x.d, x.h, x.mi, x.s]
def texL (x : D6) (i : Nat) : List UInt8 := ((texF x).take i).flatMap fun n => [figc n 10, figc n 1]
end Am
end Go.Proofs.YtgnjjenalebiaaaGreatDoor

/- Chapter 6: the reference's date of a moment and its text, what bodies are read as. -/
namespace Go.Proofs.YtgnjjenalebiaaaGreatDoor
set_option linter.unusedVariables false
namespace Am
variable {gs : List Nat} [Ok9 gs]
open Go.RowKit Cal
set_option linter.unusedVariables false
set_option maxRecDepth 100000

end Am
end Go.Proofs.YtgnjjenalebiaaaGreatDoor

/- Chapter 6: what all bodies are read as, by the program and by the reference. -/
namespace Go.Proofs.YtgnjjenalebiaaaGreatDoor
set_option linter.unusedVariables false
namespace Am
variable {gs : List Nat} [Ok9 gs]
open Go.RowKit Cal
set_option linter.unusedVariables false
set_option maxRecDepth 100000

/-- the program's pairs of figures, when i figures are read -/
def twoI (b : List UInt8) (i j : Nat) : Int := if 2 * j + 1 < i then two b j else if 2 * j < i then dg b (2 * j) else 0
theorem twoI_bd {b : List UInt8} {i : Nat} (h : ∀ k, k < i → isDg b k) (j : Nat) : 0 ≤ twoI b i j ∧ twoI b i j ≤ 99 := by
  unfold twoI
  split
  · have h1 := h (2 * j) (by omega)
    have h2 := h (2 * j + 1) (by omega)
    unfold isDg at h1 h2
    unfold two dg
    omega
  · split
    · have h1 := h (2 * j) (by omega)
      unfold isDg at h1
      unfold dg
      omega
    · omega
theorem twoI_succ {b : List UInt8} {i : Nat} (j : Nat) : twoI b (i + 1) j = if j = i / 2 then 10 * twoI b i j + dg b i else twoI b i j := by
  unfold twoI
  by_cases hj : j = i / 2
  · rw [if_pos hj]
    by_cases he : i % 2 = 0
    · have e : i = 2 * j := by omega
      subst e
      rw [if_neg (by omega), if_pos (by omega), if_neg (by omega), if_neg (by omega)]
      omega
    · have e : i = 2 * j + 1 := by omega
      rw [if_pos (by omega), if_neg (by omega), if_pos (by omega), e]
      rfl
  · rw [if_neg hj]
    by_cases h1 : 2 * j + 1 < i
    · rw [if_pos (by omega), if_pos h1]
    · rw [if_neg (by omega), if_neg h1, if_neg (by omega), if_neg (by omega)]
theorem twoI_14 {b : List UInt8} {j : Nat} (h : j < 7) : twoI b 14 j = two b j := by unfold twoI; rw [if_pos (by omega)]
def twF (b : List UInt8) (i j : Nat) : CV := .c (.int .i64 (twoI b i j))

theorem mget_ac (b : List UInt8) : ACp gs Tryz.prog 123 [bsC b] (.tup 2 (fl [.c (.int .i64 (getV b)), .err (getE b)])) := by
  refine ac_of 65 Tryz.func123 rfl rfl rfl (fun al w0 F0 St0 => ?_)
  refine jcr ?_
  refine jq jrm ?_
  refine jq jrm ?_
  refine seq_nil ?_
  refine jcs ?_
  refine jcr ?_
  refine jq jrm ?_
  refine jq jrl ?_
  refine jq jrc ?_
  refine jq jrm ?_
  refine jqsp 10 (fun g112 => ?_) fun g112 => ?_
  · refine jqs ?_
    refine jqs ?_
    refine jqs ?_
    refine jqs ?_
    refine jq jrpT ?_
    refine seq_nil ?_
    refine jcT ?_
    refine jcs ?_
    refine jcd (.rd 0 (.rd 1 (.rd 2 .done))) ?_
    refine jyq (jrde 3) ?_
    refine jyq jrm ?_
    refine jyq jrm ?_
    refine jyd ?_
    refine jtn ?_
    refine code_ret (jtr (jrt (hv := ?_)))
    have hn : ¬ formP b := fun h => by obtain ⟨h1, h2, h3⟩ := h; omega
    unfold getV getE
    rw [if_neg (fun h => hn h.1), if_neg hn]
    exact CEnt.refl _
  refine jq jrm ?_
  refine jq (jri (i := 14)) ?_
  refine jq jrdr ?_
  refine jq jrc ?_
  refine jq jrpF ?_
  refine seq_nil ?_
  refine jcc (fun h112 => ?_) fun h112 => ?_
  · refine jcs ?_
    refine jcd (.rd 0 (.rd 1 (.rd 2 .done))) ?_
    refine jyq (jrde 3) ?_
    refine jyq jrm ?_
    refine jyq jrm ?_
    refine jyd ?_
    refine jtn ?_
    refine code_ret (jtr (jrt (hv := ?_)))
    have hn : ¬ formP b := fun h => by obtain ⟨h1, h2, h3⟩ := h; omega
    unfold getV getE
    rw [if_neg (fun h => hn h.1), if_neg hn]
    exact CEnt.refl _
  refine code_skip (jtn ?_)
  refine jcr ?_
  refine jqe (jeal (n := 7) zr192 rfl fun p1 => ?_)
  refine seq_nil ?_
  refine jcs ?_
  refine jcr ?_
  refine jq jrm ?_
  refine jq (jrst (hz2 := (show (14 : Int) = ((14 : Nat) : Int) from rfl))) ?_
  refine jq jrl ?_
  refine jq jrm ?_
  refine seq_nil ?_
  refine code_block ?_
  refine l_loop (α := Nat) [2, 3, 5, 6, 20, 21, 22, 23, 24, 25, 26, 27, 28, 29, 30, 31, 32, 33, 34, 35, 36, 37, 38, 39, 40, 41, 42, 43, 44] (fun i => [(20, .c (.int .i64 (i : Nat)))]) (fun i => [(p1, .blk 7 (twF b i))]) (fun i => i ≤ 14 ∧ ∀ k, k < i → isDg b k) (fun i => 14 - i) (0) ?_ (fun _ => rfl) ?_ ?_ ?_
  · exact ⟨by omega, fun k hk => by omega⟩
  · (repeat (first | exact EntE.nil | refine EntE.cons (CEnt.refl _) ?_ | refine EntE.cons (CEnt.int (by omega)) ?_))
  · exact .blk rfl (fun j hj => by rcases j with _|_|_|_|_|_|_|j <;> first | exact CEnt.refl _ | omega) .nil
  · rintro i ⟨hi, hd⟩
    refine jcr ?_
    refine jq jrc ?_
    refine seq_nil ?_
    refine jcs ?_
    refine jcc (fun h116 => ?_) fun h116 => ?_
    rotate_left
    · refine code_exit (jte (jte (jbx (jtn ?_))))
      have ht : (b.take 14).length = 14 := by simp; omega
      have hi14 : i = 14 := by omega
      have hd14 : ∀ k, k < 14 → isDg b k := fun k hk => hd k (by omega)
      have g0 := twoI_bd hd 0
      have g1 := twoI_bd hd 1
      have hf : formP b := ⟨by omega, by omega, hd14⟩
      refine jcr ?_
      refine jq (rd_iaddrA1 rfl rfl rfl Tryz.underlying192 sz3 (show (0 : Int) = ((0 : Nat) : Int) from rfl) (by (omega))) ?_
      refine jqo jrdo ?_
      refine jq jra ?_
      refine jq (rd_iaddrA1 rfl rfl rfl Tryz.underlying192 sz3 (show (1 : Int) = ((1 : Nat) : Int) from rfl) (by (omega))) ?_
      refine jqo jrdo ?_
      refine jq jra ?_
      refine jq (rd_iaddrA1 rfl rfl rfl Tryz.underlying192 sz3 (show (2 : Int) = ((2 : Nat) : Int) from rfl) (by (omega))) ?_
      refine jqo jrdo ?_
      refine jq (rd_iaddrA1 rfl rfl rfl Tryz.underlying192 sz3 (show (3 : Int) = ((3 : Nat) : Int) from rfl) (by (omega))) ?_
      refine jqo jrdo ?_
      refine jq (rd_iaddrA1 rfl rfl rfl Tryz.underlying192 sz3 (show (4 : Int) = ((4 : Nat) : Int) from rfl) (by (omega))) ?_
      refine jqo jrdo ?_
      refine jq (rd_iaddrA1 rfl rfl rfl Tryz.underlying192 sz3 (show (5 : Int) = ((5 : Nat) : Int) from rfl) (by (omega))) ?_
      refine jqo jrdo ?_
      refine jq (rd_iaddrA1 rfl rfl rfl Tryz.underlying192 sz3 (show (6 : Int) = ((6 : Nat) : Int) from rfl) (by (omega))) ?_
      refine jqo jrdo ?_
      refine jq (rd_build (n := 6) rfl zr177 pl177 rfl rfl) ?_
      refine jqe (jecP (secs_ac (getD6 b)) ?_ (ho := rfl) (he := (.cons (se rfl (CEnt.agg6 (CEnt.int (by show 100 * twoI b i 0 + twoI b i 1 = _; rw [hi14, twoI_14 (by omega), twoI_14 (by omega)]; rfl)) (CEnt.int (by rw [hi14, twoI_14 (by omega)]; rfl)) (CEnt.int (by rw [hi14, twoI_14 (by omega)]; rfl)) (CEnt.int (by rw [hi14, twoI_14 (by omega)]; rfl)) (CEnt.int (by rw [hi14, twoI_14 (by omega)]; rfl)) (CEnt.int (by rw [hi14, twoI_14 (by omega)]; rfl)))) .nil)))
      refine jq jrx ?_
      refine jq jrx ?_
      refine jq jrm ?_
      refine jq jrm ?_
      refine seq_nil ?_
      refine code_ret (jrt (hv := ?_))
      unfold getV getE
      rw [if_pos hf]
      refine CEnt.tup2 (CEnt.int ?_) (CEnt.err rfl)
      by_cases hr : RightP (getD6 b)
      · rw [if_pos hr, if_pos ⟨hf, hr⟩]
      · rw [if_neg hr, if_neg (fun h => hr h.2)]
    refine code_skip (jtn ?_)
    refine jcs ?_
    refine code_block ?_
    refine jcr ?_
    refine jq jrm ?_
    refine jq jri ?_
    refine jq jrdr ?_
    refine jq jrm ?_
    refine jq jrm ?_
    refine seq_nil ?_
    refine jcs ?_
    have ht : (b.take 14).length = 14 := by simp; omega
    have hg : (((b.take 14).getD i 0).toNat : Int) = ((b.getD i 0).toNat : Int) := by
      simp [List.getD, List.getElem?_take, show i < 14 by omega]
    refine jcr ?_
    refine jq jrm ?_
    refine jq jrc ?_
    refine jq jrm ?_
    refine jqsp 27 (fun g117 => ?_) fun g117 => ?_
    · refine jqs ?_
      refine jqs ?_
      refine jq jrpT ?_
      refine seq_nil ?_
      refine jcT ?_
      refine jcs ?_
      refine jcd (.rd 0 (.rd 1 (.rd 2 .done))) ?_
      refine jyq (jrde 3) ?_
      refine jyq jrm ?_
      refine jyq jrm ?_
      refine jyd ?_
      refine jtn ?_
      refine code_ret (jtr (jbr (jtr (jtr (jbr (jtr (jrt (hv := ?_))))))))
      have hn : ¬ formP b := fun h => by
        obtain ⟨h1, h2, h3⟩ := h
        have := h3 i (by omega)
        unfold isDg at this
        omega
      unfold getV getE
      rw [if_neg (fun h => hn h.1), if_neg hn]
      exact CEnt.refl _
    refine jq jrm ?_
    refine jq jrc ?_
    refine jq jrpF ?_
    refine seq_nil ?_
    refine jcc (fun h117 => ?_) fun h117 => ?_
    · refine jcs ?_
      refine jcd (.rd 0 (.rd 1 (.rd 2 .done))) ?_
      refine jyq (jrde 3) ?_
      refine jyq jrm ?_
      refine jyq jrm ?_
      refine jyd ?_
      refine jtn ?_
      refine code_ret (jtr (jbr (jtr (jtr (jbr (jtr (jrt (hv := ?_))))))))
      have hn : ¬ formP b := fun h => by
        obtain ⟨h1, h2, h3⟩ := h
        have := h3 i (by omega)
        unfold isDg at this
        omega
      unfold getV getE
      rw [if_neg (fun h => hn h.1), if_neg hn]
      exact CEnt.refl _
    refine code_skip (jtn ?_)
    have hdi : isDg b i := by unfold isDg; omega
    have hdj := hdi
    unfold isDg at hdj
    have hb2 := twoI_bd hd (i / 2)
    refine jcg ?_
    refine jq jrm ?_
    refine jq jrq ?_
    refine jq jrm ?_
    refine jq jrq ?_
    refine jq (rd_iaddrA1 rfl rfl rfl Tryz.underlying192 sz3 (show _ = (((i / 2) : Nat) : Int) by omega) (by (omega))) ?_
    refine jqo jrdo ?_
    refine jq jra ?_
    refine jq jrm ?_
    refine jq jra ?_
    refine jq (jrv .u8 .i64) ?_
    refine jq jra ?_
    refine jq (rd_iaddrA1 rfl rfl rfl Tryz.underlying192 sz3 (show _ = (((i / 2) : Nat) : Int) by omega) (by (omega))) ?_
    refine jqm (jmst 1 ?_)
    refine seq_nil ?_
    refine jbn (jtn ?_)
    refine jcg ?_
    refine jq jra ?_
    refine jq jrm ?_
    refine seq_nil ?_
    refine jtn ?_
    refine jlend (i + 1) ?_ ?_ (h7 := ?_)
    · exact ⟨by omega, fun k hk => by
        rcases Nat.lt_succ_iff_lt_or_eq.1 hk with h | h
        · exact hd k h
        · subst h; exact hdi⟩
    · omega
    · exact .blk rfl (fun j hj => by
        refine (CEnt.of_eq (updF_one _ _ _ j)).trans ?_
        unfold twF
        rw [twoI_succ]
        by_cases hj2 : j = i / 2
        · rw [if_pos hj2, if_pos hj2, hj2]
          exact CEnt.int (by unfold dg; omega)
        · rw [if_neg hj2, if_neg hj2]
          exact CEnt.refl _) .nil

def twL (b : List UInt8) (i : Nat) : List Int := (List.range i).map (two b)
end Am
end Go.Proofs.YtgnjjenalebiaaaGreatDoor

/- Chapter 8: the reader: Bool, Flags, Moment, OID, Text, Octets. -/
namespace Go.Proofs.YtgnjjenalebiaaaGreatDoor
set_option linter.unusedVariables false
namespace Am
variable {gs : List Nat} [Ok9 gs]
open Go.RowKit
set_option maxRecDepth 100000

theorem bool08_ac (n : Nat) (l : List (List UInt8)) (k : Nat) (hl : 0 < l.length ∧ l.length ≤ 1000000) (hb : (nowL l).length ≤ 10000000) :
    AC gs Tryz.prog 70 [rdO n l k] [.op 0 (some n) 0]
      (fun r H' => r = .c (.bool (if (nextR 1 l k).is = true ∧ (isTrueM (nextR 1 l k).body).2 = 0 then (isTrueM (nextR 1 l k).body).1 else false)) ∧ H' = [rdO n (nextR 1 l k).l (valK 1 l k fun b => (isTrueM b).2)]) := by
  refine ac_of 5 Tryz.func70 rfl rfl rfl (fun al w0 F0 St0 => ?_)
  refine jcr ?_
  refine jq jrm ?_
  refine seq_nil ?_
  refine jcr ?_
  refine jq jrm ?_
  refine jqm (jmcH 0 (valueB_ac (m := 0) (fv := fun _ => .top) (by kernel_rfl) n l k 1 isTrueM hl hb (fun b _ => istrue_ac b)) ?_ (ho := rfl) (he := (.cons (se rfl CEnt.opI) (.cons (se rfl (CEnt.refl _)) (.cons (se rfl CEnt.fn0) .nil)))))
  rintro _ _ ⟨rfl, rfl⟩
  refine ⟨_, _, rfl, CEnt.refl _, ?_⟩
  refine jq jrm ?_
  refine seq_nil ?_
  refine code_ret ?_
  exact end_H (.inl rfl) rfl (res_1 rfl (arv_tmp rfl)) (CEnt.refl _)
theorem flags08_ac (n : Nat) (l : List (List UInt8)) (k : Nat) (hl : 0 < l.length ∧ l.length ≤ 1000000) (hb : (nowL l).length ≤ 10000000) :
    AC gs Tryz.prog 76 [rdO n l k] [.op 0 (some n) 0]
      (fun r H' => r = .c (.int .i64 (if (nextR 3 l k).is = true ∧ (maskM (nextR 3 l k).body).2 = 0 then (((maskM (nextR 3 l k).body).1 : Nat) : Int) else 0)) ∧ H' = [rdO n (nextR 3 l k).l (valK 3 l k fun b => (maskM b).2)]) := by
  refine ac_of 5 Tryz.func76 rfl rfl rfl (fun al w0 F0 St0 => ?_)
  refine jcr ?_
  refine jq jrm ?_
  refine seq_nil ?_
  refine jcr ?_
  refine jq jrm ?_
  refine jqm (jmcH 0 (valueI_ac (m := 0) (fv := fun _ => .top) (by kernel_rfl) n l k 3 (fun b => (((maskM b).1 : Nat), (maskM b).2)) hl hb (fun b _ => tmask_ac b)) ?_ (ho := rfl) (he := (.cons (se rfl CEnt.opI) (.cons (se rfl (CEnt.refl _)) (.cons (se rfl CEnt.fn0) .nil)))))
  rintro _ _ ⟨rfl, rfl⟩
  refine ⟨_, _, rfl, CEnt.refl _, ?_⟩
  refine jq jrm ?_
  refine seq_nil ?_
  refine code_ret ?_
  exact end_H (.inl rfl) rfl (res_1 rfl (arv_tmp rfl)) (CEnt.refl _)
theorem moment08_ac (n : Nat) (l : List (List UInt8)) (k : Nat) (hl : 0 < l.length ∧ l.length ≤ 1000000) (hb : (nowL l).length ≤ 10000000) :
    AC gs Tryz.prog 74 [rdO n l k] [.op 0 (some n) 0]
      (fun r H' => r = .c (.int .i64 (if (nextR 24 l k).is = true ∧ getE (nextR 24 l k).body = 0 then getV (nextR 24 l k).body else 0)) ∧ H' = [rdO n (nextR 24 l k).l (valK 24 l k getE)]) := by
  refine ac_of 5 Tryz.func74 rfl rfl rfl (fun al w0 F0 St0 => ?_)
  refine jcr ?_
  refine jq jrm ?_
  refine seq_nil ?_
  refine jcr ?_
  refine jq jrm ?_
  refine jqm (jmcH 0 (valueI_ac (m := 0) (fv := fun _ => .top) (by kernel_rfl) n l k 24 (fun b => (getV b, getE b)) hl hb (fun b _ => mget_ac b)) ?_ (ho := rfl) (he := (.cons (se rfl CEnt.opI) (.cons (se rfl (CEnt.refl _)) (.cons (se rfl CEnt.fn0) .nil)))))
  rintro _ _ ⟨rfl, rfl⟩
  refine ⟨_, _, rfl, CEnt.refl _, ?_⟩
  refine jq jrm ?_
  refine seq_nil ?_
  refine code_ret ?_
  exact end_H (.inl rfl) rfl (res_1 rfl (arv_tmp rfl)) (CEnt.refl _)
theorem oid08_ac (n : Nat) (l : List (List UInt8)) (k : Nat) (hl : 0 < l.length ∧ l.length ≤ 1000000) (hb : (nowL l).length ≤ 10000000) :
    AC gs Tryz.prog 73 [rdO n l k] [.op 0 (some n) 0]
      (fun r H' => r = strC (if (nextR 6 l k).is = true ∧ (ogetM (nextR 6 l k).body).2 = 0 then (ogetM (nextR 6 l k).body).1 else []) ∧ H' = [rdO n (nextR 6 l k).l (valK 6 l k fun b => (ogetM b).2)]) := by
  refine ac_of 5 Tryz.func73 rfl rfl rfl (fun al w0 F0 St0 => ?_)
  refine jcr ?_
  refine jq jrm ?_
  refine seq_nil ?_
  refine jcr ?_
  refine jq jrm ?_
  refine jqm (jmcH 0 (valueS_ac (m := 0) (fv := fun _ => .top) (by kernel_rfl) n l k 6 ogetM hl hb (fun b h => oget_ac b (by omega))) ?_ (ho := rfl) (he := (.cons (se rfl CEnt.opI) (.cons (se rfl (CEnt.refl _)) (.cons (se rfl CEnt.fn0) .nil)))))
  rintro _ _ ⟨rfl, rfl⟩
  refine ⟨_, _, rfl, CEnt.refl _, ?_⟩
  refine jq jrm ?_
  refine seq_nil ?_
  refine code_ret ?_
  exact end_H (.inl rfl) rfl (res_1 rfl (arv_tmp rfl)) (CEnt.refl _)
end Am
end Go.Proofs.YtgnjjenalebiaaaGreatDoor

/- Chapter 8: the reader: Octets, Text. -/
namespace Go.Proofs.YtgnjjenalebiaaaGreatDoor
set_option linter.unusedVariables false
namespace Am
variable {gs : List Nat} [Ok9 gs]
open Go.RowKit
set_option maxRecDepth 100000

def octM (least most : Int) (b : List UInt8) : List UInt8 × Nat := if (b.length : Int) < least then ([], 2) else if most < (b.length : Int) then ([], 3) else (b, 0)
theorem octets08_ac (n : Nat) (l : List (List UInt8)) (k : Nat) (least most : Int) (hl : 0 < l.length ∧ l.length ≤ 1000000) (hb : (nowL l).length ≤ 10000000) :
    AC gs Tryz.prog 71 [rdO n l k] [.op 0 (some n) 0, .c (.int .i64 least), .c (.int .i64 most)]
      (fun r H' => r = bsC (if (nextR 4 l k).is = true ∧ (octM least most (nextR 4 l k).body).2 = 0 then (octM least most (nextR 4 l k).body).1 else []) ∧ H' = [rdO n (nextR 4 l k).l (valK 4 l k fun b => (octM least most b).2)]) := by
  have g : ∀ b : List UInt8, ACp gs Tryz.prog 118 (bsC b :: (List.range 2).map (twoF least most)) (.tup 2 (fl [bsC (octM least most b).1, .err (octM least most b).2])) := fun b => by
    refine ac_of 19 Tryz.func118 rfl rfl rfl (fun al w0 F0 St0 => ?_)
    refine jcr ?_
    refine jq jrm ?_
    refine jq jrm ?_
    refine seq_nil ?_
    refine jcs ?_
    refine code_block ?_
    refine jcr ?_
    refine jq jrm ?_
    refine jq jrl ?_
    refine jq jrdr ?_
    refine jq jrc ?_
    refine jq jrm ?_
    refine seq_nil ?_
    refine jcc (fun h260 => ?_) fun h260 => ?_
    · refine jcs ?_
      refine jcd (.rd 0 (.rd 1 (.rd 2 .done))) ?_
      refine jyq (jrde 1) ?_
      refine jyq jrm ?_
      refine jyq jrm ?_
      refine jyd ?_
      refine jtn ?_
      refine code_ret (jbr (jtr (jrt (hv := ?_))))
      have e : octM least most b = ([], 2) := by unfold octM; rw [if_pos (by omega)]
      rw [e]
      exact CEnt.tup2 CEnt.nilB (CEnt.refl _)
    refine jcr ?_
    refine jq jrm ?_
    refine jq jrl ?_
    refine jq jrdr ?_
    refine jq jrc ?_
    refine jq jrm ?_
    refine seq_nil ?_
    refine jcc (fun h262 => ?_) fun h262 => ?_
    rotate_left
    · refine code_skip (jbn (jtn ?_))
      refine jcr ?_
      refine jq jrm ?_
      refine jq jrm ?_
      refine jq jrm ?_
      refine seq_nil ?_
      refine code_ret (jrt (hv := ?_))
      have e : octM least most b = (b, 0) := by unfold octM; rw [if_neg (by omega), if_neg (by omega)]
      rw [e]
      exact CEnt.tup2 (CEnt.refl _) CEnt.nil
    refine jcs ?_
    refine jcd (.rd 0 (.rd 1 (.rd 2 .done))) ?_
    refine jyq (jrde 2) ?_
    refine jyq jrm ?_
    refine jyq jrm ?_
    refine jyd ?_
    refine jtn ?_
    refine code_ret (jbr (jtr (jrt (hv := ?_))))
    have e : octM least most b = ([], 3) := by unfold octM; rw [if_neg (by omega), if_pos (by omega)]
    rw [e]
    exact CEnt.tup2 CEnt.nilB (CEnt.refl _)
  refine ac_of 10 Tryz.func71 rfl rfl rfl (fun al w0 F0 St0 => ?_)
  refine jcr ?_
  refine jqe (jebx 1 fun p1 => ?_)
  refine jqe (jebx 1 fun p2 => ?_)
  refine jq jrm ?_
  refine seq_nil ?_
  refine code_ent (freeze 1 rfl) ?_
  refine code_ent (freeze 2 rfl) ?_
  refine code_ent (thawP 4 (m := 1) rfl rfl (by decide)) ?_
  refine code_ent (thawP 5 (m := 1) rfl rfl (by decide)) ?_
  refine jcr ?_
  refine jq jrm ?_
  refine jq jrmf ?_
  refine jqm (jmcH 0 (valueL_ac (fv := twoF least most) (by kernel_rfl) n l k 4 (octM least most) hl hb (fun b _ => g b)) ?_ (ho := rfl) (he := (.cons (se rfl CEnt.opI) (.cons (se rfl (CEnt.refl _)) (.cons (se rfl (CEnt.fn2' (CEnt.rp int_box) (CEnt.rp int_box))) .nil)))))
  rintro _ _ ⟨rfl, rfl⟩
  refine ⟨_, _, rfl, CEnt.refl _, ?_⟩
  refine jq jrm ?_
  refine seq_nil ?_
  refine code_ret ?_
  exact end_H (.inl rfl) rfl (res_1 rfl (arv_tmp rfl)) (CEnt.refl _)
theorem text08_ac [OkT gs] (n : Nat) (l : List (List UInt8)) (k : Nat) (most : Int) (hl : 0 < l.length ∧ l.length ≤ 1000000) (hb : (nowL l).length ≤ 10000000) :
    AC gs Tryz.prog 72 [rdO n l k] [.op 0 (some n) 0, .c (.int .i64 most)]
      (fun r H' => r = strC (if (nextR 12 l k).is = true ∧ askedM (nextR 12 l k).body most = 0 then (if askedM (nextR 12 l k).body most = 0 then (nextR 12 l k).body else []) else []) ∧ H' = [rdO n (nextR 12 l k).l (valK 12 l k fun b => askedM b most)]) := by
  have g : ∀ b : List UInt8, b.length ≤ 65530 → ACp gs Tryz.prog 120 (bsC b :: (List.range 1).map (fl [.rp 1 fun _ => .c (.int .i64 most)])) (.tup 2 (fl [strC (if askedM b most = 0 then b else []), .err (askedM b most)])) := fun b hb => by
    refine ac_of 10 Tryz.func120 rfl rfl rfl (fun al w0 F0 St0 => ?_)
    refine jcr ?_
    refine jq jrm ?_
    refine jq jrm ?_
    refine seq_nil ?_
    refine jcr ?_
    refine jq jrm ?_
    refine jq jrdr ?_
    refine jqe (jecP (xget_ac b most (by omega)) ?_)
    refine jq jrx ?_
    refine jq jrx ?_
    refine jq jrm ?_
    refine jq jrm ?_
    refine seq_nil ?_
    refine code_ret jrt
  refine ac_of 8 Tryz.func72 rfl rfl rfl (fun al w0 F0 St0 => ?_)
  refine jcr ?_
  refine jqe (jebx 1 fun p1 => ?_)
  refine jq jrm ?_
  refine seq_nil ?_
  refine code_ent (freeze 1 rfl) ?_
  refine code_ent (thawP 3 (m := 1) rfl rfl (by decide)) ?_
  refine jcr ?_
  refine jq jrm ?_
  refine jq jrmf ?_
  refine jqm (jmcH 0 (valueS_ac (fv := fl [.rp 1 fun _ => .c (.int .i64 most)]) (by kernel_rfl) n l k 12 (fun b => (if askedM b most = 0 then b else [], askedM b most)) hl hb g) ?_ (ho := rfl) (he := (.cons (se rfl CEnt.opI) (.cons (se rfl (CEnt.refl _)) (.cons (se rfl (CEnt.fn1 (CEnt.rp int_box))) .nil)))))
  rintro _ _ ⟨rfl, rfl⟩
  refine ⟨_, _, rfl, CEnt.refl _, ?_⟩
  refine jq jrm ?_
  refine seq_nil ?_
  refine code_ret ?_
  exact end_H (.inl rfl) rfl (res_1 rfl (arv_tmp rfl)) (CEnt.refl _)
end Am
end Go.Proofs.YtgnjjenalebiaaaGreatDoor

/- Chapter 8: the laws' own function get. -/
namespace Go.Proofs.YtgnjjenalebiaaaGreatDoor
set_option linter.unusedVariables false
namespace Am
variable {gs : List Nat} [Ok9 gs]
open Go.RowKit Cal
set_option maxRecDepth 100000

/-- what is asked of a reader -/
structure AA where
  kind : Int
  tag : Int
  least : Int
  most : Int
def askC (a : AA) : CV := .agg 4 (fl [.c (.int .i64 a.kind), .c (.int .i64 a.tag), .c (.int .i64 a.least), .c (.int .i64 a.most)])
def vN (n : Int) : VV := ⟨0, n, false, [], []⟩
def vI (b : Bool) : VV := ⟨0, 0, b, [], []⟩
def vB (b : List UInt8) : VV := ⟨0, 0, false, b, []⟩
def vT (t : List UInt8) : VV := ⟨0, 0, false, [], t⟩
/-- what a body says; the error -/
def saidM (a : AA) (b : List UInt8) : VV × Nat :=
  if a.kind = 3 then (vN (rangeM b a.least a.most).1, (rangeM b a.least a.most).2) else
  if a.kind = 4 then (vN (rangeM b a.least a.most).1, (rangeM b a.least a.most).2) else
  if a.kind = 5 then (vI (isTrueM b).1, (isTrueM b).2) else
  if a.kind = 6 then (vB (octM a.least a.most b).1, (octM a.least a.most b).2) else
  if a.kind = 7 then (vT (if askedM b a.most = 0 then b else []), askedM b a.most) else
  if a.kind = 8 then (vT (ogetM b).1, (ogetM b).2) else
  if a.kind = 9 then (vN (getV b), getE b) else (vN ((maskM b).1 : Nat), (maskM b).2)
def tagA (a : AA) : Int := if a.kind = 3 then 2 else if a.kind = 4 then 10 else if a.kind = 5 then 1 else if a.kind = 6 then 4 else if a.kind = 7 then 12 else if a.kind = 8 then 6 else if a.kind = 9 then 24 else 3
/-- the answer, and the reader behind it -/
structure R8R where
  l : List (List UInt8)
  k : Nat
  v : VV
def readV (tag : Int) (said : List UInt8 → VV × Nat) (l : List (List UInt8)) (k : Nat) : R8R :=
  ⟨(nextR tag l k).l, valK tag l k fun b => (said b).2, if (nextR tag l k).is = true ∧ (said (nextR tag l k).body).2 = 0 then (said (nextR tag l k).body).1 else VV.none⟩
def readR (a : AA) (l : List (List UInt8)) (k : Nat) : R8R :=
  if a.kind = 1 then ⟨enterL a.tag l k, (enterR a.tag l k).k, vI (enterR a.tag l k).is⟩ else
  if a.kind = 2 then ⟨leaveL l k, leaveK l k, VV.none⟩ else
  if a.kind = 11 then ⟨(nextR 0 l k).l, (nextR 0 l k).k, vB (nextR 0 l k).raw⟩ else readV (tagA a) (saidM a) l k
theorem readR_g {α : Type} (c : α → VV) (z : α) (hz : c z = VV.none) {a : AA} {l : List (List UInt8)} {k : Nat} {t : Int} {f : List UInt8 → α × Nat} (h1 : a.kind ≠ 1) (h2 : a.kind ≠ 2) (h3 : a.kind ≠ 11) (hs : saidM a = fun b => (c (f b).1, (f b).2)) (ht : tagA a = t) :
    readR a l k = ⟨(nextR t l k).l, valK t l k fun b => (f b).2, c (if (nextR t l k).is = true ∧ (f (nextR t l k).body).2 = 0 then (f (nextR t l k).body).1 else z)⟩ := by
  subst ht
  unfold readR
  rw [if_neg h1, if_neg h2, if_neg h3]
  unfold readV
  rw [hs]
  simp only
  split
  · rfl
  · rw [hz]
set_option maxHeartbeats 2000000 in
theorem get08_ac [OkT gs] (n : Nat) (l : List (List UInt8)) (k : Nat) (a : AA) (hl : 0 < l.length ∧ l.length ≤ 1000000) (hb : (nowL l).length ≤ 10000000) : AC gs Tryz.prog 35 [rdO n l k] [.op 0 (some n) 0, askC a] (fun r H' => r = valC (readR a l k).v ∧ H' = [rdO n (readR a l k).l (readR a l k).k]) := by
  refine ac_of 76 Tryz.func35 rfl rfl rfl (fun al w0 F0 St0 => ?_)
  refine jcr ?_
  refine jqe (jebx 4 fun p1 => ?_)
  refine jqe (jeal (n := 5) zr43 rfl fun p2 => ?_)
  refine seq_nil ?_
  refine jcs ?_
  refine jcr ?_
  refine jq (jrfa 0 1 false) ?_
  refine jqo jrdo ?_
  refine seq_nil ?_
  refine code_block ?_
  refine jcr ?_
  refine jq jrc ?_
  refine jq jrm ?_
  refine seq_nil ?_
  refine jcc (fun h102 => ?_) fun h102 => ?_
  · refine jcr ?_
    refine jq jrm ?_
    refine jq (jrfa 1 1 false) ?_
    refine jqo jrdo ?_
    refine jqm (jmcH 0 (enter_ac n l k a.tag hl hb) ?_)
    rintro _ _ ⟨rfl, rfl⟩
    refine ⟨_, _, rfl, CEnt.refl _, ?_⟩
    refine jq (rd_build (n := 5) rfl zr43 pl43 rfl rfl) ?_
    refine jqm (jmst 5 ?_)
    refine seq_nil ?_
    refine code_ret (jbr (jtr ?_))
    rw [show readR a l k = ⟨enterL a.tag l k, (enterR a.tag l k).k, vI (enterR a.tag l k).is⟩ by unfold readR; rw [if_pos (by omega)]]
    exact end_H (.inl rfl) rfl (res_1 rfl (javA 5)) (CEnt.agg rfl (fun j hj => by rcases j with _ | _ | _ | _ | _ | j <;> first | exact CEnt.refl _ | exact CEnt.nilB | omega))
  refine jcr ?_
  refine jq jrc ?_
  refine jq jrm ?_
  refine seq_nil ?_
  refine jcc (fun h104 => ?_) fun h104 => ?_
  · refine jcr ?_
    refine jq jrm ?_
    refine jqm (jmcH 0 (leave_ac n l k hl) ?_)
    rintro _ _ ⟨rfl, rfl⟩
    refine ⟨_, _, rfl, CEnt.refl _, ?_⟩
    refine seq_nil ?_
    refine jcr ?_
    refine jq (rd_build (n := 5) rfl zr43 pl43 rfl rfl) ?_
    refine jqm (jmst 5 ?_)
    refine seq_nil ?_
    refine code_ret (jbr (jtr ?_))
    rw [show readR a l k = ⟨leaveL l k, leaveK l k, VV.none⟩ by unfold readR; rw [if_neg (by omega), if_pos (by omega)]]
    exact end_H (.inl rfl) rfl (res_1 rfl (javA 5)) (CEnt.agg rfl (fun j hj => by rcases j with _ | _ | _ | _ | _ | j <;> first | exact CEnt.refl _ | exact CEnt.nilB | omega))
  refine jcr ?_
  refine jq jrc ?_
  refine jq jrm ?_
  refine seq_nil ?_
  refine jcc (fun h107 => ?_) fun h107 => ?_
  · refine jcr ?_
    refine jq jrm ?_
    refine jq (jrfa 2 1 false) ?_
    refine jqo jrdo ?_
    refine jq (jrfa 3 1 false) ?_
    refine jqo jrdo ?_
    refine jqm (jmcH 0 (int08_ac n l k a.least a.most hl hb) ?_)
    rintro _ _ ⟨rfl, rfl⟩
    refine ⟨_, _, rfl, CEnt.refl _, ?_⟩
    refine jq (rd_build (n := 5) rfl zr43 pl43 rfl rfl) ?_
    refine jqm (jmst 5 ?_)
    refine seq_nil ?_
    refine code_ret (jbr (jtr ?_))
    rw [readR_g vN 0 rfl (t := 2) (f := fun b => rangeM b a.least a.most) (by omega) (by omega) (by omega) (by funext b; unfold saidM; rw [if_pos (by omega)]) (by unfold tagA; rw [if_pos (by omega)])]
    exact end_H (.inl rfl) rfl (res_1 rfl (javA 5)) (CEnt.agg rfl (fun j hj => by rcases j with _ | _ | _ | _ | _ | j <;> first | exact CEnt.refl _ | exact CEnt.nilB | omega))
  refine jcr ?_
  refine jq jrc ?_
  refine jq jrm ?_
  refine seq_nil ?_
  refine jcc (fun h109 => ?_) fun h109 => ?_
  · refine jcr ?_
    refine jq jrm ?_
    refine jq (jrfa 2 1 false) ?_
    refine jqo jrdo ?_
    refine jq (jrfa 3 1 false) ?_
    refine jqo jrdo ?_
    refine jqm (jmcH 0 (enum08_ac n l k a.least a.most hl hb) ?_)
    rintro _ _ ⟨rfl, rfl⟩
    refine ⟨_, _, rfl, CEnt.refl _, ?_⟩
    refine jq (rd_build (n := 5) rfl zr43 pl43 rfl rfl) ?_
    refine jqm (jmst 5 ?_)
    refine seq_nil ?_
    refine code_ret (jbr (jtr ?_))
    rw [readR_g vN 0 rfl (t := 10) (f := fun b => rangeM b a.least a.most) (by omega) (by omega) (by omega) (by funext b; unfold saidM; rw [if_neg (by omega), if_pos (by omega)]) (by unfold tagA; rw [if_neg (by omega), if_pos (by omega)])]
    exact end_H (.inl rfl) rfl (res_1 rfl (javA 5)) (CEnt.agg rfl (fun j hj => by rcases j with _ | _ | _ | _ | _ | j <;> first | exact CEnt.refl _ | exact CEnt.nilB | omega))
  refine jcr ?_
  refine jq jrc ?_
  refine jq jrm ?_
  refine seq_nil ?_
  refine jcc (fun h111 => ?_) fun h111 => ?_
  · refine jcr ?_
    refine jq jrm ?_
    refine jqm (jmcH 0 (bool08_ac n l k hl hb) ?_)
    rintro _ _ ⟨rfl, rfl⟩
    refine ⟨_, _, rfl, CEnt.refl _, ?_⟩
    refine jq (rd_build (n := 5) rfl zr43 pl43 rfl rfl) ?_
    refine jqm (jmst 5 ?_)
    refine seq_nil ?_
    refine code_ret (jbr (jtr ?_))
    rw [readR_g vI false rfl (t := 1) (f := isTrueM) (by omega) (by omega) (by omega) (by funext b; unfold saidM; rw [if_neg (by omega), if_neg (by omega), if_pos (by omega)]) (by unfold tagA; rw [if_neg (by omega), if_neg (by omega), if_pos (by omega)])]
    exact end_H (.inl rfl) rfl (res_1 rfl (javA 5)) (CEnt.agg rfl (fun j hj => by rcases j with _ | _ | _ | _ | _ | j <;> first | exact CEnt.refl _ | exact CEnt.nilB | omega))
  refine jcr ?_
  refine jq jrc ?_
  refine jq jrm ?_
  refine seq_nil ?_
  refine jcc (fun h113 => ?_) fun h113 => ?_
  · refine jcr ?_
    refine jq jrm ?_
    refine jq (jrfa 2 1 false) ?_
    refine jqo jrdo ?_
    refine jq (jrfa 3 1 false) ?_
    refine jqo jrdo ?_
    refine jqm (jmcH 0 (octets08_ac n l k a.least a.most hl hb) ?_)
    rintro _ _ ⟨rfl, rfl⟩
    refine ⟨_, _, rfl, CEnt.refl _, ?_⟩
    refine jq (rd_build (n := 5) rfl zr43 pl43 rfl rfl) ?_
    refine jqm (jmst 5 ?_)
    refine seq_nil ?_
    refine code_ret (jbr (jtr ?_))
    rw [readR_g vB [] rfl (t := 4) (f := octM a.least a.most) (by omega) (by omega) (by omega) (by funext b; unfold saidM; rw [if_neg (by omega), if_neg (by omega), if_neg (by omega), if_pos (by omega)]) (by unfold tagA; rw [if_neg (by omega), if_neg (by omega), if_neg (by omega), if_pos (by omega)])]
    exact end_H (.inl rfl) rfl (res_1 rfl (javA 5)) (CEnt.agg rfl (fun j hj => by rcases j with _ | _ | _ | _ | _ | j <;> first | exact CEnt.refl _ | exact CEnt.nilB | omega))
  refine jcr ?_
  refine jq jrc ?_
  refine jq jrm ?_
  refine seq_nil ?_
  refine jcc (fun h115 => ?_) fun h115 => ?_
  · refine jcr ?_
    refine jq jrm ?_
    refine jq (jrfa 3 1 false) ?_
    refine jqo jrdo ?_
    refine jqm (jmcH 0 (text08_ac n l k a.most hl hb) ?_)
    rintro _ _ ⟨rfl, rfl⟩
    refine ⟨_, _, rfl, CEnt.refl _, ?_⟩
    refine jq (rd_build (n := 5) rfl zr43 pl43 rfl rfl) ?_
    refine jqm (jmst 5 ?_)
    refine seq_nil ?_
    refine code_ret (jbr (jtr ?_))
    rw [readR_g vT [] rfl (t := 12) (f := fun b => (if askedM b a.most = 0 then b else [], askedM b a.most)) (by omega) (by omega) (by omega) (by funext b; unfold saidM; rw [if_neg (by omega), if_neg (by omega), if_neg (by omega), if_neg (by omega), if_pos (by omega)]) (by unfold tagA; rw [if_neg (by omega), if_neg (by omega), if_neg (by omega), if_neg (by omega), if_pos (by omega)])]
    exact end_H (.inl rfl) rfl (res_1 rfl (javA 5)) (CEnt.agg rfl (fun j hj => by rcases j with _ | _ | _ | _ | _ | j <;> first | exact CEnt.refl _ | exact CEnt.nilB | omega))
  refine jcr ?_
  refine jq jrc ?_
  refine jq jrm ?_
  refine seq_nil ?_
  refine jcc (fun h117 => ?_) fun h117 => ?_
  · refine jcr ?_
    refine jq jrm ?_
    refine jqm (jmcH 0 (oid08_ac n l k hl hb) ?_)
    rintro _ _ ⟨rfl, rfl⟩
    refine ⟨_, _, rfl, CEnt.refl _, ?_⟩
    refine jq (rd_build (n := 5) rfl zr43 pl43 rfl rfl) ?_
    refine jqm (jmst 5 ?_)
    refine seq_nil ?_
    refine code_ret (jbr (jtr ?_))
    rw [readR_g vT [] rfl (t := 6) (f := ogetM) (by omega) (by omega) (by omega) (by funext b; unfold saidM; rw [if_neg (by omega), if_neg (by omega), if_neg (by omega), if_neg (by omega), if_neg (by omega), if_pos (by omega)]) (by unfold tagA; rw [if_neg (by omega), if_neg (by omega), if_neg (by omega), if_neg (by omega), if_neg (by omega), if_pos (by omega)])]
    exact end_H (.inl rfl) rfl (res_1 rfl (javA 5)) (CEnt.agg rfl (fun j hj => by rcases j with _ | _ | _ | _ | _ | j <;> first | exact CEnt.refl _ | exact CEnt.nilB | omega))
  refine jcr ?_
  refine jq jrc ?_
  refine jq jrm ?_
  refine seq_nil ?_
  refine jcc (fun h119 => ?_) fun h119 => ?_
  · refine jcr ?_
    refine jq jrm ?_
    refine jqm (jmcH 0 (moment08_ac n l k hl hb) ?_)
    rintro _ _ ⟨rfl, rfl⟩
    refine ⟨_, _, rfl, CEnt.refl _, ?_⟩
    refine jq (rd_build (n := 5) rfl zr43 pl43 rfl rfl) ?_
    refine jqm (jmst 5 ?_)
    refine seq_nil ?_
    refine code_ret (jbr (jtr ?_))
    rw [readR_g vN 0 rfl (t := 24) (f := fun b => (getV b, getE b)) (by omega) (by omega) (by omega) (by funext b; unfold saidM; rw [if_neg (by omega), if_neg (by omega), if_neg (by omega), if_neg (by omega), if_neg (by omega), if_neg (by omega), if_pos (by omega)]) (by unfold tagA; rw [if_neg (by omega), if_neg (by omega), if_neg (by omega), if_neg (by omega), if_neg (by omega), if_neg (by omega), if_pos (by omega)])]
    exact end_H (.inl rfl) rfl (res_1 rfl (javA 5)) (CEnt.agg rfl (fun j hj => by rcases j with _ | _ | _ | _ | _ | j <;> first | exact CEnt.refl _ | exact CEnt.nilB | omega))
  refine jcr ?_
  refine jq jrc ?_
  refine jq jrm ?_
  refine seq_nil ?_
  refine jcc (fun h121 => ?_) fun h121 => ?_
  · refine jcr ?_
    refine jq jrm ?_
    refine jqm (jmcH 0 (raw08_ac n l k hl hb) ?_)
    rintro _ _ ⟨rfl, rfl⟩
    refine ⟨_, _, rfl, CEnt.refl _, ?_⟩
    refine jq (rd_build (n := 5) rfl zr43 pl43 rfl rfl) ?_
    refine jqm (jmst 5 ?_)
    refine seq_nil ?_
    refine code_ret (jbr (jtr ?_))
    rw [show readR a l k = ⟨(nextR 0 l k).l, (nextR 0 l k).k, vB (nextR 0 l k).raw⟩ by unfold readR; rw [if_neg (by omega), if_neg (by omega), if_pos (by omega)]]
    exact end_H (.inl rfl) rfl (res_1 rfl (javA 5)) (CEnt.agg rfl (fun j hj => by rcases j with _ | _ | _ | _ | _ | j <;> first | exact CEnt.refl _ | exact CEnt.nilB | omega))
  refine code_skip (jbn (jtn ?_))
  refine jcr ?_
  refine jq jrm ?_
  refine jqm (jmcH 0 (flags08_ac n l k hl hb) ?_)
  rintro _ _ ⟨rfl, rfl⟩
  refine ⟨_, _, rfl, CEnt.refl _, ?_⟩
  refine jq (rd_build (n := 5) rfl zr43 pl43 rfl rfl) ?_
  refine jqm (jmst 5 ?_)
  refine seq_nil ?_
  refine code_ret ?_
  rw [readR_g vN 0 rfl (t := 3) (f := fun b => (((maskM b).1 : Nat), (maskM b).2)) (by omega) (by omega) (by omega) (by funext b; unfold saidM; rw [if_neg (by omega), if_neg (by omega), if_neg (by omega), if_neg (by omega), if_neg (by omega), if_neg (by omega), if_neg (by omega)]) (by unfold tagA; rw [if_neg (by omega), if_neg (by omega), if_neg (by omega), if_neg (by omega), if_neg (by omega), if_neg (by omega), if_neg (by omega)])]
  exact end_H (.inl rfl) rfl (res_1 rfl (javA 5)) (CEnt.agg rfl (fun j hj => by rcases j with _ | _ | _ | _ | _ | j <;> first | exact CEnt.refl _ | exact CEnt.nilB | omega))
end Am
end Go.Proofs.YtgnjjenalebiaaaGreatDoor

/- Chapter 8, plain: what is written is read as it was written. -/
namespace Go.Proofs.YtgnjjenalebiaaaGreatDoor
set_option linter.unusedVariables false
namespace Am
open Go.RowKit Cal
set_option maxRecDepth 100000

def elemV (v : VV) : List UInt8 := putL (bodyV v).1 (bodyV v).2.1
/-- is a value of the kinds that are tried, and has it a body? -/
def goodV (v : VV) : Bool := (decide (3 ≤ v.kind) && decide (v.kind ≤ 10)) && decide ((bodyV v).2.2 = 0)
def rowsW (vs : List VV) : List (List UInt8) := (vs.filter goodV).map elemV
theorem goodV_iff {v : VV} : goodV v = true ↔ (3 ≤ v.kind ∧ v.kind ≤ 10) ∧ (bodyV v).2.2 = 0 := by unfold goodV; simp
theorem bodyV_kind {v : VV} (h : 3 ≤ v.kind ∧ v.kind ≤ 10) : (v.kind = 3 ∧ bodyV v = (2, putN v.n, 0)) ∨ (v.kind = 4 ∧ bodyV v = (10, putN v.n, 0)) ∨ (v.kind = 5 ∧ bodyV v = (1, [if v.is then 255 else 0], 0)) ∨ (v.kind = 6 ∧ bodyV v = (4, v.b, 0)) ∨
    (v.kind = 7 ∧ bodyV v = (12, if askedM v.t v.n = 0 then v.t else [], askedM v.t v.n)) ∨ (v.kind = 8 ∧ bodyV v = (6, putM v.t, (parseM v.t).2)) ∨ (v.kind = 9 ∧ bodyV v = (24, if inT v.n then bodyL (ofM v.n) else [], ofE v.n)) ∨ (v.kind = 10 ∧ bodyV v = (3, bitsL v.n, bitsE v.n)) := by
  obtain h | h | h | h | h | h | h | h : v.kind = 3 ∨ v.kind = 4 ∨ v.kind = 5 ∨ v.kind = 6 ∨ v.kind = 7 ∨ v.kind = 8 ∨ v.kind = 9 ∨ v.kind = 10 := by omega
  · exact .inl ⟨h, by unfold bodyV; rw [if_pos h]⟩
  · exact .inr (.inl ⟨h, by unfold bodyV; rw [if_neg (by omega), if_pos h]⟩)
  · exact .inr (.inr (.inl ⟨h, by unfold bodyV; rw [if_neg (by omega), if_neg (by omega), if_pos h]⟩))
  · exact .inr (.inr (.inr (.inl ⟨h, by unfold bodyV; rw [if_neg (by omega), if_neg (by omega), if_neg (by omega), if_pos h]⟩)))
  · exact .inr (.inr (.inr (.inr (.inl ⟨h, by unfold bodyV; rw [if_neg (by omega), if_neg (by omega), if_neg (by omega), if_neg (by omega), if_pos h]⟩))))
  · exact .inr (.inr (.inr (.inr (.inr (.inl ⟨h, by unfold bodyV; rw [if_neg (by omega), if_neg (by omega), if_neg (by omega), if_neg (by omega), if_neg (by omega), if_pos h]⟩)))))
  · exact .inr (.inr (.inr (.inr (.inr (.inr (.inl ⟨h, by unfold bodyV; rw [if_neg (by omega), if_neg (by omega), if_neg (by omega), if_neg (by omega), if_neg (by omega), if_neg (by omega), if_pos h]⟩))))))
  · exact .inr (.inr (.inr (.inr (.inr (.inr (.inr ⟨h, by unfold bodyV; rw [if_neg (by omega), if_neg (by omega), if_neg (by omega), if_neg (by omega), if_neg (by omega), if_neg (by omega), if_neg (by omega)]⟩))))))
theorem tagV {v : VV} (h : 3 ≤ v.kind ∧ v.kind ≤ 10) : knownM (bodyV v).1 = true ∧ madeM (bodyV v).1 = false ∧ (bodyV v).1 ≠ 0 := by
  obtain ⟨_, e⟩ | ⟨_, e⟩ | ⟨_, e⟩ | ⟨_, e⟩ | ⟨_, e⟩ | ⟨_, e⟩ | ⟨_, e⟩ | ⟨_, e⟩ := bodyV_kind h <;> (rw [e]; dsimp only; decide)
theorem putE_V {v : VV} (hv : SmallV v) (h : 3 ≤ v.kind ∧ v.kind ≤ 10) : putE (bodyV v).1 (bodyV v).2.1 = 0 := by
  have := bodyV_small hv
  unfold putE
  rw [if_neg (by rw [(tagV h).1]; decide), if_neg (by omega)]
theorem elem_len {v : VV} (hv : SmallV v) : (elemV v).length ≤ 310 := by
  have h1 := bodyV_small hv
  have h2 := putL_len (bodyV v).1 (bodyV v).2.1
  unfold elemV
  omega
theorem doW_put {v : VV} (h : 3 ≤ v.kind ∧ v.kind ≤ 10) (s : W8) : doW v s = putW (bodyV v).1 (bodyV v).2.1 (bodyV v).2.2 s := by
  unfold doW
  rw [if_neg (by omega), if_neg (by omega), if_neg (by omega)]
/-- a value that is written alone -/
theorem one_done {v : VV} (hv : SmallV v) (h : 3 ≤ v.kind ∧ v.kind ≤ 10) : doneK (doW v w0W) = (bodyV v).2.2 := by
  rw [doW_put h]
  unfold putW
  by_cases he : (bodyV v).2.2 = 0
  · rw [he, if_neg (by decide), if_neg (by rw [putE_V hv h]; decide)]
    have hl := elem_len hv
    show doneK ⟨[], [] ++ putL (bodyV v).1 (bodyV v).2.1, 0⟩ = 0
    unfold doneK
    rw [if_neg (by simp), if_neg (by simp), if_neg (by unfold elemV at hl; simp only [List.nil_append]; omega)]
  · have e : failW (bodyV v).2.2 w0W = ⟨[], [], (bodyV v).2.2⟩ := rfl
    rw [e, if_pos he]
    unfold doneK
    rw [if_pos he]
theorem one_put {v : VV} (hv : SmallV v) (h : goodV v = true) (ls : List (List UInt8)) : doW v ⟨[(48, ls)], [], 0⟩ = ⟨[(48, ls ++ [elemV v])], [], 0⟩ := by
  obtain ⟨h1, h2⟩ := goodV_iff.1 h
  rw [doW_put h1, h2]
  unfold putW
  rw [if_neg (by simp [failW]), if_neg (by rw [putE_V hv h1]; decide)]
  rfl
theorem rows_snoc (vs : List VV) (v : VV) : rowsW (vs ++ [v]) = if goodV v = true then rowsW vs ++ [elemV v] else rowsW vs := by
  unfold rowsW
  rw [List.filter_append, List.map_append]
  cases h : goodV v with
  | true => rw [if_pos rfl]; simp [h]
  | false => rw [if_neg (by decide)]; simp [h]
theorem rows_len {vs : List VV} (hv : ∀ v ∈ vs, SmallV v) : sumL (rowsW vs) ≤ 310 * vs.length ∧ (rowsW vs).length ≤ vs.length := by
  induction vs with
  | nil => exact ⟨by simp [rowsW, sumL], by simp [rowsW]⟩
  | cons v vs ih =>
    obtain ⟨h1, h2⟩ := ih fun x hx => hv x (List.mem_cons_of_mem _ hx)
    have h3 := elem_len (hv v List.mem_cons_self)
    unfold rowsW sumL at *
    rw [List.filter_cons]
    split
    · simp only [List.map_cons, List.sum_cons, List.length_cons]
      exact ⟨by omega, by omega⟩
    · simp only [List.length_cons]
      exact ⟨by omega, by omega⟩
/-- the list's bytes -/
def listB (vs : List VV) : List UInt8 := putL 48 (rowsW vs).flatten
theorem flat_sum (ls : List (List UInt8)) : ls.flatten.length = sumL ls := (flat_len ls)
theorem list_done {vs : List VV} (hv : ∀ v ∈ vs, SmallV v) (hl : vs.length ≤ 60) : closeV ⟨[(48, rowsW vs)], [], 0⟩ = ⟨[], listB vs, 0⟩ ∧ doneK ⟨[], listB vs, 0⟩ = 0 := by
  obtain ⟨h1, h2⟩ := rows_len hv
  have h3 := flat_sum (rowsW vs)
  have h4 := putL_len 48 (rowsW vs).flatten
  refine ⟨?_, ?_⟩
  · show putW 48 (bodyF (48, rowsW vs)) 0 ⟨[], [], 0⟩ = _
    have hb : bodyF (48, rowsW vs) = (rowsW vs).flatten := by unfold bodyF; rw [if_neg (by show ¬ (48 : Int) = 49; decide)]
    rw [hb]
    unfold putW
    rw [if_neg (by decide), if_neg (by unfold putE; rw [if_neg (by decide), if_neg (by omega)]; decide)]
    rfl
  · unfold doneK
    rw [if_neg (by simp), if_neg (by simp), if_neg (by unfold listB; dsimp only; omega)]
theorem list_len {vs : List VV} (hv : ∀ v ∈ vs, SmallV v) (hl : vs.length ≤ 60) : (listB vs).length ≤ 20000 := by
  obtain ⟨h1, h2⟩ := rows_len hv
  have h3 := flat_sum (rowsW vs)
  have h4 := putL_len 48 (rowsW vs).flatten
  unfold listB
  omega
/-! ### and read -/
theorem loop_plain {lv : Nat} (hlv : 1 < lv) {rec : Nat → List UInt8 → Nat × Nat} (hr : ∀ v : VV, goodV v = true → (rec (bodyV v).1.toNat (bodyV v).2.1).2 = 0) : ∀ (vs : List VV) (fuel : Nat) (last : List UInt8) (dp : Nat), (∀ v ∈ vs, SmallV v) → ((rowsW vs).flatten).length ≤ fuel → (loopW rec false lv fuel (rowsW vs).flatten last dp).2 = 0
  | [], fuel, last, dp, _, _ => by
    show (loopW rec false lv fuel [] last dp).2 = 0
    rw [loopW_nil]
  | v :: vs, fuel, last, dp, hv, hf => by
    have hv' : ∀ x ∈ vs, SmallV x := fun x hx => hv x (List.mem_cons_of_mem _ hx)
    cases hg : goodV v with
    | false =>
      have e : rowsW (v :: vs) = rowsW vs := by unfold rowsW; rw [List.filter_cons, if_neg (by simp [hg])]
      rw [e] at hf ⊢
      exact loop_plain hlv hr vs fuel last dp hv' hf
    | true =>
      have e : rowsW (v :: vs) = elemV v :: rowsW vs := by unfold rowsW; rw [List.filter_cons, if_pos hg]; rfl
      rw [e, List.flatten_cons] at hf ⊢
      obtain ⟨h1, h2⟩ := goodV_iff.1 hg
      have hs := bodyV_small (hv v List.mem_cons_self)
      have hn : nextM (elemV v ++ (rowsW vs).flatten) = ⟨0, (bodyV v).1.toNat, (bodyV v).2.1, (rowsW vs).flatten⟩ := next_put (tagV h1).1 (by omega)
      have hp : 0 < (elemV v).length := by unfold elemV putL; simp
      rw [List.length_append] at hf
      cases fuel with
      | zero => omega
      | succ fuel =>
        unfold loopW
        rw [hn]
        dsimp only
        rw [if_neg (by rw [List.length_append]; omega), if_neg (by decide), if_neg (by omega), if_neg (by rw [hr v hg]; decide), if_neg (by simp)]
        exact loop_plain hlv hr vs fuel _ _ hv' (by omega)
theorem list_depth {vs : List VV} (hv : ∀ v ∈ vs, SmallV v) (hl : vs.length ≤ 60) : (depthM (listB vs)).2 = 0 := by
  have h0 := list_len hv hl
  obtain ⟨h1, h2⟩ := rows_len hv
  have h3 := flat_sum (rowsW vs)
  have hn : nextM (listB vs) = ⟨0, 48, (rowsW vs).flatten, []⟩ := by
    have := next_put (tag := 48) (body := (rowsW vs).flatten) (r := []) (by decide) (by omega)
    rwa [List.append_nil] at this
  unfold depthM
  rw [hn, if_neg (by omega)]
  dsimp only
  rw [if_neg (by decide), if_neg (by simp), wholeM, if_neg (by decide)]
  refine loop_plain (by decide) (fun v hg => ?_) vs _ _ _ hv (Nat.le_refl _)
  have ht := tagV (goodV_iff.1 hg).1
  have hb := known_bd ht.1
  rw [wholeM_not (by rw [Int.toNat_of_nonneg hb.1]; exact ht.2.1)]
def askV (v : VV) : AA := ⟨v.kind, 0, -9223372036854775808, 9223372036854775807⟩
theorem asked_more {l : List UInt8} {m : Int} (hl : l.length ≤ 300) (h : askedM l m = 0) : askedM l 9223372036854775807 = 0 := by
  unfold askedM at h ⊢
  by_cases h0 : l.length = 0
  · rw [if_pos h0] at h; cases h
  · rw [if_neg h0] at h ⊢
    rw [if_neg (by omega)]
    by_cases h1 : m < l.length
    · rw [if_pos h1] at h; cases h
    · rw [if_neg h1] at h
      exact h
/-- does a value say what another one says, of its kind? -/
def sameV (v x : VV) : Prop := (v.kind = 5 → x.is = v.is) ∧ (v.kind = 6 → x.b = v.b) ∧ (v.kind = 7 ∨ v.kind = 8 → x.t = v.t) ∧ (v.kind = 3 ∨ v.kind = 4 ∨ v.kind = 9 ∨ v.kind = 10 → x.n = v.n)
theorem said_same {v : VV} (hv : SmallV v) (hg : goodV v = true) : tagA (askV v) = (bodyV v).1 ∧ (saidM (askV v) (bodyV v).2.1).2 = 0 ∧ sameV v (saidM (askV v) (bodyV v).2.1).1 := by
  obtain ⟨h1, h2⟩ := goodV_iff.1 hg
  have hn := hv.n
  have ht := hv.t
  have hb := hv.b
  have hr : rangeM (putN v.n) (-9223372036854775808) 9223372036854775807 = (v.n, 0) := by
    unfold rangeM
    rw [putN_get hn.1 hn.2, if_neg (by simp), if_neg (by dsimp only; omega)]
  unfold tagA saidM sameV
  obtain ⟨h, e⟩ | ⟨h, e⟩ | ⟨h, e⟩ | ⟨h, e⟩ | ⟨h, e⟩ | ⟨h, e⟩ | ⟨h, e⟩ | ⟨h, e⟩ := bodyV_kind h1 <;> rw [e] at h2 ⊢ <;> simp only [askV, h, reduceIte, Int.reduceEq]
  · rw [hr]
    simp [vN]
  · rw [hr]
    simp [vN]
  · cases v.is <;> simp [isTrueM, vI]
  · unfold octM
    rw [if_neg (by omega), if_neg (by omega)]
    simp [vB]
  · dsimp only at h2
    rw [h2, if_pos rfl, asked_more ht h2]
    simp [vT]
  · dsimp only at h2
    have hp : putM v.t = putA (parseM v.t).1 := by unfold putM; rw [if_pos h2]
    rw [hp, get_of_put h2]
    simp [vT]
  · dsimp only at h2
    have hi : inT v.n := by
      unfold ofE at h2
      by_cases hi : inT v.n
      · exact hi
      · rw [if_neg hi] at h2; cases h2
    have ho : ofM v.n = ofR6 v.n := by unfold ofM; rw [if_pos hi]
    have hq := ofR_right hi
    rw [if_pos hi, ho, (get_body hq.1).1, (get_body hq.1).2, hq.2]
    simp [vN]
  · dsimp only at h2
    have hi : ¬(v.n < 0 ∨ 32767 < v.n) := by
      unfold bitsE at h2
      by_cases hi : v.n < 0 ∨ 32767 < v.n
      · rw [if_pos hi] at h2; cases h2
      · exact hi
    have hb : bitsL v.n = flagsL v.n.toNat := by unfold bitsL; rw [if_neg hi]
    rw [hb, mask_flags (by omega)]
    simp [vN]
    omega
end Am
end Go.Proofs.YtgnjjenalebiaaaGreatDoor

/- Chapter 8, plain: the list is read back, element by element. -/
namespace Go.Proofs.YtgnjjenalebiaaaGreatDoor
set_option linter.unusedVariables false
namespace Am
open Go.RowKit Cal
set_option maxRecDepth 100000

/-- what is left of the list when some elements are read -/
def leftB (ws : List VV) (j : Nat) : List UInt8 := ((ws.map elemV).drop j).flatten
theorem left_end (ws : List VV) : leftB ws ws.length = [] := by
  unfold leftB
  rw [List.drop_eq_nil_of_le (by simp)]
  rfl
theorem left_step {ws : List VV} {j : Nat} (hj : j < ws.length) : leftB ws j = elemV (ws.getD j VV.none) ++ leftB ws (j + 1) := by
  unfold leftB
  rw [List.drop_eq_getElem_cons (show j < (ws.map elemV).length by simpa using hj), List.flatten_cons, List.getElem_map, List.getD_eq_getElem?_getD, List.getElem?_eq_getElem hj]
  rfl
theorem left_len {ws : List VV} (hv : ∀ v ∈ ws, SmallV v) (hl : ws.length ≤ 60) (j : Nat) : (leftB ws j).length ≤ 20000 := by
  have h1 : ∀ (l : List VV), (∀ v ∈ l, SmallV v) → ((l.map elemV).flatten).length ≤ 310 * l.length := fun l => by
    induction l with
    | nil => intro _; simp
    | cons v l ih =>
      intro h
      have h2 := ih fun x hx => h x (List.mem_cons_of_mem _ hx)
      have h3 := elem_len (h v List.mem_cons_self)
      simp only [List.map_cons, List.flatten_cons, List.length_append, List.length_cons]
      omega
  have h2 := h1 (ws.drop j) (fun v hv' => hv v (List.mem_of_mem_drop hv'))
  unfold leftB
  rw [← List.map_drop]
  rw [List.length_drop] at h2
  omega
theorem back_enter {vs : List VV} (hv : ∀ v ∈ vs, SmallV v) (hl : vs.length ≤ 60) : enterL 48 [listB vs] 0 = [[], leftB (vs.filter goodV) 0] ∧ (enterR 48 [listB vs] 0).k = 0 ∧ (enterR 48 [listB vs] 0).is = true := by
  obtain ⟨h1, h2⟩ := rows_len hv
  have h3 := flat_sum (rowsW vs)
  have hn : nextM (listB vs) = ⟨0, 48, (rowsW vs).flatten, []⟩ := by
    have := next_put (tag := 48) (body := (rowsW vs).flatten) (r := []) (by decide) (by omega)
    rwa [List.append_nil] at this
  have hnow : nowL [listB vs] = listB vs := rfl
  have hE : enterR 48 [listB vs] 0 = ⟨[[]], 0, 48, (rowsW vs).flatten, (listB vs).take ((listB vs).length - 0), true⟩ := by
    unfold enterR
    rw [if_neg (by rintro ⟨_, h⟩; revert h; decide)]
    unfold nextR
    rw [hnow, hn, if_neg (by decide), if_neg (by simp), if_neg (by simp)]
    rfl
  unfold enterL
  rw [hE]
  exact ⟨rfl, rfl, rfl⟩
theorem back_step {v : VV} (hv : SmallV v) (hg : goodV v = true) (r : List UInt8) : readR (askV v) [[], elemV v ++ r] 0 = ⟨[[], r], 0, (saidM (askV v) (bodyV v).2.1).1⟩ := by
  obtain ⟨h1, h2⟩ := goodV_iff.1 hg
  obtain ⟨t1, t2, t3⟩ := said_same hv hg
  have hs := bodyV_small hv
  have ht := tagV h1
  have hb := known_bd ht.1
  have hn : nextM (elemV v ++ r) = ⟨0, (bodyV v).1.toNat, (bodyV v).2.1, r⟩ := next_put ht.1 (by omega)
  have hk : (askV v).kind = v.kind := rfl
  have hnow : nowL [[], elemV v ++ r] = elemV v ++ r := rfl
  have hN : ∃ tg raw, nextR (bodyV v).1 [[], elemV v ++ r] 0 = ⟨[[], r], 0, tg, (bodyV v).2.1, raw, true⟩ := by
    unfold nextR
    rw [hnow, hn, if_neg (by decide), if_neg (by simp), if_neg (by dsimp only; rw [Int.toNat_of_nonneg hb.1]; simp)]
    exact ⟨_, _, rfl⟩
  obtain ⟨tg, raw, hN⟩ := hN
  unfold readR
  rw [if_neg (by rw [hk]; omega), if_neg (by rw [hk]; omega), if_neg (by rw [hk]; omega), t1]
  unfold readV valK
  rw [hN]
  dsimp only
  rw [if_pos rfl, t2, if_pos ⟨rfl, rfl⟩]
theorem back_end : leaveL [[], []] 0 = [[]] ∧ leaveK [[], []] 0 = 0 ∧ endK [[]] 0 = 0 := ⟨rfl, rfl, rfl⟩
theorem filter_snoc {vs : List VV} {i : Nat} (hi : i < vs.length) : (vs.take (i + 1)).filter goodV = if goodV (vs.getD i VV.none) = true then (vs.take i).filter goodV ++ [vs.getD i VV.none] else (vs.take i).filter goodV := by
  rw [List.take_succ_eq_append_getElem hi, List.filter_append, List.getD_eq_getElem?_getD, List.getElem?_eq_getElem hi]
  cases h : goodV vs[i] with
  | true => simp [h]
  | false => simp [h]
theorem rows_take {vs : List VV} {i : Nat} (hi : i < vs.length) : rowsW (vs.take (i + 1)) = if goodV (vs.getD i VV.none) = true then rowsW (vs.take i) ++ [elemV (vs.getD i VV.none)] else rowsW (vs.take i) := by
  rw [List.take_succ_eq_append_getElem hi, rows_snoc, List.getD_eq_getElem?_getD, List.getElem?_eq_getElem hi]
  rfl
theorem ok_rows {vs : List VV} (hv : ∀ v ∈ vs, SmallV v) (hl : vs.length ≤ 60) (i : Nat) : OkW ⟨[(48, rowsW (vs.take i))], [], 0⟩ := by
  obtain ⟨h1, h2⟩ := rows_len (vs := vs.take i) fun v h => hv v (List.mem_of_mem_take h)
  rw [List.length_take] at h1 h2
  refine ⟨by simp, fun x h => ?_, by simp⟩
  obtain rfl := List.mem_singleton.1 h
  exact ⟨by dsimp only; omega, by dsimp only; omega⟩
end Am
end Go.Proofs.YtgnjjenalebiaaaGreatDoor

/- bullanum.Err: the error of a number. -/
namespace Go.Proofs.YtgnjjenalebiaaaGreatDoor
set_option linter.unusedVariables false
namespace Am
variable {gs : List Nat} [OkG gs]
open Go.RowKit
set_option maxRecDepth 100000

end Am
end Go.Proofs.YtgnjjenalebiaaaGreatDoor

/- Chapter 8: what the laws need besides: lists of values, long, errors by number. -/
namespace Go.Proofs.YtgnjjenalebiaaaGreatDoor
set_option linter.unusedVariables false
namespace Am
variable {gs : List Nat} [Ok9 gs]
open Go.RowKit Cal
set_option maxRecDepth 100000

def valF (v : VV) : Nat → CV := fl [.c (.int .i64 v.kind), .c (.int .i64 v.n), .c (.bool v.is), bsC v.b, strC v.t]
def vsC (vs : List VV) : CV := .rs 5 vs.length fun i j => valF (vs.getD i VV.none) j
def bigV (v : VV) : Bool := decide (300 < v.b.length) || decide (300 < v.t.length)
def longM (vs : List VV) : Bool := decide (60 < vs.length) || vs.any bigV
theorem long_not {vs : List VV} (h : longM vs = false) : vs.length ≤ 60 ∧ ∀ v ∈ vs, v.b.length ≤ 300 ∧ v.t.length ≤ 300 := by
  unfold longM at h
  simp only [Bool.or_eq_false_iff, decide_eq_false_iff_not] at h
  refine ⟨by omega, fun v hv => ?_⟩
  have := List.any_eq_false.1 h.2 v hv
  simp only [bigV, Bool.or_eq_true, decide_eq_true_eq] at this
  omega
theorem any_take {vs : List VV} {i : Nat} (h : i < vs.length) : (vs.take (i + 1)).any bigV = ((vs.take i).any bigV || bigV (vs.getD i VV.none)) := by
  rw [List.take_succ_eq_append_getElem h, List.any_append]
  simp [List.getD_eq_getElem?_getD, h]
theorem long08_ac {gs : List Nat} (vs : List VV) : ACp gs Tryz.prog 24 [vsC vs] (.c (.bool (longM vs))) := by
  refine ac_of 25 Tryz.func24 rfl rfl rfl (fun al w0 F0 St0 => ?_)
  refine jcr ?_
  refine jq jrm ?_
  refine seq_nil ?_
  refine jcs ?_
  refine jcr ?_
  refine jq jrm ?_
  refine jq jrl ?_
  refine jq jrc ?_
  refine seq_nil ?_
  refine jcc (fun h53 => ?_) fun h53 => ?_
  · refine jcr ?_
    refine jq jrm ?_
    refine seq_nil ?_
    refine code_ret (jtr (jrt (hv := CEnt.bool (by unfold longM; simp; omega))))
  refine code_skip (jtn ?_)
  refine jcs ?_
  refine jcr ?_
  refine jq jrm ?_
  refine jq jrl ?_
  refine jq jrm ?_
  refine seq_nil ?_
  refine code_block ?_
  refine l_loop (α := Nat) [2, 4, 10, 11, 12, 13, 14, 15, 16, 17, 18, 19, 20, 21, 22, 23, 24] (fun i => [(10, .c (.int .i64 (i : Nat)))]) (fun _ => []) (fun i => i ≤ vs.length ∧ (vs.take i).any bigV = false) (fun i => vs.length - i) (0) ?_ (fun _ => rfl) ?_ ?_ ?_
  · exact ⟨Nat.zero_le _, rfl⟩
  · exact .cons (CEnt.refl _) .nil
  · (repeat (first | exact HEnt.nil | refine HEnt.same ?_ | refine HEnt.blk rfl (fun j hj => by rcases j with _|_|_|_|_|_|_|_|j <;> first | exact CEnt.refl _ | exact CEnt.int (by omega) | omega) ?_))
  · rintro i ⟨(hi : i ≤ vs.length), (ha : (vs.take i).any bigV = false)⟩
    refine jcr ?_
    refine jq jrc ?_
    refine seq_nil ?_
    refine jcs ?_
    refine jcc (fun h56 => ?_) fun h56 => ?_
    rotate_left
    · refine code_exit (jte (jte (jbx (jtn ?_))))
      refine jcr ?_
      refine jq jrm ?_
      refine seq_nil ?_
      refine code_ret (jrt (hv := ?_))
      have hi2 : i = vs.length := by omega
      have ha2 : vs.any bigV = false := by rw [hi2, List.take_length] at ha; exact ha
      exact CEnt.bool (by unfold longM; rw [ha2, Bool.or_false]; simp; omega)
    refine code_skip (jtn ?_)
    refine jcs ?_
    refine code_block ?_
    refine jcr ?_
    refine jq jri ?_
    refine jq (jrdrA 5) ?_
    refine jqe (jeal (n := 5) zr43 rfl fun p1 => ?_)
    refine jqm (jmst 5 ?_)
    refine seq_nil ?_
    refine jcr ?_
    refine jq (jrfa 3 1 false) ?_
    refine jqo jrdo ?_
    refine jq jrl ?_
    refine jq jrc ?_
    refine jq jrm ?_
    refine jqsp 18 (fun g57 => ?_) fun g57 => ?_
    · refine jqs ?_
      refine jqs ?_
      refine jqs ?_
      refine jqs ?_
      refine jq jrpT ?_
      refine seq_nil ?_
      refine jcT ?_
      refine jcr ?_
      refine jq jrm ?_
      refine seq_nil ?_
      refine code_ret (jbr (jtr (jtr (jbr (jtr (jrt (hv := ?_)))))))
      have hm : vs.getD i VV.none ∈ vs := by
        rw [List.getD_eq_getElem?_getD, List.getElem?_eq_getElem (by omega)]
        exact List.getElem_mem _
      have hx : bigV (vs.getD i VV.none) = true := by unfold bigV; simp only [Bool.or_eq_true, decide_eq_true_eq]; omega
      have ha2 : vs.any bigV = true := List.any_eq_true.2 ⟨_, hm, hx⟩
      exact CEnt.bool (by unfold longM; rw [ha2, Bool.or_true])
    refine jq (jrfa 4 1 false) ?_
    refine jqo jrdo ?_
    refine jq jrls ?_
    refine jq jrc ?_
    refine jq jrpF ?_
    refine seq_nil ?_
    refine jcc (fun h57 => ?_) fun h57 => ?_
    · refine jcr ?_
      refine jq jrm ?_
      refine seq_nil ?_
      refine code_ret (jbr (jtr (jtr (jbr (jtr (jrt (hv := ?_)))))))
      have hm : vs.getD i VV.none ∈ vs := by
        rw [List.getD_eq_getElem?_getD, List.getElem?_eq_getElem (by omega)]
        exact List.getElem_mem _
      have hx : bigV (vs.getD i VV.none) = true := by unfold bigV; simp only [Bool.or_eq_true, decide_eq_true_eq]; omega
      have ha2 : vs.any bigV = true := List.any_eq_true.2 ⟨_, hm, hx⟩
      exact CEnt.bool (by unfold longM; rw [ha2, Bool.or_true])
    refine code_skip (jbn (jtn ?_))
    refine jcg ?_
    refine jq jra ?_
    refine jq jrm ?_
    refine seq_nil ?_
    refine jtn ?_
    refine jlend (i + 1) ?_ ?_ (h5 := ?_)
    · exact ⟨by omega, by rw [any_take (by omega), ha, Bool.false_or]; unfold bigV; simp only [Bool.or_eq_false_iff, decide_eq_false_iff_not]; omega⟩
    · show vs.length - (i + 1) < vs.length - i; omega
    · exact .cons (CEnt.int (by omega)) .nil
/-- a new writer of the reference's -/
def r0W : R8 := ⟨[], [], 0⟩
/-! ### errors' numbers -/
end Am
end Go.Proofs.YtgnjjenalebiaaaGreatDoor
