
/- Chapter 5: septets, number; the parts of a text, one by one; Parse. -/
import Derived.Test.YtghgbhekjgincaaDoorW05
namespace Go.Proofs.YtghgbhekjgincaaDoor
set_option linter.unusedVariables false
namespace Am
variable {gs : List Nat} [Ok2 gs]
open Go.RowKit
set_option maxRecDepth 100000

/-! ### numbers of seven bits a byte -/
theorem sep_int (n : Nat) : (((UInt8.ofNat (n % 128)).toNat : Nat) : Int) = (n : Int) % 128 := by
  rw [UInt8.toNat_ofNat']; omega
theorem sep_int2 (n : Nat) : (((UInt8.ofNat (n % 128 + 128)).toNat : Nat) : Int) = (n : Int) % 128 + 128 := by
  rw [UInt8.toNat_ofNat']; omega
theorem septets_ac {gs : List Nat} (N : Nat) (hN : N < 34359738368) : AC gs Tryd.prog 118 [] [.c (.int .i64 (N : Nat))] (OwnQ (sepL N).length 1 (sepL N).length (byF (sepL N))) := by
  have hlen := sepL_len hN
  refine ac_of 24 Tryd.func118 rfl rfl rfl (fun al w0 F0 St0 => ?_)
  refine code_seq ?_
  refine code_region ?_
  first | refine q_rd (wanted_none rfl) rfl rfl (rd_assign (v := bsC _) rfl rfl) ?_ | refine q_rd (wanted_none rfl) rfl rfl (rd_assign (v := .rs _ _ _) rfl rfl) ?_ | refine q_rd (wanted_none rfl) rfl rfl (rd_assign (v := .os _ _ _ _ _) rfl rfl) ?_ | refine q_rd (wanted_none rfl) rfl rfl (rd_assign (v := .c _) rfl rfl) ?_ | refine q_rd (wanted_none rfl) rfl rfl (rd_assign (v := .pv _) rfl rfl) ?_ | refine q_rd (wanted_none rfl) rfl rfl (rd_assign (v := .top) rfl rfl) ?_
  refine seq_nil ?_
  refine then_norm ?_
  refine code_seq ?_
  refine code_region ?_
  refine q_rd (wanted_none rfl) rfl rfl (rd_move (v := .c _) rfl rfl) ?_
  first | refine q_rd (wanted_none rfl) rfl rfl (rd_rem rfl rfl rfl (by (first | omega | decide | (dsimp only at *; omega))) (by (first | omega | decide | (dsimp only at *; omega)))) ?_ | refine q_rd (wanted_none rfl) rfl rfl (rd_remT rfl rfl rfl (by (first | omega | decide | (dsimp only at *; omega)))) ?_
  first | refine q_rd (wanted_none rfl) rfl rfl (rd_convI rfl rfl Tryd.underlying3 Tryd.underlying5 _ (wrap_id (k := .u8) (by show _ ∧ _; (first | omega | decide | (dsimp only at *; omega))))) ?_ | refine q_rd (wanted_none rfl) rfl rfl (rd_convI rfl rfl Tryd.underlying3 Tryd.underlying5 _ rfl) ?_
  refine seq_ex (wanted_none rfl) (e_buildSlice (n := 1) rfl Tryd.underlying90 sz5 zr5 rfl rfl rfl rfl rfl rfl rfl (fun p1 => ?_))
  first | refine q_rd (wanted_none rfl) rfl rfl (rd_assign (v := bsC _) rfl rfl) ?_ | refine q_rd (wanted_none rfl) rfl rfl (rd_assign (v := .rs _ _ _) rfl rfl) ?_ | refine q_rd (wanted_none rfl) rfl rfl (rd_assign (v := .os _ _ _ _ _) rfl rfl) ?_ | refine q_rd (wanted_none rfl) rfl rfl (rd_assign (v := .c _) rfl rfl) ?_ | refine q_rd (wanted_none rfl) rfl rfl (rd_assign (v := .pv _) rfl rfl) ?_ | refine q_rd (wanted_none rfl) rfl rfl (rd_assign (v := .top) rfl rfl) ?_
  refine seq_nil ?_
  refine then_norm ?_
  refine code_seq ?_
  refine code_seq ?_
  refine code_region ?_
  refine q_rd (wanted_none rfl) rfl rfl (rd_move (v := .c _) rfl rfl) ?_
  first | refine q_rd (wanted_none rfl) rfl rfl (rd_quo rfl rfl rfl (by (first | omega | decide | (dsimp only at *; omega))) (by (first | omega | decide | (dsimp only at *; omega))) (wrap_id (k := .i64) (by show _ ∧ _; (first | omega | decide | (dsimp only at *; omega))))) ?_ | refine q_rd (wanted_none rfl) rfl rfl (rd_quoT rfl rfl rfl (by (first | omega | decide | (dsimp only at *; omega))) _ rfl) ?_
  refine q_rd (wanted_none rfl) rfl rfl (rd_assign (v := .c _) rfl rfl) ?_
  refine seq_nil ?_
  refine then_norm ?_
  refine code_block ?_
  refine l_loop (α := Nat × List UInt8 × Option Nat) [0, 3, 10, 11, 12, 13, 14, 15, 16, 17, 18, 19, 20] (fun (m, o, g) => [(0, .c (.int .i64 (m : Nat))), (3, .os 0 g 0 o.length 1)]) (fun (m, o, g) => [(g, .blk o.length (byF o))]) (fun (m, o, g) => m ≤ N ∧ sepL N = sepHi m ++ o.reverse ∧ 0 < o.length) (fun (m, o, g) => m) ((N / 128, [UInt8.ofNat (N % 128)], p1)) ?_ (fun _ => rfl) ?_ ?_ ?_
  · exact ⟨Nat.div_le_self _ _, rfl, Nat.one_pos⟩
  · exact .cons (CEnt.int (by omega)) (.cons (CEnt.refl _) .nil)
  · exact .blk rfl (fun j hj => fl_by (l2 := [UInt8.ofNat (N % 128)]) (.cons (CEnt.int (sep_int N).symm) .nil) j hj) .nil
  · rintro ⟨m, o, g⟩ ⟨(hm : m ≤ N), hd, ho0⟩
    have ho : o.length ≤ 5 := by have := congrArg List.length hd; simp only [List.length_append, List.length_reverse] at this; omega
    refine code_seq ?_
    refine code_seq ?_
    refine code_region ?_
    refine q_rd (wanted_none rfl) rfl rfl (rd_move (v := .c _) rfl rfl) ?_
    refine q_rd (wanted_none rfl) rfl rfl (rd_gt rfl rfl rfl) ?_
    refine seq_nil ?_
    refine then_norm ?_
    first | refine code_condSD rfl rfl (fun h60 => ?_) (fun h60 => ?_) | refine code_condS rfl rfl (fun h60 => ?_) (fun h60 => ?_)
    · refine code_skip ?_
      refine then_norm ?_
      refine code_seq ?_
      refine code_block ?_
      refine code_region ?_
      first | refine q_rd (wanted_none rfl) rfl rfl (rd_move (v := bsC _) rfl rfl) ?_ | refine q_rd (wanted_none rfl) rfl rfl (rd_move (v := .rs _ _ _) rfl rfl) ?_ | refine q_rd (wanted_none rfl) rfl rfl (rd_move (v := .os _ _ _ _ _) rfl rfl) ?_ | refine q_rd (wanted_none rfl) rfl rfl (rd_move (v := .c _) rfl rfl) ?_ | refine q_rd (wanted_none rfl) rfl rfl (rd_move (v := .pv _) rfl rfl) ?_ | refine q_rd (wanted_none rfl) rfl rfl (rd_move (v := .top) rfl rfl) ?_
      refine q_rd (wanted_none rfl) rfl rfl (rd_move (v := .c _) rfl rfl) ?_
      first | refine q_rd (wanted_none rfl) rfl rfl (rd_rem rfl rfl rfl (by (first | omega | decide | (dsimp only at *; omega))) (by (first | omega | decide | (dsimp only at *; omega)))) ?_ | refine q_rd (wanted_none rfl) rfl rfl (rd_remT rfl rfl rfl (by (first | omega | decide | (dsimp only at *; omega)))) ?_
      refine q_rd (wanted_none rfl) rfl rfl (rd_add rfl rfl rfl (wrap_id (k := .i64) (by show _ ∧ _; (first | omega | decide | (dsimp only at *; omega))))) ?_
      first | refine q_rd (wanted_none rfl) rfl rfl (rd_convI rfl rfl Tryd.underlying3 Tryd.underlying5 _ (wrap_id (k := .u8) (by show _ ∧ _; (first | omega | decide | (dsimp only at *; omega))))) ?_ | refine q_rd (wanted_none rfl) rfl rfl (rd_convI rfl rfl Tryd.underlying3 Tryd.underlying5 _ rfl) ?_
      refine seq_ex (wanted_none rfl) (e_buildSlice (n := 1) rfl Tryd.underlying90 sz5 zr5 rfl rfl rfl rfl rfl rfl rfl (fun p2 => ?_))
      refine seq_md (wanted_none rfl) (m_appendB (l2 := [UInt8.ofNat (m % 128 + 128)]) rfl rfl rfl (Nat.le_refl _) (fun _ _ => CEnt.refl _) (src_os rfl (.inl rfl) (by decide)) rfl (hh_bytes (.cons (CEnt.int ((sep_int2 m).symm)) .nil)) Tryd.underlying90 nu90 sz5 zr5 by5 rfl (by first | omega | (simp; done) | (simp; omega) | (simp at *; omega)) (leaf_fl rfl rfl) rfl rfl (fun p3 => ?_))
      first | refine q_rd (wanted_none rfl) rfl rfl (rd_assign (v := bsC _) rfl rfl) ?_ | refine q_rd (wanted_none rfl) rfl rfl (rd_assign (v := .rs _ _ _) rfl rfl) ?_ | refine q_rd (wanted_none rfl) rfl rfl (rd_assign (v := .os _ _ _ _ _) rfl rfl) ?_ | refine q_rd (wanted_none rfl) rfl rfl (rd_assign (v := .c _) rfl rfl) ?_ | refine q_rd (wanted_none rfl) rfl rfl (rd_assign (v := .pv _) rfl rfl) ?_ | refine q_rd (wanted_none rfl) rfl rfl (rd_assign (v := .top) rfl rfl) ?_
      refine seq_nil ?_
      refine block_norm ?_
      refine then_norm ?_
      refine code_region ?_
      refine q_rd (wanted_none rfl) rfl rfl (rd_move (v := .c _) rfl rfl) ?_
      first | refine q_rd (wanted_none rfl) rfl rfl (rd_quo rfl rfl rfl (by (first | omega | decide | (dsimp only at *; omega))) (by (first | omega | decide | (dsimp only at *; omega))) (wrap_id (k := .i64) (by show _ ∧ _; (first | omega | decide | (dsimp only at *; omega))))) ?_ | refine q_rd (wanted_none rfl) rfl rfl (rd_quoT rfl rfl rfl (by (first | omega | decide | (dsimp only at *; omega))) _ rfl) ?_
      refine q_rd (wanted_none rfl) rfl rfl (rd_assign (v := .c _) rfl rfl) ?_
      refine seq_nil ?_
      refine then_norm ?_
      refine ⟨(m / 128, o ++ [UInt8.ofNat (m % 128 + 128)], p3), ?_, ?_, by first | exact .refl | exact .nest .refl rfl rfl | exact .nest (.nest .refl rfl rfl) rfl rfl | exact .nest (.nest (.nest .refl rfl rfl) rfl rfl) rfl rfl, rfl, ?_, by exact Nat.le_of_ble_eq_true rfl, ?_⟩
      · exact ⟨by omega, by rw [hd, sepHi_pos (show m ≠ 0 by omega), List.reverse_append, List.append_assoc]; rfl, by simp⟩
      · show m / 128 < m; omega
      · exact .cons (CEnt.int (by omega)) (.cons (CEnt.refl _) .nil)
      · (repeat (first | exact HEnt.nil | refine HEnt.same ?_ | refine HEnt.blk rfl (fun j hj => by rcases j with _|_|_|_|_|_|_|_|j <;> first | exact CEnt.refl _ | exact CEnt.int (by omega) | omega) ?_))
    · refine code_exit ?_
      refine then_exit ?_
      refine then_exit ?_
      refine block_exit rfl ?_
      refine then_norm ?_
      refine code_seq ?_
      have hm0 : m = 0 := by omega
      rw [hm0, sepHi_zero, List.nil_append] at hd
      refine code_region ?_
      first | refine q_rd (wanted_none rfl) rfl rfl (rd_move (v := bsC _) rfl rfl) ?_ | refine q_rd (wanted_none rfl) rfl rfl (rd_move (v := .rs _ _ _) rfl rfl) ?_ | refine q_rd (wanted_none rfl) rfl rfl (rd_move (v := .os _ _ _ _ _) rfl rfl) ?_ | refine q_rd (wanted_none rfl) rfl rfl (rd_move (v := .c _) rfl rfl) ?_ | refine q_rd (wanted_none rfl) rfl rfl (rd_move (v := .pv _) rfl rfl) ?_ | refine q_rd (wanted_none rfl) rfl rfl (rd_move (v := .top) rfl rfl) ?_
      refine seq_md (wanted_none rfl) (m_callH (i := 0) rfl (by kernel_rfl) rfl (reverse8_ac _ o (by omega)) (.cons (by first | exact se rfl (CEnt.refl _) | exact se rfl CEnt.nil | exact se rfl CEnt.nilB | exact se rfl (CEnt.osI rfl) | exact se rfl CEnt.opI | exact se_nilO rfl | exact se rfl (CEnt.agg2 (CEnt.refl _) (CEnt.refl _)) | exact se rfl (CEnt.agg3 (CEnt.refl _) (CEnt.refl _) (CEnt.refl _)) | exact se rfl (CEnt.agg4 (CEnt.refl _) (CEnt.refl _) (CEnt.refl _) (CEnt.refl _)) | exact se rfl (CEnt.agg5 (CEnt.refl _) (CEnt.refl _) (CEnt.refl _) (CEnt.refl _) (CEnt.refl _)) | exact se rfl (CEnt.agg6 (CEnt.refl _) (CEnt.refl _) (CEnt.refl _) (CEnt.refl _) (CEnt.refl _) (CEnt.refl _)) | exact se_frzB _ rfl rfl rfl (by simp) (fun _ _ => CEnt.refl _)) .nil) rfl rfl ?_)
      rintro _ _ ⟨rfl, rfl⟩
      refine ⟨_, _, rfl, CEnt.refl _, ?_⟩
      refine seq_nil ?_
      refine then_norm ?_
      refine code_seq ?_
      refine code_region ?_
      first | refine q_rd (wanted_none rfl) rfl rfl (rd_move (v := bsC _) rfl rfl) ?_ | refine q_rd (wanted_none rfl) rfl rfl (rd_move (v := .rs _ _ _) rfl rfl) ?_ | refine q_rd (wanted_none rfl) rfl rfl (rd_move (v := .os _ _ _ _ _) rfl rfl) ?_ | refine q_rd (wanted_none rfl) rfl rfl (rd_move (v := .c _) rfl rfl) ?_ | refine q_rd (wanted_none rfl) rfl rfl (rd_move (v := .pv _) rfl rfl) ?_ | refine q_rd (wanted_none rfl) rfl rfl (rd_move (v := .top) rfl rfl) ?_
      first | refine q_rd (wanted_none rfl) rfl rfl (rd_assign (v := bsC _) rfl rfl) ?_ | refine q_rd (wanted_none rfl) rfl rfl (rd_assign (v := .rs _ _ _) rfl rfl) ?_ | refine q_rd (wanted_none rfl) rfl rfl (rd_assign (v := .os _ _ _ _ _) rfl rfl) ?_ | refine q_rd (wanted_none rfl) rfl rfl (rd_assign (v := .c _) rfl rfl) ?_ | refine q_rd (wanted_none rfl) rfl rfl (rd_assign (v := .pv _) rfl rfl) ?_ | refine q_rd (wanted_none rfl) rfl rfl (rd_assign (v := .top) rfl rfl) ?_
      refine seq_nil ?_
      refine then_norm ?_
      refine code_ret ?_
      exact end_O 0 (.inl rfl) (res_1 rfl (arv_tmp rfl)) rfl (by rw [hd, List.length_reverse]) (by rw [hd]; exact Nat.le_refl _) (fun _ => by rw [hd]) (fun j hj => by rw [hd]; exact CEnt.refl _)
theorem snoc7 {l : List UInt8} {i : Nat} (h : i < l.length) : valS (l.take (i + 1)) = valS (l.take i) * 128 + (l.getD i 0).toNat % 128 := by
  rw [List.take_succ_eq_append_getElem h, valS_snoc]
  simp [List.getD, h]
theorem valS_le {l : List UInt8} (i : Nat) : valS (l.take i) ≤ valS l := by
  have key : ∀ (r : List UInt8) (a : List UInt8), valS a ≤ valS (a ++ r) := by
    intro r
    induction r with
    | nil => simp
    | cons c r ih =>
      intro a
      have h1 := ih (a ++ [c])
      rw [valS_snoc] at h1
      rw [show a ++ c :: r = a ++ [c] ++ r by simp]
      have : valS a ≤ valS a * 128 := by omega
      omega
  have := key (l.drop i) (l.take i)
  rwa [List.take_append_drop] at this
theorem numM_pos {r : List UInt8} {most : Nat} {x : Nat × Nat} (h : numM r most = x) : (numM r most).1 = x.1 ∧ (numM r most).2 = x.2 := by rw [h]; exact ⟨rfl, rfl⟩
theorem number_ac {gs : List Nat} [OkG gs] (r : List UInt8) (most : Nat) (hr : 0 < r.length) (hm : most ≤ 9999999999) : ACp gs Tryd.prog 120 [bsC r, .c (.int .i64 (most : Nat))] (.tup 2 (fl [.c (.int .i64 ((numM r most).1 : Nat)), .err (numM r most).2])) := by
  refine ac_len 0 rfl fun hlen => ?_
  refine ac_of 42 Tryd.func120 rfl rfl rfl (fun al w0 F0 St0 => ?_)
  refine code_seq ?_
  refine code_region ?_
  refine q_rd (wanted_none rfl) rfl rfl (rd_assign (v := .c _) rfl rfl) ?_
  first | refine q_rd (wanted_none rfl) rfl rfl (rd_assign (v := .err _) rfl rfl) ?_ | refine q_rd (wanted_none rfl) rfl rfl (rd_assign (v := .c _) rfl rfl) ?_ | refine q_rd (wanted_none rfl) rfl rfl (rd_assign (v := .pv _) rfl rfl) ?_ | refine q_rd (wanted_none rfl) rfl rfl (rd_assign (v := .top) rfl rfl) ?_
  refine seq_nil ?_
  refine then_norm ?_
  refine code_seq ?_
  refine code_block ?_
  refine code_seq ?_
  refine code_region ?_
  first | refine q_rd (wanted_none rfl) rfl rfl (rd_move (v := bsC _) rfl rfl) ?_ | refine q_rd (wanted_none rfl) rfl rfl (rd_move (v := .rs _ _ _) rfl rfl) ?_ | refine q_rd (wanted_none rfl) rfl rfl (rd_move (v := .os _ _ _ _ _) rfl rfl) ?_ | refine q_rd (wanted_none rfl) rfl rfl (rd_move (v := .c _) rfl rfl) ?_ | refine q_rd (wanted_none rfl) rfl rfl (rd_move (v := .pv _) rfl rfl) ?_ | refine q_rd (wanted_none rfl) rfl rfl (rd_move (v := .top) rfl rfl) ?_
  first | refine q_rd (wanted_none rfl) rfl rfl (rd_move (v := bsC _) rfl rfl) ?_ | refine q_rd (wanted_none rfl) rfl rfl (rd_move (v := .rs _ _ _) rfl rfl) ?_ | refine q_rd (wanted_none rfl) rfl rfl (rd_move (v := .os _ _ _ _ _) rfl rfl) ?_ | refine q_rd (wanted_none rfl) rfl rfl (rd_move (v := .c _) rfl rfl) ?_ | refine q_rd (wanted_none rfl) rfl rfl (rd_move (v := .pv _) rfl rfl) ?_ | refine q_rd (wanted_none rfl) rfl rfl (rd_move (v := .top) rfl rfl) ?_
  first | refine q_rd (wanted_none rfl) rfl rfl (rd_lenR rfl rfl Tryd.underlying90) ?_ | refine q_rd (wanted_none rfl) rfl rfl (rd_lenO rfl rfl Tryd.underlying90) ?_ | refine q_rd (wanted_none rfl) rfl rfl (rd_lenN rfl rfl Tryd.underlying90) ?_
  refine q_rd (wanted_none rfl) rfl rfl (rd_sub rfl rfl rfl (wrap_id (k := .i64) (by show _ ∧ _; (first | omega | decide | (dsimp only at *; omega))))) ?_
  first | refine q_rd (wanted_none rfl) rfl rfl (rd_iaddrR rfl rfl rfl Tryd.underlying90 sz5 (show _ = (((r.length - 1) : Nat) : Int) by first | omega | (simp only [List.length_append, List.length_cons, List.length_nil]; omega)) (by (first | omega | decide | (dsimp only at *; omega))) (by decide)) ?_ | refine q_rd (wanted_none rfl) rfl rfl (rd_iaddrO1 rfl rfl rfl Tryd.underlying90 sz5 (show _ = (((r.length - 1) : Nat) : Int) by first | omega | (simp only [List.length_append, List.length_cons, List.length_nil]; omega)) (by (first | omega | decide | (dsimp only at *; omega)))) ?_ | refine q_rd (wanted_none rfl) rfl rfl (rd_iaddrO rfl rfl rfl Tryd.underlying90 sz5 (show _ = (((r.length - 1) : Nat) : Int) by first | omega | (simp only [List.length_append, List.length_cons, List.length_nil]; omega)) (by (first | omega | decide | (dsimp only at *; omega)))) ?_
  first | refine q_rdO (wanted_none rfl) rfl rfl (rd_loadO (v := .c _) rfl rfl (.inl rfl) Tryd.underlying5 ag5 (by first | decide | (first | omega | decide | (dsimp only at *; omega))) rfl) ?_ | refine q_rd (wanted_none rfl) rfl rfl (rd_loadR (v := .c _) rfl rfl Tryd.underlying5 ag5 (by first | decide | (first | omega | decide | (dsimp only at *; omega))) rfl) ?_ | refine q_rdO (wanted_none rfl) rfl rfl (rd_loadO (v := .c _) rfl rfl (.inr rfl) Tryd.underlying5 ag5 (by first | decide | (first | omega | decide | (dsimp only at *; omega))) rfl) ?_
  refine q_rd (wanted_none rfl) rfl rfl (rd_ge rfl rfl rfl) ?_
  refine q_rd (wanted_none rfl) rfl rfl (rd_assign (v := .c _) rfl rfl) ?_
  refine seq_nil ?_
  refine then_norm ?_
  first | refine code_condSD rfl rfl (fun h99 => ?_) (fun h99 => ?_) | refine code_condS rfl rfl (fun h99 => ?_) (fun h99 => ?_)
  · refine code_seq ?_
    refine code_draw (.rd 0 (.rd 1 (.rd 2 .done))) (by kernel_rfl) (by kernel_rfl) rfl (by kernel_rfl) (by kernel_rfl) ?_
    simp only [opsOfT, List.getElem?_toArray, List.getElem?_cons_zero, List.getElem?_cons_succ]
    refine y_rd (wanted_none rfl) rfl rfl (rd_loadE 1 rfl rfl Tryd.underlying28 ag28) ?_
    refine y_rd (wanted_none rfl) rfl rfl (rd_assign (v := .c _) rfl rfl) ?_
    first | refine y_rd (wanted_none rfl) rfl rfl (rd_assign (v := .err _) rfl rfl) ?_ | refine y_rd (wanted_none rfl) rfl rfl (rd_assign (v := .c _) rfl rfl) ?_ | refine y_rd (wanted_none rfl) rfl rfl (rd_assign (v := .pv _) rfl rfl) ?_ | refine y_rd (wanted_none rfl) rfl rfl (rd_assign (v := .top) rfl rfl) ?_
    refine x_done ?_
    refine then_norm ?_
    refine code_ret ?_
    refine block_ret ?_
    refine then_ret ?_
    refine end_val (.inl rfl) (res_2 rfl (arv_tmp rfl) (arv_tmp rfl)) ?_
    have hb := numM_pos (r := r) (most := most) (x := (0, 2)) (by unfold numM; rw [if_pos (by omega)])
    exact CEnt.tup2 (CEnt.int (by rw [hb.1]; rfl)) (CEnt.errN hb.2)
  · refine code_seq ?_
    refine code_region ?_
    first | refine q_rd (wanted_none rfl) rfl rfl (rd_move (v := bsC _) rfl rfl) ?_ | refine q_rd (wanted_none rfl) rfl rfl (rd_move (v := .rs _ _ _) rfl rfl) ?_ | refine q_rd (wanted_none rfl) rfl rfl (rd_move (v := .os _ _ _ _ _) rfl rfl) ?_ | refine q_rd (wanted_none rfl) rfl rfl (rd_move (v := .c _) rfl rfl) ?_ | refine q_rd (wanted_none rfl) rfl rfl (rd_move (v := .pv _) rfl rfl) ?_ | refine q_rd (wanted_none rfl) rfl rfl (rd_move (v := .top) rfl rfl) ?_
    first | refine q_rd (wanted_none rfl) rfl rfl (rd_iaddrR rfl rfl rfl Tryd.underlying90 sz5 (show (0 : Int) = ((0 : Nat) : Int) from rfl) (by (first | omega | decide | (dsimp only at *; omega))) (by decide)) ?_ | refine q_rd (wanted_none rfl) rfl rfl (rd_iaddrO1 rfl rfl rfl Tryd.underlying90 sz5 (show (0 : Int) = ((0 : Nat) : Int) from rfl) (by (first | omega | decide | (dsimp only at *; omega)))) ?_ | refine q_rd (wanted_none rfl) rfl rfl (rd_iaddrO rfl rfl rfl Tryd.underlying90 sz5 (show (0 : Int) = ((0 : Nat) : Int) from rfl) (by (first | omega | decide | (dsimp only at *; omega)))) ?_
    first | refine q_rdO (wanted_none rfl) rfl rfl (rd_loadO (v := .c _) rfl rfl (.inl rfl) Tryd.underlying5 ag5 (by first | decide | (first | omega | decide | (dsimp only at *; omega))) rfl) ?_ | refine q_rd (wanted_none rfl) rfl rfl (rd_loadR (v := .c _) rfl rfl Tryd.underlying5 ag5 (by first | decide | (first | omega | decide | (dsimp only at *; omega))) rfl) ?_ | refine q_rdO (wanted_none rfl) rfl rfl (rd_loadO (v := .c _) rfl rfl (.inr rfl) Tryd.underlying5 ag5 (by first | decide | (first | omega | decide | (dsimp only at *; omega))) rfl) ?_
    refine q_rd (wanted_none rfl) rfl rfl (rd_eqI rfl rfl rfl) ?_
    refine q_rd (wanted_none rfl) rfl rfl (rd_assign (v := .c _) rfl rfl) ?_
    refine seq_nil ?_
    refine then_norm ?_
    first | refine code_condSD rfl rfl (fun h101 => ?_) (fun h101 => ?_) | refine code_condS rfl rfl (fun h101 => ?_) (fun h101 => ?_)
    · refine code_seq ?_
      refine code_draw (.rd 0 (.rd 1 (.rd 2 .done))) (by kernel_rfl) (by kernel_rfl) rfl (by kernel_rfl) (by kernel_rfl) ?_
      simp only [opsOfT, List.getElem?_toArray, List.getElem?_cons_zero, List.getElem?_cons_succ]
      refine y_rd (wanted_none rfl) rfl rfl (rd_loadE 3 rfl rfl Tryd.underlying28 ag28) ?_
      refine y_rd (wanted_none rfl) rfl rfl (rd_assign (v := .c _) rfl rfl) ?_
      first | refine y_rd (wanted_none rfl) rfl rfl (rd_assign (v := .err _) rfl rfl) ?_ | refine y_rd (wanted_none rfl) rfl rfl (rd_assign (v := .c _) rfl rfl) ?_ | refine y_rd (wanted_none rfl) rfl rfl (rd_assign (v := .pv _) rfl rfl) ?_ | refine y_rd (wanted_none rfl) rfl rfl (rd_assign (v := .top) rfl rfl) ?_
      refine x_done ?_
      refine then_norm ?_
      refine code_ret ?_
      refine block_ret ?_
      refine then_ret ?_
      refine end_val (.inl rfl) (res_2 rfl (arv_tmp rfl) (arv_tmp rfl)) ?_
      have hb := numM_pos (r := r) (most := most) (x := (0, 4)) (by unfold numM; rw [if_neg (by omega), if_pos (by omega)])
      exact CEnt.tup2 (CEnt.int (by rw [hb.1]; rfl)) (CEnt.errN hb.2)
    · refine code_skip ?_
      refine block_norm ?_
      refine then_norm ?_
      refine code_seq ?_
      refine code_region ?_
      refine q_rd (wanted_none rfl) rfl rfl (rd_assign (v := .c _) rfl rfl) ?_
      refine seq_nil ?_
      refine then_norm ?_
      refine code_seq ?_
      refine code_seq ?_
      refine code_region ?_
      first | refine q_rd (wanted_none rfl) rfl rfl (rd_move (v := bsC _) rfl rfl) ?_ | refine q_rd (wanted_none rfl) rfl rfl (rd_move (v := .rs _ _ _) rfl rfl) ?_ | refine q_rd (wanted_none rfl) rfl rfl (rd_move (v := .os _ _ _ _ _) rfl rfl) ?_ | refine q_rd (wanted_none rfl) rfl rfl (rd_move (v := .c _) rfl rfl) ?_ | refine q_rd (wanted_none rfl) rfl rfl (rd_move (v := .pv _) rfl rfl) ?_ | refine q_rd (wanted_none rfl) rfl rfl (rd_move (v := .top) rfl rfl) ?_
      first | refine q_rd (wanted_none rfl) rfl rfl (rd_lenR rfl rfl Tryd.underlying90) ?_ | refine q_rd (wanted_none rfl) rfl rfl (rd_lenO rfl rfl Tryd.underlying90) ?_ | refine q_rd (wanted_none rfl) rfl rfl (rd_lenN rfl rfl Tryd.underlying90) ?_
      refine q_rd (wanted_none rfl) rfl rfl (rd_move (v := .c _) rfl rfl) ?_
      refine seq_nil ?_
      refine then_norm ?_
      refine code_block ?_
      refine l_loop (α := Nat) [4, 5, 6, 8, 26, 27, 28, 29, 30, 31, 32, 33, 34, 35, 36, 37, 38, 39, 40] (fun i => [(6, .c (.int .i64 (valS (r.take i) : Nat))), (26, .c (.int .i64 (i : Nat)))]) (fun _ => []) (fun i => i ≤ r.length ∧ valS (r.take i) ≤ most) (fun i => r.length - i) (0) ?_ (fun _ => rfl) ?_ ?_ ?_
      · exact ⟨Nat.zero_le _, by simp [valS]⟩
      · (repeat (first | exact EntE.nil | refine EntE.cons (CEnt.refl _) ?_ | refine EntE.cons (CEnt.int (by omega)) ?_))
      · (repeat (first | exact HEnt.nil | refine HEnt.same ?_ | refine HEnt.blk rfl (fun j hj => by rcases j with _|_|_|_|_|_|_|_|j <;> first | exact CEnt.refl _ | exact CEnt.int (by omega) | omega) ?_))
      · rintro i ⟨(hi : i ≤ r.length), hv⟩
        refine code_seq ?_
        refine code_region ?_
        refine q_rd (wanted_none rfl) rfl rfl (rd_lt rfl rfl rfl) ?_
        refine seq_nil ?_
        refine then_norm ?_
        refine code_seq ?_
        first | refine code_condSD rfl rfl (fun h105 => ?_) (fun h105 => ?_) | refine code_condS rfl rfl (fun h105 => ?_) (fun h105 => ?_)
        · refine code_skip ?_
          refine then_norm ?_
          refine code_seq ?_
          refine code_block ?_
          refine code_seq ?_
          refine code_region ?_
          first | refine q_rd (wanted_none rfl) rfl rfl (rd_iaddrR rfl rfl rfl Tryd.underlying90 sz5 rfl (by (first | omega | decide | (dsimp only at *; omega))) (by decide)) ?_ | refine q_rd (wanted_none rfl) rfl rfl (rd_iaddrO1 rfl rfl rfl Tryd.underlying90 sz5 rfl (by (first | omega | decide | (dsimp only at *; omega)))) ?_ | refine q_rd (wanted_none rfl) rfl rfl (rd_iaddrO rfl rfl rfl Tryd.underlying90 sz5 rfl (by (first | omega | decide | (dsimp only at *; omega)))) ?_ | refine q_rd (wanted_none rfl) rfl rfl (rd_iaddrR rfl rfl rfl Tryd.underlying90 sz5 (natI (by omega)) (by (first | omega | decide | (dsimp only at *; omega))) (by decide)) ?_ | refine q_rd (wanted_none rfl) rfl rfl (rd_iaddrO1 rfl rfl rfl Tryd.underlying90 sz5 (natI (by omega)) (by (first | omega | decide | (dsimp only at *; omega)))) ?_ | refine q_rd (wanted_none rfl) rfl rfl (rd_iaddrO rfl rfl rfl Tryd.underlying90 sz5 (natI (by omega)) (by (first | omega | decide | (dsimp only at *; omega)))) ?_
          first | refine q_rdO (wanted_none rfl) rfl rfl (rd_loadO (v := .c _) rfl rfl (.inl rfl) Tryd.underlying5 ag5 (by first | decide | (first | omega | decide | (dsimp only at *; omega))) rfl) ?_ | refine q_rd (wanted_none rfl) rfl rfl (rd_loadR (v := .c _) rfl rfl Tryd.underlying5 ag5 (by first | decide | (first | omega | decide | (dsimp only at *; omega))) rfl) ?_ | refine q_rdO (wanted_none rfl) rfl rfl (rd_loadO (v := .c _) rfl rfl (.inr rfl) Tryd.underlying5 ag5 (by first | decide | (first | omega | decide | (dsimp only at *; omega))) rfl) ?_
          refine q_rd (wanted_none rfl) rfl rfl (rd_assign (v := .c _) rfl rfl) ?_
          refine seq_nil ?_
          refine then_norm ?_
          refine code_seq ?_
          refine code_region ?_
          refine q_rd (wanted_none rfl) rfl rfl (rd_move (v := .c _) rfl rfl) ?_
          refine q_rd (wanted_none rfl) rfl rfl (rd_mul rfl rfl rfl (wrap_id (k := .i64) (by show _ ∧ _; (first | omega | decide | (dsimp only at *; omega))))) ?_
          refine q_rd (wanted_none rfl) rfl rfl (rd_move (v := .c _) rfl rfl) ?_
          first | refine q_rd (wanted_none rfl) rfl rfl (rd_rem rfl rfl rfl (by (first | omega | decide | (dsimp only at *; omega))) (by (first | omega | decide | (dsimp only at *; omega)))) ?_ | refine q_rd (wanted_none rfl) rfl rfl (rd_remT rfl rfl rfl (by (first | omega | decide | (dsimp only at *; omega)))) ?_
          first | refine q_rd (wanted_none rfl) rfl rfl (rd_conv8 rfl rfl Tryd.underlying5 Tryd.underlying3 rfl) ?_ | refine q_rd (wanted_none rfl) rfl rfl (rd_convI rfl rfl Tryd.underlying5 Tryd.underlying3 _ (wrap_id (k := .i64) (by show _ ∧ _; (first | omega | decide | (dsimp only at *; omega))))) ?_ | refine q_rd (wanted_none rfl) rfl rfl (rd_convI rfl rfl Tryd.underlying5 Tryd.underlying3 _ rfl) ?_
          refine q_rd (wanted_none rfl) rfl rfl (rd_add rfl rfl rfl (wrap_id (k := .i64) (by show _ ∧ _; (first | omega | decide | (dsimp only at *; omega))))) ?_
          refine q_rd (wanted_none rfl) rfl rfl (rd_assign (v := .c _) rfl rfl) ?_
          refine seq_nil ?_
          refine then_norm ?_
          refine code_seq ?_
          refine code_region ?_
          refine q_rd (wanted_none rfl) rfl rfl (rd_move (v := .c _) rfl rfl) ?_
          refine q_rd (wanted_none rfl) rfl rfl (rd_move (v := .c _) rfl rfl) ?_
          refine q_rd (wanted_none rfl) rfl rfl (rd_gt rfl rfl rfl) ?_
          refine seq_nil ?_
          refine then_norm ?_
          first | refine code_condSD rfl rfl (fun h107 => ?_) (fun h107 => ?_) | refine code_condS rfl rfl (fun h107 => ?_) (fun h107 => ?_)
          · refine code_seq ?_
            refine code_draw (.rd 0 (.rd 1 (.rd 2 .done))) (by kernel_rfl) (by kernel_rfl) rfl (by kernel_rfl) (by kernel_rfl) ?_
            simp only [opsOfT, List.getElem?_toArray, List.getElem?_cons_zero, List.getElem?_cons_succ]
            refine y_rd (wanted_none rfl) rfl rfl (rd_loadE 0 rfl rfl Tryd.underlying28 ag28) ?_
            refine y_rd (wanted_none rfl) rfl rfl (rd_assign (v := .c _) rfl rfl) ?_
            first | refine y_rd (wanted_none rfl) rfl rfl (rd_assign (v := .err _) rfl rfl) ?_ | refine y_rd (wanted_none rfl) rfl rfl (rd_assign (v := .c _) rfl rfl) ?_ | refine y_rd (wanted_none rfl) rfl rfl (rd_assign (v := .pv _) rfl rfl) ?_ | refine y_rd (wanted_none rfl) rfl rfl (rd_assign (v := .top) rfl rfl) ?_
            refine x_done ?_
            refine then_norm ?_
            refine code_ret ?_
            refine block_ret ?_
            refine then_ret ?_
            refine then_ret ?_
            refine block_ret ?_
            refine then_ret ?_
            refine end_val (.inl rfl) (res_2 rfl (arv_tmp rfl) (arv_tmp rfl)) ?_
            have h9 := snoc7 (l := r) (i := i) (by omega)
            have h8 := valS_le (l := r) (i + 1)
            have hb := numM_pos (r := r) (most := most) (x := (0, 1)) (by unfold numM; rw [if_neg (by omega), if_neg (by omega), if_pos (by omega)])
            exact CEnt.tup2 (CEnt.int (by rw [hb.1]; rfl)) (CEnt.errN hb.2)
          · refine code_skip ?_
            refine block_norm ?_
            refine then_norm ?_
            refine code_region ?_
            refine q_rd (wanted_none rfl) rfl rfl (rd_add rfl rfl rfl (wrap_id (k := .i64) (by show _ ∧ _; (first | omega | decide | (dsimp only at *; omega))))) ?_
            refine q_rd (wanted_none rfl) rfl rfl (rd_move (v := .c _) rfl rfl) ?_
            refine seq_nil ?_
            refine then_norm ?_
            refine ⟨i + 1, ?_, ?_, by first | exact .refl | exact .nest .refl rfl rfl | exact .nest (.nest .refl rfl rfl) rfl rfl | exact .nest (.nest (.nest .refl rfl rfl) rfl rfl) rfl rfl, rfl, ?_, by exact Nat.le_of_ble_eq_true rfl, ?_⟩
            · exact ⟨by omega, by rw [snoc7 (by omega)]; omega⟩
            · show r.length - (i + 1) < r.length - i; omega
            · exact .cons (CEnt.int (by rw [snoc7 (by omega)]; omega)) (.cons (CEnt.int (by omega)) .nil)
            · (repeat (first | exact HEnt.nil | refine HEnt.same ?_ | refine HEnt.blk rfl (fun j hj => by rcases j with _|_|_|_|_|_|_|_|j <;> first | exact CEnt.refl _ | exact CEnt.int (by omega) | omega) ?_))
        · refine code_exit ?_
          refine then_exit ?_
          refine then_exit ?_
          refine block_exit rfl ?_
          refine then_norm ?_
          refine code_seq ?_
          refine code_region ?_
          refine q_rd (wanted_none rfl) rfl rfl (rd_move (v := .c _) rfl rfl) ?_
          refine q_rd (wanted_none rfl) rfl rfl (rd_assign (v := .c _) rfl rfl) ?_
          first | refine q_rd (wanted_none rfl) rfl rfl (rd_assign (v := .err _) rfl rfl) ?_ | refine q_rd (wanted_none rfl) rfl rfl (rd_assign (v := .c _) rfl rfl) ?_ | refine q_rd (wanted_none rfl) rfl rfl (rd_assign (v := .pv _) rfl rfl) ?_ | refine q_rd (wanted_none rfl) rfl rfl (rd_assign (v := .top) rfl rfl) ?_
          refine seq_nil ?_
          refine then_norm ?_
          refine code_ret ?_
          refine end_val (.inl rfl) (res_2 rfl (arv_tmp rfl) (arv_tmp rfl)) ?_
          have hi2 : i = r.length := by omega
          rw [hi2, List.take_length] at hv
          have hb := numM_pos (r := r) (most := most) (x := (valS r, 0)) (by unfold numM; rw [if_neg (by omega), if_neg (by omega), if_neg (by omega)])
          exact CEnt.tup2 (CEnt.int (by rw [hb.1, hi2, List.take_length])) (CEnt.errN hb.2)

/-! ### the parts of a text -/
theorem index1_ac {gs : List Nat} (a : List UInt8) (c : UInt8) : ACp gs Tryd.prog 197 [strC a, strC [c]] (.c (.int .i64 (Lib.indexByte a c))) :=
  ac_old fun al w St vals hs hv hr => by
    rw [vals2 hv, show vals.getD 0 undef = .string ⟨a.toArray⟩ from hr 0, show vals.getD 1 undef = .string ⟨#[c]⟩ from hr 1]
    exact (Tryd.strings_Index_one _ _ w).mono (by rintro e w' ⟨rfl, rfl⟩; exact ⟨by simp, Below.refl _ _⟩)
theorem idx_cut (c : UInt8) : ∀ l : List UInt8, (Lib.indexByte l c < 0 ∧ splitC c l = [l]) ∨ ∃ p r, l = p ++ c :: r ∧ Lib.indexByte l c = (p.length : Nat) ∧ splitC c l = p :: splitC c r
  | [] => .inl ⟨by simp [Lib.indexByte], rfl⟩
  | x :: l => by
    by_cases hx : x = c
    · subst hx
      refine .inr ⟨[], l, rfl, ?_, ?_⟩
      · simp [Lib.indexByte]
      · simp [splitC]
    · rcases idx_cut c l with ⟨h1, h2⟩ | ⟨p, r, h1, h2, h3⟩
      · refine .inl ⟨?_, ?_⟩
        · have := Lib.indexByte_ge l c
          have e : Lib.indexByte l c = -1 := by omega
          simp [Lib.indexByte, hx, e]
        · rw [splitC, if_neg hx, h2]; rfl
      · refine .inr ⟨x :: p, r, by rw [h1]; rfl, ?_, ?_⟩
        · have e : ¬ Lib.indexByte l c = -1 := by omega
          simp [Lib.indexByte, hx, h2]; try omega
        · rw [splitC, if_neg hx, h3]; rfl
/-- what strings.splitSeq hands out: the closure, and the box of what is left -/
def seqF (f : FuncId) (c : UInt8) (g : Option Nat) : CV := .fn f 3 (fl [.rp 1 fun _ => strC [c], .op 0 g 0, .rp 1 fun _ => .c (.int .i64 0)])
theorem split_ac {gs : List Nat} (s : List UInt8) (c : UInt8) : AC gs Tryd.prog 166 [] [strC s, strC [c], .c (.int .i64 0)] (fun r H' => ∃ g, r = seqF 195 c g ∧ H' = [(g, .blk 1 (fun _ => strC s))]) := by
  refine ac_of 8 Tryd.func166 rfl rfl rfl (fun al w0 F0 St0 => ?_)
  refine code_seq ?_
  refine code_region ?_
  refine seq_ex (wanted_none rfl) (e_box (n := 1) rfl rfl rfl rfl rfl rfl (fun p1 => ?_))
  refine seq_ex (wanted_none rfl) (e_box (n := 1) rfl rfl rfl rfl rfl rfl (fun p2 => ?_))
  refine seq_ex (wanted_none rfl) (e_box (n := 1) rfl rfl rfl rfl rfl rfl (fun p3 => ?_))
  first | refine q_rd (wanted_none rfl) rfl rfl (rd_assign (v := .fn _ _ _) rfl rfl) ?_ | refine q_rd (wanted_none rfl) rfl rfl (rd_assign (v := .c _) rfl rfl) ?_
  refine seq_nil ?_
  refine then_norm ?_
  refine code_seq ?_
  refine code_ent (freeze 1 rfl) ?_
  refine code_ent (freeze 2 rfl) ?_
  refine code_ent (thawP (m := 1) 4 rfl rfl (by decide)) ?_
  refine code_ent (thawP (m := 1) 5 rfl rfl (by decide)) ?_
  refine code_ent (blk_ent 0 (m := 1) (F := fun _ => strC s) rfl (Nat.le_refl _) (fun _ => rfl) (fun j hj => by obtain rfl : j = 0 := (by omega); exact CEnt.refl _)) ?_
  refine code_region ?_
  refine q_rd (wanted_none rfl) rfl rfl (rd_makeFunc rfl rfl) ?_
  first | refine q_rd (wanted_none rfl) rfl rfl (rd_assign (v := .fn _ _ _) rfl rfl) ?_ | refine q_rd (wanted_none rfl) rfl rfl (rd_assign (v := .c _) rfl rfl) ?_
  refine seq_nil ?_
  refine then_norm ?_
  refine code_ret ?_
  exact end_own (.inl rfl) (seqF 195 c p1) _ [0] (by decide) rfl ((res_1 rfl (arv_tmp rfl)).ent (by refine CEnt.fn3 (CEnt.rp ?_) CEnt.opI (CEnt.rp ?_) <;> (intro j hj; obtain rfl : j = 0 := (by omega); exact CEnt.refl _))) ⟨_, rfl, rfl⟩
theorem splitSeq_ac {gs : List Nat} (s : List UInt8) (c : UInt8) : AC gs Tryd.prog 115 [] [strC s, strC [c]] (fun r H' => ∃ g, r = seqF 195 c g ∧ H' = [(g, .blk 1 (fun _ => strC s))]) := by
  refine ac_of 8 Tryd.func115 rfl rfl rfl (fun al w0 F0 St0 => ?_)
  refine code_seq ?_
  refine code_region ?_
  first | refine q_rd (wanted_none rfl) rfl rfl (rd_assign (v := .fn _ _ _) rfl rfl) ?_ | refine q_rd (wanted_none rfl) rfl rfl (rd_assign (v := .c _) rfl rfl) ?_
  refine seq_nil ?_
  refine then_norm ?_
  refine code_seq ?_
  refine code_region ?_
  refine q_rd (wanted_none rfl) rfl rfl (rd_move (v := .c _) rfl rfl) ?_
  refine q_rd (wanted_none rfl) rfl rfl (rd_move (v := .c _) rfl rfl) ?_
  refine seq_ex (wanted_none rfl) (e_callS rfl (by kernel_rfl) (split_ac s c) (.cons (by first | exact se rfl (CEnt.refl _) | exact se rfl CEnt.nil | exact se rfl CEnt.nilB | exact se rfl (CEnt.osI rfl) | exact se rfl CEnt.opI | exact se_nilO rfl | exact se rfl (CEnt.agg2 (CEnt.refl _) (CEnt.refl _)) | exact se rfl (CEnt.agg3 (CEnt.refl _) (CEnt.refl _) (CEnt.refl _)) | exact se rfl (CEnt.agg4 (CEnt.refl _) (CEnt.refl _) (CEnt.refl _) (CEnt.refl _)) | exact se rfl (CEnt.agg5 (CEnt.refl _) (CEnt.refl _) (CEnt.refl _) (CEnt.refl _) (CEnt.refl _)) | exact se rfl (CEnt.agg6 (CEnt.refl _) (CEnt.refl _) (CEnt.refl _) (CEnt.refl _) (CEnt.refl _) (CEnt.refl _)) | exact se_frzB _ rfl rfl rfl (by simp) (fun _ _ => CEnt.refl _)) (.cons (by first | exact se rfl (CEnt.refl _) | exact se rfl CEnt.nil | exact se rfl CEnt.nilB | exact se rfl (CEnt.osI rfl) | exact se rfl CEnt.opI | exact se_nilO rfl | exact se rfl (CEnt.agg2 (CEnt.refl _) (CEnt.refl _)) | exact se rfl (CEnt.agg3 (CEnt.refl _) (CEnt.refl _) (CEnt.refl _)) | exact se rfl (CEnt.agg4 (CEnt.refl _) (CEnt.refl _) (CEnt.refl _) (CEnt.refl _)) | exact se rfl (CEnt.agg5 (CEnt.refl _) (CEnt.refl _) (CEnt.refl _) (CEnt.refl _) (CEnt.refl _)) | exact se rfl (CEnt.agg6 (CEnt.refl _) (CEnt.refl _) (CEnt.refl _) (CEnt.refl _) (CEnt.refl _) (CEnt.refl _)) | exact se_frzB _ rfl rfl rfl (by simp) (fun _ _ => CEnt.refl _)) (.cons (by first | exact se rfl (CEnt.refl _) | exact se rfl CEnt.nil | exact se rfl CEnt.nilB | exact se rfl (CEnt.osI rfl) | exact se rfl CEnt.opI | exact se_nilO rfl | exact se rfl (CEnt.agg2 (CEnt.refl _) (CEnt.refl _)) | exact se rfl (CEnt.agg3 (CEnt.refl _) (CEnt.refl _) (CEnt.refl _)) | exact se rfl (CEnt.agg4 (CEnt.refl _) (CEnt.refl _) (CEnt.refl _) (CEnt.refl _)) | exact se rfl (CEnt.agg5 (CEnt.refl _) (CEnt.refl _) (CEnt.refl _) (CEnt.refl _) (CEnt.refl _)) | exact se rfl (CEnt.agg6 (CEnt.refl _) (CEnt.refl _) (CEnt.refl _) (CEnt.refl _) (CEnt.refl _) (CEnt.refl _)) | exact se_frzB _ rfl rfl rfl (by simp) (fun _ _ => CEnt.refl _)) .nil))) rfl rfl ?_)
  rintro _ _ ⟨p1, rfl, rfl⟩
  first | refine q_rd (wanted_none rfl) rfl rfl (rd_assign (v := .fn _ _ _) rfl rfl) ?_ | refine q_rd (wanted_none rfl) rfl rfl (rd_assign (v := .c _) rfl rfl) ?_
  refine seq_nil ?_
  refine then_norm ?_
  refine code_ret ?_
  exact end_own (.inl rfl) _ _ [0] (by decide) rfl (res_1 rfl (arv_tmp rfl)) ⟨_, rfl, rfl⟩
theorem parts_drop {c : UInt8} {s rest : List UInt8} {k : Nat} (h : (splitC c s).drop k = splitC c rest) : k < (splitC c s).length := by
  have := splitC_ne c rest
  rw [← h] at this
  apply Classical.byContradiction
  intro hn
  exact this (List.drop_eq_nil_of_le (by omega))
theorem drop_getD {α : Type} {l : List α} {k : Nat} {d x : α} {r : List α} (h : l.drop k = x :: r) : l.getD k d = x ∧ l.drop (k + 1) = r := by
  have h1 : l[k]? = some x := by
    have := congrArg (fun m => m[0]?) h
    simpa using this
  exact ⟨by simp [List.getD, h1], by rw [← List.drop_drop, h]; rfl⟩
theorem seq_iter {gs : List Nat} (s : List UInt8) (c : UInt8) (g : Option Nat) (hs : s.length ≤ 100000000000) : IterC gs Tryd.prog 195 [(g, .blk 1 (fun _ => strC s))] ((List.range 3).map (fl [.rp 1 fun _ => strC [c], .op 0 g 0, .rp 1 fun _ => .c (.int .i64 0)])) (splitC c s).length (fun k => [strC ((splitC c s).getD k [])]) := fun l J Jx hY => by
  refine ac_ofY true 52 Tryd.func195 rfl rfl rfl (fun al w0 F0 St0 => ?_)
  refine code_seq ?_
  refine code_seq ?_
  refine code_region ?_
  first | refine q_rdO (wanted_none rfl) rfl rfl (rd_loadO (v := .c _) rfl rfl (.inl rfl) Tryd.underlying9 ag9 (by first | decide | (first | omega | decide | (dsimp only at *; omega))) rfl) ?_ | refine q_rd (wanted_none rfl) rfl rfl (rd_loadR (v := .c _) rfl rfl Tryd.underlying9 ag9 (by first | decide | (first | omega | decide | (dsimp only at *; omega))) rfl) ?_ | refine q_rdO (wanted_none rfl) rfl rfl (rd_loadO (v := .c _) rfl rfl (.inr rfl) Tryd.underlying9 ag9 (by first | decide | (first | omega | decide | (dsimp only at *; omega))) rfl) ?_
  refine q_rd (wanted_none rfl) rfl rfl (rd_lenL rfl rfl Tryd.underlying9) ?_
  refine q_rd (wanted_none rfl) rfl rfl (rd_eqI rfl rfl rfl) ?_
  refine seq_nil ?_
  refine then_norm ?_
  first | refine code_condSD rfl rfl (fun h38 => ?_) (fun h38 => ?_) | refine code_condS rfl rfl (fun h38 => ?_) (fun h38 => ?_)
  · exfalso; simp at h38
  · refine code_skip ?_
    refine then_norm ?_
    refine code_seq ?_
    refine code_block ?_
    refine l_loop (α := Nat × List UInt8) [7, 8, 29, 30, 31, 32, 33, 34, 35, 36, 37, 38, 39, 40, 41, 42, 43, 44, 45, 46, 47, 48] (fun _ => []) (fun (k, rest) => [(g, .blk 1 (fun _ => strC rest)), (some l, .obj (J k))]) (fun (k, rest) => (splitC c s).drop k = splitC c rest ∧ rest.length ≤ s.length) (fun (k, rest) => rest.length) ((0, s)) ?_ (fun _ => rfl) ?_ ?_ ?_
    · exact ⟨rfl, Nat.le_refl _⟩
    · exact .nil
    · exact .same (.same .nil)
    · rintro ⟨k, rest⟩ ⟨hk, hlen⟩
      have hkl := parts_drop hk
      have hcut := idx_cut c rest
      refine code_block ?_
      refine code_seq ?_
      refine code_region ?_
      first | refine q_rdO (wanted_none rfl) rfl rfl (rd_loadO (v := .c _) rfl rfl (.inl rfl) Tryd.underlying9 ag9 (by first | decide | (first | omega | decide | (dsimp only at *; omega))) rfl) ?_ | refine q_rd (wanted_none rfl) rfl rfl (rd_loadR (v := .c _) rfl rfl Tryd.underlying9 ag9 (by first | decide | (first | omega | decide | (dsimp only at *; omega))) rfl) ?_ | refine q_rdO (wanted_none rfl) rfl rfl (rd_loadO (v := .c _) rfl rfl (.inr rfl) Tryd.underlying9 ag9 (by first | decide | (first | omega | decide | (dsimp only at *; omega))) rfl) ?_
      first | refine q_rdO (wanted_none rfl) rfl rfl (rd_loadO (v := .c _) rfl rfl (.inl rfl) Tryd.underlying9 ag9 (by first | decide | (first | omega | decide | (dsimp only at *; omega))) rfl) ?_ | refine q_rd (wanted_none rfl) rfl rfl (rd_loadR (v := .c _) rfl rfl Tryd.underlying9 ag9 (by first | decide | (first | omega | decide | (dsimp only at *; omega))) rfl) ?_ | refine q_rdO (wanted_none rfl) rfl rfl (rd_loadO (v := .c _) rfl rfl (.inr rfl) Tryd.underlying9 ag9 (by first | decide | (first | omega | decide | (dsimp only at *; omega))) rfl) ?_
      refine seq_ex (wanted_none rfl) (e_callP rfl (by kernel_rfl) (index1_ac rest c) (.cons (by first | exact se rfl (CEnt.refl _) | exact se rfl CEnt.nil | exact se rfl CEnt.nilB | exact se rfl (CEnt.osI rfl) | exact se rfl CEnt.opI | exact se_nilO rfl | exact se rfl (CEnt.agg2 (CEnt.refl _) (CEnt.refl _)) | exact se rfl (CEnt.agg3 (CEnt.refl _) (CEnt.refl _) (CEnt.refl _)) | exact se rfl (CEnt.agg4 (CEnt.refl _) (CEnt.refl _) (CEnt.refl _) (CEnt.refl _)) | exact se rfl (CEnt.agg5 (CEnt.refl _) (CEnt.refl _) (CEnt.refl _) (CEnt.refl _) (CEnt.refl _)) | exact se rfl (CEnt.agg6 (CEnt.refl _) (CEnt.refl _) (CEnt.refl _) (CEnt.refl _) (CEnt.refl _) (CEnt.refl _)) | exact se_frzB _ rfl rfl rfl (by simp) (fun _ _ => CEnt.refl _)) (.cons (by first | exact se rfl (CEnt.refl _) | exact se rfl CEnt.nil | exact se rfl CEnt.nilB | exact se rfl (CEnt.osI rfl) | exact se rfl CEnt.opI | exact se_nilO rfl | exact se rfl (CEnt.agg2 (CEnt.refl _) (CEnt.refl _)) | exact se rfl (CEnt.agg3 (CEnt.refl _) (CEnt.refl _) (CEnt.refl _)) | exact se rfl (CEnt.agg4 (CEnt.refl _) (CEnt.refl _) (CEnt.refl _) (CEnt.refl _)) | exact se rfl (CEnt.agg5 (CEnt.refl _) (CEnt.refl _) (CEnt.refl _) (CEnt.refl _) (CEnt.refl _)) | exact se rfl (CEnt.agg6 (CEnt.refl _) (CEnt.refl _) (CEnt.refl _) (CEnt.refl _) (CEnt.refl _) (CEnt.refl _)) | exact se_frzB _ rfl rfl rfl (by simp) (fun _ _ => CEnt.refl _)) .nil)) rfl rfl ?_)
      refine q_rd (wanted_none rfl) rfl rfl (rd_assign (v := .c _) rfl rfl) ?_
      refine seq_nil ?_
      refine then_norm ?_
      refine code_seq ?_
      refine code_seq ?_
      refine code_region ?_
      refine q_rd (wanted_none rfl) rfl rfl (rd_move (v := .c _) rfl rfl) ?_
      refine q_rd (wanted_none rfl) rfl rfl (rd_lt rfl rfl rfl) ?_
      refine seq_nil ?_
      refine then_norm ?_
      first | refine code_condSD rfl rfl (fun h50 => ?_) (fun h50 => ?_) | refine code_condS rfl rfl (fun h50 => ?_) (fun h50 => ?_)
      · refine code_exit ?_
        refine then_exit ?_
        refine block_exit2 rfl ?_
        refine then_exit ?_
        refine block_exit rfl ?_
        refine then_norm ?_
        refine code_region ?_
        first | refine q_rd (wanted_none rfl) rfl rfl (rd_move (v := .fn _ _ _) rfl rfl) ?_ | refine q_rd (wanted_none rfl) rfl rfl (rd_move (v := .c _) rfl rfl) ?_
        have hsp : splitC c rest = [rest] := by
          rcases hcut with h | ⟨q, r, _, h, _⟩
          · exact h.2
          · omega
        have hk2 := drop_getD (d := []) (hk.trans hsp)
        have hm : (splitC c s).length = k + 1 := by
          have := congrArg List.length hk2.2
          simp at this
          omega
        first | refine q_rdO (wanted_none rfl) rfl rfl (rd_loadO (v := .c _) rfl rfl (.inl rfl) Tryd.underlying9 ag9 (by first | decide | (first | omega | decide | (dsimp only at *; omega))) rfl) ?_ | refine q_rd (wanted_none rfl) rfl rfl (rd_loadR (v := .c _) rfl rfl Tryd.underlying9 ag9 (by first | decide | (first | omega | decide | (dsimp only at *; omega))) rfl) ?_ | refine q_rdO (wanted_none rfl) rfl rfl (rd_loadO (v := .c _) rfl rfl (.inr rfl) Tryd.underlying9 ag9 (by first | decide | (first | omega | decide | (dsimp only at *; omega))) rfl) ?_
        refine seq_mdI (wanted_none rfl) rfl (m_callY (i := 1) rfl rfl rfl (hY k hkl) (.cons (se rfl (CEnt.strL hk2.1.symm)) .nil) rfl rfl ?_)
        rintro _ _ (⟨rfl, rfl⟩ | ⟨rfl, rfl⟩)
        · refine ⟨_, _, rfl, CEnt.refl _, ?_⟩
          refine seq_nil ?_
          first | exact end_own (.inr rfl) _ _ [1] (by decide) rfl (res_0 rfl) (.inl (by rw [hm]; rfl)) | exact end_own (.inr rfl) _ _ [1] (by decide) rfl (res_0 rfl) (.inr rfl)
        · refine ⟨_, _, rfl, CEnt.refl _, ?_⟩
          refine seq_nil ?_
          first | exact end_own (.inr rfl) _ _ [1] (by decide) rfl (res_0 rfl) (.inl (by rw [hm]; rfl)) | exact end_own (.inr rfl) _ _ [1] (by decide) rfl (res_0 rfl) (.inr rfl)
      · refine code_skip ?_
        refine then_norm ?_
        refine code_seq ?_
        obtain ⟨q, r, hr, hi, hsp⟩ : ∃ q r, rest = q ++ c :: r ∧ Lib.indexByte rest c = (q.length : Nat) ∧ splitC c rest = q :: splitC c r := by
          rcases hcut with h | h
          · omega
          · exact h
        have hk2 := drop_getD (d := []) (hk.trans hsp)
        have hql : q.length < rest.length := by rw [hr]; simp
        refine code_region ?_
        first | refine q_rdO (wanted_none rfl) rfl rfl (rd_loadO (v := .c _) rfl rfl (.inl rfl) Tryd.underlying9 ag9 (by first | decide | (first | omega | decide | (dsimp only at *; omega))) rfl) ?_ | refine q_rd (wanted_none rfl) rfl rfl (rd_loadR (v := .c _) rfl rfl Tryd.underlying9 ag9 (by first | decide | (first | omega | decide | (dsimp only at *; omega))) rfl) ?_ | refine q_rdO (wanted_none rfl) rfl rfl (rd_loadO (v := .c _) rfl rfl (.inr rfl) Tryd.underlying9 ag9 (by first | decide | (first | omega | decide | (dsimp only at *; omega))) rfl) ?_
        refine q_rd (wanted_none rfl) rfl rfl (rd_move (v := .c _) rfl rfl) ?_
        first | refine q_rdO (wanted_none rfl) rfl rfl (rd_loadO (v := .c _) rfl rfl (.inl rfl) Tryd.underlying3 ag3 (by first | decide | (first | omega | decide | (dsimp only at *; omega))) rfl) ?_ | refine q_rd (wanted_none rfl) rfl rfl (rd_loadR (v := .c _) rfl rfl Tryd.underlying3 ag3 (by first | decide | (first | omega | decide | (dsimp only at *; omega))) rfl) ?_ | refine q_rdO (wanted_none rfl) rfl rfl (rd_loadO (v := .c _) rfl rfl (.inr rfl) Tryd.underlying3 ag3 (by first | decide | (first | omega | decide | (dsimp only at *; omega))) rfl) ?_
        refine q_rd (wanted_none rfl) rfl rfl (rd_add rfl rfl rfl (wrap_id (k := .i64) (by show _ ∧ _; (first | omega | decide | (dsimp only at *; omega))))) ?_
        refine q_rd (wanted_none rfl) rfl rfl (rd_sliceLT rfl rfl Tryd.underlying9 rfl (show _ = ((q.length : Nat) : Int) by first | omega | (simp only [List.length_append, List.length_cons, List.length_nil]; omega)) (by (first | omega | decide | (dsimp only at *; omega)))) ?_
        refine q_rd (wanted_none rfl) rfl rfl (rd_assign (v := .c _) rfl rfl) ?_
        refine seq_nil ?_
        refine then_norm ?_
        refine code_seq ?_
        refine code_seq ?_
        refine code_region ?_
        first | refine q_rd (wanted_none rfl) rfl rfl (rd_move (v := .fn _ _ _) rfl rfl) ?_ | refine q_rd (wanted_none rfl) rfl rfl (rd_move (v := .c _) rfl rfl) ?_
        refine q_rd (wanted_none rfl) rfl rfl (rd_move (v := .c _) rfl rfl) ?_
        refine seq_mdI (wanted_none rfl) rfl (m_callY (i := 1) rfl rfl rfl (hY k hkl) (.cons (se rfl (CEnt.strL (by rw [hk2.1, hr]; simp))) .nil) rfl rfl ?_)
        rintro _ _ (⟨rfl, rfl⟩ | ⟨rfl, rfl⟩)
        · refine ⟨_, _, rfl, CEnt.refl _, ?_⟩
          first | refine q_rd (wanted_none rfl) rfl rfl (rd_notD rfl rfl) ?_ | refine q_rd (wanted_none rfl) rfl rfl (rd_not rfl rfl) ?_
          refine seq_nil ?_
          refine then_norm ?_
          refine code_condF rfl ?_
          refine code_skip ?_
          refine then_norm ?_
          refine code_region ?_
          first | refine q_rdO (wanted_none rfl) rfl rfl (rd_loadO (v := .c _) rfl rfl (.inl rfl) Tryd.underlying9 ag9 (by first | decide | (first | omega | (simp only [List.length_cons, List.length_nil]; omega))) rfl) ?_ | refine q_rd (wanted_none rfl) rfl rfl (rd_loadR (v := .c _) rfl rfl Tryd.underlying9 ag9 (by first | decide | (first | omega | (simp only [List.length_cons, List.length_nil]; omega))) rfl) ?_ | refine q_rdO (wanted_none rfl) rfl rfl (rd_loadO (v := .c _) rfl rfl (.inr rfl) Tryd.underlying9 ag9 (by first | decide | (first | omega | (simp only [List.length_cons, List.length_nil]; omega))) rfl) ?_
          refine q_rd (wanted_none rfl) rfl rfl (rd_move (v := .c _) rfl rfl) ?_
          first | refine q_rdO (wanted_none rfl) rfl rfl (rd_loadO (v := .c _) rfl rfl (.inl rfl) Tryd.underlying9 ag9 (by first | decide | (first | omega | (simp only [List.length_cons, List.length_nil]; omega))) rfl) ?_ | refine q_rd (wanted_none rfl) rfl rfl (rd_loadR (v := .c _) rfl rfl Tryd.underlying9 ag9 (by first | decide | (first | omega | (simp only [List.length_cons, List.length_nil]; omega))) rfl) ?_ | refine q_rdO (wanted_none rfl) rfl rfl (rd_loadO (v := .c _) rfl rfl (.inr rfl) Tryd.underlying9 ag9 (by first | decide | (first | omega | (simp only [List.length_cons, List.length_nil]; omega))) rfl) ?_
          refine q_rd (wanted_none rfl) rfl rfl (rd_lenL rfl rfl Tryd.underlying9) ?_
          refine q_rd (wanted_none rfl) rfl rfl (rd_add rfl rfl rfl (wrap_id (k := .i64) (by show _ ∧ _; (first | omega | (simp only [List.length_cons, List.length_nil]; omega))))) ?_
          refine q_rd (wanted_none rfl) rfl rfl (rd_sliceLF rfl rfl Tryd.underlying9 rfl (show _ = (((q.length + 1) : Nat) : Int) by first | omega | (simp only [List.length_append, List.length_cons, List.length_nil]; omega)) (by (first | omega | (simp only [List.length_cons, List.length_nil]; omega)))) ?_
          refine seq_md (wanted_none rfl) (m_store rfl rfl rfl rfl rfl sz9 rfl rfl (by first | decide | (first | omega | (simp only [List.length_cons, List.length_nil]; omega))) _ (fun _ _ => CEnt.refl _) rfl ?_)
          refine seq_nil ?_
          refine block_norm ?_
          refine then_norm ?_
          refine ⟨(k + 1, rest.drop (q.length + 1)), ?_, ?_, by first | exact .refl | exact .nest .refl rfl rfl | exact .nest (.nest .refl rfl rfl) rfl rfl | exact .nest (.nest (.nest .refl rfl rfl) rfl rfl) rfl rfl, rfl, ?_, by exact Nat.le_of_ble_eq_true rfl, ?_⟩
          · exact ⟨by rw [hk2.2, hr]; simp, by rw [List.length_drop]; omega⟩
          · show (rest.drop (q.length + 1)).length < rest.length; rw [List.length_drop]; omega
          · exact .nil
          · exact .blk rfl (fun j hj => by obtain rfl : j = 0 := (by omega); exact CEnt.refl _) (.same .nil)
        · refine ⟨_, _, rfl, CEnt.refl _, ?_⟩
          first | refine q_rd (wanted_none rfl) rfl rfl (rd_notD rfl rfl) ?_ | refine q_rd (wanted_none rfl) rfl rfl (rd_not rfl rfl) ?_
          refine seq_nil ?_
          refine then_norm ?_
          refine code_condT rfl ?_
          refine code_ret ?_
          refine then_ret ?_
          refine block_ret ?_
          refine then_ret ?_
          refine block_ret ?_
          refine then_ret ?_
          exact end_own (.inl rfl) _ _ [1] (by decide) rfl (res_0 rfl) (.inr rfl)
end Am
end Go.Proofs.YtghgbhekjgincaaDoor
