/- Chapter 7: which texts are plain. -/
import Derived.Test.YtndbjkapdmpbbaaDoorV8
import Derived.Test.YtndbjkapdmpbbaaDoorP07e
namespace Go.Proofs.YtndbjkapdmpbbaaDoor
set_option linter.unusedVariables false
namespace Am
open Go.RowKit
set_option maxRecDepth 100000

theorem plain07_ac {gs : List Nat} [OkT gs] (l : List UInt8) (hl : l.length ≤ 1000000000) : ACp gs Tryd.prog 37 [strC l] (.c (.bool (plainM l))) := by
  refine ac_of 18 Tryd.func37 rfl rfl rfl (fun al w0 F0 St0 => ?_)
  refine code_seq ?_
  refine code_region ?_
  refine q_rd (wanted_none rfl) rfl rfl (rd_assign (v := .c _) rfl rfl) ?_
  refine seq_nil ?_
  refine then_norm ?_
  refine code_seq ?_
  refine code_seq ?_
  refine code_region ?_
  refine q_rd (wanted_none rfl) rfl rfl (rd_move (v := .c _) rfl rfl) ?_
  refine seq_ex (wanted_none rfl) (e_range rfl rfl Tryd.underlying9 rfl rfl (fun p1 => ?_))
  refine seq_nil ?_
  refine then_norm ?_
  refine code_block ?_
  refine l_loop (α := Nat) [2, 4, 7, 8, 9, 10, 11, 12, 13, 14, 15] (fun i => []) (fun i => [(some p1, .obj (iterOP ⟨l.toArray⟩ i))]) (fun i => i ≤ l.length ∧ noBadM (l.drop i) = noBadM l) (fun i => l.length - i) (0) ?_ (fun _ => rfl) ?_ ?_ ?_
  · exact ⟨Nat.zero_le _, rfl⟩
  · exact .nil
  · exact .same .nil
  · rintro i ⟨hi, he⟩
    refine code_seq ?_
    refine code_region ?_
    refine seq_md (wanted_none rfl) (m_next rfl rfl rfl rfl rfl (fun n23 => ?_) (fun n23 => ?_))
    · refine q_rd (wanted_none rfl) rfl rfl (rd_extract (v := .c _) rfl rfl rfl rfl) ?_
      refine seq_nil ?_
      refine then_norm ?_
      refine code_seq ?_
      refine code_condT rfl ?_
      refine code_skip ?_
      refine then_norm ?_
      refine code_block ?_
      refine code_seq ?_
      refine code_region ?_
      refine q_rd (wanted_none rfl) rfl rfl (rd_extract (v := .c _) rfl rfl rfl rfl) ?_
      refine q_rd (wanted_none rfl) rfl rfl (rd_assign (v := .c _) rfl rfl) ?_
      refine seq_nil ?_
      refine then_norm ?_
      refine code_seq ?_
      have hd := dec_at l i
      have hlt : i < l.length := n23
      have hne : l.drop i ≠ [] := by intro e; have := congrArg List.length e; simp at this; omega
      have hw := dec1_width (l.drop i)
      have hwl := dec1_le hne
      simp only [List.length_drop] at hwl
      rw [← hd] at hw hwl
      refine code_region ?_
      refine q_rd (wanted_none rfl) rfl rfl (rd_move (v := .c _) rfl rfl) ?_
      refine q_rd (wanted_none rfl) rfl rfl (rd_lt rfl rfl rfl) ?_
      refine q_rd (wanted_none rfl) rfl rfl (rd_move (v := .c _) rfl rfl) ?_
      first | refine seq_splitD (d := 12) rfl rfl (fun g24 => ?_) (fun g24 => ?_) | refine seq_split (d := 12) rfl rfl (fun g24 => ?_) (fun g24 => ?_)
      · refine q_skip (wanted_is rfl rfl rfl rfl false rfl) rfl rfl ?_
        refine q_skip (wanted_is rfl rfl rfl rfl false rfl) rfl rfl ?_
        refine q_rd (wanted_none rfl) rfl rfl (rd_pickT (v := .c _) rfl rfl rfl) ?_
        refine seq_nil ?_
        refine then_norm ?_
        refine code_condT rfl ?_
        refine code_seq ?_
        refine code_region ?_
        refine q_rd (wanted_none rfl) rfl rfl (rd_assign (v := .c _) rfl rfl) ?_
        refine seq_nil ?_
        refine then_norm ?_
        refine code_ret ?_
        refine block_ret ?_
        refine then_ret ?_
        refine block_ret ?_
        refine then_ret ?_
        refine end_val (.inl rfl) (res_1 rfl (arv_tmp rfl)) ?_
        refine CEnt.bool ?_
        rw [plainM_two, ← he, noBadM_step hne, ← hd, if_pos ?_]
        · rfl
        · unfold badR; simp only [Bool.or_eq_true, decide_eq_true_eq]; omega
      · refine q_rd (wanted_is rfl rfl rfl rfl true rfl) rfl rfl (rd_move (v := .c _) rfl rfl) ?_
        refine q_rd (wanted_is rfl rfl rfl rfl true rfl) rfl rfl (rd_eqI rfl rfl rfl) ?_
        refine q_rd (wanted_none rfl) rfl rfl (rd_pickF (v := .c _) rfl rfl rfl) ?_
        refine seq_nil ?_
        refine then_norm ?_
        first | refine code_condSD rfl rfl (fun h24 => ?_) (fun h24 => ?_) | refine code_condS rfl rfl (fun h24 => ?_) (fun h24 => ?_)
        · refine code_seq ?_
          refine code_region ?_
          refine q_rd (wanted_none rfl) rfl rfl (rd_assign (v := .c _) rfl rfl) ?_
          refine seq_nil ?_
          refine then_norm ?_
          refine code_ret ?_
          refine block_ret ?_
          refine then_ret ?_
          refine block_ret ?_
          refine then_ret ?_
          refine end_val (.inl rfl) (res_1 rfl (arv_tmp rfl)) ?_
          refine CEnt.bool ?_
          rw [plainM_two, ← he, noBadM_step hne, ← hd, if_pos ?_]
          · rfl
          · unfold badR; simp only [Bool.or_eq_true, decide_eq_true_eq]; omega
        · refine code_skip ?_
          refine block_norm ?_
          refine then_norm ?_
          refine ⟨i + (Utf8.decode ⟨l.toArray⟩ i).2, ?_, ?_, by first | exact .refl | exact .nest .refl rfl rfl | exact .nest (.nest .refl rfl rfl) rfl rfl | exact .nest (.nest (.nest .refl rfl rfl) rfl rfl) rfl rfl, rfl, ?_, by exact Nat.le_of_ble_eq_true rfl, ?_⟩
          · refine ⟨by omega, ?_⟩
            have hb : ¬ badR (Utf8.decode ⟨l.toArray⟩ i).1 = true := by unfold badR; simp only [Bool.or_eq_true, decide_eq_true_eq]; omega
            rw [← he, noBadM_step hne, ← hd, if_neg hb, List.drop_drop]
          · show l.length - (i + (Utf8.decode ⟨l.toArray⟩ i).2) < l.length - i; omega
          · exact .nil
          · exact .same .nil
    · refine q_rd (wanted_none rfl) rfl rfl (rd_extract (v := .c _) rfl rfl rfl rfl) ?_
      refine seq_nil ?_
      refine then_norm ?_
      refine code_seq ?_
      refine code_condF rfl ?_
      refine code_exit ?_
      refine then_exit ?_
      refine then_exit ?_
      refine block_exit rfl ?_
      refine then_norm ?_
      refine code_seq ?_
      refine code_region ?_
      refine q_rd (wanted_none rfl) rfl rfl (rd_move (v := .c _) rfl rfl) ?_
      refine seq_ex (wanted_none rfl) (e_callP rfl (by kernel_rfl) (valid_ac l (by omega)) (.cons (by first | exact se rfl (CEnt.refl _) | exact se rfl CEnt.nil | exact se rfl CEnt.nilB | exact se rfl (CEnt.osI rfl) | exact se rfl CEnt.opI | exact se_nilO rfl | exact se rfl (CEnt.agg2 (CEnt.refl _) (CEnt.refl _)) | exact se rfl (CEnt.agg3 (CEnt.refl _) (CEnt.refl _) (CEnt.refl _)) | exact se rfl (CEnt.agg4 (CEnt.refl _) (CEnt.refl _) (CEnt.refl _) (CEnt.refl _)) | exact se rfl (CEnt.agg5 (CEnt.refl _) (CEnt.refl _) (CEnt.refl _) (CEnt.refl _) (CEnt.refl _)) | exact se rfl (CEnt.agg6 (CEnt.refl _) (CEnt.refl _) (CEnt.refl _) (CEnt.refl _) (CEnt.refl _) (CEnt.refl _)) | exact se_frzB _ rfl rfl rfl (by simp) (fun _ _ => CEnt.refl _)) .nil) rfl rfl ?_)
      refine q_rd (wanted_none rfl) rfl rfl (rd_assign (v := .c _) rfl rfl) ?_
      refine seq_nil ?_
      refine then_norm ?_
      refine code_ret ?_
      refine end_val (.inl rfl) (res_1 rfl (arv_tmp rfl)) ?_
      refine CEnt.bool ?_
      have e : l.drop i = [] := List.drop_eq_nil_of_le (Nat.le_of_not_lt n23)
      rw [plainM_two, ← he, e]
      rfl


set_option maxHeartbeats 4000000 in
theorem rplain_ac {gs : List Nat} (l : List UInt8) (hl : l.length ≤ 1000000000) : ACp gs Tryd.prog 38 [strC l] (.c (.bool (plainM l))) := by
  refine ac_of 94 Tryd.func38 rfl rfl rfl (fun al w0 F0 St0 => ?_)
  refine code_seq ?_
  refine code_region ?_
  refine q_rd (wanted_none rfl) rfl rfl (rd_assign (v := .c _) rfl rfl) ?_
  refine seq_nil ?_
  refine then_norm ?_
  refine code_seq ?_
  refine code_region ?_
  refine q_rd (wanted_none rfl) rfl rfl (rd_assign (v := .c _) rfl rfl) ?_
  refine seq_nil ?_
  refine then_norm ?_
  refine code_seq ?_
  refine code_block ?_
  refine l_loop (α := Nat) [2, 3, 4, 5, 6, 7, 8, 9, 10, 11, 12, 13, 14, 15, 16, 17, 18, 19, 20, 21, 22, 23, 24, 25, 26, 27, 28, 29, 30, 31, 32, 33, 34, 35, 36, 37, 38, 39, 40, 41, 42, 43, 44, 45, 46, 47, 48, 49, 50, 51, 52, 53, 54, 55, 56, 57, 58, 59, 60, 61, 62, 63, 64, 65, 66, 67, 68, 69, 70, 71, 72, 73, 74, 75, 76, 77, 78, 79, 80, 81, 82, 83, 84, 85, 86, 87, 88, 89, 90, 91, 92, 93] (fun i => [(3, .c (.int .i64 (i : Nat)))]) (fun _ => []) (fun i => i ≤ l.length ∧ plainM (l.drop i) = plainM l) (fun i => l.length - i) (0) ?_ (fun _ => rfl) ?_ ?_ ?_
  · exact ⟨Nat.zero_le _, rfl⟩
  · exact .cons (CEnt.refl _) .nil
  · (repeat (first | exact HEnt.nil | refine HEnt.same ?_ | refine HEnt.blk rfl (fun j hj => by rcases j with _|_|_|_|_|_|_|_|j <;> first | exact CEnt.refl _ | exact CEnt.int (by omega) | omega) ?_))
  · rintro i ⟨hi, he⟩
    refine code_seq ?_
    refine code_seq ?_
    refine code_region ?_
    refine q_rd (wanted_none rfl) rfl rfl (rd_move (v := .c _) rfl rfl) ?_
    refine q_rd (wanted_none rfl) rfl rfl (rd_move (v := .c _) rfl rfl) ?_
    refine q_rd (wanted_none rfl) rfl rfl (rd_lenL rfl rfl Tryd.underlying9) ?_
    refine q_rd (wanted_none rfl) rfl rfl (rd_lt rfl rfl rfl) ?_
    refine seq_nil ?_
    refine then_norm ?_
    first | refine code_condSD rfl rfl (fun h9 => ?_) (fun h9 => ?_) | refine code_condS rfl rfl (fun h9 => ?_) (fun h9 => ?_)
    · refine code_skip ?_
      refine then_norm ?_
      refine code_block ?_
      refine code_seq ?_
      refine code_region ?_
      refine q_rd (wanted_none rfl) rfl rfl (rd_move (v := .c _) rfl rfl) ?_
      refine q_rd (wanted_none rfl) rfl rfl (rd_move (v := .c _) rfl rfl) ?_
      first | refine q_rd (wanted_none rfl) rfl rfl (rd_indexL rfl rfl rfl Tryd.underlying9 rfl (by (first | omega | decide | (dsimp only at *; omega)))) ?_ | refine q_rd (wanted_none rfl) rfl rfl (rd_indexL rfl rfl rfl Tryd.underlying9 (natI (by omega)) (by (first | omega | decide | (dsimp only at *; omega)))) ?_
      first | refine q_rd (wanted_none rfl) rfl rfl (rd_conv8 rfl rfl Tryd.underlying5 Tryd.underlying3 rfl) ?_ | refine q_rd (wanted_none rfl) rfl rfl (rd_convI rfl rfl Tryd.underlying5 Tryd.underlying3 _ (wrap_id (k := .i64) (by show _ ∧ _; (first | omega | decide | (dsimp only at *; omega))))) ?_ | refine q_rd (wanted_none rfl) rfl rfl (rd_convI rfl rfl Tryd.underlying5 Tryd.underlying3 _ rfl) ?_
      refine q_rd (wanted_none rfl) rfl rfl (rd_assign (v := .c _) rfl rfl) ?_
      refine q_rd (wanted_none rfl) rfl rfl (rd_assign (v := .c _) rfl rfl) ?_
      refine q_rd (wanted_none rfl) rfl rfl (rd_assign (v := .c _) rfl rfl) ?_
      refine seq_nil ?_
      refine then_norm ?_
      have hlt : i < l.length := by omega
      have hne : l.drop i ≠ [] := by intro e; have := congrArg List.length e; simp at this; omega
      obtain ⟨b, hb⟩ : ∃ b, b = bt (l.drop i) 0 := ⟨_, rfl⟩
      have hbl : b < 256 := by rw [hb]; exact bt_lt _ _
      refine code_join (α := Nat × Nat × Nat) [2, 4, 5, 6, 15, 16, 17, 18, 19, 20, 21, 22, 23, 24, 25, 26, 27, 28, 29, 30, 31, 32, 33, 34, 35, 36, 37, 38, 39, 40, 41, 42, 43, 44, 45, 46] (fun (n, c, z) => [(4, .c (.int .i64 (c : Nat))), (5, .c (.int .i64 (n : Nat))), (6, .c (.int .i64 (z : Nat)))]) (fun _ => []) (fun (n, c, z) => RefSt (bt (l.drop i) 0) n c z) (fun _ => rfl) ?_ ?_
      · refine code_seq ?_
        refine code_ent (weaken 4 (.c (.int .i64 (b : Nat))) (CEnt.int (by rw [hb, bt_drop]; rfl))) ?_
        refine code_region ?_
        refine q_rd (wanted_none rfl) rfl rfl (rd_move (v := .c _) rfl rfl) ?_
        refine q_rd (wanted_none rfl) rfl rfl (rd_lt rfl rfl rfl) ?_
        refine seq_nil ?_
        refine then_norm ?_
        first | refine code_condSD rfl rfl (fun h11 => ?_) (fun h11 => ?_) | refine code_condS rfl rfl (fun h11 => ?_) (fun h11 => ?_)
        · refine code_seq ?_
          refine code_region ?_
          refine q_rd (wanted_none rfl) rfl rfl (rd_move (v := .c _) rfl rfl) ?_
          refine q_rd (wanted_none rfl) rfl rfl (rd_lt rfl rfl rfl) ?_
          refine q_rd (wanted_none rfl) rfl rfl (rd_move (v := .c _) rfl rfl) ?_
          first | refine seq_splitD (d := 19) rfl rfl (fun g12 => ?_) (fun g12 => ?_) | refine seq_split (d := 19) rfl rfl (fun g12 => ?_) (fun g12 => ?_)
          · refine q_skip (wanted_is rfl rfl rfl rfl false rfl) rfl rfl ?_
            refine q_skip (wanted_is rfl rfl rfl rfl false rfl) rfl rfl ?_
            refine q_rd (wanted_none rfl) rfl rfl (rd_pickT (v := .c _) rfl rfl rfl) ?_
            refine seq_nil ?_
            refine then_norm ?_
            refine code_condT rfl ?_
            refine code_seq ?_
            refine code_region ?_
            refine q_rd (wanted_none rfl) rfl rfl (rd_assign (v := .c _) rfl rfl) ?_
            refine seq_nil ?_
            refine then_norm ?_
            refine code_ret ?_
            refine then_ret ?_
            refine block_ret ?_
            refine then_ret ?_
            refine block_ret ?_
            refine then_ret ?_
            refine end_val (.inl rfl) (res_1 rfl (arv_tmp rfl)) ?_
            refine CEnt.bool ?_
            rw [← he, ref_ascii hne (by rw [← hb]; omega), if_pos (by rw [← hb]; omega)]
          · refine q_rd (wanted_is rfl rfl rfl rfl true rfl) rfl rfl (rd_move (v := .c _) rfl rfl) ?_
            refine q_rd (wanted_is rfl rfl rfl rfl true rfl) rfl rfl (rd_eqI rfl rfl rfl) ?_
            refine q_rd (wanted_none rfl) rfl rfl (rd_pickF (v := .c _) rfl rfl rfl) ?_
            refine seq_nil ?_
            refine then_norm ?_
            first | refine code_condSD rfl rfl (fun h12 => ?_) (fun h12 => ?_) | refine code_condS rfl rfl (fun h12 => ?_) (fun h12 => ?_)
            · refine code_seq ?_
              refine code_region ?_
              refine q_rd (wanted_none rfl) rfl rfl (rd_assign (v := .c _) rfl rfl) ?_
              refine seq_nil ?_
              refine then_norm ?_
              refine code_ret ?_
              refine then_ret ?_
              refine block_ret ?_
              refine then_ret ?_
              refine block_ret ?_
              refine then_ret ?_
              refine end_val (.inl rfl) (res_1 rfl (arv_tmp rfl)) ?_
              refine CEnt.bool ?_
              rw [← he, ref_ascii hne (by rw [← hb]; omega), if_pos (by rw [← hb]; omega)]
            · refine code_skip ?_
              refine then_norm ?_
              refine ⟨(0, b, 0), ?_, by first | exact .refl | exact .nest .refl rfl rfl | exact .nest (.nest .refl rfl rfl) rfl rfl | exact .nest (.nest (.nest .refl rfl rfl) rfl rfl) rfl rfl, rfl, ?_, by exact Nat.le_of_ble_eq_true rfl, ?_⟩
              · show RefSt (bt (l.drop i) 0) _ _ _
                rw [← hb]; unfold RefSt; omega
              · exact .cons (CEnt.int (by omega)) (.cons (CEnt.int (by omega)) (.cons (CEnt.int (by omega)) .nil))
              · (repeat (first | exact HEnt.nil | refine HEnt.same ?_ | refine HEnt.blk rfl (fun j hj => by rcases j with _|_|_|_|_|_|_|_|j <;> first | exact CEnt.refl _ | exact CEnt.int (by omega) | omega) ?_))
        · refine code_seq ?_
          refine code_region ?_
          refine q_rd (wanted_none rfl) rfl rfl (rd_move (v := .c _) rfl rfl) ?_
          refine q_rd (wanted_none rfl) rfl rfl (rd_ge rfl rfl rfl) ?_
          refine q_rd (wanted_none rfl) rfl rfl (rd_move (v := .c _) rfl rfl) ?_
          first | refine seq_splitD (d := 25) rfl rfl (fun g15 => ?_) (fun g15 => ?_) | refine seq_split (d := 25) rfl rfl (fun g15 => ?_) (fun g15 => ?_)
          · refine q_rd (wanted_is rfl rfl rfl rfl true rfl) rfl rfl (rd_move (v := .c _) rfl rfl) ?_
            refine q_rd (wanted_is rfl rfl rfl rfl true rfl) rfl rfl (rd_lt rfl rfl rfl) ?_
            refine q_rd (wanted_none rfl) rfl rfl (rd_pickT (v := .c _) rfl rfl rfl) ?_
            refine seq_nil ?_
            refine then_norm ?_
            first | refine code_condSD rfl rfl (fun h15 => ?_) (fun h15 => ?_) | refine code_condS rfl rfl (fun h15 => ?_) (fun h15 => ?_)
            · refine code_region ?_
              refine q_rd (wanted_none rfl) rfl rfl (rd_move (v := .c _) rfl rfl) ?_
              refine q_rd (wanted_none rfl) rfl rfl (rd_sub rfl rfl rfl (wrap_id (k := .i64) (by show _ ∧ _; (first | omega | decide | (dsimp only at *; omega))))) ?_
              refine q_rd (wanted_none rfl) rfl rfl (rd_assign (v := .c _) rfl rfl) ?_
              refine q_rd (wanted_none rfl) rfl rfl (rd_assign (v := .c _) rfl rfl) ?_
              refine q_rd (wanted_none rfl) rfl rfl (rd_assign (v := .c _) rfl rfl) ?_
              refine seq_nil ?_
              refine then_norm ?_
              refine ⟨(1, b - 192, 128), ?_, by first | exact .refl | exact .nest .refl rfl rfl | exact .nest (.nest .refl rfl rfl) rfl rfl | exact .nest (.nest (.nest .refl rfl rfl) rfl rfl) rfl rfl, rfl, ?_, by exact Nat.le_of_ble_eq_true rfl, ?_⟩
              · show RefSt (bt (l.drop i) 0) _ _ _
                rw [← hb]; unfold RefSt; omega
              · exact .cons (CEnt.int (by omega)) (.cons (CEnt.int (by omega)) (.cons (CEnt.int (by omega)) .nil))
              · (repeat (first | exact HEnt.nil | refine HEnt.same ?_ | refine HEnt.blk rfl (fun j hj => by rcases j with _|_|_|_|_|_|_|_|j <;> first | exact CEnt.refl _ | exact CEnt.int (by omega) | omega) ?_))
            · refine code_seq ?_
              refine code_region ?_
              refine q_rd (wanted_none rfl) rfl rfl (rd_move (v := .c _) rfl rfl) ?_
              refine q_rd (wanted_none rfl) rfl rfl (rd_ge rfl rfl rfl) ?_
              refine q_rd (wanted_none rfl) rfl rfl (rd_move (v := .c _) rfl rfl) ?_
              first | refine seq_splitD (d := 33) rfl rfl (fun g17 => ?_) (fun g17 => ?_) | refine seq_split (d := 33) rfl rfl (fun g17 => ?_) (fun g17 => ?_)
              · refine q_rd (wanted_is rfl rfl rfl rfl true rfl) rfl rfl (rd_move (v := .c _) rfl rfl) ?_
                refine q_rd (wanted_is rfl rfl rfl rfl true rfl) rfl rfl (rd_lt rfl rfl rfl) ?_
                refine q_rd (wanted_none rfl) rfl rfl (rd_pickT (v := .c _) rfl rfl rfl) ?_
                refine seq_nil ?_
                refine then_norm ?_
                first | refine code_condSD rfl rfl (fun h17 => ?_) (fun h17 => ?_) | refine code_condS rfl rfl (fun h17 => ?_) (fun h17 => ?_)
                · refine code_region ?_
                  refine q_rd (wanted_none rfl) rfl rfl (rd_move (v := .c _) rfl rfl) ?_
                  refine q_rd (wanted_none rfl) rfl rfl (rd_sub rfl rfl rfl (wrap_id (k := .i64) (by show _ ∧ _; (first | omega | decide | (dsimp only at *; omega))))) ?_
                  refine q_rd (wanted_none rfl) rfl rfl (rd_assign (v := .c _) rfl rfl) ?_
                  refine q_rd (wanted_none rfl) rfl rfl (rd_assign (v := .c _) rfl rfl) ?_
                  refine q_rd (wanted_none rfl) rfl rfl (rd_assign (v := .c _) rfl rfl) ?_
                  refine seq_nil ?_
                  refine then_norm ?_
                  refine ⟨(2, b - 224, 2048), ?_, by first | exact .refl | exact .nest .refl rfl rfl | exact .nest (.nest .refl rfl rfl) rfl rfl | exact .nest (.nest (.nest .refl rfl rfl) rfl rfl) rfl rfl, rfl, ?_, by exact Nat.le_of_ble_eq_true rfl, ?_⟩
                  · show RefSt (bt (l.drop i) 0) _ _ _
                    rw [← hb]; unfold RefSt; omega
                  · exact .cons (CEnt.int (by omega)) (.cons (CEnt.int (by omega)) (.cons (CEnt.int (by omega)) .nil))
                  · (repeat (first | exact HEnt.nil | refine HEnt.same ?_ | refine HEnt.blk rfl (fun j hj => by rcases j with _|_|_|_|_|_|_|_|j <;> first | exact CEnt.refl _ | exact CEnt.int (by omega) | omega) ?_))
                · refine code_seq ?_
                  refine code_region ?_
                  refine q_rd (wanted_none rfl) rfl rfl (rd_move (v := .c _) rfl rfl) ?_
                  refine q_rd (wanted_none rfl) rfl rfl (rd_ge rfl rfl rfl) ?_
                  refine q_rd (wanted_none rfl) rfl rfl (rd_move (v := .c _) rfl rfl) ?_
                  first | refine seq_splitD (d := 41) rfl rfl (fun g19 => ?_) (fun g19 => ?_) | refine seq_split (d := 41) rfl rfl (fun g19 => ?_) (fun g19 => ?_)
                  · refine q_rd (wanted_is rfl rfl rfl rfl true rfl) rfl rfl (rd_move (v := .c _) rfl rfl) ?_
                    refine q_rd (wanted_is rfl rfl rfl rfl true rfl) rfl rfl (rd_lt rfl rfl rfl) ?_
                    refine q_rd (wanted_none rfl) rfl rfl (rd_pickT (v := .c _) rfl rfl rfl) ?_
                    refine seq_nil ?_
                    refine then_norm ?_
                    first | refine code_condSD rfl rfl (fun h19 => ?_) (fun h19 => ?_) | refine code_condS rfl rfl (fun h19 => ?_) (fun h19 => ?_)
                    · refine code_region ?_
                      refine q_rd (wanted_none rfl) rfl rfl (rd_move (v := .c _) rfl rfl) ?_
                      refine q_rd (wanted_none rfl) rfl rfl (rd_sub rfl rfl rfl (wrap_id (k := .i64) (by show _ ∧ _; (first | omega | decide | (dsimp only at *; omega))))) ?_
                      refine q_rd (wanted_none rfl) rfl rfl (rd_assign (v := .c _) rfl rfl) ?_
                      refine q_rd (wanted_none rfl) rfl rfl (rd_assign (v := .c _) rfl rfl) ?_
                      refine q_rd (wanted_none rfl) rfl rfl (rd_assign (v := .c _) rfl rfl) ?_
                      refine seq_nil ?_
                      refine then_norm ?_
                      refine ⟨(3, b - 240, 65536), ?_, by first | exact .refl | exact .nest .refl rfl rfl | exact .nest (.nest .refl rfl rfl) rfl rfl | exact .nest (.nest (.nest .refl rfl rfl) rfl rfl) rfl rfl, rfl, ?_, by exact Nat.le_of_ble_eq_true rfl, ?_⟩
                      · show RefSt (bt (l.drop i) 0) _ _ _
                        rw [← hb]; unfold RefSt; omega
                      · exact .cons (CEnt.int (by omega)) (.cons (CEnt.int (by omega)) (.cons (CEnt.int (by omega)) .nil))
                      · (repeat (first | exact HEnt.nil | refine HEnt.same ?_ | refine HEnt.blk rfl (fun j hj => by rcases j with _|_|_|_|_|_|_|_|j <;> first | exact CEnt.refl _ | exact CEnt.int (by omega) | omega) ?_))
                    · refine code_seq ?_
                      refine code_region ?_
                      refine q_rd (wanted_none rfl) rfl rfl (rd_assign (v := .c _) rfl rfl) ?_
                      refine seq_nil ?_
                      refine then_norm ?_
                      refine code_ret ?_
                      refine then_ret ?_
                      refine block_ret ?_
                      refine then_ret ?_
                      refine block_ret ?_
                      refine then_ret ?_
                      refine end_val (.inl rfl) (res_1 rfl (arv_tmp rfl)) ?_
                      refine CEnt.bool ?_
                      rw [← he, ref_bad hne (dec_head_bad (by rw [← hb]; omega) (by rw [← hb]; omega))]
                  · refine q_skip (wanted_is rfl rfl rfl rfl false rfl) rfl rfl ?_
                    refine q_skip (wanted_is rfl rfl rfl rfl false rfl) rfl rfl ?_
                    refine q_rd (wanted_none rfl) rfl rfl (rd_pickF (v := .c _) rfl rfl rfl) ?_
                    refine seq_nil ?_
                    refine then_norm ?_
                    refine code_condF rfl ?_
                    refine code_seq ?_
                    refine code_region ?_
                    refine q_rd (wanted_none rfl) rfl rfl (rd_assign (v := .c _) rfl rfl) ?_
                    refine seq_nil ?_
                    refine then_norm ?_
                    refine code_ret ?_
                    refine then_ret ?_
                    refine block_ret ?_
                    refine then_ret ?_
                    refine block_ret ?_
                    refine then_ret ?_
                    refine end_val (.inl rfl) (res_1 rfl (arv_tmp rfl)) ?_
                    refine CEnt.bool ?_
                    rw [← he, ref_bad hne (dec_head_bad (by rw [← hb]; omega) (by rw [← hb]; omega))]
              · refine q_skip (wanted_is rfl rfl rfl rfl false rfl) rfl rfl ?_
                refine q_skip (wanted_is rfl rfl rfl rfl false rfl) rfl rfl ?_
                refine q_rd (wanted_none rfl) rfl rfl (rd_pickF (v := .c _) rfl rfl rfl) ?_
                refine seq_nil ?_
                refine then_norm ?_
                refine code_condF rfl ?_
                refine code_seq ?_
                refine code_region ?_
                refine q_rd (wanted_none rfl) rfl rfl (rd_move (v := .c _) rfl rfl) ?_
                refine q_rd (wanted_none rfl) rfl rfl (rd_ge rfl rfl rfl) ?_
                refine q_rd (wanted_none rfl) rfl rfl (rd_move (v := .c _) rfl rfl) ?_
                first | refine seq_splitD (d := 41) rfl rfl (fun g19 => ?_) (fun g19 => ?_) | refine seq_split (d := 41) rfl rfl (fun g19 => ?_) (fun g19 => ?_)
                · refine q_rd (wanted_is rfl rfl rfl rfl true rfl) rfl rfl (rd_move (v := .c _) rfl rfl) ?_
                  refine q_rd (wanted_is rfl rfl rfl rfl true rfl) rfl rfl (rd_lt rfl rfl rfl) ?_
                  refine q_rd (wanted_none rfl) rfl rfl (rd_pickT (v := .c _) rfl rfl rfl) ?_
                  refine seq_nil ?_
                  refine then_norm ?_
                  first | refine code_condSD rfl rfl (fun h19 => ?_) (fun h19 => ?_) | refine code_condS rfl rfl (fun h19 => ?_) (fun h19 => ?_)
                  · refine code_region ?_
                    refine q_rd (wanted_none rfl) rfl rfl (rd_move (v := .c _) rfl rfl) ?_
                    refine q_rd (wanted_none rfl) rfl rfl (rd_sub rfl rfl rfl (wrap_id (k := .i64) (by show _ ∧ _; (first | omega | decide | (dsimp only at *; omega))))) ?_
                    refine q_rd (wanted_none rfl) rfl rfl (rd_assign (v := .c _) rfl rfl) ?_
                    refine q_rd (wanted_none rfl) rfl rfl (rd_assign (v := .c _) rfl rfl) ?_
                    refine q_rd (wanted_none rfl) rfl rfl (rd_assign (v := .c _) rfl rfl) ?_
                    refine seq_nil ?_
                    refine then_norm ?_
                    refine ⟨(3, b - 240, 65536), ?_, by first | exact .refl | exact .nest .refl rfl rfl | exact .nest (.nest .refl rfl rfl) rfl rfl | exact .nest (.nest (.nest .refl rfl rfl) rfl rfl) rfl rfl, rfl, ?_, by exact Nat.le_of_ble_eq_true rfl, ?_⟩
                    · show RefSt (bt (l.drop i) 0) _ _ _
                      rw [← hb]; unfold RefSt; omega
                    · exact .cons (CEnt.int (by omega)) (.cons (CEnt.int (by omega)) (.cons (CEnt.int (by omega)) .nil))
                    · (repeat (first | exact HEnt.nil | refine HEnt.same ?_ | refine HEnt.blk rfl (fun j hj => by rcases j with _|_|_|_|_|_|_|_|j <;> first | exact CEnt.refl _ | exact CEnt.int (by omega) | omega) ?_))
                  · refine code_seq ?_
                    refine code_region ?_
                    refine q_rd (wanted_none rfl) rfl rfl (rd_assign (v := .c _) rfl rfl) ?_
                    refine seq_nil ?_
                    refine then_norm ?_
                    refine code_ret ?_
                    refine then_ret ?_
                    refine block_ret ?_
                    refine then_ret ?_
                    refine block_ret ?_
                    refine then_ret ?_
                    refine end_val (.inl rfl) (res_1 rfl (arv_tmp rfl)) ?_
                    refine CEnt.bool ?_
                    rw [← he, ref_bad hne (dec_head_bad (by rw [← hb]; omega) (by rw [← hb]; omega))]
                · refine q_skip (wanted_is rfl rfl rfl rfl false rfl) rfl rfl ?_
                  refine q_skip (wanted_is rfl rfl rfl rfl false rfl) rfl rfl ?_
                  refine q_rd (wanted_none rfl) rfl rfl (rd_pickF (v := .c _) rfl rfl rfl) ?_
                  refine seq_nil ?_
                  refine then_norm ?_
                  refine code_condF rfl ?_
                  refine code_seq ?_
                  refine code_region ?_
                  refine q_rd (wanted_none rfl) rfl rfl (rd_assign (v := .c _) rfl rfl) ?_
                  refine seq_nil ?_
                  refine then_norm ?_
                  refine code_ret ?_
                  refine then_ret ?_
                  refine block_ret ?_
                  refine then_ret ?_
                  refine block_ret ?_
                  refine then_ret ?_
                  refine end_val (.inl rfl) (res_1 rfl (arv_tmp rfl)) ?_
                  refine CEnt.bool ?_
                  rw [← he, ref_bad hne (dec_head_bad (by rw [← hb]; omega) (by rw [← hb]; omega))]
          · refine q_skip (wanted_is rfl rfl rfl rfl false rfl) rfl rfl ?_
            refine q_skip (wanted_is rfl rfl rfl rfl false rfl) rfl rfl ?_
            refine q_rd (wanted_none rfl) rfl rfl (rd_pickF (v := .c _) rfl rfl rfl) ?_
            refine seq_nil ?_
            refine then_norm ?_
            refine code_condF rfl ?_
            refine code_seq ?_
            refine code_region ?_
            refine q_rd (wanted_none rfl) rfl rfl (rd_move (v := .c _) rfl rfl) ?_
            refine q_rd (wanted_none rfl) rfl rfl (rd_ge rfl rfl rfl) ?_
            refine q_rd (wanted_none rfl) rfl rfl (rd_move (v := .c _) rfl rfl) ?_
            first | refine seq_splitD (d := 33) rfl rfl (fun g17 => ?_) (fun g17 => ?_) | refine seq_split (d := 33) rfl rfl (fun g17 => ?_) (fun g17 => ?_)
            · refine q_rd (wanted_is rfl rfl rfl rfl true rfl) rfl rfl (rd_move (v := .c _) rfl rfl) ?_
              refine q_rd (wanted_is rfl rfl rfl rfl true rfl) rfl rfl (rd_lt rfl rfl rfl) ?_
              refine q_rd (wanted_none rfl) rfl rfl (rd_pickT (v := .c _) rfl rfl rfl) ?_
              refine seq_nil ?_
              refine then_norm ?_
              first | refine code_condSD rfl rfl (fun h17 => ?_) (fun h17 => ?_) | refine code_condS rfl rfl (fun h17 => ?_) (fun h17 => ?_)
              · refine code_region ?_
                refine q_rd (wanted_none rfl) rfl rfl (rd_move (v := .c _) rfl rfl) ?_
                refine q_rd (wanted_none rfl) rfl rfl (rd_sub rfl rfl rfl (wrap_id (k := .i64) (by show _ ∧ _; (first | omega | decide | (dsimp only at *; omega))))) ?_
                refine q_rd (wanted_none rfl) rfl rfl (rd_assign (v := .c _) rfl rfl) ?_
                refine q_rd (wanted_none rfl) rfl rfl (rd_assign (v := .c _) rfl rfl) ?_
                refine q_rd (wanted_none rfl) rfl rfl (rd_assign (v := .c _) rfl rfl) ?_
                refine seq_nil ?_
                refine then_norm ?_
                refine ⟨(3, b - 240, 65536), ?_, by first | exact .refl | exact .nest .refl rfl rfl | exact .nest (.nest .refl rfl rfl) rfl rfl | exact .nest (.nest (.nest .refl rfl rfl) rfl rfl) rfl rfl, rfl, ?_, by exact Nat.le_of_ble_eq_true rfl, ?_⟩
                · show RefSt (bt (l.drop i) 0) _ _ _
                  rw [← hb]; unfold RefSt; omega
                · exact .cons (CEnt.int (by omega)) (.cons (CEnt.int (by omega)) (.cons (CEnt.int (by omega)) .nil))
                · (repeat (first | exact HEnt.nil | refine HEnt.same ?_ | refine HEnt.blk rfl (fun j hj => by rcases j with _|_|_|_|_|_|_|_|j <;> first | exact CEnt.refl _ | exact CEnt.int (by omega) | omega) ?_))
              · refine code_seq ?_
                refine code_region ?_
                refine q_rd (wanted_none rfl) rfl rfl (rd_move (v := .c _) rfl rfl) ?_
                refine q_rd (wanted_none rfl) rfl rfl (rd_ge rfl rfl rfl) ?_
                refine q_rd (wanted_none rfl) rfl rfl (rd_move (v := .c _) rfl rfl) ?_
                first | refine seq_splitD (d := 41) rfl rfl (fun g19 => ?_) (fun g19 => ?_) | refine seq_split (d := 41) rfl rfl (fun g19 => ?_) (fun g19 => ?_)
                · refine q_rd (wanted_is rfl rfl rfl rfl true rfl) rfl rfl (rd_move (v := .c _) rfl rfl) ?_
                  refine q_rd (wanted_is rfl rfl rfl rfl true rfl) rfl rfl (rd_lt rfl rfl rfl) ?_
                  refine q_rd (wanted_none rfl) rfl rfl (rd_pickT (v := .c _) rfl rfl rfl) ?_
                  refine seq_nil ?_
                  refine then_norm ?_
                  first | refine code_condSD rfl rfl (fun h19 => ?_) (fun h19 => ?_) | refine code_condS rfl rfl (fun h19 => ?_) (fun h19 => ?_)
                  · refine code_region ?_
                    refine q_rd (wanted_none rfl) rfl rfl (rd_move (v := .c _) rfl rfl) ?_
                    refine q_rd (wanted_none rfl) rfl rfl (rd_sub rfl rfl rfl (wrap_id (k := .i64) (by show _ ∧ _; (first | omega | decide | (dsimp only at *; omega))))) ?_
                    refine q_rd (wanted_none rfl) rfl rfl (rd_assign (v := .c _) rfl rfl) ?_
                    refine q_rd (wanted_none rfl) rfl rfl (rd_assign (v := .c _) rfl rfl) ?_
                    refine q_rd (wanted_none rfl) rfl rfl (rd_assign (v := .c _) rfl rfl) ?_
                    refine seq_nil ?_
                    refine then_norm ?_
                    refine ⟨(3, b - 240, 65536), ?_, by first | exact .refl | exact .nest .refl rfl rfl | exact .nest (.nest .refl rfl rfl) rfl rfl | exact .nest (.nest (.nest .refl rfl rfl) rfl rfl) rfl rfl, rfl, ?_, by exact Nat.le_of_ble_eq_true rfl, ?_⟩
                    · show RefSt (bt (l.drop i) 0) _ _ _
                      rw [← hb]; unfold RefSt; omega
                    · exact .cons (CEnt.int (by omega)) (.cons (CEnt.int (by omega)) (.cons (CEnt.int (by omega)) .nil))
                    · (repeat (first | exact HEnt.nil | refine HEnt.same ?_ | refine HEnt.blk rfl (fun j hj => by rcases j with _|_|_|_|_|_|_|_|j <;> first | exact CEnt.refl _ | exact CEnt.int (by omega) | omega) ?_))
                  · refine code_seq ?_
                    refine code_region ?_
                    refine q_rd (wanted_none rfl) rfl rfl (rd_assign (v := .c _) rfl rfl) ?_
                    refine seq_nil ?_
                    refine then_norm ?_
                    refine code_ret ?_
                    refine then_ret ?_
                    refine block_ret ?_
                    refine then_ret ?_
                    refine block_ret ?_
                    refine then_ret ?_
                    refine end_val (.inl rfl) (res_1 rfl (arv_tmp rfl)) ?_
                    refine CEnt.bool ?_
                    rw [← he, ref_bad hne (dec_head_bad (by rw [← hb]; omega) (by rw [← hb]; omega))]
                · refine q_skip (wanted_is rfl rfl rfl rfl false rfl) rfl rfl ?_
                  refine q_skip (wanted_is rfl rfl rfl rfl false rfl) rfl rfl ?_
                  refine q_rd (wanted_none rfl) rfl rfl (rd_pickF (v := .c _) rfl rfl rfl) ?_
                  refine seq_nil ?_
                  refine then_norm ?_
                  refine code_condF rfl ?_
                  refine code_seq ?_
                  refine code_region ?_
                  refine q_rd (wanted_none rfl) rfl rfl (rd_assign (v := .c _) rfl rfl) ?_
                  refine seq_nil ?_
                  refine then_norm ?_
                  refine code_ret ?_
                  refine then_ret ?_
                  refine block_ret ?_
                  refine then_ret ?_
                  refine block_ret ?_
                  refine then_ret ?_
                  refine end_val (.inl rfl) (res_1 rfl (arv_tmp rfl)) ?_
                  refine CEnt.bool ?_
                  rw [← he, ref_bad hne (dec_head_bad (by rw [← hb]; omega) (by rw [← hb]; omega))]
            · refine q_skip (wanted_is rfl rfl rfl rfl false rfl) rfl rfl ?_
              refine q_skip (wanted_is rfl rfl rfl rfl false rfl) rfl rfl ?_
              refine q_rd (wanted_none rfl) rfl rfl (rd_pickF (v := .c _) rfl rfl rfl) ?_
              refine seq_nil ?_
              refine then_norm ?_
              refine code_condF rfl ?_
              refine code_seq ?_
              refine code_region ?_
              refine q_rd (wanted_none rfl) rfl rfl (rd_move (v := .c _) rfl rfl) ?_
              refine q_rd (wanted_none rfl) rfl rfl (rd_ge rfl rfl rfl) ?_
              refine q_rd (wanted_none rfl) rfl rfl (rd_move (v := .c _) rfl rfl) ?_
              first | refine seq_splitD (d := 41) rfl rfl (fun g19 => ?_) (fun g19 => ?_) | refine seq_split (d := 41) rfl rfl (fun g19 => ?_) (fun g19 => ?_)
              · refine q_rd (wanted_is rfl rfl rfl rfl true rfl) rfl rfl (rd_move (v := .c _) rfl rfl) ?_
                refine q_rd (wanted_is rfl rfl rfl rfl true rfl) rfl rfl (rd_lt rfl rfl rfl) ?_
                refine q_rd (wanted_none rfl) rfl rfl (rd_pickT (v := .c _) rfl rfl rfl) ?_
                refine seq_nil ?_
                refine then_norm ?_
                first | refine code_condSD rfl rfl (fun h19 => ?_) (fun h19 => ?_) | refine code_condS rfl rfl (fun h19 => ?_) (fun h19 => ?_)
                · refine code_region ?_
                  refine q_rd (wanted_none rfl) rfl rfl (rd_move (v := .c _) rfl rfl) ?_
                  refine q_rd (wanted_none rfl) rfl rfl (rd_sub rfl rfl rfl (wrap_id (k := .i64) (by show _ ∧ _; (first | omega | decide | (dsimp only at *; omega))))) ?_
                  refine q_rd (wanted_none rfl) rfl rfl (rd_assign (v := .c _) rfl rfl) ?_
                  refine q_rd (wanted_none rfl) rfl rfl (rd_assign (v := .c _) rfl rfl) ?_
                  refine q_rd (wanted_none rfl) rfl rfl (rd_assign (v := .c _) rfl rfl) ?_
                  refine seq_nil ?_
                  refine then_norm ?_
                  refine ⟨(3, b - 240, 65536), ?_, by first | exact .refl | exact .nest .refl rfl rfl | exact .nest (.nest .refl rfl rfl) rfl rfl | exact .nest (.nest (.nest .refl rfl rfl) rfl rfl) rfl rfl, rfl, ?_, by exact Nat.le_of_ble_eq_true rfl, ?_⟩
                  · show RefSt (bt (l.drop i) 0) _ _ _
                    rw [← hb]; unfold RefSt; omega
                  · exact .cons (CEnt.int (by omega)) (.cons (CEnt.int (by omega)) (.cons (CEnt.int (by omega)) .nil))
                  · (repeat (first | exact HEnt.nil | refine HEnt.same ?_ | refine HEnt.blk rfl (fun j hj => by rcases j with _|_|_|_|_|_|_|_|j <;> first | exact CEnt.refl _ | exact CEnt.int (by omega) | omega) ?_))
                · refine code_seq ?_
                  refine code_region ?_
                  refine q_rd (wanted_none rfl) rfl rfl (rd_assign (v := .c _) rfl rfl) ?_
                  refine seq_nil ?_
                  refine then_norm ?_
                  refine code_ret ?_
                  refine then_ret ?_
                  refine block_ret ?_
                  refine then_ret ?_
                  refine block_ret ?_
                  refine then_ret ?_
                  refine end_val (.inl rfl) (res_1 rfl (arv_tmp rfl)) ?_
                  refine CEnt.bool ?_
                  rw [← he, ref_bad hne (dec_head_bad (by rw [← hb]; omega) (by rw [← hb]; omega))]
              · refine q_skip (wanted_is rfl rfl rfl rfl false rfl) rfl rfl ?_
                refine q_skip (wanted_is rfl rfl rfl rfl false rfl) rfl rfl ?_
                refine q_rd (wanted_none rfl) rfl rfl (rd_pickF (v := .c _) rfl rfl rfl) ?_
                refine seq_nil ?_
                refine then_norm ?_
                refine code_condF rfl ?_
                refine code_seq ?_
                refine code_region ?_
                refine q_rd (wanted_none rfl) rfl rfl (rd_assign (v := .c _) rfl rfl) ?_
                refine seq_nil ?_
                refine then_norm ?_
                refine code_ret ?_
                refine then_ret ?_
                refine block_ret ?_
                refine then_ret ?_
                refine block_ret ?_
                refine then_ret ?_
                refine end_val (.inl rfl) (res_1 rfl (arv_tmp rfl)) ?_
                refine CEnt.bool ?_
                rw [← he, ref_bad hne (dec_head_bad (by rw [← hb]; omega) (by rw [← hb]; omega))]
      · rintro ⟨n0, c0, least⟩ hR0
        have hR : RefSt (bt (l.drop i) 0) n0 c0 least := hR0
        clear hR0
        have hRb := hR
        rw [← hb] at hRb
        unfold RefSt at hRb
        have hn3 : n0 ≤ 3 := by omega
        have hc128 : c0 < 128 := by omega
        have hl6 : least ≤ 65536 := by omega
        clear hRb
        refine code_seq ?_
        refine code_region ?_
        refine q_rd (wanted_none rfl) rfl rfl (rd_move (v := .c _) rfl rfl) ?_
        refine q_rd (wanted_none rfl) rfl rfl (rd_add rfl rfl rfl (wrap_id (k := .i64) (by show _ ∧ _; (first | omega | decide | (dsimp only at *; omega))))) ?_
        refine q_rd (wanted_none rfl) rfl rfl (rd_assign (v := .c _) rfl rfl) ?_
        refine seq_nil ?_
        refine then_norm ?_
        refine code_seq ?_
        refine code_block ?_
        refine l_loop (α := Nat) [2, 3, 4, 5, 49, 50, 51, 52, 53, 54, 55, 56, 57, 58, 59, 60, 61, 62, 63, 64, 65, 66, 67, 68, 69, 70, 71, 72, 73, 74, 75, 76, 77, 78] (fun j => [(3, .c (.int .i64 (((i + 1 + j : Nat) : Int)))), (4, .c (.int .i64 (cR (l.drop i) c0 j : Nat))), (5, .c (.int .i64 ((n0 - j : Nat) : Int)))]) (fun _ => []) (fun j => j ≤ n0 ∧ i + 1 + j ≤ l.length ∧ ∀ q, 1 ≤ q → q ≤ j → 128 ≤ bt (l.drop i) q ∧ bt (l.drop i) q ≤ 191) (fun j => n0 - j) (0) ?_ (fun _ => rfl) ?_ ?_ ?_
        · exact ⟨Nat.zero_le _, by omega, fun q h1 h2 => by omega⟩
        · exact .cons (CEnt.int (by omega)) (.cons (CEnt.refl _) (.cons (CEnt.refl _) .nil))
        · (repeat (first | exact HEnt.nil | refine HEnt.same ?_ | refine HEnt.blk rfl (fun j hj => by rcases j with _|_|_|_|_|_|_|_|j <;> first | exact CEnt.refl _ | exact CEnt.int (by omega) | omega) ?_))
        · rintro j ⟨hj, hil, hq⟩
          have hcb := cR_bd (d := l.drop i) (c0 := c0) (j := j) (by omega) hc128 hq
          refine code_seq ?_
          refine code_seq ?_
          refine code_region ?_
          refine q_rd (wanted_none rfl) rfl rfl (rd_move (v := .c _) rfl rfl) ?_
          refine q_rd (wanted_none rfl) rfl rfl (rd_gt rfl rfl rfl) ?_
          refine seq_nil ?_
          refine then_norm ?_
          first | refine code_condSD rfl rfl (fun h25 => ?_) (fun h25 => ?_) | refine code_condS rfl rfl (fun h25 => ?_) (fun h25 => ?_)
          · refine code_skip ?_
            refine then_norm ?_
            refine code_seq ?_
            refine code_block ?_
            refine code_seq ?_
            refine code_seq ?_
            obtain ⟨x, hx⟩ : ∃ x, x = bt (l.drop i) (j + 1) := ⟨_, rfl⟩
            have hx2 : (l.getD (i + 1 + j) 0).toNat = x := by rw [hx, bt_drop, show i + (j + 1) = i + 1 + j by omega]; rfl
            have hxl : x < 256 := by rw [hx]; exact bt_lt _ _
            refine code_region ?_
            refine q_rd (wanted_none rfl) rfl rfl (rd_move (v := .c _) rfl rfl) ?_
            refine q_rd (wanted_none rfl) rfl rfl (rd_move (v := .c _) rfl rfl) ?_
            refine q_rd (wanted_none rfl) rfl rfl (rd_lenL rfl rfl Tryd.underlying9) ?_
            refine q_rd (wanted_none rfl) rfl rfl (rd_eqI rfl rfl rfl) ?_
            refine q_rd (wanted_none rfl) rfl rfl (rd_move (v := .c _) rfl rfl) ?_
            first | refine seq_splitD (d := 57) rfl rfl (fun g26 => ?_) (fun g26 => ?_) | refine seq_split (d := 57) rfl rfl (fun g26 => ?_) (fun g26 => ?_)
            · refine q_skip (wanted_is rfl rfl rfl rfl false rfl) rfl rfl ?_
              refine q_skip (wanted_is rfl rfl rfl rfl false rfl) rfl rfl ?_
              refine q_skip (wanted_is rfl rfl rfl rfl false rfl) rfl rfl ?_
              refine q_skip (wanted_is rfl rfl rfl rfl false rfl) rfl rfl ?_
              refine q_rd (wanted_none rfl) rfl rfl (rd_pickT (v := .c _) rfl rfl rfl) ?_
              refine q_rd (wanted_none rfl) rfl rfl (rd_move (v := .c _) rfl rfl) ?_
              refine q_skip (wanted_is rfl rfl rfl rfl false rfl) rfl rfl ?_
              refine q_skip (wanted_is rfl rfl rfl rfl false rfl) rfl rfl ?_
              refine q_skip (wanted_is rfl rfl rfl rfl false rfl) rfl rfl ?_
              refine q_skip (wanted_is rfl rfl rfl rfl false rfl) rfl rfl ?_
              refine q_rd (wanted_none rfl) rfl rfl (rd_pickT (v := .c _) rfl rfl rfl) ?_
              refine seq_nil ?_
              refine then_norm ?_
              refine code_condT rfl ?_
              refine code_seq ?_
              refine code_region ?_
              refine q_rd (wanted_none rfl) rfl rfl (rd_assign (v := .c _) rfl rfl) ?_
              refine seq_nil ?_
              refine then_norm ?_
              refine code_ret ?_
              refine then_ret ?_
              refine block_ret ?_
              refine then_ret ?_
              refine then_ret ?_
              refine block_ret ?_
              refine then_ret ?_
              refine block_ret ?_
              refine then_ret ?_
              refine block_ret ?_
              refine then_ret ?_
              refine end_val (.inl rfl) (res_1 rfl (arv_tmp rfl)) ?_
              refine CEnt.bool ?_
              rw [← he, ref_cont hne hR (show j < n0 by omega) (by rw [← hx, List.length_drop]; omega)]
            · refine q_rd (wanted_is rfl rfl rfl rfl true rfl) rfl rfl (rd_move (v := .c _) rfl rfl) ?_
              refine q_rd (wanted_is rfl rfl rfl rfl true rfl) rfl rfl (rd_move (v := .c _) rfl rfl) ?_
              first | refine q_rd (wanted_is rfl rfl rfl rfl true rfl) rfl rfl (rd_indexL rfl rfl rfl Tryd.underlying9 rfl (by (first | omega | decide | (dsimp only at *; omega)))) ?_ | refine q_rd (wanted_is rfl rfl rfl rfl true rfl) rfl rfl (rd_indexL rfl rfl rfl Tryd.underlying9 (natI (by omega)) (by (first | omega | decide | (dsimp only at *; omega)))) ?_
              refine q_rd (wanted_is rfl rfl rfl rfl true rfl) rfl rfl (rd_lt rfl rfl rfl) ?_
              refine q_rd (wanted_none rfl) rfl rfl (rd_pickF (v := .c _) rfl rfl rfl) ?_
              refine q_rd (wanted_none rfl) rfl rfl (rd_move (v := .c _) rfl rfl) ?_
              first | refine seq_splitD (d := 63) rfl rfl (fun g26_2 => ?_) (fun g26_2 => ?_) | refine seq_split (d := 63) rfl rfl (fun g26_2 => ?_) (fun g26_2 => ?_)
              · refine q_skip (wanted_is rfl rfl rfl rfl false rfl) rfl rfl ?_
                refine q_skip (wanted_is rfl rfl rfl rfl false rfl) rfl rfl ?_
                refine q_skip (wanted_is rfl rfl rfl rfl false rfl) rfl rfl ?_
                refine q_skip (wanted_is rfl rfl rfl rfl false rfl) rfl rfl ?_
                refine q_rd (wanted_none rfl) rfl rfl (rd_pickT (v := .c _) rfl rfl rfl) ?_
                refine seq_nil ?_
                refine then_norm ?_
                refine code_condT rfl ?_
                refine code_seq ?_
                refine code_region ?_
                refine q_rd (wanted_none rfl) rfl rfl (rd_assign (v := .c _) rfl rfl) ?_
                refine seq_nil ?_
                refine then_norm ?_
                refine code_ret ?_
                refine then_ret ?_
                refine block_ret ?_
                refine then_ret ?_
                refine then_ret ?_
                refine block_ret ?_
                refine then_ret ?_
                refine block_ret ?_
                refine then_ret ?_
                refine block_ret ?_
                refine then_ret ?_
                refine end_val (.inl rfl) (res_1 rfl (arv_tmp rfl)) ?_
                refine CEnt.bool ?_
                rw [← he, ref_cont hne hR (show j < n0 by omega) (by rw [← hx, List.length_drop]; omega)]
              · refine q_rd (wanted_is rfl rfl rfl rfl true rfl) rfl rfl (rd_move (v := .c _) rfl rfl) ?_
                refine q_rd (wanted_is rfl rfl rfl rfl true rfl) rfl rfl (rd_move (v := .c _) rfl rfl) ?_
                first | refine q_rd (wanted_is rfl rfl rfl rfl true rfl) rfl rfl (rd_indexL rfl rfl rfl Tryd.underlying9 rfl (by (first | omega | decide | (dsimp only at *; omega)))) ?_ | refine q_rd (wanted_is rfl rfl rfl rfl true rfl) rfl rfl (rd_indexL rfl rfl rfl Tryd.underlying9 (natI (by omega)) (by (first | omega | decide | (dsimp only at *; omega)))) ?_
                refine q_rd (wanted_is rfl rfl rfl rfl true rfl) rfl rfl (rd_gt rfl rfl rfl) ?_
                refine q_rd (wanted_none rfl) rfl rfl (rd_pickF (v := .c _) rfl rfl rfl) ?_
                refine seq_nil ?_
                refine then_norm ?_
                first | refine code_condSD rfl rfl (fun h26 => ?_) (fun h26 => ?_) | refine code_condS rfl rfl (fun h26 => ?_) (fun h26 => ?_)
                · refine code_seq ?_
                  refine code_region ?_
                  refine q_rd (wanted_none rfl) rfl rfl (rd_assign (v := .c _) rfl rfl) ?_
                  refine seq_nil ?_
                  refine then_norm ?_
                  refine code_ret ?_
                  refine then_ret ?_
                  refine block_ret ?_
                  refine then_ret ?_
                  refine then_ret ?_
                  refine block_ret ?_
                  refine then_ret ?_
                  refine block_ret ?_
                  refine then_ret ?_
                  refine block_ret ?_
                  refine then_ret ?_
                  refine end_val (.inl rfl) (res_1 rfl (arv_tmp rfl)) ?_
                  refine CEnt.bool ?_
                  rw [← he, ref_cont hne hR (show j < n0 by omega) (by rw [← hx, List.length_drop]; omega)]
                · refine code_skip ?_
                  refine then_norm ?_
                  refine code_seq ?_
                  refine code_region ?_
                  refine q_rd (wanted_none rfl) rfl rfl (rd_move (v := .c _) rfl rfl) ?_
                  refine q_rd (wanted_none rfl) rfl rfl (rd_mul rfl rfl rfl (wrap_id (k := .i64) (by show _ ∧ _; (first | omega | decide | (dsimp only at *; omega))))) ?_
                  refine q_rd (wanted_none rfl) rfl rfl (rd_move (v := .c _) rfl rfl) ?_
                  refine q_rd (wanted_none rfl) rfl rfl (rd_move (v := .c _) rfl rfl) ?_
                  first | refine q_rd (wanted_none rfl) rfl rfl (rd_indexL rfl rfl rfl Tryd.underlying9 rfl (by (first | omega | decide | (dsimp only at *; omega)))) ?_ | refine q_rd (wanted_none rfl) rfl rfl (rd_indexL rfl rfl rfl Tryd.underlying9 (natI (by omega)) (by (first | omega | decide | (dsimp only at *; omega)))) ?_
                  first | refine q_rd (wanted_none rfl) rfl rfl (rd_conv8 rfl rfl Tryd.underlying5 Tryd.underlying3 rfl) ?_ | refine q_rd (wanted_none rfl) rfl rfl (rd_convI rfl rfl Tryd.underlying5 Tryd.underlying3 _ (wrap_id (k := .i64) (by show _ ∧ _; (first | omega | decide | (dsimp only at *; omega))))) ?_ | refine q_rd (wanted_none rfl) rfl rfl (rd_convI rfl rfl Tryd.underlying5 Tryd.underlying3 _ rfl) ?_
                  refine q_rd (wanted_none rfl) rfl rfl (rd_add rfl rfl rfl (wrap_id (k := .i64) (by show _ ∧ _; (first | omega | decide | (dsimp only at *; omega))))) ?_
                  refine q_rd (wanted_none rfl) rfl rfl (rd_sub rfl rfl rfl (wrap_id (k := .i64) (by show _ ∧ _; (first | omega | decide | (dsimp only at *; omega))))) ?_
                  refine q_rd (wanted_none rfl) rfl rfl (rd_assign (v := .c _) rfl rfl) ?_
                  refine seq_nil ?_
                  refine then_norm ?_
                  refine code_region ?_
                  refine q_rd (wanted_none rfl) rfl rfl (rd_move (v := .c _) rfl rfl) ?_
                  refine q_rd (wanted_none rfl) rfl rfl (rd_add rfl rfl rfl (wrap_id (k := .i64) (by show _ ∧ _; (first | omega | decide | (dsimp only at *; omega))))) ?_
                  refine q_rd (wanted_none rfl) rfl rfl (rd_assign (v := .c _) rfl rfl) ?_
                  refine seq_nil ?_
                  refine block_norm ?_
                  refine then_norm ?_
                  refine code_region ?_
                  refine q_rd (wanted_none rfl) rfl rfl (rd_move (v := .c _) rfl rfl) ?_
                  refine q_rd (wanted_none rfl) rfl rfl (rd_sub rfl rfl rfl (wrap_id (k := .i64) (by show _ ∧ _; (first | omega | decide | (dsimp only at *; omega))))) ?_
                  refine q_rd (wanted_none rfl) rfl rfl (rd_assign (v := .c _) rfl rfl) ?_
                  refine seq_nil ?_
                  refine then_norm ?_
                  refine ⟨j + 1, ?_, ?_, by first | exact .refl | exact .nest .refl rfl rfl | exact .nest (.nest .refl rfl rfl) rfl rfl | exact .nest (.nest (.nest .refl rfl rfl) rfl rfl) rfl rfl, rfl, ?_, by exact Nat.le_of_ble_eq_true rfl, ?_⟩
                  · refine ⟨by omega, by omega, fun q h1 h2 => ?_⟩
                    by_cases e : q = j + 1
                    · rw [e, ← hx]; omega
                    · exact hq q h1 (by omega)
                  · show n0 - (j + 1) < n0 - j; omega
                  · exact .cons (CEnt.int (by omega)) (.cons (CEnt.int (by show _ = ((cR (l.drop i) c0 j * 64 + bt (l.drop i) (j + 1) - 128 : Nat) : Int); rw [← hx]; omega)) (.cons (CEnt.int (by omega)) .nil))
                  · (repeat (first | exact HEnt.nil | refine HEnt.same ?_ | refine HEnt.blk rfl (fun j hj => by rcases j with _|_|_|_|_|_|_|_|j <;> first | exact CEnt.refl _ | exact CEnt.int (by omega) | omega) ?_))
          · refine code_exit ?_
            refine then_exit ?_
            refine then_exit ?_
            refine block_exit rfl ?_
            refine then_norm ?_
            refine code_seq ?_
            have hjn : j = n0 := by omega
            subst hjn
            obtain ⟨C, hjn⟩ : ∃ C, C = cR (l.drop i) c0 j := ⟨_, rfl⟩
            rw [← hjn] at hcb
            refine code_ent (weaken 4 (.c (.int .i64 (C : Nat))) (CEnt.int (by rw [hjn]))) ?_
            refine code_region ?_
            refine q_rd (wanted_none rfl) rfl rfl (rd_move (v := .c _) rfl rfl) ?_
            refine q_rd (wanted_none rfl) rfl rfl (rd_move (v := .c _) rfl rfl) ?_
            refine q_rd (wanted_none rfl) rfl rfl (rd_lt rfl rfl rfl) ?_
            refine q_rd (wanted_none rfl) rfl rfl (rd_move (v := .c _) rfl rfl) ?_
            first | refine seq_splitD (d := 82) rfl rfl (fun g32 => ?_) (fun g32 => ?_) | refine seq_split (d := 82) rfl rfl (fun g32 => ?_) (fun g32 => ?_)
            · refine q_skip (wanted_is rfl rfl rfl rfl false rfl) rfl rfl ?_
              refine q_skip (wanted_is rfl rfl rfl rfl false rfl) rfl rfl ?_
              refine q_rd (wanted_none rfl) rfl rfl (rd_pickT (v := .c _) rfl rfl rfl) ?_
              refine q_rd (wanted_none rfl) rfl rfl (rd_move (v := .c _) rfl rfl) ?_
              refine q_skip (wanted_is rfl rfl rfl rfl false rfl) rfl rfl ?_
              refine q_skip (wanted_is rfl rfl rfl rfl false rfl) rfl rfl ?_
              refine q_skip (wanted_is rfl rfl rfl rfl false rfl) rfl rfl ?_
              refine q_skip (wanted_undef rfl rfl rfl rfl) rfl rfl ?_
              refine q_skip (wanted_undef rfl rfl rfl rfl) rfl rfl ?_
              refine q_skip (wanted_is rfl rfl rfl rfl false rfl) rfl rfl ?_
              refine q_rd (wanted_none rfl) rfl rfl (rd_pickT (v := .c _) rfl rfl rfl) ?_
              refine seq_nil ?_
              refine then_norm ?_
              refine code_condT rfl ?_
              refine code_seq ?_
              refine code_region ?_
              refine q_rd (wanted_none rfl) rfl rfl (rd_assign (v := .c _) rfl rfl) ?_
              refine seq_nil ?_
              refine then_norm ?_
              refine code_ret ?_
              refine block_ret ?_
              refine then_ret ?_
              refine block_ret ?_
              refine then_ret ?_
              refine end_val (.inl rfl) (res_1 rfl (arv_tmp rfl)) ?_
              refine CEnt.bool ?_
              rw [← he, ref_end hne hR (by rw [List.length_drop]; omega) hq, if_pos (by rw [← hjn]; omega)]
            · refine q_rd (wanted_is rfl rfl rfl rfl true rfl) rfl rfl (rd_move (v := .c _) rfl rfl) ?_
              refine q_rd (wanted_is rfl rfl rfl rfl true rfl) rfl rfl (rd_gt rfl rfl rfl) ?_
              refine q_rd (wanted_none rfl) rfl rfl (rd_pickF (v := .c _) rfl rfl rfl) ?_
              refine q_rd (wanted_none rfl) rfl rfl (rd_move (v := .c _) rfl rfl) ?_
              first | refine seq_splitD (d := 86) rfl rfl (fun g32_2 => ?_) (fun g32_2 => ?_) | refine seq_split (d := 86) rfl rfl (fun g32_2 => ?_) (fun g32_2 => ?_)
              · refine q_skip (wanted_is rfl rfl rfl rfl false rfl) rfl rfl ?_
                refine q_skip (wanted_is rfl rfl rfl rfl false rfl) rfl rfl ?_
                refine q_skip (wanted_is rfl rfl rfl rfl false rfl) rfl rfl ?_
                refine q_skip (wanted_undef rfl rfl rfl rfl) rfl rfl ?_
                refine q_skip (wanted_undef rfl rfl rfl rfl) rfl rfl ?_
                refine q_skip (wanted_is rfl rfl rfl rfl false rfl) rfl rfl ?_
                refine q_rd (wanted_none rfl) rfl rfl (rd_pickT (v := .c _) rfl rfl rfl) ?_
                refine seq_nil ?_
                refine then_norm ?_
                refine code_condT rfl ?_
                refine code_seq ?_
                refine code_region ?_
                refine q_rd (wanted_none rfl) rfl rfl (rd_assign (v := .c _) rfl rfl) ?_
                refine seq_nil ?_
                refine then_norm ?_
                refine code_ret ?_
                refine block_ret ?_
                refine then_ret ?_
                refine block_ret ?_
                refine then_ret ?_
                refine end_val (.inl rfl) (res_1 rfl (arv_tmp rfl)) ?_
                refine CEnt.bool ?_
                rw [← he, ref_end hne hR (by rw [List.length_drop]; omega) hq, if_pos (by rw [← hjn]; omega)]
              · refine q_rd (wanted_is rfl rfl rfl rfl true rfl) rfl rfl (rd_move (v := .c _) rfl rfl) ?_
                refine q_rd (wanted_is rfl rfl rfl rfl true rfl) rfl rfl (rd_ge rfl rfl rfl) ?_
                refine q_rd (wanted_is rfl rfl rfl rfl true rfl) rfl rfl (rd_move (v := .c _) rfl rfl) ?_
                first | refine seq_splitD (d := 89) rfl rfl (fun g32_3 => ?_) (fun g32_3 => ?_) | refine seq_split (d := 89) rfl rfl (fun g32_3 => ?_) (fun g32_3 => ?_)
                · refine q_rd (wanted_is rfl rfl rfl rfl true rfl) rfl rfl (rd_move (v := .c _) rfl rfl) ?_
                  refine q_rd (wanted_is rfl rfl rfl rfl true rfl) rfl rfl (rd_lt rfl rfl rfl) ?_
                  refine q_rd (wanted_is rfl rfl rfl rfl true rfl) rfl rfl (rd_pickT (v := .c _) rfl rfl rfl) ?_
                  refine q_rd (wanted_none rfl) rfl rfl (rd_pickF (v := .c _) rfl rfl rfl) ?_
                  refine seq_nil ?_
                  refine then_norm ?_
                  first | refine code_condSD rfl rfl (fun h32 => ?_) (fun h32 => ?_) | refine code_condS rfl rfl (fun h32 => ?_) (fun h32 => ?_)
                  · refine code_seq ?_
                    refine code_region ?_
                    refine q_rd (wanted_none rfl) rfl rfl (rd_assign (v := .c _) rfl rfl) ?_
                    refine seq_nil ?_
                    refine then_norm ?_
                    refine code_ret ?_
                    refine block_ret ?_
                    refine then_ret ?_
                    refine block_ret ?_
                    refine then_ret ?_
                    refine end_val (.inl rfl) (res_1 rfl (arv_tmp rfl)) ?_
                    refine CEnt.bool ?_
                    rw [← he, ref_end hne hR (by rw [List.length_drop]; omega) hq, if_pos (by rw [← hjn]; omega)]
                  · refine code_skip ?_
                    refine block_norm ?_
                    refine then_norm ?_
                    refine ⟨i + (1 + j), ?_, ?_, by first | exact .refl | exact .nest .refl rfl rfl | exact .nest (.nest .refl rfl rfl) rfl rfl | exact .nest (.nest (.nest .refl rfl rfl) rfl rfl) rfl rfl, rfl, ?_, by exact Nat.le_of_ble_eq_true rfl, ?_⟩
                    · refine ⟨by omega, ?_⟩
                      rw [← he, ref_end hne hR (by rw [List.length_drop]; omega) hq, if_neg (by rw [← hjn]; omega), List.drop_drop]
                    · show l.length - (i + (1 + j)) < l.length - i; omega
                    · exact .cons (CEnt.int (by omega)) .nil
                    · (repeat (first | exact HEnt.nil | refine HEnt.same ?_ | refine HEnt.blk rfl (fun j hj => by rcases j with _|_|_|_|_|_|_|_|j <;> first | exact CEnt.refl _ | exact CEnt.int (by omega) | omega) ?_))
                · refine q_skip (wanted_is rfl rfl rfl rfl false rfl) rfl rfl ?_
                  refine q_skip (wanted_is rfl rfl rfl rfl false rfl) rfl rfl ?_
                  refine q_rd (wanted_is rfl rfl rfl rfl true rfl) rfl rfl (rd_pickF (v := .c _) rfl rfl rfl) ?_
                  refine q_rd (wanted_none rfl) rfl rfl (rd_pickF (v := .c _) rfl rfl rfl) ?_
                  refine seq_nil ?_
                  refine then_norm ?_
                  refine code_condF rfl ?_
                  refine code_skip ?_
                  refine block_norm ?_
                  refine then_norm ?_
                  refine ⟨i + (1 + j), ?_, ?_, by first | exact .refl | exact .nest .refl rfl rfl | exact .nest (.nest .refl rfl rfl) rfl rfl | exact .nest (.nest (.nest .refl rfl rfl) rfl rfl) rfl rfl, rfl, ?_, by exact Nat.le_of_ble_eq_true rfl, ?_⟩
                  · refine ⟨by omega, ?_⟩
                    rw [← he, ref_end hne hR (by rw [List.length_drop]; omega) hq, if_neg (by rw [← hjn]; omega), List.drop_drop]
                  · show l.length - (i + (1 + j)) < l.length - i; omega
                  · exact .cons (CEnt.int (by omega)) .nil
                  · (repeat (first | exact HEnt.nil | refine HEnt.same ?_ | refine HEnt.blk rfl (fun j hj => by rcases j with _|_|_|_|_|_|_|_|j <;> first | exact CEnt.refl _ | exact CEnt.int (by omega) | omega) ?_))
    · refine code_exit ?_
      refine then_exit ?_
      refine then_exit ?_
      refine block_exit rfl ?_
      refine then_norm ?_
      refine code_seq ?_
      refine code_region ?_
      refine q_rd (wanted_none rfl) rfl rfl (rd_assign (v := .c _) rfl rfl) ?_
      refine seq_nil ?_
      refine then_norm ?_
      refine code_ret ?_
      refine end_val (.inl rfl) (res_1 rfl (arv_tmp rfl)) ?_
      refine CEnt.bool ?_
      rw [← he, List.drop_eq_nil_of_le (by omega)]
      rfl
end Am
end Go.Proofs.YtndbjkapdmpbbaaDoor
