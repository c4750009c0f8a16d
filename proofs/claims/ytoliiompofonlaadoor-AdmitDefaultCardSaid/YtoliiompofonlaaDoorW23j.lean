
/- Chapter 23: requests by the reference. -/
import Derived.Test.YtoliiompofonlaaDoorW23i
namespace Go.Proofs.YtoliiompofonlaaDoor
set_option linter.unusedVariables false
namespace Am
variable {gs : List Nat} [OkG gs]
open Go.RowKit
set_option maxRecDepth 100000

section
variable {P : Program} {G : Gh} {s : AS} {o : Oper} {x y : Operand} {t u : TypeId}
theorem rd_leS {a b : ByteArray} (ho : o.op = .binOp .leq t x y u) (hx : s.eval x = .c (.string a)) (hy : s.eval y = .c (.string b)) : ARd P G o s (.c (.bool (Op.bytesLess a.toList b.toList || a.toList == b.toList))) :=
  rd_bin ho hx hy fun W => by simp [binS, eqG_str, binOp, Op.stringOp]
theorem rd_leL {a b : List UInt8} (ho : o.op = .binOp .leq t x y u) (hx : s.eval x = strC a) (hy : s.eval y = strC b) : ARd P G o s (.c (.bool (Op.bytesLess a b || a == b))) := by
  have := rd_leS (P := P) (G := G) ho hx hy
  rwa [ba_toList, ba_toList] at this
end
theorem hex_iff (c : UInt8) : 0 ≤ Lib.indexByte hexL c ↔ (48 ≤ c.toNat ∧ c.toNat ≤ 57) ∨ (97 ≤ c.toNat ∧ c.toNat ≤ 102) := by
  have h : ∀ n : Fin 256, decide (0 ≤ Lib.indexByte hexL (UInt8.ofNat n.val)) = (decide (48 ≤ n.val) && decide (n.val ≤ 57) || decide (97 ≤ n.val) && decide (n.val ≤ 102)) := by decide +kernel
  have h1 := h ⟨c.toNat, c.toNat_lt⟩
  rw [show UInt8.ofNat (⟨c.toNat, c.toNat_lt⟩ : Fin 256).val = c from UInt8.ofNat_toNat] at h1
  by_cases e : 0 ≤ Lib.indexByte hexL c
  · rw [decide_eq_true e] at h1
    have := h1.symm
    simp only [Bool.or_eq_true, Bool.and_eq_true, decide_eq_true_eq] at this
    exact ⟨fun _ => this, fun _ => e⟩
  · rw [decide_eq_false e] at h1
    have := h1.symm
    simp only [Bool.or_eq_false_iff, Bool.and_eq_false_iff, decide_eq_false_iff_not] at this
    exact ⟨fun h => absurd h e, fun h => by omega⟩
set_option maxHeartbeats 1000000 in
theorem rbytes_ac {gs : List Nat} (l : List UInt8) (hl : l.length ≤ 1000000) : ACp gs Tryd.prog 149 [strC l] (.tup 2 (fl [.top, .c (.bool (hexOk l))])) := by
  refine ac_of 59 Tryd.func149 rfl rfl rfl (fun al w0 F0 St0 => ?_)
  refine code_seq ?_
  refine code_region ?_
  first | refine q_rd (wanted_none rfl) rfl rfl (rd_assign (v := bsC _) rfl rfl) ?_ | refine q_rd (wanted_none rfl) rfl rfl (rd_assign (v := .rs _ _ _) rfl rfl) ?_ | refine q_rd (wanted_none rfl) rfl rfl (rd_assign (v := .os _ _ _ _ _) rfl rfl) ?_ | refine q_rd (wanted_none rfl) rfl rfl (rd_assign (v := .c _) rfl rfl) ?_ | refine q_rd (wanted_none rfl) rfl rfl (rd_assign (v := .pv _) rfl rfl) ?_ | refine q_rd (wanted_none rfl) rfl rfl (rd_assign (v := .top) rfl rfl) ?_
  refine q_rd (wanted_none rfl) rfl rfl (rd_assign (v := .c _) rfl rfl) ?_
  refine seq_nil ?_
  refine then_norm ?_
  refine code_seq ?_
  refine code_region ?_
  refine seq_ex (wanted_none rfl) (e_buildSlice (n := 0) rfl Tryd.underlying63 sz5 zr5 rfl rfl rfl rfl rfl rfl rfl (fun p1 => ?_))
  first | refine q_rd (wanted_none rfl) rfl rfl (rd_assign (v := bsC _) rfl rfl) ?_ | refine q_rd (wanted_none rfl) rfl rfl (rd_assign (v := .rs _ _ _) rfl rfl) ?_ | refine q_rd (wanted_none rfl) rfl rfl (rd_assign (v := .os _ _ _ _ _) rfl rfl) ?_ | refine q_rd (wanted_none rfl) rfl rfl (rd_assign (v := .c _) rfl rfl) ?_ | refine q_rd (wanted_none rfl) rfl rfl (rd_assign (v := .pv _) rfl rfl) ?_ | refine q_rd (wanted_none rfl) rfl rfl (rd_assign (v := .top) rfl rfl) ?_
  refine seq_nil ?_
  refine then_norm ?_
  refine code_seq ?_
  refine code_seq ?_
  refine code_region ?_
  refine q_rd (wanted_none rfl) rfl rfl (rd_assign (v := .c _) rfl rfl) ?_
  refine seq_nil ?_
  refine then_norm ?_
  refine code_block ?_
  refine l_loop (α := Nat × List UInt8 × Option Nat) [2, 3, 4, 5, 6, 7, 9, 10, 11, 12, 13, 14, 15, 16, 17, 18, 19, 20, 21, 22, 23, 24, 25, 26, 27, 28, 29, 30, 31, 32, 33, 34, 35, 36, 37, 38, 39, 40, 41, 42, 43, 44, 45, 46, 47, 48, 49, 50, 51, 52, 53, 54] (fun (i, X, g) => [(5, .c (.int .i64 (i : Nat))), (4, .os 0 g 0 X.length 1)]) (fun (i, X, g) => [(g, .blk X.length (byF X))]) (fun (i, X, g) => i ≤ l.length ∧ X.length = (i + 1) / 2 ∧ ∀ j, j < i → 0 ≤ Lib.indexByte hexL (l.getD j 0)) (fun (i, X, g) => l.length - i) ((0, [], p1)) ?_ (fun _ => rfl) ?_ ?_ ?_
  · exact ⟨Nat.zero_le _, rfl, fun j hj => absurd hj (Nat.not_lt_zero j)⟩
  · exact .cons (CEnt.refl _) (.cons (CEnt.refl _) .nil)
  · exact .blk rfl (fun j hj => absurd hj (Nat.not_lt_zero j)) .nil
  · rintro ⟨i, X, g⟩ ⟨(hi : i ≤ l.length), (hXl : X.length = (i + 1) / 2), he⟩
    refine code_seq ?_
    refine code_seq ?_
    refine code_region ?_
    refine q_rd (wanted_none rfl) rfl rfl (rd_move (v := .c _) rfl rfl) ?_
    refine q_rd (wanted_none rfl) rfl rfl (rd_move (v := .c _) rfl rfl) ?_
    refine q_rd (wanted_none rfl) rfl rfl (rd_lenL rfl rfl Tryd.underlying9) ?_
    refine q_rd (wanted_none rfl) rfl rfl (rd_lt rfl rfl rfl) ?_
    refine seq_nil ?_
    refine then_norm ?_
    first | refine code_condSD rfl rfl (fun h69 => ?_) (fun h69 => ?_) | refine code_condS rfl rfl (fun h69 => ?_) (fun h69 => ?_)
    · refine code_skip ?_
      refine then_norm ?_
      refine code_seq ?_
      refine code_block ?_
      refine code_seq ?_
      refine code_region ?_
      refine q_rd (wanted_none rfl) rfl rfl (rd_move (v := .c _) rfl rfl) ?_
      refine q_rd (wanted_none rfl) rfl rfl (rd_move (v := .c _) rfl rfl) ?_
      first | refine q_rd (wanted_none rfl) rfl rfl (rd_indexL rfl rfl rfl Tryd.underlying9 rfl (by (first | omega | decide | (dsimp only at *; omega)))) ?_ | refine q_rd (wanted_none rfl) rfl rfl (rd_indexL rfl rfl rfl Tryd.underlying9 (natI (by omega)) (by (first | omega | decide | (dsimp only at *; omega)))) ?_
      refine q_rd (wanted_none rfl) rfl rfl (rd_assign (v := .c _) rfl rfl) ?_
      refine seq_nil ?_
      refine then_norm ?_
      refine code_seq ?_
      refine code_region ?_
      refine q_rd (wanted_none rfl) rfl rfl (rd_assign (v := .c _) rfl rfl) ?_
      refine seq_nil ?_
      refine then_norm ?_
      refine code_join (α := Nat) [2, 3, 7, 18, 19, 20, 21, 22, 23, 24, 25, 26, 27, 28, 29, 30, 31, 32, 33, 34, 35, 36] (fun n => [(7, .c (.int .i64 (n : Nat)))]) (fun n => [(g, .blk X.length (byF X))]) (fun n => n < 16 ∧ 0 ≤ Lib.indexByte hexL (l.getD i 0)) (fun _ => rfl) ?_ ?_
      · refine code_seq ?_
        refine code_region ?_
        refine q_rd (wanted_none rfl) rfl rfl (rd_move (v := .c _) rfl rfl) ?_
        refine q_rd (wanted_none rfl) rfl rfl (rd_ge rfl rfl rfl) ?_
        refine q_rd (wanted_none rfl) rfl rfl (rd_move (v := .c _) rfl rfl) ?_
        first | refine seq_splitD (d := 20) rfl rfl (fun g72 => ?_) (fun g72 => ?_) | refine seq_split (d := 20) rfl rfl (fun g72 => ?_) (fun g72 => ?_)
        · refine q_rd (wanted_is rfl rfl rfl rfl true rfl) rfl rfl (rd_move (v := .c _) rfl rfl) ?_
          refine q_rd (wanted_is rfl rfl rfl rfl true rfl) rfl rfl (rd_le rfl rfl rfl) ?_
          refine q_rd (wanted_none rfl) rfl rfl (rd_pickT (v := .c _) rfl rfl rfl) ?_
          refine seq_nil ?_
          refine then_norm ?_
          first | refine code_condSD rfl rfl (fun h72 => ?_) (fun h72 => ?_) | refine code_condS rfl rfl (fun h72 => ?_) (fun h72 => ?_)
          · refine code_region ?_
            refine q_rd (wanted_none rfl) rfl rfl (rd_move (v := .c _) rfl rfl) ?_
            refine q_rd (wanted_none rfl) rfl rfl (rd_sub rfl rfl rfl (wrap_id (k := .u8) (by show _ ∧ _; (first | omega | decide | (dsimp only at *; omega))))) ?_
            first | refine q_rd (wanted_none rfl) rfl rfl (rd_conv8 rfl rfl Tryd.underlying5 Tryd.underlying3 rfl) ?_ | refine q_rd (wanted_none rfl) rfl rfl (rd_convI rfl rfl Tryd.underlying5 Tryd.underlying3 _ (wrap_id (k := .i64) (by show _ ∧ _; (first | omega | decide | (dsimp only at *; omega))))) ?_ | refine q_rd (wanted_none rfl) rfl rfl (rd_convI rfl rfl Tryd.underlying5 Tryd.underlying3 _ rfl) ?_
            refine q_rd (wanted_none rfl) rfl rfl (rd_assign (v := .c _) rfl rfl) ?_
            refine seq_nil ?_
            refine then_norm ?_
            refine ⟨((l.getD i 0).toNat - 48), ?_, by first | exact .refl | exact .nest .refl rfl rfl | exact .nest (.nest .refl rfl rfl) rfl rfl | exact .nest (.nest (.nest .refl rfl rfl) rfl rfl) rfl rfl | (repeat (first | exact .refl | refine .nest ?_ rfl rfl | refine BLe.look2 ?_ rfl)), rfl, ?_, by exact Nat.le_of_ble_eq_true rfl, ?_⟩
            · exact ⟨by omega, (hex_iff _).2 (by omega)⟩
            · exact .cons (CEnt.int (by omega)) .nil
            · exact .same .nil
          · refine code_seq ?_
            refine code_region ?_
            refine q_rd (wanted_none rfl) rfl rfl (rd_move (v := .c _) rfl rfl) ?_
            refine q_rd (wanted_none rfl) rfl rfl (rd_ge rfl rfl rfl) ?_
            refine q_rd (wanted_none rfl) rfl rfl (rd_move (v := .c _) rfl rfl) ?_
            first | refine seq_splitD (d := 29) rfl rfl (fun g74 => ?_) (fun g74 => ?_) | refine seq_split (d := 29) rfl rfl (fun g74 => ?_) (fun g74 => ?_)
            · refine q_rd (wanted_is rfl rfl rfl rfl true rfl) rfl rfl (rd_move (v := .c _) rfl rfl) ?_
              refine q_rd (wanted_is rfl rfl rfl rfl true rfl) rfl rfl (rd_le rfl rfl rfl) ?_
              refine q_rd (wanted_none rfl) rfl rfl (rd_pickT (v := .c _) rfl rfl rfl) ?_
              refine seq_nil ?_
              refine then_norm ?_
              first | refine code_condSD rfl rfl (fun h74 => ?_) (fun h74 => ?_) | refine code_condS rfl rfl (fun h74 => ?_) (fun h74 => ?_)
              · refine code_region ?_
                refine q_rd (wanted_none rfl) rfl rfl (rd_move (v := .c _) rfl rfl) ?_
                refine q_rd (wanted_none rfl) rfl rfl (rd_sub rfl rfl rfl (wrap_id (k := .u8) (by show _ ∧ _; (first | omega | decide | (dsimp only at *; omega))))) ?_
                first | refine q_rd (wanted_none rfl) rfl rfl (rd_conv8 rfl rfl Tryd.underlying5 Tryd.underlying3 rfl) ?_ | refine q_rd (wanted_none rfl) rfl rfl (rd_convI rfl rfl Tryd.underlying5 Tryd.underlying3 _ (wrap_id (k := .i64) (by show _ ∧ _; (first | omega | decide | (dsimp only at *; omega))))) ?_ | refine q_rd (wanted_none rfl) rfl rfl (rd_convI rfl rfl Tryd.underlying5 Tryd.underlying3 _ rfl) ?_
                refine q_rd (wanted_none rfl) rfl rfl (rd_add rfl rfl rfl (wrap_id (k := .i64) (by show _ ∧ _; (first | omega | decide | (dsimp only at *; omega))))) ?_
                refine q_rd (wanted_none rfl) rfl rfl (rd_assign (v := .c _) rfl rfl) ?_
                refine seq_nil ?_
                refine then_norm ?_
                refine ⟨((l.getD i 0).toNat - 97 + 10), ?_, by first | exact .refl | exact .nest .refl rfl rfl | exact .nest (.nest .refl rfl rfl) rfl rfl | exact .nest (.nest (.nest .refl rfl rfl) rfl rfl) rfl rfl | (repeat (first | exact .refl | refine .nest ?_ rfl rfl | refine BLe.look2 ?_ rfl)), rfl, ?_, by exact Nat.le_of_ble_eq_true rfl, ?_⟩
                · exact ⟨by omega, (hex_iff _).2 (by omega)⟩
                · exact .cons (CEnt.int (by omega)) .nil
                · exact .same .nil
              · refine code_seq ?_
                refine code_region ?_
                first | refine q_rd (wanted_none rfl) rfl rfl (rd_assign (v := bsC _) rfl rfl) ?_ | refine q_rd (wanted_none rfl) rfl rfl (rd_assign (v := .rs _ _ _) rfl rfl) ?_ | refine q_rd (wanted_none rfl) rfl rfl (rd_assign (v := .os _ _ _ _ _) rfl rfl) ?_ | refine q_rd (wanted_none rfl) rfl rfl (rd_assign (v := .c _) rfl rfl) ?_ | refine q_rd (wanted_none rfl) rfl rfl (rd_assign (v := .pv _) rfl rfl) ?_ | refine q_rd (wanted_none rfl) rfl rfl (rd_assign (v := .top) rfl rfl) ?_
                refine q_rd (wanted_none rfl) rfl rfl (rd_assign (v := .c _) rfl rfl) ?_
                refine seq_nil ?_
                refine then_norm ?_
                refine code_ret ?_
                refine then_ret ?_
                refine block_ret ?_
                refine then_ret ?_
                refine then_ret ?_
                refine block_ret ?_
                refine then_ret ?_
                refine end_val (.inl rfl) (res_2 rfl (arv_tmp rfl) (arv_tmp rfl)) ?_
                refine CEnt.tup2 (CEnt.top _) (CEnt.bool ?_)
                exact (hex_bad (i := i) (by omega) (by have := (hex_iff (l.getD i 0)); omega)).symm
            · refine q_skip (wanted_is rfl rfl rfl rfl false rfl) rfl rfl ?_
              refine q_skip (wanted_is rfl rfl rfl rfl false rfl) rfl rfl ?_
              refine q_rd (wanted_none rfl) rfl rfl (rd_pickF (v := .c _) rfl rfl rfl) ?_
              refine seq_nil ?_
              refine then_norm ?_
              refine code_condF rfl ?_
              refine code_seq ?_
              refine code_region ?_
              first | refine q_rd (wanted_none rfl) rfl rfl (rd_assign (v := bsC _) rfl rfl) ?_ | refine q_rd (wanted_none rfl) rfl rfl (rd_assign (v := .rs _ _ _) rfl rfl) ?_ | refine q_rd (wanted_none rfl) rfl rfl (rd_assign (v := .os _ _ _ _ _) rfl rfl) ?_ | refine q_rd (wanted_none rfl) rfl rfl (rd_assign (v := .c _) rfl rfl) ?_ | refine q_rd (wanted_none rfl) rfl rfl (rd_assign (v := .pv _) rfl rfl) ?_ | refine q_rd (wanted_none rfl) rfl rfl (rd_assign (v := .top) rfl rfl) ?_
              refine q_rd (wanted_none rfl) rfl rfl (rd_assign (v := .c _) rfl rfl) ?_
              refine seq_nil ?_
              refine then_norm ?_
              refine code_ret ?_
              refine then_ret ?_
              refine block_ret ?_
              refine then_ret ?_
              refine then_ret ?_
              refine block_ret ?_
              refine then_ret ?_
              refine end_val (.inl rfl) (res_2 rfl (arv_tmp rfl) (arv_tmp rfl)) ?_
              refine CEnt.tup2 (CEnt.top _) (CEnt.bool ?_)
              exact (hex_bad (i := i) (by omega) (by have := (hex_iff (l.getD i 0)); omega)).symm
        · refine q_skip (wanted_is rfl rfl rfl rfl false rfl) rfl rfl ?_
          refine q_skip (wanted_is rfl rfl rfl rfl false rfl) rfl rfl ?_
          refine q_rd (wanted_none rfl) rfl rfl (rd_pickF (v := .c _) rfl rfl rfl) ?_
          refine seq_nil ?_
          refine then_norm ?_
          refine code_condF rfl ?_
          refine code_seq ?_
          refine code_region ?_
          refine q_rd (wanted_none rfl) rfl rfl (rd_move (v := .c _) rfl rfl) ?_
          refine q_rd (wanted_none rfl) rfl rfl (rd_ge rfl rfl rfl) ?_
          refine q_rd (wanted_none rfl) rfl rfl (rd_move (v := .c _) rfl rfl) ?_
          first | refine seq_splitD (d := 29) rfl rfl (fun g74 => ?_) (fun g74 => ?_) | refine seq_split (d := 29) rfl rfl (fun g74 => ?_) (fun g74 => ?_)
          · refine q_rd (wanted_is rfl rfl rfl rfl true rfl) rfl rfl (rd_move (v := .c _) rfl rfl) ?_
            refine q_rd (wanted_is rfl rfl rfl rfl true rfl) rfl rfl (rd_le rfl rfl rfl) ?_
            refine q_rd (wanted_none rfl) rfl rfl (rd_pickT (v := .c _) rfl rfl rfl) ?_
            refine seq_nil ?_
            refine then_norm ?_
            first | refine code_condSD rfl rfl (fun h74 => ?_) (fun h74 => ?_) | refine code_condS rfl rfl (fun h74 => ?_) (fun h74 => ?_)
            · refine code_region ?_
              refine q_rd (wanted_none rfl) rfl rfl (rd_move (v := .c _) rfl rfl) ?_
              refine q_rd (wanted_none rfl) rfl rfl (rd_sub rfl rfl rfl (wrap_id (k := .u8) (by show _ ∧ _; (first | omega | decide | (dsimp only at *; omega))))) ?_
              first | refine q_rd (wanted_none rfl) rfl rfl (rd_conv8 rfl rfl Tryd.underlying5 Tryd.underlying3 rfl) ?_ | refine q_rd (wanted_none rfl) rfl rfl (rd_convI rfl rfl Tryd.underlying5 Tryd.underlying3 _ (wrap_id (k := .i64) (by show _ ∧ _; (first | omega | decide | (dsimp only at *; omega))))) ?_ | refine q_rd (wanted_none rfl) rfl rfl (rd_convI rfl rfl Tryd.underlying5 Tryd.underlying3 _ rfl) ?_
              refine q_rd (wanted_none rfl) rfl rfl (rd_add rfl rfl rfl (wrap_id (k := .i64) (by show _ ∧ _; (first | omega | decide | (dsimp only at *; omega))))) ?_
              refine q_rd (wanted_none rfl) rfl rfl (rd_assign (v := .c _) rfl rfl) ?_
              refine seq_nil ?_
              refine then_norm ?_
              refine ⟨((l.getD i 0).toNat - 97 + 10), ?_, by first | exact .refl | exact .nest .refl rfl rfl | exact .nest (.nest .refl rfl rfl) rfl rfl | exact .nest (.nest (.nest .refl rfl rfl) rfl rfl) rfl rfl | (repeat (first | exact .refl | refine .nest ?_ rfl rfl | refine BLe.look2 ?_ rfl)), rfl, ?_, by exact Nat.le_of_ble_eq_true rfl, ?_⟩
              · exact ⟨by omega, (hex_iff _).2 (by omega)⟩
              · exact .cons (CEnt.int (by omega)) .nil
              · exact .same .nil
            · refine code_seq ?_
              refine code_region ?_
              first | refine q_rd (wanted_none rfl) rfl rfl (rd_assign (v := bsC _) rfl rfl) ?_ | refine q_rd (wanted_none rfl) rfl rfl (rd_assign (v := .rs _ _ _) rfl rfl) ?_ | refine q_rd (wanted_none rfl) rfl rfl (rd_assign (v := .os _ _ _ _ _) rfl rfl) ?_ | refine q_rd (wanted_none rfl) rfl rfl (rd_assign (v := .c _) rfl rfl) ?_ | refine q_rd (wanted_none rfl) rfl rfl (rd_assign (v := .pv _) rfl rfl) ?_ | refine q_rd (wanted_none rfl) rfl rfl (rd_assign (v := .top) rfl rfl) ?_
              refine q_rd (wanted_none rfl) rfl rfl (rd_assign (v := .c _) rfl rfl) ?_
              refine seq_nil ?_
              refine then_norm ?_
              refine code_ret ?_
              refine then_ret ?_
              refine block_ret ?_
              refine then_ret ?_
              refine then_ret ?_
              refine block_ret ?_
              refine then_ret ?_
              refine end_val (.inl rfl) (res_2 rfl (arv_tmp rfl) (arv_tmp rfl)) ?_
              refine CEnt.tup2 (CEnt.top _) (CEnt.bool ?_)
              exact (hex_bad (i := i) (by omega) (by have := (hex_iff (l.getD i 0)); omega)).symm
          · refine q_skip (wanted_is rfl rfl rfl rfl false rfl) rfl rfl ?_
            refine q_skip (wanted_is rfl rfl rfl rfl false rfl) rfl rfl ?_
            refine q_rd (wanted_none rfl) rfl rfl (rd_pickF (v := .c _) rfl rfl rfl) ?_
            refine seq_nil ?_
            refine then_norm ?_
            refine code_condF rfl ?_
            refine code_seq ?_
            refine code_region ?_
            first | refine q_rd (wanted_none rfl) rfl rfl (rd_assign (v := bsC _) rfl rfl) ?_ | refine q_rd (wanted_none rfl) rfl rfl (rd_assign (v := .rs _ _ _) rfl rfl) ?_ | refine q_rd (wanted_none rfl) rfl rfl (rd_assign (v := .os _ _ _ _ _) rfl rfl) ?_ | refine q_rd (wanted_none rfl) rfl rfl (rd_assign (v := .c _) rfl rfl) ?_ | refine q_rd (wanted_none rfl) rfl rfl (rd_assign (v := .pv _) rfl rfl) ?_ | refine q_rd (wanted_none rfl) rfl rfl (rd_assign (v := .top) rfl rfl) ?_
            refine q_rd (wanted_none rfl) rfl rfl (rd_assign (v := .c _) rfl rfl) ?_
            refine seq_nil ?_
            refine then_norm ?_
            refine code_ret ?_
            refine then_ret ?_
            refine block_ret ?_
            refine then_ret ?_
            refine then_ret ?_
            refine block_ret ?_
            refine then_ret ?_
            refine end_val (.inl rfl) (res_2 rfl (arv_tmp rfl) (arv_tmp rfl)) ?_
            refine CEnt.tup2 (CEnt.top _) (CEnt.bool ?_)
            exact (hex_bad (i := i) (by omega) (by have := (hex_iff (l.getD i 0)); omega)).symm
      · rintro n ⟨hn1, hn2⟩
        refine code_seq ?_
        refine code_region ?_
        refine q_rd (wanted_none rfl) rfl rfl (rd_move (v := .c _) rfl rfl) ?_
        first | refine q_rd (wanted_none rfl) rfl rfl (rd_rem rfl rfl rfl (by (first | omega | decide | (dsimp only at *; omega))) (by (first | omega | decide | (dsimp only at *; omega)))) ?_ | refine q_rd (wanted_none rfl) rfl rfl (rd_remT rfl rfl rfl (by (first | omega | decide | (dsimp only at *; omega)))) ?_
        refine q_rd (wanted_none rfl) rfl rfl (rd_eqI rfl rfl rfl) ?_
        refine seq_nil ?_
        refine then_norm ?_
        first | refine code_condSD rfl rfl (fun h79 => ?_) (fun h79 => ?_) | refine code_condS rfl rfl (fun h79 => ?_) (fun h79 => ?_)
        · refine code_region ?_
          first | refine q_rd (wanted_none rfl) rfl rfl (rd_move (v := bsC _) rfl rfl) ?_ | refine q_rd (wanted_none rfl) rfl rfl (rd_move (v := .rs _ _ _) rfl rfl) ?_ | refine q_rd (wanted_none rfl) rfl rfl (rd_move (v := .os _ _ _ _ _) rfl rfl) ?_ | refine q_rd (wanted_none rfl) rfl rfl (rd_move (v := .c _) rfl rfl) ?_ | refine q_rd (wanted_none rfl) rfl rfl (rd_move (v := .pv _) rfl rfl) ?_ | refine q_rd (wanted_none rfl) rfl rfl (rd_move (v := .top) rfl rfl) ?_
          refine q_rd (wanted_none rfl) rfl rfl (rd_move (v := .c _) rfl rfl) ?_
          refine q_rd (wanted_none rfl) rfl rfl (rd_mul rfl rfl rfl (wrap_id (k := .i64) (by show _ ∧ _; (first | omega | decide | (dsimp only at *; omega))))) ?_
          first | refine q_rd (wanted_none rfl) rfl rfl (rd_convI rfl rfl Tryd.underlying3 Tryd.underlying5 _ (wrap_id (k := .u8) (by show _ ∧ _; (first | omega | decide | (dsimp only at *; omega))))) ?_ | refine q_rd (wanted_none rfl) rfl rfl (rd_convI rfl rfl Tryd.underlying3 Tryd.underlying5 _ rfl) ?_
          refine seq_ex (wanted_none rfl) (e_buildSlice (n := 1) rfl Tryd.underlying63 sz5 zr5 rfl rfl rfl rfl rfl rfl rfl (fun p2 => ?_))
          refine seq_md (wanted_none rfl) (m_appendB (l2 := [UInt8.ofNat (16 * n)]) rfl rfl rfl (Nat.le_refl _) (fun _ _ => CEnt.refl _) (src_os rfl (.inl rfl) (by decide)) rfl (hh_bytes (.cons (CEnt.int (by rw [UInt8.toNat_ofNat']; omega)) .nil)) Tryd.underlying63 nu63 sz5 zr5 by5 rfl (by first | omega | (simp; done) | (simp; omega) | (simp at *; omega)) (leaf_fl rfl rfl) rfl rfl (fun p3 => ?_))
          first | refine q_rd (wanted_none rfl) rfl rfl (rd_assign (v := bsC _) rfl rfl) ?_ | refine q_rd (wanted_none rfl) rfl rfl (rd_assign (v := .rs _ _ _) rfl rfl) ?_ | refine q_rd (wanted_none rfl) rfl rfl (rd_assign (v := .os _ _ _ _ _) rfl rfl) ?_ | refine q_rd (wanted_none rfl) rfl rfl (rd_assign (v := .c _) rfl rfl) ?_ | refine q_rd (wanted_none rfl) rfl rfl (rd_assign (v := .pv _) rfl rfl) ?_ | refine q_rd (wanted_none rfl) rfl rfl (rd_assign (v := .top) rfl rfl) ?_
          refine seq_nil ?_
          refine block_norm ?_
          refine then_norm ?_
          refine code_region ?_
          refine q_rd (wanted_none rfl) rfl rfl (rd_move (v := .c _) rfl rfl) ?_
          refine q_rd (wanted_none rfl) rfl rfl (rd_add rfl rfl rfl (wrap_id (k := .i64) (by show _ ∧ _; (first | omega | decide | (dsimp only at *; omega))))) ?_
          refine q_rd (wanted_none rfl) rfl rfl (rd_assign (v := .c _) rfl rfl) ?_
          refine seq_nil ?_
          refine then_norm ?_
          refine ⟨(i + 1, X ++ [UInt8.ofNat (16 * n)], p3), ?_, ?_, by first | exact .refl | exact .nest .refl rfl rfl | exact .nest (.nest .refl rfl rfl) rfl rfl | exact .nest (.nest (.nest .refl rfl rfl) rfl rfl) rfl rfl | (repeat (first | exact .refl | refine .nest ?_ rfl rfl | refine BLe.look2 ?_ rfl)), rfl, ?_, by exact Nat.le_of_ble_eq_true rfl, ?_⟩
          · exact ⟨show i + 1 ≤ l.length by omega, (by simp [hXl]; omega), fun j hj => by
              by_cases e : j = i
              · subst e; exact hn2
              · exact he j (by omega)⟩
          · show l.length - (i + 1) < l.length - i; omega
          · exact .cons (CEnt.int (by show _ = ((i + 1 : Nat) : Int); omega)) (.cons (CEnt.refl _) .nil)
          · exact .same .nil
        · refine code_region ?_
          first | refine q_rd (wanted_none rfl) rfl rfl (rd_move (v := bsC _) rfl rfl) ?_ | refine q_rd (wanted_none rfl) rfl rfl (rd_move (v := .rs _ _ _) rfl rfl) ?_ | refine q_rd (wanted_none rfl) rfl rfl (rd_move (v := .os _ _ _ _ _) rfl rfl) ?_ | refine q_rd (wanted_none rfl) rfl rfl (rd_move (v := .c _) rfl rfl) ?_ | refine q_rd (wanted_none rfl) rfl rfl (rd_move (v := .pv _) rfl rfl) ?_ | refine q_rd (wanted_none rfl) rfl rfl (rd_move (v := .top) rfl rfl) ?_
          refine q_rd (wanted_none rfl) rfl rfl (rd_move (v := .c _) rfl rfl) ?_
          first | refine q_rd (wanted_none rfl) rfl rfl (rd_quo rfl rfl rfl (by (first | omega | decide | (dsimp only at *; omega))) (by (first | omega | decide | (dsimp only at *; omega))) (wrap_id (k := .i64) (by show _ ∧ _; (first | omega | decide | (dsimp only at *; omega))))) ?_ | refine q_rd (wanted_none rfl) rfl rfl (rd_quoT rfl rfl rfl (by (first | omega | decide | (dsimp only at *; omega))) _ rfl) ?_
          first | refine q_rd (wanted_none rfl) rfl rfl (rd_iaddrR rfl rfl rfl Tryd.underlying63 sz5 (show _ = (((i / 2) : Nat) : Int) by first | omega | (simp only [List.length_append, List.length_cons, List.length_nil]; omega)) (by (first | omega | decide | (dsimp only at *; omega))) (by decide)) ?_ | refine q_rd (wanted_none rfl) rfl rfl (rd_iaddrO1 rfl rfl rfl Tryd.underlying63 sz5 (show _ = (((i / 2) : Nat) : Int) by first | omega | (simp only [List.length_append, List.length_cons, List.length_nil]; omega)) (by (first | omega | decide | (dsimp only at *; omega)))) ?_ | refine q_rd (wanted_none rfl) rfl rfl (rd_iaddrO rfl rfl rfl Tryd.underlying63 sz5 (show _ = (((i / 2) : Nat) : Int) by first | omega | (simp only [List.length_append, List.length_cons, List.length_nil]; omega)) (by (first | omega | decide | (dsimp only at *; omega)))) ?_
          first | refine q_rdO (wanted_none rfl) rfl rfl (rd_loadO (v := .c _) rfl rfl (.inl rfl) Tryd.underlying5 ag5 (by first | decide | (first | omega | decide | (dsimp only at *; omega))) rfl) ?_ | refine q_rd (wanted_none rfl) rfl rfl (rd_loadR (v := .c _) rfl rfl Tryd.underlying5 ag5 (by first | decide | (first | omega | decide | (dsimp only at *; omega))) rfl) ?_ | refine q_rdO (wanted_none rfl) rfl rfl (rd_loadO (v := .c _) rfl rfl (.inr rfl) Tryd.underlying5 ag5 (by first | decide | (first | omega | decide | (dsimp only at *; omega))) rfl) ?_
          refine q_rd (wanted_none rfl) rfl rfl (rd_move (v := .c _) rfl rfl) ?_
          first | refine q_rd (wanted_none rfl) rfl rfl (rd_convI rfl rfl Tryd.underlying3 Tryd.underlying5 _ (wrap_id (k := .u8) (by show _ ∧ _; (first | omega | decide | (dsimp only at *; omega))))) ?_ | refine q_rd (wanted_none rfl) rfl rfl (rd_convI rfl rfl Tryd.underlying3 Tryd.underlying5 _ rfl) ?_
          refine q_rd (wanted_none rfl) rfl rfl (rd_addW rfl rfl rfl ((((X.getD (i / 2) 0 + UInt8.ofNat n).toNat : Nat) : Int)) (by rw [IntKind.wrap_u8, UInt8.toNat_add, UInt8.toNat_ofNat']; omega)) ?_
          first | refine q_rd (wanted_none rfl) rfl rfl (rd_iaddrR rfl rfl rfl Tryd.underlying63 sz5 (show _ = (((i / 2) : Nat) : Int) by first | omega | (simp only [List.length_append, List.length_cons, List.length_nil]; omega)) (by (first | omega | decide | (dsimp only at *; omega))) (by decide)) ?_ | refine q_rd (wanted_none rfl) rfl rfl (rd_iaddrO1 rfl rfl rfl Tryd.underlying63 sz5 (show _ = (((i / 2) : Nat) : Int) by first | omega | (simp only [List.length_append, List.length_cons, List.length_nil]; omega)) (by (first | omega | decide | (dsimp only at *; omega)))) ?_ | refine q_rd (wanted_none rfl) rfl rfl (rd_iaddrO rfl rfl rfl Tryd.underlying63 sz5 (show _ = (((i / 2) : Nat) : Int) by first | omega | (simp only [List.length_append, List.length_cons, List.length_nil]; omega)) (by (first | omega | decide | (dsimp only at *; omega)))) ?_
          refine seq_md (wanted_none rfl) (m_store rfl rfl rfl rfl rfl sz5 rfl rfl (by first | decide | (first | omega | decide | (dsimp only at *; omega))) (byF (X.set (i / 2) (X.getD (i / 2) 0 + UInt8.ofNat n))) (fun j hj => upd_byte rfl (by omega) j) rfl ?_)
          refine seq_nil ?_
          refine block_norm ?_
          refine then_norm ?_
          refine code_region ?_
          refine q_rd (wanted_none rfl) rfl rfl (rd_move (v := .c _) rfl rfl) ?_
          refine q_rd (wanted_none rfl) rfl rfl (rd_add rfl rfl rfl (wrap_id (k := .i64) (by show _ ∧ _; (first | omega | decide | (dsimp only at *; omega))))) ?_
          refine q_rd (wanted_none rfl) rfl rfl (rd_assign (v := .c _) rfl rfl) ?_
          refine seq_nil ?_
          refine then_norm ?_
          refine ⟨(i + 1, X.set (i / 2) (X.getD (i / 2) 0 + UInt8.ofNat n), g), ?_, ?_, by first | exact .refl | exact .nest .refl rfl rfl | exact .nest (.nest .refl rfl rfl) rfl rfl | exact .nest (.nest (.nest .refl rfl rfl) rfl rfl) rfl rfl | (repeat (first | exact .refl | refine .nest ?_ rfl rfl | refine BLe.look2 ?_ rfl)), rfl, ?_, by exact Nat.le_of_ble_eq_true rfl, ?_⟩
          · exact ⟨show i + 1 ≤ l.length by omega, (by simp [hXl]; omega), fun j hj => by
              by_cases e : j = i
              · subst e; exact hn2
              · exact he j (by omega)⟩
          · show l.length - (i + 1) < l.length - i; omega
          · exact .cons (CEnt.int (by show _ = ((i + 1 : Nat) : Int); omega)) (.cons (CEnt.osI (by simp)) .nil)
          · exact .blk (by simp) (fun j hj => CEnt.refl _) .nil
    · refine code_exit ?_
      refine then_exit ?_
      refine then_exit ?_
      refine block_exit rfl ?_
      refine then_norm ?_
      refine code_seq ?_
      refine code_region ?_
      first | refine q_rd (wanted_none rfl) rfl rfl (rd_move (v := bsC _) rfl rfl) ?_ | refine q_rd (wanted_none rfl) rfl rfl (rd_move (v := .rs _ _ _) rfl rfl) ?_ | refine q_rd (wanted_none rfl) rfl rfl (rd_move (v := .os _ _ _ _ _) rfl rfl) ?_ | refine q_rd (wanted_none rfl) rfl rfl (rd_move (v := .c _) rfl rfl) ?_ | refine q_rd (wanted_none rfl) rfl rfl (rd_move (v := .pv _) rfl rfl) ?_ | refine q_rd (wanted_none rfl) rfl rfl (rd_move (v := .top) rfl rfl) ?_
      refine q_rd (wanted_none rfl) rfl rfl (rd_move (v := .c _) rfl rfl) ?_
      refine q_rd (wanted_none rfl) rfl rfl (rd_lenL rfl rfl Tryd.underlying9) ?_
      refine q_rd (wanted_none rfl) rfl rfl (rd_eqI rfl rfl rfl) ?_
      first | refine q_rd (wanted_none rfl) rfl rfl (rd_assign (v := bsC _) rfl rfl) ?_ | refine q_rd (wanted_none rfl) rfl rfl (rd_assign (v := .rs _ _ _) rfl rfl) ?_ | refine q_rd (wanted_none rfl) rfl rfl (rd_assign (v := .os _ _ _ _ _) rfl rfl) ?_ | refine q_rd (wanted_none rfl) rfl rfl (rd_assign (v := .c _) rfl rfl) ?_ | refine q_rd (wanted_none rfl) rfl rfl (rd_assign (v := .pv _) rfl rfl) ?_ | refine q_rd (wanted_none rfl) rfl rfl (rd_assign (v := .top) rfl rfl) ?_
      refine q_rd (wanted_none rfl) rfl rfl (rd_assign (v := .c _) rfl rfl) ?_
      refine seq_nil ?_
      refine then_norm ?_
      refine code_ret ?_
      refine end_val (.inl rfl) (res_2 rfl (arv_tmp rfl) (arv_tmp rfl)) ?_
      refine CEnt.tup2 (CEnt.top _) (CEnt.bool ?_)
      have hall : (l.all fun c => decide (0 ≤ Lib.indexByte hexL c)) = true := List.all_eq_true.2 fun c hc => by
        obtain ⟨j, hj, rfl⟩ := List.getElem_of_mem hc
        have := he j (by omega)
        simpa [List.getD, hj] using this
      unfold hexOk
      rw [hall, Bool.and_true]
      first | rfl | (simp; omega) | (congr 1; simp; omega)
theorem id_ac {gs : List Nat} (l : List UInt8) (hl : l.length ≤ 1000000) : ACp gs Tryd.prog 118 [strC l] (.c (.bool (hexOk l))) := by
  refine ac_of 11 Tryd.func118 rfl rfl rfl (fun al w0 F0 St0 => ?_)
  refine code_seq ?_
  refine code_region ?_
  refine q_rd (wanted_none rfl) rfl rfl (rd_assign (v := .c _) rfl rfl) ?_
  refine seq_nil ?_
  refine then_norm ?_
  refine code_seq ?_
  refine code_region ?_
  refine q_rd (wanted_none rfl) rfl rfl (rd_move (v := .c _) rfl rfl) ?_
  refine seq_ex (wanted_none rfl) (e_callP rfl (by kernel_rfl) (rbytes_ac l hl) (.cons (by first | exact se rfl (CEnt.refl _) | exact se rfl CEnt.nil | exact se rfl CEnt.nilB | exact se rfl (CEnt.osI rfl) | exact se rfl CEnt.opI | exact se_nilO rfl | exact se rfl (CEnt.agg2 (CEnt.refl _) (CEnt.refl _)) | exact se rfl (CEnt.agg3 (CEnt.refl _) (CEnt.refl _) (CEnt.refl _)) | exact se rfl (CEnt.agg4 (CEnt.refl _) (CEnt.refl _) (CEnt.refl _) (CEnt.refl _)) | exact se rfl (CEnt.agg5 (CEnt.refl _) (CEnt.refl _) (CEnt.refl _) (CEnt.refl _) (CEnt.refl _)) | exact se rfl (CEnt.agg6 (CEnt.refl _) (CEnt.refl _) (CEnt.refl _) (CEnt.refl _) (CEnt.refl _) (CEnt.refl _)) | exact se_frzB _ rfl rfl rfl (by simp) (fun _ _ => CEnt.refl _)) .nil) rfl rfl ?_)
  first | refine q_rd (wanted_none rfl) rfl rfl (rd_move (v := .tup _ _) rfl rfl) ?_ | refine q_rd (wanted_none rfl) rfl rfl (rd_move (v := .c _) rfl rfl) ?_ | refine q_rd (wanted_none rfl) rfl rfl (rd_move (v := .pv _) rfl rfl) ?_ | refine q_rd (wanted_none rfl) rfl rfl (rd_move (v := .top) rfl rfl) ?_
  first | refine q_rd (wanted_none rfl) rfl rfl (rd_extract (v := bsC _) rfl rfl rfl rfl) ?_ | refine q_rd (wanted_none rfl) rfl rfl (rd_extract (v := .rs _ _ _) rfl rfl rfl rfl) ?_ | refine q_rd (wanted_none rfl) rfl rfl (rd_extract (v := .os _ _ _ _ _) rfl rfl rfl rfl) ?_ | refine q_rd (wanted_none rfl) rfl rfl (rd_extract (v := .c _) rfl rfl rfl rfl) ?_ | refine q_rd (wanted_none rfl) rfl rfl (rd_extract (v := .pv _) rfl rfl rfl rfl) ?_ | refine q_rd (wanted_none rfl) rfl rfl (rd_extract (v := .top) rfl rfl rfl rfl) ?_
  refine q_rd (wanted_none rfl) rfl rfl (rd_extract (v := .c _) rfl rfl rfl rfl) ?_
  first | refine q_rd (wanted_none rfl) rfl rfl (rd_assign (v := bsC _) rfl rfl) ?_ | refine q_rd (wanted_none rfl) rfl rfl (rd_assign (v := .rs _ _ _) rfl rfl) ?_ | refine q_rd (wanted_none rfl) rfl rfl (rd_assign (v := .os _ _ _ _ _) rfl rfl) ?_ | refine q_rd (wanted_none rfl) rfl rfl (rd_assign (v := .c _) rfl rfl) ?_ | refine q_rd (wanted_none rfl) rfl rfl (rd_assign (v := .pv _) rfl rfl) ?_ | refine q_rd (wanted_none rfl) rfl rfl (rd_assign (v := .top) rfl rfl) ?_
  refine q_rd (wanted_none rfl) rfl rfl (rd_assign (v := .c _) rfl rfl) ?_
  refine seq_nil ?_
  refine then_norm ?_
  refine code_seq ?_
  refine code_region ?_
  refine q_rd (wanted_none rfl) rfl rfl (rd_move (v := .c _) rfl rfl) ?_
  refine q_rd (wanted_none rfl) rfl rfl (rd_assign (v := .c _) rfl rfl) ?_
  refine seq_nil ?_
  refine then_norm ?_
  refine code_ret ?_
  refine end_val (.inl rfl) (res_1 rfl (arv_tmp rfl)) ?_
  exact CEnt.refl _
/-- what the reference asks of a row of other names -/
def altsM (l : List (List UInt8)) : Bool := decide (l.length ≤ 8) && allN l.length fun i => labM (l.getD i []) && (decide (i = 0) || !(Op.bytesLess (l.getD i []) (l.getD (i - 1) []) || l.getD i [] == l.getD (i - 1) []))
set_option maxHeartbeats 1000000 in
theorem alts_ac {gs : List Nat} (l : List (List UInt8)) : ACp gs Tryd.prog 119 [lsC l] (.c (.bool (altsM l))) := by
  refine ac_len 0 rfl fun hlen => ?_
  refine ac_of 32 Tryd.func119 rfl rfl rfl (fun al w0 F0 St0 => ?_)
  refine code_seq ?_
  refine code_region ?_
  refine q_rd (wanted_none rfl) rfl rfl (rd_assign (v := .c _) rfl rfl) ?_
  refine seq_nil ?_
  refine then_norm ?_
  refine code_seq ?_
  refine code_seq ?_
  refine code_region ?_
  first | refine q_rd (wanted_none rfl) rfl rfl (rd_move (v := .rs _ _ _) rfl rfl) ?_ | refine q_rd (wanted_none rfl) rfl rfl (rd_move (v := .os _ _ _ _ _) rfl rfl) ?_ | refine q_rd (wanted_none rfl) rfl rfl (rd_move (v := .c _) rfl rfl) ?_ | refine q_rd (wanted_none rfl) rfl rfl (rd_move (v := .pv _) rfl rfl) ?_ | refine q_rd (wanted_none rfl) rfl rfl (rd_move (v := .top) rfl rfl) ?_
  first | refine q_rd (wanted_none rfl) rfl rfl (rd_lenR rfl rfl Tryd.underlying24) ?_ | refine q_rd (wanted_none rfl) rfl rfl (rd_lenO rfl rfl Tryd.underlying24) ?_ | refine q_rd (wanted_none rfl) rfl rfl (rd_lenN rfl rfl Tryd.underlying24) ?_
  refine q_rd (wanted_none rfl) rfl rfl (rd_gt rfl rfl rfl) ?_
  refine seq_nil ?_
  refine then_norm ?_
  first | refine code_condSD rfl rfl (fun h23 => ?_) (fun h23 => ?_) | refine code_condS rfl rfl (fun h23 => ?_) (fun h23 => ?_)
  · refine code_seq ?_
    refine code_region ?_
    refine q_rd (wanted_none rfl) rfl rfl (rd_assign (v := .c _) rfl rfl) ?_
    refine seq_nil ?_
    refine then_norm ?_
    refine code_ret ?_
    refine then_ret ?_
    refine end_val (.inl rfl) (res_1 rfl (arv_tmp rfl)) ?_
    refine CEnt.bool ?_
    unfold altsM
    rw [decide_eq_false (by omega)]; rfl
  · refine code_skip ?_
    refine then_norm ?_
    refine code_seq ?_
    refine code_seq ?_
    refine code_region ?_
    first | refine q_rd (wanted_none rfl) rfl rfl (rd_move (v := .rs _ _ _) rfl rfl) ?_ | refine q_rd (wanted_none rfl) rfl rfl (rd_move (v := .os _ _ _ _ _) rfl rfl) ?_ | refine q_rd (wanted_none rfl) rfl rfl (rd_move (v := .c _) rfl rfl) ?_ | refine q_rd (wanted_none rfl) rfl rfl (rd_move (v := .pv _) rfl rfl) ?_ | refine q_rd (wanted_none rfl) rfl rfl (rd_move (v := .top) rfl rfl) ?_
    first | refine q_rd (wanted_none rfl) rfl rfl (rd_lenR rfl rfl Tryd.underlying24) ?_ | refine q_rd (wanted_none rfl) rfl rfl (rd_lenO rfl rfl Tryd.underlying24) ?_ | refine q_rd (wanted_none rfl) rfl rfl (rd_lenN rfl rfl Tryd.underlying24) ?_
    refine q_rd (wanted_none rfl) rfl rfl (rd_move (v := .c _) rfl rfl) ?_
    refine seq_nil ?_
    refine then_norm ?_
    refine code_block ?_
    refine l_loop (α := Nat) [2, 3, 4, 10, 11, 12, 13, 14, 15, 16, 17, 18, 19, 20, 21, 22, 23, 24, 25, 26, 27, 28, 29, 30, 31] (fun i => [(10, .c (.int .i64 (i : Nat)))]) (fun _ => []) (fun i => i ≤ l.length ∧ ∀ j, j < i → (labM (l.getD j []) && (decide (j = 0) || !(Op.bytesLess (l.getD j []) (l.getD (j - 1) []) || l.getD j [] == l.getD (j - 1) []))) = true) (fun i => l.length - i) (0) ?_ (fun _ => rfl) ?_ ?_ ?_
    · exact ⟨Nat.zero_le _, fun j hj => absurd hj (Nat.not_lt_zero j)⟩
    · (repeat (first | exact EntE.nil | refine EntE.cons (CEnt.refl _) ?_ | refine EntE.cons (CEnt.int (by omega)) ?_))
    · (repeat (first | exact HEnt.nil | refine HEnt.same ?_ | refine HEnt.blk rfl (fun j hj => by rcases j with _|_|_|_|_|_|_|_|j <;> first | exact CEnt.refl _ | exact CEnt.int (by omega) | omega) ?_))
    · rintro i ⟨hi, he⟩
      refine code_seq ?_
      refine code_region ?_
      refine q_rd (wanted_none rfl) rfl rfl (rd_lt rfl rfl rfl) ?_
      refine seq_nil ?_
      refine then_norm ?_
      refine code_seq ?_
      first | refine code_condSD rfl rfl (fun h26 => ?_) (fun h26 => ?_) | refine code_condS rfl rfl (fun h26 => ?_) (fun h26 => ?_)
      · refine code_skip ?_
        refine then_norm ?_
        refine code_seq ?_
        refine code_block ?_
        refine code_seq ?_
        refine code_region ?_
        refine q_rd (wanted_none rfl) rfl rfl (rd_move (v := .c _) rfl rfl) ?_
        first | refine q_rd (wanted_none rfl) rfl rfl (rd_iaddrR rfl rfl rfl Tryd.underlying24 sz9 rfl (by (first | omega | decide | (dsimp only at *; omega))) (by decide)) ?_ | refine q_rd (wanted_none rfl) rfl rfl (rd_iaddrO1 rfl rfl rfl Tryd.underlying24 sz9 rfl (by (first | omega | decide | (dsimp only at *; omega)))) ?_ | refine q_rd (wanted_none rfl) rfl rfl (rd_iaddrO rfl rfl rfl Tryd.underlying24 sz9 rfl (by (first | omega | decide | (dsimp only at *; omega)))) ?_ | refine q_rd (wanted_none rfl) rfl rfl (rd_iaddrR rfl rfl rfl Tryd.underlying24 sz9 (natI (by omega)) (by (first | omega | decide | (dsimp only at *; omega))) (by decide)) ?_ | refine q_rd (wanted_none rfl) rfl rfl (rd_iaddrO1 rfl rfl rfl Tryd.underlying24 sz9 (natI (by omega)) (by (first | omega | decide | (dsimp only at *; omega)))) ?_ | refine q_rd (wanted_none rfl) rfl rfl (rd_iaddrO rfl rfl rfl Tryd.underlying24 sz9 (natI (by omega)) (by (first | omega | decide | (dsimp only at *; omega)))) ?_
        first | refine q_rdO (wanted_none rfl) rfl rfl (rd_loadO (v := .c _) rfl rfl (.inl rfl) Tryd.underlying9 ag9 (by first | decide | (first | omega | decide | (dsimp only at *; omega))) rfl) ?_ | refine q_rd (wanted_none rfl) rfl rfl (rd_loadR (v := .c _) rfl rfl Tryd.underlying9 ag9 (by first | decide | (first | omega | decide | (dsimp only at *; omega))) rfl) ?_ | refine q_rdO (wanted_none rfl) rfl rfl (rd_loadO (v := .c _) rfl rfl (.inr rfl) Tryd.underlying9 ag9 (by first | decide | (first | omega | decide | (dsimp only at *; omega))) rfl) ?_
        refine q_rd (wanted_none rfl) rfl rfl (rd_assign (v := .c _) rfl rfl) ?_
        refine q_rd (wanted_none rfl) rfl rfl (rd_assign (v := .c _) rfl rfl) ?_
        refine seq_nil ?_
        refine then_norm ?_
        refine code_seq ?_
        refine code_region ?_
        refine q_rd (wanted_none rfl) rfl rfl (rd_move (v := .c _) rfl rfl) ?_
        refine seq_ex (wanted_none rfl) (e_callP rfl (by kernel_rfl) (rlabel_ac (l.getD i [])) (.cons (by first | exact se rfl (CEnt.refl _) | exact se rfl CEnt.nil | exact se rfl CEnt.nilB | exact se rfl (CEnt.osI rfl) | exact se rfl CEnt.opI | exact se_nilO rfl | exact se rfl (CEnt.agg2 (CEnt.refl _) (CEnt.refl _)) | exact se rfl (CEnt.agg3 (CEnt.refl _) (CEnt.refl _) (CEnt.refl _)) | exact se rfl (CEnt.agg4 (CEnt.refl _) (CEnt.refl _) (CEnt.refl _) (CEnt.refl _)) | exact se rfl (CEnt.agg5 (CEnt.refl _) (CEnt.refl _) (CEnt.refl _) (CEnt.refl _) (CEnt.refl _)) | exact se rfl (CEnt.agg6 (CEnt.refl _) (CEnt.refl _) (CEnt.refl _) (CEnt.refl _) (CEnt.refl _) (CEnt.refl _)) | exact se_frzB _ rfl rfl rfl (by simp) (fun _ _ => CEnt.refl _)) .nil) rfl rfl ?_)
        first | refine q_rd (wanted_none rfl) rfl rfl (rd_notD rfl rfl) ?_ | refine q_rd (wanted_none rfl) rfl rfl (rd_not rfl rfl) ?_
        refine q_rd (wanted_none rfl) rfl rfl (rd_move (v := .c _) rfl rfl) ?_
        first | refine seq_splitD (d := 18) rfl rfl (fun g27 => ?_) (fun g27 => ?_) | refine seq_split (d := 18) rfl rfl (fun g27 => ?_) (fun g27 => ?_)
        · refine q_skip (wanted_is rfl rfl rfl rfl false rfl) rfl rfl ?_
          refine q_skip (wanted_is rfl rfl rfl rfl false rfl) rfl rfl ?_
          refine q_skip (wanted_is rfl rfl rfl rfl false rfl) rfl rfl ?_
          refine q_skip (wanted_undef rfl rfl rfl rfl) rfl rfl ?_
          refine q_skip (wanted_undef rfl rfl rfl rfl) rfl rfl ?_
          refine q_skip (wanted_undef rfl rfl rfl rfl) rfl rfl ?_
          refine q_skip (wanted_undef rfl rfl rfl rfl) rfl rfl ?_
          refine q_skip (wanted_undef rfl rfl rfl rfl) rfl rfl ?_
          refine q_skip (wanted_undef rfl rfl rfl rfl) rfl rfl ?_
          refine q_skip (wanted_undef rfl rfl rfl rfl) rfl rfl ?_
          refine q_skip (wanted_is rfl rfl rfl rfl false rfl) rfl rfl ?_
          refine q_rd (wanted_none rfl) rfl rfl (rd_pickT (v := .c _) rfl rfl rfl) ?_
          refine seq_nil ?_
          refine then_norm ?_
          refine code_condT rfl ?_
          refine code_seq ?_
          refine code_region ?_
          refine q_rd (wanted_none rfl) rfl rfl (rd_assign (v := .c _) rfl rfl) ?_
          refine seq_nil ?_
          refine then_norm ?_
          refine code_ret ?_
          refine block_ret ?_
          refine then_ret ?_
          refine then_ret ?_
          refine block_ret ?_
          refine then_ret ?_
          refine end_val (.inl rfl) (res_1 rfl (arv_tmp rfl)) ?_
          refine CEnt.bool ?_
          unfold altsM
          rw [allN_false (i := i) (by omega) (by first | (simp_all; done) | (simp_all; omega) | grind), Bool.and_false]
        · refine q_rd (wanted_is rfl rfl rfl rfl true rfl) rfl rfl (rd_move (v := .c _) rfl rfl) ?_
          refine q_rd (wanted_is rfl rfl rfl rfl true rfl) rfl rfl (rd_gt rfl rfl rfl) ?_
          refine q_rd (wanted_is rfl rfl rfl rfl true rfl) rfl rfl (rd_move (v := .c _) rfl rfl) ?_
          first | refine seq_splitD (d := 21) rfl rfl (fun g27_2 => ?_) (fun g27_2 => ?_) | refine seq_split (d := 21) rfl rfl (fun g27_2 => ?_) (fun g27_2 => ?_)
          · refine q_rd (wanted_is rfl rfl rfl rfl true rfl) rfl rfl (rd_move (v := .c _) rfl rfl) ?_
            first | refine q_rd (wanted_is rfl rfl rfl rfl true rfl) rfl rfl (rd_move (v := .rs _ _ _) rfl rfl) ?_ | refine q_rd (wanted_is rfl rfl rfl rfl true rfl) rfl rfl (rd_move (v := .os _ _ _ _ _) rfl rfl) ?_ | refine q_rd (wanted_is rfl rfl rfl rfl true rfl) rfl rfl (rd_move (v := .c _) rfl rfl) ?_ | refine q_rd (wanted_is rfl rfl rfl rfl true rfl) rfl rfl (rd_move (v := .pv _) rfl rfl) ?_ | refine q_rd (wanted_is rfl rfl rfl rfl true rfl) rfl rfl (rd_move (v := .top) rfl rfl) ?_
            refine q_rd (wanted_is rfl rfl rfl rfl true rfl) rfl rfl (rd_move (v := .c _) rfl rfl) ?_
            refine q_rd (wanted_is rfl rfl rfl rfl true rfl) rfl rfl (rd_sub rfl rfl rfl (wrap_id (k := .i64) (by show _ ∧ _; (first | omega | decide | (dsimp only at *; omega))))) ?_
            first | refine q_rd (wanted_is rfl rfl rfl rfl true rfl) rfl rfl (rd_iaddrR rfl rfl rfl Tryd.underlying24 sz9 (show _ = (((i - 1) : Nat) : Int) by first | omega | (simp only [List.length_append, List.length_cons, List.length_nil]; omega)) (by (first | omega | decide | (dsimp only at *; omega))) (by decide)) ?_ | refine q_rd (wanted_is rfl rfl rfl rfl true rfl) rfl rfl (rd_iaddrO1 rfl rfl rfl Tryd.underlying24 sz9 (show _ = (((i - 1) : Nat) : Int) by first | omega | (simp only [List.length_append, List.length_cons, List.length_nil]; omega)) (by (first | omega | decide | (dsimp only at *; omega)))) ?_ | refine q_rd (wanted_is rfl rfl rfl rfl true rfl) rfl rfl (rd_iaddrO rfl rfl rfl Tryd.underlying24 sz9 (show _ = (((i - 1) : Nat) : Int) by first | omega | (simp only [List.length_append, List.length_cons, List.length_nil]; omega)) (by (first | omega | decide | (dsimp only at *; omega)))) ?_
            first | refine q_rdO (wanted_is rfl rfl rfl rfl true rfl) rfl rfl (rd_loadO (v := .c _) rfl rfl (.inl rfl) Tryd.underlying9 ag9 (by first | decide | (first | omega | decide | (dsimp only at *; omega))) rfl) ?_ | refine q_rd (wanted_is rfl rfl rfl rfl true rfl) rfl rfl (rd_loadR (v := .c _) rfl rfl Tryd.underlying9 ag9 (by first | decide | (first | omega | decide | (dsimp only at *; omega))) rfl) ?_ | refine q_rdO (wanted_is rfl rfl rfl rfl true rfl) rfl rfl (rd_loadO (v := .c _) rfl rfl (.inr rfl) Tryd.underlying9 ag9 (by first | decide | (first | omega | decide | (dsimp only at *; omega))) rfl) ?_
            refine q_rd (wanted_is rfl rfl rfl rfl true rfl) rfl rfl (rd_leL rfl rfl rfl) ?_
            refine q_rd (wanted_is rfl rfl rfl rfl true rfl) rfl rfl (rd_pickT (v := .c _) rfl rfl rfl) ?_
            refine q_rd (wanted_none rfl) rfl rfl (rd_pickF (v := .c _) rfl rfl rfl) ?_
            refine seq_nil ?_
            refine then_norm ?_
            first | refine code_condSD rfl rfl (fun h27 => ?_) (fun h27 => ?_) | refine code_condS rfl rfl (fun h27 => ?_) (fun h27 => ?_)
            · refine code_seq ?_
              refine code_region ?_
              refine q_rd (wanted_none rfl) rfl rfl (rd_assign (v := .c _) rfl rfl) ?_
              refine seq_nil ?_
              refine then_norm ?_
              refine code_ret ?_
              refine block_ret ?_
              refine then_ret ?_
              refine then_ret ?_
              refine block_ret ?_
              refine then_ret ?_
              refine end_val (.inl rfl) (res_1 rfl (arv_tmp rfl)) ?_
              refine CEnt.bool ?_
              unfold altsM
              rw [allN_false (i := i) (by omega) (by first | (simp_all; done) | (simp_all; omega) | grind), Bool.and_false]
            · refine code_skip ?_
              refine block_norm ?_
              refine then_norm ?_
              refine code_region ?_
              refine q_rd (wanted_none rfl) rfl rfl (rd_add rfl rfl rfl (wrap_id (k := .i64) (by show _ ∧ _; (first | omega | decide | (dsimp only at *; omega))))) ?_
              refine q_rd (wanted_none rfl) rfl rfl (rd_move (v := .c _) rfl rfl) ?_
              refine seq_nil ?_
              refine then_norm ?_
              refine ⟨i + 1, ?_, ?_, by first | exact .refl | exact .nest .refl rfl rfl | exact .nest (.nest .refl rfl rfl) rfl rfl | exact .nest (.nest (.nest .refl rfl rfl) rfl rfl) rfl rfl | (repeat (first | exact .refl | refine .nest ?_ rfl rfl | refine BLe.look2 ?_ rfl)), rfl, ?_, by exact Nat.le_of_ble_eq_true rfl, ?_⟩
              · exact ⟨by omega, fun j hj => by
                  by_cases e : j = i
                  · subst e; first | (simp_all; done) | (simp_all; omega) | grind
                  · exact he j (by omega)⟩
              · show l.length - (i + 1) < l.length - i; omega
              · exact .cons (CEnt.int (by omega)) .nil
              · (repeat (first | exact HEnt.nil | refine HEnt.same ?_ | refine HEnt.blk rfl (fun j hj => by rcases j with _|_|_|_|_|_|_|_|j <;> first | exact CEnt.refl _ | exact CEnt.int (by omega) | omega) ?_))
          · refine q_skip (wanted_is rfl rfl rfl rfl false rfl) rfl rfl ?_
            refine q_skip (wanted_is rfl rfl rfl rfl false rfl) rfl rfl ?_
            refine q_skip (wanted_is rfl rfl rfl rfl false rfl) rfl rfl ?_
            refine q_skip (wanted_is rfl rfl rfl rfl false rfl) rfl rfl ?_
            refine q_skip (wanted_is rfl rfl rfl rfl false rfl) rfl rfl ?_
            refine q_skip (wanted_is rfl rfl rfl rfl false rfl) rfl rfl ?_
            refine q_skip (wanted_is rfl rfl rfl rfl false rfl) rfl rfl ?_
            refine q_rd (wanted_is rfl rfl rfl rfl true rfl) rfl rfl (rd_pickF (v := .c _) rfl rfl rfl) ?_
            refine q_rd (wanted_none rfl) rfl rfl (rd_pickF (v := .c _) rfl rfl rfl) ?_
            refine seq_nil ?_
            refine then_norm ?_
            refine code_condF rfl ?_
            refine code_skip ?_
            refine block_norm ?_
            refine then_norm ?_
            refine code_region ?_
            refine q_rd (wanted_none rfl) rfl rfl (rd_add rfl rfl rfl (wrap_id (k := .i64) (by show _ ∧ _; (first | omega | decide | (dsimp only at *; omega))))) ?_
            refine q_rd (wanted_none rfl) rfl rfl (rd_move (v := .c _) rfl rfl) ?_
            refine seq_nil ?_
            refine then_norm ?_
            refine ⟨i + 1, ?_, ?_, by first | exact .refl | exact .nest .refl rfl rfl | exact .nest (.nest .refl rfl rfl) rfl rfl | exact .nest (.nest (.nest .refl rfl rfl) rfl rfl) rfl rfl | (repeat (first | exact .refl | refine .nest ?_ rfl rfl | refine BLe.look2 ?_ rfl)), rfl, ?_, by exact Nat.le_of_ble_eq_true rfl, ?_⟩
            · exact ⟨by omega, fun j hj => by
                by_cases e : j = i
                · subst e; first | (simp_all; done) | (simp_all; omega) | grind
                · exact he j (by omega)⟩
            · show l.length - (i + 1) < l.length - i; omega
            · exact .cons (CEnt.int (by omega)) .nil
            · (repeat (first | exact HEnt.nil | refine HEnt.same ?_ | refine HEnt.blk rfl (fun j hj => by rcases j with _|_|_|_|_|_|_|_|j <;> first | exact CEnt.refl _ | exact CEnt.int (by omega) | omega) ?_))
      · refine code_exit ?_
        refine then_exit ?_
        refine then_exit ?_
        refine block_exit rfl ?_
        refine then_norm ?_
        refine code_seq ?_
        refine code_region ?_
        refine q_rd (wanted_none rfl) rfl rfl (rd_assign (v := .c _) rfl rfl) ?_
        refine seq_nil ?_
        refine then_norm ?_
        refine code_ret ?_
        refine end_val (.inl rfl) (res_1 rfl (arv_tmp rfl)) ?_
        refine CEnt.bool ?_
        unfold altsM
        rw [allN_iff.2 fun j hj => he j (by omega), decide_eq_true (by omega)]; rfl
end Am
end Go.Proofs.YtoliiompofonlaaDoor
