/- Chapter 6: the reference's date of a moment and its text, what bodies are read as. -/
import Derived.Test.YtmlnipbeancnpaaDoorW06c
import Derived.Test.YtmlnipbeancnpaaDoorP06c
namespace Go.Proofs.YtmlnipbeancnpaaDoor
set_option linter.unusedVariables false
namespace Am
open Go.RowKit Cal
set_option linter.unusedVariables false
set_option maxRecDepth 100000

theorem year_stop {N y : Int} (h0 : 0 ≤ N) (h1 : N ≤ 2932896) (hy : 1970 ≤ y) (hb : bf y ≤ N) : y ≤ 9999 := by
  refine Decidable.byContradiction fun hn => ?_
  have := bf_mono (a := 10000) (b := y) (by omega)
  have e : bf 10000 = 2932897 := by decide
  omega
theorem rof_ac (t : Int) (h : inT t) : ACp gs Tryd.prog 49 [.c (.int .i64 t)] (dateC (ofR t)) := by
  obtain ⟨r1, r2⟩ := id h
  obtain ⟨N, hN⟩ : ∃ N, N = t / 86400 := ⟨_, rfl⟩
  have n0 : 0 ≤ N := by omega
  have n1 : N ≤ 2932896 := by omega
  refine ac_of 52 Tryd.func49 rfl rfl rfl (fun al w0 F0 St0 => ?_)
  refine code_seq ?_
  refine code_region ?_
  refine seq_ex (wanted_none rfl) (e_alloc (n := 6) rfl zr37 rfl rfl rfl (fun p1 => ?_))
  refine seq_nil ?_
  refine then_norm ?_
  refine code_seq ?_
  refine code_region ?_
  refine q_rd (wanted_none rfl) rfl rfl (rd_move (v := .c _) rfl rfl) ?_
  first | refine q_rd (wanted_none rfl) rfl rfl (rd_quo rfl rfl rfl (by (first | omega | (dsimp only at *; omega))) (by (first | omega | (dsimp only at *; omega))) (wrap_id (k := .i64) (by show _ ∧ _; (first | omega | (dsimp only at *; omega))))) ?_ | refine q_rd (wanted_none rfl) rfl rfl (rd_quoT rfl rfl rfl (by (first | omega | (dsimp only at *; omega))) _ rfl) ?_
  first | refine q_rd (wanted_none rfl) rfl rfl (rd_rem rfl rfl rfl (by (first | omega | (dsimp only at *; omega))) (by (first | omega | (dsimp only at *; omega)))) ?_ | refine q_rd (wanted_none rfl) rfl rfl (rd_remT rfl rfl rfl (by (first | omega | (dsimp only at *; omega)))) ?_
  refine q_rd (wanted_none rfl) rfl rfl (rd_move (v := .c _) rfl rfl) ?_
  first | refine q_rd (wanted_none rfl) rfl rfl (rd_quo rfl rfl rfl (by (first | omega | (dsimp only at *; omega))) (by (first | omega | (dsimp only at *; omega))) (wrap_id (k := .i64) (by show _ ∧ _; (first | omega | (dsimp only at *; omega))))) ?_ | refine q_rd (wanted_none rfl) rfl rfl (rd_quoT rfl rfl rfl (by (first | omega | (dsimp only at *; omega))) _ rfl) ?_
  first | refine q_rd (wanted_none rfl) rfl rfl (rd_rem rfl rfl rfl (by (first | omega | (dsimp only at *; omega))) (by (first | omega | (dsimp only at *; omega)))) ?_ | refine q_rd (wanted_none rfl) rfl rfl (rd_remT rfl rfl rfl (by (first | omega | (dsimp only at *; omega)))) ?_
  refine q_rd (wanted_none rfl) rfl rfl (rd_move (v := .c _) rfl rfl) ?_
  first | refine q_rd (wanted_none rfl) rfl rfl (rd_rem rfl rfl rfl (by (first | omega | (dsimp only at *; omega))) (by (first | omega | (dsimp only at *; omega)))) ?_ | refine q_rd (wanted_none rfl) rfl rfl (rd_remT rfl rfl rfl (by (first | omega | (dsimp only at *; omega)))) ?_
  refine q_rd (wanted_none rfl) rfl rfl (rd_build (n := 6) rfl zr37 pl37 rfl rfl) ?_
  refine seq_ex (wanted_none rfl) (e_alloc (n := 6) rfl zr37 rfl rfl rfl (fun p2 => ?_))
  refine seq_md (wanted_none rfl) (m_store rfl rfl rfl rfl rfl sz37 rfl rfl (by first | decide | (first | omega | (dsimp only at *; omega))) _ (fun _ _ => CEnt.refl _) rfl ?_)
  refine seq_nil ?_
  refine then_norm ?_
  refine code_seq ?_
  refine code_region ?_
  refine q_rd (wanted_none rfl) rfl rfl (rd_move (v := .c _) rfl rfl) ?_
  first | refine q_rd (wanted_none rfl) rfl rfl (rd_quo rfl rfl rfl (by (first | omega | (dsimp only at *; omega))) (by (first | omega | (dsimp only at *; omega))) (wrap_id (k := .i64) (by show _ ∧ _; (first | omega | (dsimp only at *; omega))))) ?_ | refine q_rd (wanted_none rfl) rfl rfl (rd_quoT rfl rfl rfl (by (first | omega | (dsimp only at *; omega))) _ rfl) ?_
  refine q_rd (wanted_none rfl) rfl rfl (rd_assign (v := .c _) rfl rfl) ?_
  refine seq_nil ?_
  refine then_norm ?_
  refine code_seq ?_
  refine code_block ?_
  refine l_loop (α := Int) [4, 5, 17, 18, 19, 20, 21, 22, 23, 24, 25, 26, 27, 28, 29] (fun y => [(4, .c (.int .i64 (N - bf y)))]) (fun y => [(p1, .blk 6 (dF D6.zero)), (p2, .blk 6 (dF ⟨y, 1, 0, t / 3600 % 24, t / 60 % 60, t % 60⟩))]) (fun y => 1970 ≤ y ∧ bf y ≤ N) (fun y => (10000 - y).toNat) (1970) ?_ (fun _ => rfl) ?_ ?_ ?_
  · exact ⟨by omega, by rw [bf_1970]; exact n0⟩
  · exact .cons (CEnt.int (by rw [bf_1970]; omega)) .nil
  · (repeat (first | exact HEnt.nil | refine HEnt.same ?_ | refine HEnt.blk rfl (fun j hj => by rcases j with _|_|_|_|_|_|_|_|j <;> first | exact CEnt.refl _ | exact CEnt.int (by omega) | omega) ?_))
  · rintro y ⟨hy, hb⟩
    have hy9 := year_stop n0 n1 hy hb
    have hs := bf_succ y
    have hbd := bf_bd y hy (by omega)
    refine code_block ?_
    refine code_seq ?_
    refine code_region ?_
    refine q_rd (wanted_none rfl) rfl rfl (rd_assign (v := .c _) rfl rfl) ?_
    refine seq_nil ?_
    refine then_norm ?_
    refine code_seq ?_
    refine code_seq ?_
    refine code_region ?_
    first | refine q_rd (wanted_none rfl) rfl rfl (rd_faddrO rfl rfl Tryd.underlying37 rfl sz3 rfl) ?_ | refine q_rd (wanted_none rfl) rfl rfl (rd_faddrR rfl rfl Tryd.underlying37 rfl sz3 rfl) ?_
    first | refine q_rdO (wanted_none rfl) rfl rfl (rd_loadO (v := .c _) rfl rfl (.inl rfl) Tryd.underlying3 ag3 (by first | decide | (first | omega | (dsimp only at *; omega))) rfl) ?_ | refine q_rd (wanted_none rfl) rfl rfl (rd_loadR (v := .c _) rfl rfl Tryd.underlying3 ag3 (by first | decide | (first | omega | (dsimp only at *; omega))) rfl) ?_ | refine q_rdO (wanted_none rfl) rfl rfl (rd_loadO (v := .c _) rfl rfl (.inr rfl) Tryd.underlying3 ag3 (by first | decide | (first | omega | (dsimp only at *; omega))) rfl) ?_
    refine seq_ex (wanted_none rfl) (e_callP rfl (by kernel_rfl) (rleap_ac _) (.cons (by first | exact se rfl (CEnt.refl _) | exact se rfl CEnt.nil | exact se rfl CEnt.nilB | exact se rfl (CEnt.osI rfl) | exact se rfl CEnt.opI | exact se_nilO rfl | exact se rfl (CEnt.agg2 (CEnt.refl _) (CEnt.refl _)) | exact se rfl (CEnt.agg3 (CEnt.refl _) (CEnt.refl _) (CEnt.refl _)) | exact se rfl (CEnt.agg4 (CEnt.refl _) (CEnt.refl _) (CEnt.refl _) (CEnt.refl _)) | exact se rfl (CEnt.agg5 (CEnt.refl _) (CEnt.refl _) (CEnt.refl _) (CEnt.refl _) (CEnt.refl _)) | exact se rfl (CEnt.agg6 (CEnt.refl _) (CEnt.refl _) (CEnt.refl _) (CEnt.refl _) (CEnt.refl _) (CEnt.refl _)) | exact se_frzB _ rfl rfl rfl (by simp) (fun _ _ => CEnt.refl _)) .nil) rfl rfl ?_)
    refine seq_nil ?_
    refine then_norm ?_
    first | refine code_condSD rfl rfl (fun h62 => ?_) (fun h62 => ?_) | refine code_condS rfl rfl (fun h62 => ?_) (fun h62 => ?_)
    · refine code_region ?_
      refine q_rd (wanted_none rfl) rfl rfl (rd_assign (v := .c _) rfl rfl) ?_
      refine seq_nil ?_
      refine then_norm ?_
      refine code_seq ?_
      refine code_seq ?_
      refine code_region ?_
      refine q_rd (wanted_none rfl) rfl rfl (rd_move (v := .c _) rfl rfl) ?_
      refine q_rd (wanted_none rfl) rfl rfl (rd_move (v := .c _) rfl rfl) ?_
      refine q_rd (wanted_none rfl) rfl rfl (rd_lt rfl rfl rfl) ?_
      refine seq_nil ?_
      refine then_norm ?_
      first | refine code_condSD rfl rfl (fun h65 => ?_) (fun h65 => ?_) | refine code_condS rfl rfl (fun h65 => ?_) (fun h65 => ?_)
      · refine code_exit ?_
        refine then_exit ?_
        refine block_exit2 rfl ?_
        refine then_exit ?_
        refine block_exit rfl ?_
        refine then_norm ?_
        refine code_seq ?_
        refine code_block ?_
        refine l_loop (α := Int) [4, 30, 31, 32, 33, 34, 35, 36, 37, 38, 39, 40, 41, 42, 43, 44, 45, 46, 47] (fun m => [(4, .c (.int .i64 (N - bf y - cum y m)))]) (fun m => [(p1, .blk 6 (dF D6.zero)), (p2, .blk 6 (dF ⟨y, m, 0, t / 3600 % 24, t / 60 % 60, t % 60⟩))]) (fun m => 1 ≤ m ∧ m ≤ 12 ∧ cum y m ≤ N - bf y) (fun m => (13 - m).toNat) (1) ?_ (fun _ => rfl) ?_ ?_ ?_
        · exact ⟨by omega, by omega, by rw [cum_one]; omega⟩
        · exact .cons (CEnt.int (by rw [cum_one]; omega)) .nil
        · (repeat (first | exact HEnt.nil | refine HEnt.same ?_ | refine HEnt.blk rfl (fun j hj => by rcases j with _|_|_|_|_|_|_|_|j <;> first | exact CEnt.refl _ | exact CEnt.int (by omega) | omega) ?_))
        · rintro m ⟨m1, m2, hc⟩
          have hcb := cum_bd y m m1 (by omega)
          have hcs := cum_succ y m m1 m2
          have hdd := days_le y m
          have hc13 := cum_13 y
          have hm13 : m = 12 → cum y (m + 1) = cum y 13 := fun h => by rw [h]; rfl
          refine code_seq ?_
          refine code_seq ?_
          refine code_region ?_
          refine q_rd (wanted_none rfl) rfl rfl (rd_move (v := .c _) rfl rfl) ?_
          first | refine q_rd (wanted_none rfl) rfl rfl (rd_faddrO rfl rfl Tryd.underlying37 rfl sz3 rfl) ?_ | refine q_rd (wanted_none rfl) rfl rfl (rd_faddrR rfl rfl Tryd.underlying37 rfl sz3 rfl) ?_
          first | refine q_rdO (wanted_none rfl) rfl rfl (rd_loadO (v := .c _) rfl rfl (.inl rfl) Tryd.underlying3 ag3 (by first | decide | (first | omega | (dsimp only at *; omega))) rfl) ?_ | refine q_rd (wanted_none rfl) rfl rfl (rd_loadR (v := .c _) rfl rfl Tryd.underlying3 ag3 (by first | decide | (first | omega | (dsimp only at *; omega))) rfl) ?_ | refine q_rdO (wanted_none rfl) rfl rfl (rd_loadO (v := .c _) rfl rfl (.inr rfl) Tryd.underlying3 ag3 (by first | decide | (first | omega | (dsimp only at *; omega))) rfl) ?_
          first | refine q_rd (wanted_none rfl) rfl rfl (rd_faddrO rfl rfl Tryd.underlying37 rfl sz3 rfl) ?_ | refine q_rd (wanted_none rfl) rfl rfl (rd_faddrR rfl rfl Tryd.underlying37 rfl sz3 rfl) ?_
          first | refine q_rdO (wanted_none rfl) rfl rfl (rd_loadO (v := .c _) rfl rfl (.inl rfl) Tryd.underlying3 ag3 (by first | decide | (first | omega | (dsimp only at *; omega))) rfl) ?_ | refine q_rd (wanted_none rfl) rfl rfl (rd_loadR (v := .c _) rfl rfl Tryd.underlying3 ag3 (by first | decide | (first | omega | (dsimp only at *; omega))) rfl) ?_ | refine q_rdO (wanted_none rfl) rfl rfl (rd_loadO (v := .c _) rfl rfl (.inr rfl) Tryd.underlying3 ag3 (by first | decide | (first | omega | (dsimp only at *; omega))) rfl) ?_
          refine seq_ex (wanted_none rfl) (e_callP rfl (by kernel_rfl) (rdays_ac _ _) (.cons (by first | exact se rfl (CEnt.refl _) | exact se rfl CEnt.nil | exact se rfl CEnt.nilB | exact se rfl (CEnt.osI rfl) | exact se rfl CEnt.opI | exact se_nilO rfl | exact se rfl (CEnt.agg2 (CEnt.refl _) (CEnt.refl _)) | exact se rfl (CEnt.agg3 (CEnt.refl _) (CEnt.refl _) (CEnt.refl _)) | exact se rfl (CEnt.agg4 (CEnt.refl _) (CEnt.refl _) (CEnt.refl _) (CEnt.refl _)) | exact se rfl (CEnt.agg5 (CEnt.refl _) (CEnt.refl _) (CEnt.refl _) (CEnt.refl _) (CEnt.refl _)) | exact se rfl (CEnt.agg6 (CEnt.refl _) (CEnt.refl _) (CEnt.refl _) (CEnt.refl _) (CEnt.refl _) (CEnt.refl _)) | exact se_frzB _ rfl rfl rfl (by simp) (fun _ _ => CEnt.refl _)) (.cons (by first | exact se rfl (CEnt.refl _) | exact se rfl CEnt.nil | exact se rfl CEnt.nilB | exact se rfl (CEnt.osI rfl) | exact se rfl CEnt.opI | exact se_nilO rfl | exact se rfl (CEnt.agg2 (CEnt.refl _) (CEnt.refl _)) | exact se rfl (CEnt.agg3 (CEnt.refl _) (CEnt.refl _) (CEnt.refl _)) | exact se rfl (CEnt.agg4 (CEnt.refl _) (CEnt.refl _) (CEnt.refl _) (CEnt.refl _)) | exact se rfl (CEnt.agg5 (CEnt.refl _) (CEnt.refl _) (CEnt.refl _) (CEnt.refl _) (CEnt.refl _)) | exact se rfl (CEnt.agg6 (CEnt.refl _) (CEnt.refl _) (CEnt.refl _) (CEnt.refl _) (CEnt.refl _) (CEnt.refl _)) | exact se_frzB _ rfl rfl rfl (by simp) (fun _ _ => CEnt.refl _)) .nil)) rfl rfl ?_)
          refine q_rd (wanted_none rfl) rfl rfl (rd_ge rfl rfl rfl) ?_
          refine seq_nil ?_
          refine then_norm ?_
          first | refine code_condSD rfl rfl (fun h71 => ?_) (fun h71 => ?_) | refine code_condS rfl rfl (fun h71 => ?_) (fun h71 => ?_)
          · refine code_skip ?_
            refine then_norm ?_
            refine code_block ?_
            refine code_seq ?_
            refine code_region ?_
            refine q_rd (wanted_none rfl) rfl rfl (rd_move (v := .c _) rfl rfl) ?_
            first | refine q_rd (wanted_none rfl) rfl rfl (rd_faddrO rfl rfl Tryd.underlying37 rfl sz3 rfl) ?_ | refine q_rd (wanted_none rfl) rfl rfl (rd_faddrR rfl rfl Tryd.underlying37 rfl sz3 rfl) ?_
            first | refine q_rdO (wanted_none rfl) rfl rfl (rd_loadO (v := .c _) rfl rfl (.inl rfl) Tryd.underlying3 ag3 (by first | decide | (first | omega | (dsimp only at *; omega))) rfl) ?_ | refine q_rd (wanted_none rfl) rfl rfl (rd_loadR (v := .c _) rfl rfl Tryd.underlying3 ag3 (by first | decide | (first | omega | (dsimp only at *; omega))) rfl) ?_ | refine q_rdO (wanted_none rfl) rfl rfl (rd_loadO (v := .c _) rfl rfl (.inr rfl) Tryd.underlying3 ag3 (by first | decide | (first | omega | (dsimp only at *; omega))) rfl) ?_
            first | refine q_rd (wanted_none rfl) rfl rfl (rd_faddrO rfl rfl Tryd.underlying37 rfl sz3 rfl) ?_ | refine q_rd (wanted_none rfl) rfl rfl (rd_faddrR rfl rfl Tryd.underlying37 rfl sz3 rfl) ?_
            first | refine q_rdO (wanted_none rfl) rfl rfl (rd_loadO (v := .c _) rfl rfl (.inl rfl) Tryd.underlying3 ag3 (by first | decide | (first | omega | (dsimp only at *; omega))) rfl) ?_ | refine q_rd (wanted_none rfl) rfl rfl (rd_loadR (v := .c _) rfl rfl Tryd.underlying3 ag3 (by first | decide | (first | omega | (dsimp only at *; omega))) rfl) ?_ | refine q_rdO (wanted_none rfl) rfl rfl (rd_loadO (v := .c _) rfl rfl (.inr rfl) Tryd.underlying3 ag3 (by first | decide | (first | omega | (dsimp only at *; omega))) rfl) ?_
            refine seq_ex (wanted_none rfl) (e_callP rfl (by kernel_rfl) (rdays_ac _ _) (.cons (by first | exact se rfl (CEnt.refl _) | exact se rfl CEnt.nil | exact se rfl CEnt.nilB | exact se rfl (CEnt.osI rfl) | exact se rfl CEnt.opI | exact se_nilO rfl | exact se rfl (CEnt.agg2 (CEnt.refl _) (CEnt.refl _)) | exact se rfl (CEnt.agg3 (CEnt.refl _) (CEnt.refl _) (CEnt.refl _)) | exact se rfl (CEnt.agg4 (CEnt.refl _) (CEnt.refl _) (CEnt.refl _) (CEnt.refl _)) | exact se rfl (CEnt.agg5 (CEnt.refl _) (CEnt.refl _) (CEnt.refl _) (CEnt.refl _) (CEnt.refl _)) | exact se rfl (CEnt.agg6 (CEnt.refl _) (CEnt.refl _) (CEnt.refl _) (CEnt.refl _) (CEnt.refl _) (CEnt.refl _)) | exact se_frzB _ rfl rfl rfl (by simp) (fun _ _ => CEnt.refl _)) (.cons (by first | exact se rfl (CEnt.refl _) | exact se rfl CEnt.nil | exact se rfl CEnt.nilB | exact se rfl (CEnt.osI rfl) | exact se rfl CEnt.opI | exact se_nilO rfl | exact se rfl (CEnt.agg2 (CEnt.refl _) (CEnt.refl _)) | exact se rfl (CEnt.agg3 (CEnt.refl _) (CEnt.refl _) (CEnt.refl _)) | exact se rfl (CEnt.agg4 (CEnt.refl _) (CEnt.refl _) (CEnt.refl _) (CEnt.refl _)) | exact se rfl (CEnt.agg5 (CEnt.refl _) (CEnt.refl _) (CEnt.refl _) (CEnt.refl _) (CEnt.refl _)) | exact se rfl (CEnt.agg6 (CEnt.refl _) (CEnt.refl _) (CEnt.refl _) (CEnt.refl _) (CEnt.refl _) (CEnt.refl _)) | exact se_frzB _ rfl rfl rfl (by simp) (fun _ _ => CEnt.refl _)) .nil)) rfl rfl ?_)
            refine q_rd (wanted_none rfl) rfl rfl (rd_sub rfl rfl rfl (wrap_id (k := .i64) (by show _ ∧ _; (first | omega | (dsimp only at *; omega))))) ?_
            refine q_rd (wanted_none rfl) rfl rfl (rd_assign (v := .c _) rfl rfl) ?_
            refine seq_nil ?_
            refine then_norm ?_
            refine code_region ?_
            first | refine q_rd (wanted_none rfl) rfl rfl (rd_faddrO rfl rfl Tryd.underlying37 rfl sz3 rfl) ?_ | refine q_rd (wanted_none rfl) rfl rfl (rd_faddrR rfl rfl Tryd.underlying37 rfl sz3 rfl) ?_
            first | refine q_rdO (wanted_none rfl) rfl rfl (rd_loadO (v := .c _) rfl rfl (.inl rfl) Tryd.underlying3 ag3 (by first | decide | (first | omega | (dsimp only at *; omega))) rfl) ?_ | refine q_rd (wanted_none rfl) rfl rfl (rd_loadR (v := .c _) rfl rfl Tryd.underlying3 ag3 (by first | decide | (first | omega | (dsimp only at *; omega))) rfl) ?_ | refine q_rdO (wanted_none rfl) rfl rfl (rd_loadO (v := .c _) rfl rfl (.inr rfl) Tryd.underlying3 ag3 (by first | decide | (first | omega | (dsimp only at *; omega))) rfl) ?_
            refine q_rd (wanted_none rfl) rfl rfl (rd_add rfl rfl rfl (wrap_id (k := .i64) (by show _ ∧ _; (first | omega | (dsimp only at *; omega))))) ?_
            first | refine q_rd (wanted_none rfl) rfl rfl (rd_faddrO rfl rfl Tryd.underlying37 rfl sz3 rfl) ?_ | refine q_rd (wanted_none rfl) rfl rfl (rd_faddrR rfl rfl Tryd.underlying37 rfl sz3 rfl) ?_
            refine seq_md (wanted_none rfl) (m_store rfl rfl rfl rfl rfl sz3 rfl rfl (by first | decide | (first | omega | (dsimp only at *; omega))) _ (fun _ _ => CEnt.refl _) rfl ?_)
            refine seq_nil ?_
            refine block_norm ?_
            refine then_norm ?_
            refine ⟨m + 1, ?_, ?_, rfl, rfl, ?_, by exact Nat.le_of_ble_eq_true rfl, ?_⟩
            · exact ⟨by omega, by refine Decidable.byContradiction fun hn => ?_; have := hm13 (by omega); dsimp only at *; simp only [*, if_true, Bool.false_eq_true, if_false] at hs; omega, by dsimp only at *; omega⟩
            · omega
            · exact .cons (CEnt.int (by dsimp only at *; omega)) .nil
            · (repeat (first | exact HEnt.nil | refine HEnt.same ?_ | refine HEnt.blk rfl (fun j hj => by rcases j with _|_|_|_|_|_|_|_|j <;> first | exact CEnt.refl _ | exact CEnt.int (by omega) | omega) ?_))
          · refine code_exit ?_
            refine then_exit ?_
            refine then_exit ?_
            refine block_exit rfl ?_
            refine then_norm ?_
            refine code_seq ?_
            refine code_region ?_
            refine q_rd (wanted_none rfl) rfl rfl (rd_move (v := .c _) rfl rfl) ?_
            refine q_rd (wanted_none rfl) rfl rfl (rd_add rfl rfl rfl (wrap_id (k := .i64) (by show _ ∧ _; (first | omega | (dsimp only at *; omega))))) ?_
            first | refine q_rd (wanted_none rfl) rfl rfl (rd_faddrO rfl rfl Tryd.underlying37 rfl sz3 rfl) ?_ | refine q_rd (wanted_none rfl) rfl rfl (rd_faddrR rfl rfl Tryd.underlying37 rfl sz3 rfl) ?_
            refine seq_md (wanted_none rfl) (m_store rfl rfl rfl rfl rfl sz3 rfl rfl (by first | decide | (first | omega | (dsimp only at *; omega))) _ (fun _ _ => CEnt.refl _) rfl ?_)
            refine seq_nil ?_
            refine then_norm ?_
            refine code_seq ?_
            refine code_region ?_
            first | refine q_rdO (wanted_none rfl) rfl rfl (rd_loadOA rfl rfl (.inl rfl) Tryd.underlying37 ag37 sz37 (by first | decide | (first | omega | (dsimp only at *; omega)))) ?_ | refine q_rd (wanted_none rfl) rfl rfl (rd_loadRA rfl rfl Tryd.underlying37 ag37 sz37 (by first | decide | (first | omega | (dsimp only at *; omega)))) ?_ | refine q_rdO (wanted_none rfl) rfl rfl (rd_loadOA rfl rfl (.inr rfl) Tryd.underlying37 ag37 sz37 (by first | decide | (first | omega | (dsimp only at *; omega)))) ?_
            refine seq_md (wanted_none rfl) (m_store rfl rfl rfl rfl rfl sz37 rfl rfl (by first | decide | (first | omega | (dsimp only at *; omega))) _ (fun _ _ => CEnt.refl _) rfl ?_)
            refine seq_nil ?_
            refine then_norm ?_
            refine code_ret ?_
            refine end_val (.inl rfl) (res_1 rfl (arv_cellA rfl (.inl rfl) Tryd.underlying37 ag37 sz37 (by decide))) ?_
            have hR : RightP ⟨y, m, N - bf y - cum y m + 1, t / 3600 % 24, t / 60 % 60, t % 60⟩ := by
              unfold RightP
              dsimp only at *
              omega
            have hS : secM ⟨y, m, N - bf y - cum y m + 1, t / 3600 % 24, t / 60 % 60, t % 60⟩ = t := by
              unfold secM dn
              dsimp only
              clear hcs hcb hc13 hs hbd hR
              omega
            have e := of_sec hR
            rw [hS] at e
            rw [e]
            exact CEnt.agg6 (CEnt.refl _) (CEnt.refl _) (CEnt.refl _) (CEnt.refl _) (CEnt.refl _) (CEnt.refl _)
      · refine code_skip ?_
        refine then_norm ?_
        refine code_seq ?_
        refine code_region ?_
        refine q_rd (wanted_none rfl) rfl rfl (rd_move (v := .c _) rfl rfl) ?_
        refine q_rd (wanted_none rfl) rfl rfl (rd_move (v := .c _) rfl rfl) ?_
        refine q_rd (wanted_none rfl) rfl rfl (rd_sub rfl rfl rfl (wrap_id (k := .i64) (by show _ ∧ _; (first | omega | (dsimp only at *; omega))))) ?_
        refine q_rd (wanted_none rfl) rfl rfl (rd_assign (v := .c _) rfl rfl) ?_
        refine seq_nil ?_
        refine then_norm ?_
        refine code_region ?_
        first | refine q_rd (wanted_none rfl) rfl rfl (rd_faddrO rfl rfl Tryd.underlying37 rfl sz3 rfl) ?_ | refine q_rd (wanted_none rfl) rfl rfl (rd_faddrR rfl rfl Tryd.underlying37 rfl sz3 rfl) ?_
        first | refine q_rdO (wanted_none rfl) rfl rfl (rd_loadO (v := .c _) rfl rfl (.inl rfl) Tryd.underlying3 ag3 (by first | decide | (first | omega | (dsimp only at *; omega))) rfl) ?_ | refine q_rd (wanted_none rfl) rfl rfl (rd_loadR (v := .c _) rfl rfl Tryd.underlying3 ag3 (by first | decide | (first | omega | (dsimp only at *; omega))) rfl) ?_ | refine q_rdO (wanted_none rfl) rfl rfl (rd_loadO (v := .c _) rfl rfl (.inr rfl) Tryd.underlying3 ag3 (by first | decide | (first | omega | (dsimp only at *; omega))) rfl) ?_
        refine q_rd (wanted_none rfl) rfl rfl (rd_add rfl rfl rfl (wrap_id (k := .i64) (by show _ ∧ _; (first | omega | (dsimp only at *; omega))))) ?_
        first | refine q_rd (wanted_none rfl) rfl rfl (rd_faddrO rfl rfl Tryd.underlying37 rfl sz3 rfl) ?_ | refine q_rd (wanted_none rfl) rfl rfl (rd_faddrR rfl rfl Tryd.underlying37 rfl sz3 rfl) ?_
        refine seq_md (wanted_none rfl) (m_store rfl rfl rfl rfl rfl sz3 rfl rfl (by first | decide | (first | omega | (dsimp only at *; omega))) _ (fun _ _ => CEnt.refl _) rfl ?_)
        refine seq_nil ?_
        refine block_norm ?_
        refine then_norm ?_
        refine ⟨y + 1, ?_, ?_, rfl, rfl, ?_, by exact Nat.le_of_ble_eq_true rfl, ?_⟩
        · exact ⟨by omega, by simp only [*, if_true, Bool.false_eq_true, if_false] at hs; omega⟩
        · omega
        · exact .cons (CEnt.int (by simp only [*, if_true, Bool.false_eq_true, if_false] at hs; omega)) .nil
        · (repeat (first | exact HEnt.nil | refine HEnt.same ?_ | refine HEnt.blk rfl (fun j hj => by rcases j with _|_|_|_|_|_|_|_|j <;> first | exact CEnt.refl _ | exact CEnt.int (by omega) | omega) ?_))
    · refine code_skip ?_
      refine then_norm ?_
      refine code_seq ?_
      refine code_seq ?_
      refine code_region ?_
      refine q_rd (wanted_none rfl) rfl rfl (rd_move (v := .c _) rfl rfl) ?_
      refine q_rd (wanted_none rfl) rfl rfl (rd_move (v := .c _) rfl rfl) ?_
      refine q_rd (wanted_none rfl) rfl rfl (rd_lt rfl rfl rfl) ?_
      refine seq_nil ?_
      refine then_norm ?_
      first | refine code_condSD rfl rfl (fun h65 => ?_) (fun h65 => ?_) | refine code_condS rfl rfl (fun h65 => ?_) (fun h65 => ?_)
      · refine code_exit ?_
        refine then_exit ?_
        refine block_exit2 rfl ?_
        refine then_exit ?_
        refine block_exit rfl ?_
        refine then_norm ?_
        refine code_seq ?_
        refine code_block ?_
        refine l_loop (α := Int) [4, 30, 31, 32, 33, 34, 35, 36, 37, 38, 39, 40, 41, 42, 43, 44, 45, 46, 47] (fun m => [(4, .c (.int .i64 (N - bf y - cum y m)))]) (fun m => [(p1, .blk 6 (dF D6.zero)), (p2, .blk 6 (dF ⟨y, m, 0, t / 3600 % 24, t / 60 % 60, t % 60⟩))]) (fun m => 1 ≤ m ∧ m ≤ 12 ∧ cum y m ≤ N - bf y) (fun m => (13 - m).toNat) (1) ?_ (fun _ => rfl) ?_ ?_ ?_
        · exact ⟨by omega, by omega, by rw [cum_one]; omega⟩
        · exact .cons (CEnt.int (by rw [cum_one]; omega)) .nil
        · (repeat (first | exact HEnt.nil | refine HEnt.same ?_ | refine HEnt.blk rfl (fun j hj => by rcases j with _|_|_|_|_|_|_|_|j <;> first | exact CEnt.refl _ | exact CEnt.int (by omega) | omega) ?_))
        · rintro m ⟨m1, m2, hc⟩
          have hcb := cum_bd y m m1 (by omega)
          have hcs := cum_succ y m m1 m2
          have hdd := days_le y m
          have hc13 := cum_13 y
          have hm13 : m = 12 → cum y (m + 1) = cum y 13 := fun h => by rw [h]; rfl
          refine code_seq ?_
          refine code_seq ?_
          refine code_region ?_
          refine q_rd (wanted_none rfl) rfl rfl (rd_move (v := .c _) rfl rfl) ?_
          first | refine q_rd (wanted_none rfl) rfl rfl (rd_faddrO rfl rfl Tryd.underlying37 rfl sz3 rfl) ?_ | refine q_rd (wanted_none rfl) rfl rfl (rd_faddrR rfl rfl Tryd.underlying37 rfl sz3 rfl) ?_
          first | refine q_rdO (wanted_none rfl) rfl rfl (rd_loadO (v := .c _) rfl rfl (.inl rfl) Tryd.underlying3 ag3 (by first | decide | (first | omega | (dsimp only at *; omega))) rfl) ?_ | refine q_rd (wanted_none rfl) rfl rfl (rd_loadR (v := .c _) rfl rfl Tryd.underlying3 ag3 (by first | decide | (first | omega | (dsimp only at *; omega))) rfl) ?_ | refine q_rdO (wanted_none rfl) rfl rfl (rd_loadO (v := .c _) rfl rfl (.inr rfl) Tryd.underlying3 ag3 (by first | decide | (first | omega | (dsimp only at *; omega))) rfl) ?_
          first | refine q_rd (wanted_none rfl) rfl rfl (rd_faddrO rfl rfl Tryd.underlying37 rfl sz3 rfl) ?_ | refine q_rd (wanted_none rfl) rfl rfl (rd_faddrR rfl rfl Tryd.underlying37 rfl sz3 rfl) ?_
          first | refine q_rdO (wanted_none rfl) rfl rfl (rd_loadO (v := .c _) rfl rfl (.inl rfl) Tryd.underlying3 ag3 (by first | decide | (first | omega | (dsimp only at *; omega))) rfl) ?_ | refine q_rd (wanted_none rfl) rfl rfl (rd_loadR (v := .c _) rfl rfl Tryd.underlying3 ag3 (by first | decide | (first | omega | (dsimp only at *; omega))) rfl) ?_ | refine q_rdO (wanted_none rfl) rfl rfl (rd_loadO (v := .c _) rfl rfl (.inr rfl) Tryd.underlying3 ag3 (by first | decide | (first | omega | (dsimp only at *; omega))) rfl) ?_
          refine seq_ex (wanted_none rfl) (e_callP rfl (by kernel_rfl) (rdays_ac _ _) (.cons (by first | exact se rfl (CEnt.refl _) | exact se rfl CEnt.nil | exact se rfl CEnt.nilB | exact se rfl (CEnt.osI rfl) | exact se rfl CEnt.opI | exact se_nilO rfl | exact se rfl (CEnt.agg2 (CEnt.refl _) (CEnt.refl _)) | exact se rfl (CEnt.agg3 (CEnt.refl _) (CEnt.refl _) (CEnt.refl _)) | exact se rfl (CEnt.agg4 (CEnt.refl _) (CEnt.refl _) (CEnt.refl _) (CEnt.refl _)) | exact se rfl (CEnt.agg5 (CEnt.refl _) (CEnt.refl _) (CEnt.refl _) (CEnt.refl _) (CEnt.refl _)) | exact se rfl (CEnt.agg6 (CEnt.refl _) (CEnt.refl _) (CEnt.refl _) (CEnt.refl _) (CEnt.refl _) (CEnt.refl _)) | exact se_frzB _ rfl rfl rfl (by simp) (fun _ _ => CEnt.refl _)) (.cons (by first | exact se rfl (CEnt.refl _) | exact se rfl CEnt.nil | exact se rfl CEnt.nilB | exact se rfl (CEnt.osI rfl) | exact se rfl CEnt.opI | exact se_nilO rfl | exact se rfl (CEnt.agg2 (CEnt.refl _) (CEnt.refl _)) | exact se rfl (CEnt.agg3 (CEnt.refl _) (CEnt.refl _) (CEnt.refl _)) | exact se rfl (CEnt.agg4 (CEnt.refl _) (CEnt.refl _) (CEnt.refl _) (CEnt.refl _)) | exact se rfl (CEnt.agg5 (CEnt.refl _) (CEnt.refl _) (CEnt.refl _) (CEnt.refl _) (CEnt.refl _)) | exact se rfl (CEnt.agg6 (CEnt.refl _) (CEnt.refl _) (CEnt.refl _) (CEnt.refl _) (CEnt.refl _) (CEnt.refl _)) | exact se_frzB _ rfl rfl rfl (by simp) (fun _ _ => CEnt.refl _)) .nil)) rfl rfl ?_)
          refine q_rd (wanted_none rfl) rfl rfl (rd_ge rfl rfl rfl) ?_
          refine seq_nil ?_
          refine then_norm ?_
          first | refine code_condSD rfl rfl (fun h71 => ?_) (fun h71 => ?_) | refine code_condS rfl rfl (fun h71 => ?_) (fun h71 => ?_)
          · refine code_skip ?_
            refine then_norm ?_
            refine code_block ?_
            refine code_seq ?_
            refine code_region ?_
            refine q_rd (wanted_none rfl) rfl rfl (rd_move (v := .c _) rfl rfl) ?_
            first | refine q_rd (wanted_none rfl) rfl rfl (rd_faddrO rfl rfl Tryd.underlying37 rfl sz3 rfl) ?_ | refine q_rd (wanted_none rfl) rfl rfl (rd_faddrR rfl rfl Tryd.underlying37 rfl sz3 rfl) ?_
            first | refine q_rdO (wanted_none rfl) rfl rfl (rd_loadO (v := .c _) rfl rfl (.inl rfl) Tryd.underlying3 ag3 (by first | decide | (first | omega | (dsimp only at *; omega))) rfl) ?_ | refine q_rd (wanted_none rfl) rfl rfl (rd_loadR (v := .c _) rfl rfl Tryd.underlying3 ag3 (by first | decide | (first | omega | (dsimp only at *; omega))) rfl) ?_ | refine q_rdO (wanted_none rfl) rfl rfl (rd_loadO (v := .c _) rfl rfl (.inr rfl) Tryd.underlying3 ag3 (by first | decide | (first | omega | (dsimp only at *; omega))) rfl) ?_
            first | refine q_rd (wanted_none rfl) rfl rfl (rd_faddrO rfl rfl Tryd.underlying37 rfl sz3 rfl) ?_ | refine q_rd (wanted_none rfl) rfl rfl (rd_faddrR rfl rfl Tryd.underlying37 rfl sz3 rfl) ?_
            first | refine q_rdO (wanted_none rfl) rfl rfl (rd_loadO (v := .c _) rfl rfl (.inl rfl) Tryd.underlying3 ag3 (by first | decide | (first | omega | (dsimp only at *; omega))) rfl) ?_ | refine q_rd (wanted_none rfl) rfl rfl (rd_loadR (v := .c _) rfl rfl Tryd.underlying3 ag3 (by first | decide | (first | omega | (dsimp only at *; omega))) rfl) ?_ | refine q_rdO (wanted_none rfl) rfl rfl (rd_loadO (v := .c _) rfl rfl (.inr rfl) Tryd.underlying3 ag3 (by first | decide | (first | omega | (dsimp only at *; omega))) rfl) ?_
            refine seq_ex (wanted_none rfl) (e_callP rfl (by kernel_rfl) (rdays_ac _ _) (.cons (by first | exact se rfl (CEnt.refl _) | exact se rfl CEnt.nil | exact se rfl CEnt.nilB | exact se rfl (CEnt.osI rfl) | exact se rfl CEnt.opI | exact se_nilO rfl | exact se rfl (CEnt.agg2 (CEnt.refl _) (CEnt.refl _)) | exact se rfl (CEnt.agg3 (CEnt.refl _) (CEnt.refl _) (CEnt.refl _)) | exact se rfl (CEnt.agg4 (CEnt.refl _) (CEnt.refl _) (CEnt.refl _) (CEnt.refl _)) | exact se rfl (CEnt.agg5 (CEnt.refl _) (CEnt.refl _) (CEnt.refl _) (CEnt.refl _) (CEnt.refl _)) | exact se rfl (CEnt.agg6 (CEnt.refl _) (CEnt.refl _) (CEnt.refl _) (CEnt.refl _) (CEnt.refl _) (CEnt.refl _)) | exact se_frzB _ rfl rfl rfl (by simp) (fun _ _ => CEnt.refl _)) (.cons (by first | exact se rfl (CEnt.refl _) | exact se rfl CEnt.nil | exact se rfl CEnt.nilB | exact se rfl (CEnt.osI rfl) | exact se rfl CEnt.opI | exact se_nilO rfl | exact se rfl (CEnt.agg2 (CEnt.refl _) (CEnt.refl _)) | exact se rfl (CEnt.agg3 (CEnt.refl _) (CEnt.refl _) (CEnt.refl _)) | exact se rfl (CEnt.agg4 (CEnt.refl _) (CEnt.refl _) (CEnt.refl _) (CEnt.refl _)) | exact se rfl (CEnt.agg5 (CEnt.refl _) (CEnt.refl _) (CEnt.refl _) (CEnt.refl _) (CEnt.refl _)) | exact se rfl (CEnt.agg6 (CEnt.refl _) (CEnt.refl _) (CEnt.refl _) (CEnt.refl _) (CEnt.refl _) (CEnt.refl _)) | exact se_frzB _ rfl rfl rfl (by simp) (fun _ _ => CEnt.refl _)) .nil)) rfl rfl ?_)
            refine q_rd (wanted_none rfl) rfl rfl (rd_sub rfl rfl rfl (wrap_id (k := .i64) (by show _ ∧ _; (first | omega | (dsimp only at *; omega))))) ?_
            refine q_rd (wanted_none rfl) rfl rfl (rd_assign (v := .c _) rfl rfl) ?_
            refine seq_nil ?_
            refine then_norm ?_
            refine code_region ?_
            first | refine q_rd (wanted_none rfl) rfl rfl (rd_faddrO rfl rfl Tryd.underlying37 rfl sz3 rfl) ?_ | refine q_rd (wanted_none rfl) rfl rfl (rd_faddrR rfl rfl Tryd.underlying37 rfl sz3 rfl) ?_
            first | refine q_rdO (wanted_none rfl) rfl rfl (rd_loadO (v := .c _) rfl rfl (.inl rfl) Tryd.underlying3 ag3 (by first | decide | (first | omega | (dsimp only at *; omega))) rfl) ?_ | refine q_rd (wanted_none rfl) rfl rfl (rd_loadR (v := .c _) rfl rfl Tryd.underlying3 ag3 (by first | decide | (first | omega | (dsimp only at *; omega))) rfl) ?_ | refine q_rdO (wanted_none rfl) rfl rfl (rd_loadO (v := .c _) rfl rfl (.inr rfl) Tryd.underlying3 ag3 (by first | decide | (first | omega | (dsimp only at *; omega))) rfl) ?_
            refine q_rd (wanted_none rfl) rfl rfl (rd_add rfl rfl rfl (wrap_id (k := .i64) (by show _ ∧ _; (first | omega | (dsimp only at *; omega))))) ?_
            first | refine q_rd (wanted_none rfl) rfl rfl (rd_faddrO rfl rfl Tryd.underlying37 rfl sz3 rfl) ?_ | refine q_rd (wanted_none rfl) rfl rfl (rd_faddrR rfl rfl Tryd.underlying37 rfl sz3 rfl) ?_
            refine seq_md (wanted_none rfl) (m_store rfl rfl rfl rfl rfl sz3 rfl rfl (by first | decide | (first | omega | (dsimp only at *; omega))) _ (fun _ _ => CEnt.refl _) rfl ?_)
            refine seq_nil ?_
            refine block_norm ?_
            refine then_norm ?_
            refine ⟨m + 1, ?_, ?_, rfl, rfl, ?_, by exact Nat.le_of_ble_eq_true rfl, ?_⟩
            · exact ⟨by omega, by refine Decidable.byContradiction fun hn => ?_; have := hm13 (by omega); dsimp only at *; simp only [*, if_true, Bool.false_eq_true, if_false] at hs; omega, by dsimp only at *; omega⟩
            · omega
            · exact .cons (CEnt.int (by dsimp only at *; omega)) .nil
            · (repeat (first | exact HEnt.nil | refine HEnt.same ?_ | refine HEnt.blk rfl (fun j hj => by rcases j with _|_|_|_|_|_|_|_|j <;> first | exact CEnt.refl _ | exact CEnt.int (by omega) | omega) ?_))
          · refine code_exit ?_
            refine then_exit ?_
            refine then_exit ?_
            refine block_exit rfl ?_
            refine then_norm ?_
            refine code_seq ?_
            refine code_region ?_
            refine q_rd (wanted_none rfl) rfl rfl (rd_move (v := .c _) rfl rfl) ?_
            refine q_rd (wanted_none rfl) rfl rfl (rd_add rfl rfl rfl (wrap_id (k := .i64) (by show _ ∧ _; (first | omega | (dsimp only at *; omega))))) ?_
            first | refine q_rd (wanted_none rfl) rfl rfl (rd_faddrO rfl rfl Tryd.underlying37 rfl sz3 rfl) ?_ | refine q_rd (wanted_none rfl) rfl rfl (rd_faddrR rfl rfl Tryd.underlying37 rfl sz3 rfl) ?_
            refine seq_md (wanted_none rfl) (m_store rfl rfl rfl rfl rfl sz3 rfl rfl (by first | decide | (first | omega | (dsimp only at *; omega))) _ (fun _ _ => CEnt.refl _) rfl ?_)
            refine seq_nil ?_
            refine then_norm ?_
            refine code_seq ?_
            refine code_region ?_
            first | refine q_rdO (wanted_none rfl) rfl rfl (rd_loadOA rfl rfl (.inl rfl) Tryd.underlying37 ag37 sz37 (by first | decide | (first | omega | (dsimp only at *; omega)))) ?_ | refine q_rd (wanted_none rfl) rfl rfl (rd_loadRA rfl rfl Tryd.underlying37 ag37 sz37 (by first | decide | (first | omega | (dsimp only at *; omega)))) ?_ | refine q_rdO (wanted_none rfl) rfl rfl (rd_loadOA rfl rfl (.inr rfl) Tryd.underlying37 ag37 sz37 (by first | decide | (first | omega | (dsimp only at *; omega)))) ?_
            refine seq_md (wanted_none rfl) (m_store rfl rfl rfl rfl rfl sz37 rfl rfl (by first | decide | (first | omega | (dsimp only at *; omega))) _ (fun _ _ => CEnt.refl _) rfl ?_)
            refine seq_nil ?_
            refine then_norm ?_
            refine code_ret ?_
            refine end_val (.inl rfl) (res_1 rfl (arv_cellA rfl (.inl rfl) Tryd.underlying37 ag37 sz37 (by decide))) ?_
            have hR : RightP ⟨y, m, N - bf y - cum y m + 1, t / 3600 % 24, t / 60 % 60, t % 60⟩ := by
              unfold RightP
              dsimp only at *
              omega
            have hS : secM ⟨y, m, N - bf y - cum y m + 1, t / 3600 % 24, t / 60 % 60, t % 60⟩ = t := by
              unfold secM dn
              dsimp only
              clear hcs hcb hc13 hs hbd hR
              omega
            have e := of_sec hR
            rw [hS] at e
            rw [e]
            exact CEnt.agg6 (CEnt.refl _) (CEnt.refl _) (CEnt.refl _) (CEnt.refl _) (CEnt.refl _) (CEnt.refl _)
      · refine code_skip ?_
        refine then_norm ?_
        refine code_seq ?_
        refine code_region ?_
        refine q_rd (wanted_none rfl) rfl rfl (rd_move (v := .c _) rfl rfl) ?_
        refine q_rd (wanted_none rfl) rfl rfl (rd_move (v := .c _) rfl rfl) ?_
        refine q_rd (wanted_none rfl) rfl rfl (rd_sub rfl rfl rfl (wrap_id (k := .i64) (by show _ ∧ _; (first | omega | (dsimp only at *; omega))))) ?_
        refine q_rd (wanted_none rfl) rfl rfl (rd_assign (v := .c _) rfl rfl) ?_
        refine seq_nil ?_
        refine then_norm ?_
        refine code_region ?_
        first | refine q_rd (wanted_none rfl) rfl rfl (rd_faddrO rfl rfl Tryd.underlying37 rfl sz3 rfl) ?_ | refine q_rd (wanted_none rfl) rfl rfl (rd_faddrR rfl rfl Tryd.underlying37 rfl sz3 rfl) ?_
        first | refine q_rdO (wanted_none rfl) rfl rfl (rd_loadO (v := .c _) rfl rfl (.inl rfl) Tryd.underlying3 ag3 (by first | decide | (first | omega | (dsimp only at *; omega))) rfl) ?_ | refine q_rd (wanted_none rfl) rfl rfl (rd_loadR (v := .c _) rfl rfl Tryd.underlying3 ag3 (by first | decide | (first | omega | (dsimp only at *; omega))) rfl) ?_ | refine q_rdO (wanted_none rfl) rfl rfl (rd_loadO (v := .c _) rfl rfl (.inr rfl) Tryd.underlying3 ag3 (by first | decide | (first | omega | (dsimp only at *; omega))) rfl) ?_
        refine q_rd (wanted_none rfl) rfl rfl (rd_add rfl rfl rfl (wrap_id (k := .i64) (by show _ ∧ _; (first | omega | (dsimp only at *; omega))))) ?_
        first | refine q_rd (wanted_none rfl) rfl rfl (rd_faddrO rfl rfl Tryd.underlying37 rfl sz3 rfl) ?_ | refine q_rd (wanted_none rfl) rfl rfl (rd_faddrR rfl rfl Tryd.underlying37 rfl sz3 rfl) ?_
        refine seq_md (wanted_none rfl) (m_store rfl rfl rfl rfl rfl sz3 rfl rfl (by first | decide | (first | omega | (dsimp only at *; omega))) _ (fun _ _ => CEnt.refl _) rfl ?_)
        refine seq_nil ?_
        refine block_norm ?_
        refine then_norm ?_
        refine ⟨y + 1, ?_, ?_, rfl, rfl, ?_, by exact Nat.le_of_ble_eq_true rfl, ?_⟩
        · exact ⟨by omega, by simp only [*, if_true, Bool.false_eq_true, if_false] at hs; omega⟩
        · omega
        · exact .cons (CEnt.int (by simp only [*, if_true, Bool.false_eq_true, if_false] at hs; omega)) .nil
        · (repeat (first | exact HEnt.nil | refine HEnt.same ?_ | refine HEnt.blk rfl (fun j hj => by rcases j with _|_|_|_|_|_|_|_|j <;> first | exact CEnt.refl _ | exact CEnt.int (by omega) | omega) ?_))

theorem tex_bd {x : D6} (h : RightP x) {i : Nat} (hi : i < (texF x).length) : 0 ≤ (texF x).getD i 0 ∧ (texF x).getD i 0 ≤ 99 := by
  obtain ⟨q1, q2, q3, q4, q5, q6, q7, q8, q9, q10⟩ := id h
  have := days_le x.y x.m
  have qm := days_pos q3 q4
  rcases i with _ | _ | _ | _ | _ | _ | _ | i
  · show 0 ≤ x.y / 100 ∧ x.y / 100 ≤ 99; omega
  · show 0 ≤ x.y % 100 ∧ x.y % 100 ≤ 99; omega
  · show 0 ≤ x.m ∧ x.m ≤ 99; omega
  · show 0 ≤ x.d ∧ x.d ≤ 99; omega
  · show 0 ≤ x.h ∧ x.h ≤ 99; omega
  · show 0 ≤ x.mi ∧ x.mi ≤ 99; omega
  · show 0 ≤ x.s ∧ x.s ≤ 99; omega
  · simp [texF] at hi; omega
theorem rtext_ac (x : D6) (h : RightP x) : ACp gs Tryd.prog 51 [dateC x] (bsC (bodyL x)) := by
  obtain ⟨q1, q2, _⟩ := id h
  refine ac_of 44 Tryd.func51 rfl rfl rfl (fun al w0 F0 St0 => ?_)
  refine code_seq ?_
  refine code_region ?_
  refine seq_ex (wanted_none rfl) (e_box (n := 6) rfl rfl rfl rfl rfl rfl (fun p1 => ?_))
  first | refine q_rd (wanted_none rfl) rfl rfl (rd_assign (v := bsC _) rfl rfl) ?_ | refine q_rd (wanted_none rfl) rfl rfl (rd_assign (v := .rs _ _ _) rfl rfl) ?_ | refine q_rd (wanted_none rfl) rfl rfl (rd_assign (v := .os _ _ _ _ _) rfl rfl) ?_ | refine q_rd (wanted_none rfl) rfl rfl (rd_assign (v := .c _) rfl rfl) ?_ | refine q_rd (wanted_none rfl) rfl rfl (rd_assign (v := .pv _) rfl rfl) ?_ | refine q_rd (wanted_none rfl) rfl rfl (rd_assign (v := .top) rfl rfl) ?_
  refine seq_nil ?_
  refine then_norm ?_
  refine code_seq ?_
  refine code_region ?_
  refine seq_ex (wanted_none rfl) (e_buildSlice (n := 0) rfl Tryd.underlying30 sz5 zr5 rfl rfl rfl rfl rfl rfl rfl (fun p2 => ?_))
  first | refine q_rd (wanted_none rfl) rfl rfl (rd_assign (v := bsC _) rfl rfl) ?_ | refine q_rd (wanted_none rfl) rfl rfl (rd_assign (v := .rs _ _ _) rfl rfl) ?_ | refine q_rd (wanted_none rfl) rfl rfl (rd_assign (v := .os _ _ _ _ _) rfl rfl) ?_ | refine q_rd (wanted_none rfl) rfl rfl (rd_assign (v := .c _) rfl rfl) ?_ | refine q_rd (wanted_none rfl) rfl rfl (rd_assign (v := .pv _) rfl rfl) ?_ | refine q_rd (wanted_none rfl) rfl rfl (rd_assign (v := .top) rfl rfl) ?_
  refine seq_nil ?_
  refine then_norm ?_
  refine code_seq ?_
  refine code_seq ?_
  refine code_region ?_
  first | refine q_rd (wanted_none rfl) rfl rfl (rd_faddrO rfl rfl Tryd.underlying37 rfl sz3 rfl) ?_ | refine q_rd (wanted_none rfl) rfl rfl (rd_faddrR rfl rfl Tryd.underlying37 rfl sz3 rfl) ?_
  first | refine q_rdO (wanted_none rfl) rfl rfl (rd_loadO (v := .c _) rfl rfl (.inl rfl) Tryd.underlying3 ag3 (by first | decide | (first | omega | (dsimp only at *; omega))) rfl) ?_ | refine q_rd (wanted_none rfl) rfl rfl (rd_loadR (v := .c _) rfl rfl Tryd.underlying3 ag3 (by first | decide | (first | omega | (dsimp only at *; omega))) rfl) ?_ | refine q_rdO (wanted_none rfl) rfl rfl (rd_loadO (v := .c _) rfl rfl (.inr rfl) Tryd.underlying3 ag3 (by first | decide | (first | omega | (dsimp only at *; omega))) rfl) ?_
  first | refine q_rd (wanted_none rfl) rfl rfl (rd_quo rfl rfl rfl (by (first | omega | (dsimp only at *; omega))) (by (first | omega | (dsimp only at *; omega))) (wrap_id (k := .i64) (by show _ ∧ _; (first | omega | (dsimp only at *; omega))))) ?_ | refine q_rd (wanted_none rfl) rfl rfl (rd_quoT rfl rfl rfl (by (first | omega | (dsimp only at *; omega))) _ rfl) ?_
  first | refine q_rd (wanted_none rfl) rfl rfl (rd_faddrO rfl rfl Tryd.underlying37 rfl sz3 rfl) ?_ | refine q_rd (wanted_none rfl) rfl rfl (rd_faddrR rfl rfl Tryd.underlying37 rfl sz3 rfl) ?_
  first | refine q_rdO (wanted_none rfl) rfl rfl (rd_loadO (v := .c _) rfl rfl (.inl rfl) Tryd.underlying3 ag3 (by first | decide | (first | omega | (dsimp only at *; omega))) rfl) ?_ | refine q_rd (wanted_none rfl) rfl rfl (rd_loadR (v := .c _) rfl rfl Tryd.underlying3 ag3 (by first | decide | (first | omega | (dsimp only at *; omega))) rfl) ?_ | refine q_rdO (wanted_none rfl) rfl rfl (rd_loadO (v := .c _) rfl rfl (.inr rfl) Tryd.underlying3 ag3 (by first | decide | (first | omega | (dsimp only at *; omega))) rfl) ?_
  first | refine q_rd (wanted_none rfl) rfl rfl (rd_rem rfl rfl rfl (by (first | omega | (dsimp only at *; omega))) (by (first | omega | (dsimp only at *; omega)))) ?_ | refine q_rd (wanted_none rfl) rfl rfl (rd_remT rfl rfl rfl (by (first | omega | (dsimp only at *; omega)))) ?_
  first | refine q_rd (wanted_none rfl) rfl rfl (rd_faddrO rfl rfl Tryd.underlying37 rfl sz3 rfl) ?_ | refine q_rd (wanted_none rfl) rfl rfl (rd_faddrR rfl rfl Tryd.underlying37 rfl sz3 rfl) ?_
  first | refine q_rdO (wanted_none rfl) rfl rfl (rd_loadO (v := .c _) rfl rfl (.inl rfl) Tryd.underlying3 ag3 (by first | decide | (first | omega | (dsimp only at *; omega))) rfl) ?_ | refine q_rd (wanted_none rfl) rfl rfl (rd_loadR (v := .c _) rfl rfl Tryd.underlying3 ag3 (by first | decide | (first | omega | (dsimp only at *; omega))) rfl) ?_ | refine q_rdO (wanted_none rfl) rfl rfl (rd_loadO (v := .c _) rfl rfl (.inr rfl) Tryd.underlying3 ag3 (by first | decide | (first | omega | (dsimp only at *; omega))) rfl) ?_
  first | refine q_rd (wanted_none rfl) rfl rfl (rd_faddrO rfl rfl Tryd.underlying37 rfl sz3 rfl) ?_ | refine q_rd (wanted_none rfl) rfl rfl (rd_faddrR rfl rfl Tryd.underlying37 rfl sz3 rfl) ?_
  first | refine q_rdO (wanted_none rfl) rfl rfl (rd_loadO (v := .c _) rfl rfl (.inl rfl) Tryd.underlying3 ag3 (by first | decide | (first | omega | (dsimp only at *; omega))) rfl) ?_ | refine q_rd (wanted_none rfl) rfl rfl (rd_loadR (v := .c _) rfl rfl Tryd.underlying3 ag3 (by first | decide | (first | omega | (dsimp only at *; omega))) rfl) ?_ | refine q_rdO (wanted_none rfl) rfl rfl (rd_loadO (v := .c _) rfl rfl (.inr rfl) Tryd.underlying3 ag3 (by first | decide | (first | omega | (dsimp only at *; omega))) rfl) ?_
  first | refine q_rd (wanted_none rfl) rfl rfl (rd_faddrO rfl rfl Tryd.underlying37 rfl sz3 rfl) ?_ | refine q_rd (wanted_none rfl) rfl rfl (rd_faddrR rfl rfl Tryd.underlying37 rfl sz3 rfl) ?_
  first | refine q_rdO (wanted_none rfl) rfl rfl (rd_loadO (v := .c _) rfl rfl (.inl rfl) Tryd.underlying3 ag3 (by first | decide | (first | omega | (dsimp only at *; omega))) rfl) ?_ | refine q_rd (wanted_none rfl) rfl rfl (rd_loadR (v := .c _) rfl rfl Tryd.underlying3 ag3 (by first | decide | (first | omega | (dsimp only at *; omega))) rfl) ?_ | refine q_rdO (wanted_none rfl) rfl rfl (rd_loadO (v := .c _) rfl rfl (.inr rfl) Tryd.underlying3 ag3 (by first | decide | (first | omega | (dsimp only at *; omega))) rfl) ?_
  first | refine q_rd (wanted_none rfl) rfl rfl (rd_faddrO rfl rfl Tryd.underlying37 rfl sz3 rfl) ?_ | refine q_rd (wanted_none rfl) rfl rfl (rd_faddrR rfl rfl Tryd.underlying37 rfl sz3 rfl) ?_
  first | refine q_rdO (wanted_none rfl) rfl rfl (rd_loadO (v := .c _) rfl rfl (.inl rfl) Tryd.underlying3 ag3 (by first | decide | (first | omega | (dsimp only at *; omega))) rfl) ?_ | refine q_rd (wanted_none rfl) rfl rfl (rd_loadR (v := .c _) rfl rfl Tryd.underlying3 ag3 (by first | decide | (first | omega | (dsimp only at *; omega))) rfl) ?_ | refine q_rdO (wanted_none rfl) rfl rfl (rd_loadO (v := .c _) rfl rfl (.inr rfl) Tryd.underlying3 ag3 (by first | decide | (first | omega | (dsimp only at *; omega))) rfl) ?_
  first | refine q_rd (wanted_none rfl) rfl rfl (rd_faddrO rfl rfl Tryd.underlying37 rfl sz3 rfl) ?_ | refine q_rd (wanted_none rfl) rfl rfl (rd_faddrR rfl rfl Tryd.underlying37 rfl sz3 rfl) ?_
  first | refine q_rdO (wanted_none rfl) rfl rfl (rd_loadO (v := .c _) rfl rfl (.inl rfl) Tryd.underlying3 ag3 (by first | decide | (first | omega | (dsimp only at *; omega))) rfl) ?_ | refine q_rd (wanted_none rfl) rfl rfl (rd_loadR (v := .c _) rfl rfl Tryd.underlying3 ag3 (by first | decide | (first | omega | (dsimp only at *; omega))) rfl) ?_ | refine q_rdO (wanted_none rfl) rfl rfl (rd_loadO (v := .c _) rfl rfl (.inr rfl) Tryd.underlying3 ag3 (by first | decide | (first | omega | (dsimp only at *; omega))) rfl) ?_
  refine seq_ex (wanted_none rfl) (e_buildSlice (n := 7) rfl Tryd.underlying72 sz3 zr3 rfl rfl rfl rfl rfl rfl rfl (fun p3 => ?_))
  first | refine q_rd (wanted_none rfl) rfl rfl (rd_lenR rfl rfl Tryd.underlying72) ?_ | refine q_rd (wanted_none rfl) rfl rfl (rd_lenO rfl rfl Tryd.underlying72) ?_ | refine q_rd (wanted_none rfl) rfl rfl (rd_lenN rfl rfl Tryd.underlying72) ?_
  refine q_rd (wanted_none rfl) rfl rfl (rd_move (v := .c _) rfl rfl) ?_
  refine seq_nil ?_
  refine then_norm ?_
  refine code_block ?_
  refine l_loop (α := Nat × Option Nat) [3, 5, 25, 26, 27, 28, 29, 30, 31, 32, 33, 34, 35, 36, 37, 38, 39, 40] (fun (i, g) => [(3, .os 1 g 0 (texL x i).length 1), (25, .c (.int .i64 (i : Nat)))]) (fun (i, g) => [(p1, .blk 6 (dF x)), (g, .blk (texL x i).length (byF (texL x i))), (p3, .blk 7 (inF (texF x)))]) (fun i => i.1 ≤ 7) (fun i => 7 - i.1) ((0, p2)) ?_ (fun _ => rfl) ?_ ?_ ?_
  · simp
  · (repeat (first | exact EntE.nil | refine EntE.cons (CEnt.refl _) ?_ | refine EntE.cons (CEnt.int (by omega)) ?_))
  · exact .blk rfl (fun j hj => by rcases j with _|_|_|_|_|_|j <;> first | exact CEnt.refl _ | omega) (.blk rfl (fun j hj => absurd hj (by show ¬ j < 0; omega)) (.blk rfl (fun j hj => fl_ints (texF x) j hj) .nil))
  · rintro ⟨i, g'⟩ (hi : i ≤ 7)
    refine code_seq ?_
    refine code_region ?_
    refine q_rd (wanted_none rfl) rfl rfl (rd_lt rfl rfl rfl) ?_
    refine seq_nil ?_
    refine then_norm ?_
    refine code_seq ?_
    first | refine code_condSD rfl rfl (fun h82 => ?_) (fun h82 => ?_) | refine code_condS rfl rfl (fun h82 => ?_) (fun h82 => ?_)
    · refine code_skip ?_
      refine then_norm ?_
      refine code_seq ?_
      refine code_block ?_
      refine code_seq ?_
      refine code_region ?_
      first | refine q_rd (wanted_none rfl) rfl rfl (rd_iaddrR rfl rfl rfl Tryd.underlying72 sz3 rfl (by (first | omega | (dsimp only at *; omega))) (by decide)) ?_ | refine q_rd (wanted_none rfl) rfl rfl (rd_iaddrO1 rfl rfl rfl Tryd.underlying72 sz3 rfl (by (first | omega | (dsimp only at *; omega)))) ?_ | refine q_rd (wanted_none rfl) rfl rfl (rd_iaddrO rfl rfl rfl Tryd.underlying72 sz3 rfl (by (first | omega | (dsimp only at *; omega)))) ?_ | refine q_rd (wanted_none rfl) rfl rfl (rd_iaddrR rfl rfl rfl Tryd.underlying72 sz3 (natI (by omega)) (by (first | omega | (dsimp only at *; omega))) (by decide)) ?_ | refine q_rd (wanted_none rfl) rfl rfl (rd_iaddrO1 rfl rfl rfl Tryd.underlying72 sz3 (natI (by omega)) (by (first | omega | (dsimp only at *; omega)))) ?_ | refine q_rd (wanted_none rfl) rfl rfl (rd_iaddrO rfl rfl rfl Tryd.underlying72 sz3 (natI (by omega)) (by (first | omega | (dsimp only at *; omega)))) ?_
      first | refine q_rdO (wanted_none rfl) rfl rfl (rd_loadO (v := .c _) rfl rfl (.inl rfl) Tryd.underlying3 ag3 (by first | decide | (first | omega | (dsimp only at *; omega))) rfl) ?_ | refine q_rd (wanted_none rfl) rfl rfl (rd_loadR (v := .c _) rfl rfl Tryd.underlying3 ag3 (by first | decide | (first | omega | (dsimp only at *; omega))) rfl) ?_ | refine q_rdO (wanted_none rfl) rfl rfl (rd_loadO (v := .c _) rfl rfl (.inr rfl) Tryd.underlying3 ag3 (by first | decide | (first | omega | (dsimp only at *; omega))) rfl) ?_
      refine q_rd (wanted_none rfl) rfl rfl (rd_assign (v := .c _) rfl rfl) ?_
      refine seq_nil ?_
      refine then_norm ?_
      have hlt : i < (texF x).length := by simp [texF]; omega
      have hb := tex_bd h hlt
      have hlen := texL_len x hi
      refine code_region ?_
      first | refine q_rd (wanted_none rfl) rfl rfl (rd_move (v := bsC _) rfl rfl) ?_ | refine q_rd (wanted_none rfl) rfl rfl (rd_move (v := .rs _ _ _) rfl rfl) ?_ | refine q_rd (wanted_none rfl) rfl rfl (rd_move (v := .os _ _ _ _ _) rfl rfl) ?_ | refine q_rd (wanted_none rfl) rfl rfl (rd_move (v := .c _) rfl rfl) ?_ | refine q_rd (wanted_none rfl) rfl rfl (rd_move (v := .pv _) rfl rfl) ?_ | refine q_rd (wanted_none rfl) rfl rfl (rd_move (v := .top) rfl rfl) ?_
      refine q_rd (wanted_none rfl) rfl rfl (rd_move (v := .c _) rfl rfl) ?_
      first | refine q_rd (wanted_none rfl) rfl rfl (rd_quo rfl rfl rfl (by (first | omega | (dsimp only at *; omega))) (by (first | omega | (dsimp only at *; omega))) (wrap_id (k := .i64) (by show _ ∧ _; (first | omega | (dsimp only at *; omega))))) ?_ | refine q_rd (wanted_none rfl) rfl rfl (rd_quoT rfl rfl rfl (by (first | omega | (dsimp only at *; omega))) _ rfl) ?_
      refine q_rd (wanted_none rfl) rfl rfl (rd_add rfl rfl rfl (wrap_id (k := .i64) (by show _ ∧ _; (first | omega | (dsimp only at *; omega))))) ?_
      first | refine q_rd (wanted_none rfl) rfl rfl (rd_convI rfl rfl Tryd.underlying3 Tryd.underlying5 _ (wrap_id (k := .u8) (by show _ ∧ _; (first | omega | (dsimp only at *; omega))))) ?_ | refine q_rd (wanted_none rfl) rfl rfl (rd_convI rfl rfl Tryd.underlying3 Tryd.underlying5 _ rfl) ?_
      refine q_rd (wanted_none rfl) rfl rfl (rd_move (v := .c _) rfl rfl) ?_
      first | refine q_rd (wanted_none rfl) rfl rfl (rd_rem rfl rfl rfl (by (first | omega | (dsimp only at *; omega))) (by (first | omega | (dsimp only at *; omega)))) ?_ | refine q_rd (wanted_none rfl) rfl rfl (rd_remT rfl rfl rfl (by (first | omega | (dsimp only at *; omega)))) ?_
      refine q_rd (wanted_none rfl) rfl rfl (rd_add rfl rfl rfl (wrap_id (k := .i64) (by show _ ∧ _; (first | omega | (dsimp only at *; omega))))) ?_
      first | refine q_rd (wanted_none rfl) rfl rfl (rd_convI rfl rfl Tryd.underlying3 Tryd.underlying5 _ (wrap_id (k := .u8) (by show _ ∧ _; (first | omega | (dsimp only at *; omega))))) ?_ | refine q_rd (wanted_none rfl) rfl rfl (rd_convI rfl rfl Tryd.underlying3 Tryd.underlying5 _ rfl) ?_
      refine seq_ex (wanted_none rfl) (e_buildSlice (n := 2) rfl Tryd.underlying30 sz5 zr5 rfl rfl rfl rfl rfl rfl rfl (fun p4 => ?_))
      refine seq_md (wanted_none rfl) (m_appendB (l2 := [figc ((texF x).getD i 0) 10, figc ((texF x).getD i 0) 1]) rfl rfl rfl (Nat.le_refl _) (fun _ _ => CEnt.refl _) (src_os rfl (.inl rfl) (by decide)) rfl (hh_bytes (.cons (CEnt.int ((by rw [figc_nat (by omega)]; show _ = 48 + _; omega))) (.cons (CEnt.int ((by rw [figc_nat (by omega)]; omega))) .nil))) Tryd.underlying30 nu30 sz5 zr5 by5 rfl (by first | omega | (simp; omega) | (simp at *; omega)) (leaf_fl rfl rfl) rfl rfl (fun p5 => ?_))
      first | refine q_rd (wanted_none rfl) rfl rfl (rd_assign (v := bsC _) rfl rfl) ?_ | refine q_rd (wanted_none rfl) rfl rfl (rd_assign (v := .rs _ _ _) rfl rfl) ?_ | refine q_rd (wanted_none rfl) rfl rfl (rd_assign (v := .os _ _ _ _ _) rfl rfl) ?_ | refine q_rd (wanted_none rfl) rfl rfl (rd_assign (v := .c _) rfl rfl) ?_ | refine q_rd (wanted_none rfl) rfl rfl (rd_assign (v := .pv _) rfl rfl) ?_ | refine q_rd (wanted_none rfl) rfl rfl (rd_assign (v := .top) rfl rfl) ?_
      refine seq_nil ?_
      refine block_norm ?_
      refine then_norm ?_
      refine code_region ?_
      refine q_rd (wanted_none rfl) rfl rfl (rd_add rfl rfl rfl (wrap_id (k := .i64) (by show _ ∧ _; (first | omega | (dsimp only at *; omega))))) ?_
      refine q_rd (wanted_none rfl) rfl rfl (rd_move (v := .c _) rfl rfl) ?_
      refine seq_nil ?_
      refine then_norm ?_
      refine ⟨(i + 1, p5), ?_, ?_, rfl, rfl, ?_, by exact Nat.le_of_ble_eq_true rfl, ?_⟩
      · omega
      · omega
      · simp only [texL_succ hlt]
        (repeat (first | exact EntE.nil | refine EntE.cons (CEnt.refl _) ?_ | refine EntE.cons (CEnt.int (by omega)) ?_))
      · simp only [texL_succ hlt]
        (repeat (first | exact HEnt.nil | refine HEnt.same ?_ | refine HEnt.blk rfl (fun j hj => by rcases j with _|_|_|_|_|_|_|_|j <;> first | exact CEnt.refl _ | exact CEnt.int (by omega) | omega) ?_))
    · refine code_exit ?_
      refine then_exit ?_
      refine then_exit ?_
      refine block_exit rfl ?_
      refine then_norm ?_
      refine code_seq ?_
      have hlen := texL_len x hi
      have hi7 : i = 7 := by omega
      refine code_region ?_
      first | refine q_rd (wanted_none rfl) rfl rfl (rd_move (v := bsC _) rfl rfl) ?_ | refine q_rd (wanted_none rfl) rfl rfl (rd_move (v := .rs _ _ _) rfl rfl) ?_ | refine q_rd (wanted_none rfl) rfl rfl (rd_move (v := .os _ _ _ _ _) rfl rfl) ?_ | refine q_rd (wanted_none rfl) rfl rfl (rd_move (v := .c _) rfl rfl) ?_ | refine q_rd (wanted_none rfl) rfl rfl (rd_move (v := .pv _) rfl rfl) ?_ | refine q_rd (wanted_none rfl) rfl rfl (rd_move (v := .top) rfl rfl) ?_
      refine seq_ex (wanted_none rfl) (e_buildSlice (n := 1) rfl Tryd.underlying30 sz5 zr5 rfl rfl rfl rfl rfl rfl rfl (fun p4 => ?_))
      refine seq_md (wanted_none rfl) (m_appendB (l2 := [90]) rfl rfl rfl (Nat.le_refl _) (fun _ _ => CEnt.refl _) (src_os rfl (.inl rfl) (by decide)) rfl (hh_bytes (.cons (CEnt.int (rfl)) .nil)) Tryd.underlying30 nu30 sz5 zr5 by5 rfl (by first | omega | (simp; omega) | (simp at *; omega)) (leaf_fl rfl rfl) rfl rfl (fun p5 => ?_))
      first | refine q_rd (wanted_none rfl) rfl rfl (rd_assign (v := bsC _) rfl rfl) ?_ | refine q_rd (wanted_none rfl) rfl rfl (rd_assign (v := .rs _ _ _) rfl rfl) ?_ | refine q_rd (wanted_none rfl) rfl rfl (rd_assign (v := .os _ _ _ _ _) rfl rfl) ?_ | refine q_rd (wanted_none rfl) rfl rfl (rd_assign (v := .c _) rfl rfl) ?_ | refine q_rd (wanted_none rfl) rfl rfl (rd_assign (v := .pv _) rfl rfl) ?_ | refine q_rd (wanted_none rfl) rfl rfl (rd_assign (v := .top) rfl rfl) ?_
      refine seq_nil ?_
      refine then_norm ?_
      refine code_ent (freeze 1 rfl) ?_
      refine code_ent (thawB 2 (texL x i ++ [90]) rfl rfl rfl rfl) ?_
      refine code_ret ?_
      refine end_val (.inl rfl) (res_1 rfl (arv_tmp rfl)) ?_
      subst hi7
      rw [← texL_all (by omega) q2]
      exact CEnt.refl _
end Am
end Go.Proofs.YtmlnipbeancnpaaDoor
