
/- Chapter 22: Concat, Default. -/
import Derived.Test.YtghgbhekjgincaaW22d
namespace Go.Proofs.Ytghgbhekjgincaa
set_option linter.unusedVariables false
namespace Am
variable {gs : List Nat} [OkG gs]
open Go.RowKit
set_option maxRecDepth 100000

def tabsC (ls : List (List R5)) : CV := .rs 1 ls.length fun i _ => tabC (ls.getD i [])
def sumR (ls : List (List R5)) : Nat := (ls.map List.length).sum
theorem sumR_take {ls : List (List R5)} {i : Nat} (hi : i < ls.length) : sumR (ls.take (i + 1)) = sumR (ls.take i) + (ls.getD i []).length := by
  have e : ls.getD i [] = ls[i] := by simp [List.getD, hi]
  rw [List.take_succ_eq_append_getElem hi, e]
  simp only [sumR, List.map_append, List.map_cons, List.map_nil, List.sum_append, List.sum_cons, List.sum_nil, Nat.add_zero]
theorem sumR_le (ls : List (List R5)) (i : Nat) : sumR (ls.take i) ≤ sumR ls := by
  have e : ls = ls.take i ++ ls.drop i := (List.take_append_drop i ls).symm
  have : sumR ls = sumR (ls.take i) + sumR (ls.drop i) := by
    conv => lhs; rw [e]
    simp only [sumR, List.map_append, List.sum_append]
  omega
theorem flatR_take {ls : List (List R5)} {i : Nat} (hi : i < ls.length) : (ls.take (i + 1)).flatten = (ls.take i).flatten ++ ls.getD i [] := by
  have e : ls.getD i [] = ls[i] := by simp [List.getD, hi]
  rw [List.take_succ_eq_append_getElem hi, e]
  simp only [List.flatten_append, List.flatten_cons, List.flatten_nil, List.append_nil]
theorem flatR_len (ls : List (List R5)) : ls.flatten.length = sumR ls := by simp [sumR, List.length_flatten]
theorem concat22_ac {gs : List Nat} (ls : List (List R5)) (h : sumR ls ≤ 100000) (hl : ls.length ≤ 1000000) : ACp gs Try.prog 19 [tabsC ls] (tabC ls.flatten) := by
  refine ac_of 36 Try.func19 rfl rfl rfl (fun al w0 F0 St0 => ?_)
  refine code_seq ?_
  refine code_region ?_
  first | refine q_rd (wanted_none rfl) rfl rfl (rd_assign (v := .rs _ _ _) rfl rfl) ?_ | refine q_rd (wanted_none rfl) rfl rfl (rd_assign (v := .os _ _ _ _ _) rfl rfl) ?_ | refine q_rd (wanted_none rfl) rfl rfl (rd_assign (v := .c _) rfl rfl) ?_ | refine q_rd (wanted_none rfl) rfl rfl (rd_assign (v := .pv _) rfl rfl) ?_ | refine q_rd (wanted_none rfl) rfl rfl (rd_assign (v := .top) rfl rfl) ?_
  refine seq_nil ?_
  refine then_norm ?_
  refine code_seq ?_
  refine code_region ?_
  refine q_rd (wanted_none rfl) rfl rfl (rd_assign (v := .c _) rfl rfl) ?_
  refine seq_nil ?_
  refine then_norm ?_
  refine code_seq ?_
  refine code_seq ?_
  refine code_region ?_
  first | refine q_rd (wanted_none rfl) rfl rfl (rd_move (v := .rs _ _ _) rfl rfl) ?_ | refine q_rd (wanted_none rfl) rfl rfl (rd_move (v := .os _ _ _ _ _) rfl rfl) ?_ | refine q_rd (wanted_none rfl) rfl rfl (rd_move (v := .c _) rfl rfl) ?_ | refine q_rd (wanted_none rfl) rfl rfl (rd_move (v := .pv _) rfl rfl) ?_ | refine q_rd (wanted_none rfl) rfl rfl (rd_move (v := .top) rfl rfl) ?_
  first | refine q_rd (wanted_none rfl) rfl rfl (rd_lenR rfl rfl Try.underlying50) ?_ | refine q_rd (wanted_none rfl) rfl rfl (rd_lenO rfl rfl Try.underlying50) ?_ | refine q_rd (wanted_none rfl) rfl rfl (rd_lenN rfl rfl Try.underlying50) ?_
  refine q_rd (wanted_none rfl) rfl rfl (rd_move (v := .c _) rfl rfl) ?_
  refine seq_nil ?_
  refine then_norm ?_
  refine code_block ?_
  refine l_loop (α := Nat) [3, 5, 11, 12, 13, 14, 15, 16, 17, 18, 19, 20, 21, 22] (fun i => [(3, .c (.int .i64 (sumR (ls.take i) : Nat))), (11, .c (.int .i64 (i : Nat)))]) (fun _ => []) (fun i => i ≤ ls.length) (fun i => ls.length - i) (0) ?_ (fun _ => rfl) ?_ ?_ ?_
  · exact Nat.zero_le _
  · exact .cons (CEnt.refl _) (.cons (CEnt.refl _) .nil)
  · (repeat (first | exact HEnt.nil | refine HEnt.same ?_ | refine HEnt.blk rfl (fun j hj => by rcases j with _|_|_|_|_|_|_|_|j <;> first | exact CEnt.refl _ | exact CEnt.int (by omega) | omega) ?_))
  · rintro i (hi : i ≤ ls.length)
    refine code_seq ?_
    refine code_region ?_
    refine q_rd (wanted_none rfl) rfl rfl (rd_lt rfl rfl rfl) ?_
    refine seq_nil ?_
    refine then_norm ?_
    refine code_seq ?_
    first | refine code_condSD rfl rfl (fun h493 => ?_) (fun h493 => ?_) | refine code_condS rfl rfl (fun h493 => ?_) (fun h493 => ?_)
    · refine code_skip ?_
      refine then_norm ?_
      refine code_seq ?_
      refine code_block ?_
      refine code_seq ?_
      refine code_region ?_
      first | refine q_rd (wanted_none rfl) rfl rfl (rd_iaddrR rfl rfl rfl Try.underlying50 sz22 rfl (by (first | omega | decide | (dsimp only at *; omega))) (by decide)) ?_ | refine q_rd (wanted_none rfl) rfl rfl (rd_iaddrO1 rfl rfl rfl Try.underlying50 sz22 rfl (by (first | omega | decide | (dsimp only at *; omega)))) ?_ | refine q_rd (wanted_none rfl) rfl rfl (rd_iaddrO rfl rfl rfl Try.underlying50 sz22 rfl (by (first | omega | decide | (dsimp only at *; omega)))) ?_ | refine q_rd (wanted_none rfl) rfl rfl (rd_iaddrR rfl rfl rfl Try.underlying50 sz22 (natI (by omega)) (by (first | omega | decide | (dsimp only at *; omega))) (by decide)) ?_ | refine q_rd (wanted_none rfl) rfl rfl (rd_iaddrO1 rfl rfl rfl Try.underlying50 sz22 (natI (by omega)) (by (first | omega | decide | (dsimp only at *; omega)))) ?_ | refine q_rd (wanted_none rfl) rfl rfl (rd_iaddrO rfl rfl rfl Try.underlying50 sz22 (natI (by omega)) (by (first | omega | decide | (dsimp only at *; omega)))) ?_
      first | refine q_rdO (wanted_none rfl) rfl rfl (rd_loadO (v := .rs _ _ _) rfl rfl (.inl rfl) Try.underlying22 ag22 (by first | decide | (first | omega | decide | (dsimp only at *; omega))) rfl) ?_ | refine q_rdO (wanted_none rfl) rfl rfl (rd_loadO (v := .os _ _ _ _ _) rfl rfl (.inl rfl) Try.underlying22 ag22 (by first | decide | (first | omega | decide | (dsimp only at *; omega))) rfl) ?_ | refine q_rdO (wanted_none rfl) rfl rfl (rd_loadO (v := .c _) rfl rfl (.inl rfl) Try.underlying22 ag22 (by first | decide | (first | omega | decide | (dsimp only at *; omega))) rfl) ?_ | refine q_rdO (wanted_none rfl) rfl rfl (rd_loadO (v := .pv _) rfl rfl (.inl rfl) Try.underlying22 ag22 (by first | decide | (first | omega | decide | (dsimp only at *; omega))) rfl) ?_ | refine q_rdO (wanted_none rfl) rfl rfl (rd_loadO (v := .top) rfl rfl (.inl rfl) Try.underlying22 ag22 (by first | decide | (first | omega | decide | (dsimp only at *; omega))) rfl) ?_ | refine q_rd (wanted_none rfl) rfl rfl (rd_loadR (v := .rs _ _ _) rfl rfl Try.underlying22 ag22 (by first | decide | (first | omega | decide | (dsimp only at *; omega))) rfl) ?_ | refine q_rd (wanted_none rfl) rfl rfl (rd_loadR (v := .os _ _ _ _ _) rfl rfl Try.underlying22 ag22 (by first | decide | (first | omega | decide | (dsimp only at *; omega))) rfl) ?_ | refine q_rd (wanted_none rfl) rfl rfl (rd_loadR (v := .c _) rfl rfl Try.underlying22 ag22 (by first | decide | (first | omega | decide | (dsimp only at *; omega))) rfl) ?_ | refine q_rd (wanted_none rfl) rfl rfl (rd_loadR (v := .pv _) rfl rfl Try.underlying22 ag22 (by first | decide | (first | omega | decide | (dsimp only at *; omega))) rfl) ?_ | refine q_rd (wanted_none rfl) rfl rfl (rd_loadR (v := .top) rfl rfl Try.underlying22 ag22 (by first | decide | (first | omega | decide | (dsimp only at *; omega))) rfl) ?_ | refine q_rdO (wanted_none rfl) rfl rfl (rd_loadO (v := .rs _ _ _) rfl rfl (.inr rfl) Try.underlying22 ag22 (by first | decide | (first | omega | decide | (dsimp only at *; omega))) rfl) ?_ | refine q_rdO (wanted_none rfl) rfl rfl (rd_loadO (v := .os _ _ _ _ _) rfl rfl (.inr rfl) Try.underlying22 ag22 (by first | decide | (first | omega | decide | (dsimp only at *; omega))) rfl) ?_ | refine q_rdO (wanted_none rfl) rfl rfl (rd_loadO (v := .c _) rfl rfl (.inr rfl) Try.underlying22 ag22 (by first | decide | (first | omega | decide | (dsimp only at *; omega))) rfl) ?_ | refine q_rdO (wanted_none rfl) rfl rfl (rd_loadO (v := .pv _) rfl rfl (.inr rfl) Try.underlying22 ag22 (by first | decide | (first | omega | decide | (dsimp only at *; omega))) rfl) ?_ | refine q_rdO (wanted_none rfl) rfl rfl (rd_loadO (v := .top) rfl rfl (.inr rfl) Try.underlying22 ag22 (by first | decide | (first | omega | decide | (dsimp only at *; omega))) rfl) ?_
      first | refine q_rd (wanted_none rfl) rfl rfl (rd_assign (v := .rs _ _ _) rfl rfl) ?_ | refine q_rd (wanted_none rfl) rfl rfl (rd_assign (v := .os _ _ _ _ _) rfl rfl) ?_ | refine q_rd (wanted_none rfl) rfl rfl (rd_assign (v := .c _) rfl rfl) ?_ | refine q_rd (wanted_none rfl) rfl rfl (rd_assign (v := .pv _) rfl rfl) ?_ | refine q_rd (wanted_none rfl) rfl rfl (rd_assign (v := .top) rfl rfl) ?_
      refine seq_nil ?_
      refine then_norm ?_
      refine code_seq ?_
      have hs1 := sumR_take (ls := ls) (i := i) (by omega)
      have hs2 := sumR_le ls (i + 1)
      refine code_region ?_
      refine q_rd (wanted_none rfl) rfl rfl (rd_move (v := .c _) rfl rfl) ?_
      first | refine q_rd (wanted_none rfl) rfl rfl (rd_move (v := .rs _ _ _) rfl rfl) ?_ | refine q_rd (wanted_none rfl) rfl rfl (rd_move (v := .os _ _ _ _ _) rfl rfl) ?_ | refine q_rd (wanted_none rfl) rfl rfl (rd_move (v := .c _) rfl rfl) ?_ | refine q_rd (wanted_none rfl) rfl rfl (rd_move (v := .pv _) rfl rfl) ?_ | refine q_rd (wanted_none rfl) rfl rfl (rd_move (v := .top) rfl rfl) ?_
      first | refine q_rd (wanted_none rfl) rfl rfl (rd_lenR rfl rfl Try.underlying22) ?_ | refine q_rd (wanted_none rfl) rfl rfl (rd_lenO rfl rfl Try.underlying22) ?_ | refine q_rd (wanted_none rfl) rfl rfl (rd_lenN rfl rfl Try.underlying22) ?_
      refine q_rd (wanted_none rfl) rfl rfl (rd_add rfl rfl rfl (wrap_id (k := .i64) (by show _ ∧ _; (first | omega | decide | (dsimp only at *; omega))))) ?_
      refine q_rd (wanted_none rfl) rfl rfl (rd_assign (v := .c _) rfl rfl) ?_
      refine seq_nil ?_
      refine then_norm ?_
      refine code_seq ?_
      refine code_region ?_
      refine q_rd (wanted_none rfl) rfl rfl (rd_move (v := .c _) rfl rfl) ?_
      refine q_rd (wanted_none rfl) rfl rfl (rd_lt rfl rfl rfl) ?_
      refine seq_nil ?_
      refine then_norm ?_
      first | refine code_condSD rfl rfl (fun h495 => ?_) (fun h495 => ?_) | refine code_condS rfl rfl (fun h495 => ?_) (fun h495 => ?_)
      · exfalso; omega
      · refine code_skip ?_
        refine block_norm ?_
        refine then_norm ?_
        refine code_region ?_
        refine q_rd (wanted_none rfl) rfl rfl (rd_add rfl rfl rfl (wrap_id (k := .i64) (by show _ ∧ _; (first | omega | decide | (dsimp only at *; omega))))) ?_
        refine q_rd (wanted_none rfl) rfl rfl (rd_move (v := .c _) rfl rfl) ?_
        refine seq_nil ?_
        refine then_norm ?_
        refine ⟨i + 1, ?_, ?_, by first | exact .refl | exact .nest .refl rfl rfl | exact .nest (.nest .refl rfl rfl) rfl rfl | exact .nest (.nest (.nest .refl rfl rfl) rfl rfl) rfl rfl, rfl, ?_, by exact Nat.le_of_ble_eq_true rfl, ?_⟩
        · show i + 1 ≤ ls.length; omega
        · omega
        · exact .cons (CEnt.int (by rw [sumR_take (by omega)]; omega)) (.cons (CEnt.int (by omega)) .nil)
        · (repeat (first | exact HEnt.nil | refine HEnt.same ?_ | refine HEnt.blk rfl (fun j hj => by rcases j with _|_|_|_|_|_|_|_|j <;> first | exact CEnt.refl _ | exact CEnt.int (by omega) | omega) ?_))
    · refine code_exit ?_
      refine then_exit ?_
      refine then_exit ?_
      refine block_exit rfl ?_
      refine then_norm ?_
      refine code_seq ?_
      have hs3 := sumR_le ls i
      refine code_region ?_
      refine q_rd (wanted_none rfl) rfl rfl (rd_move (v := .c _) rfl rfl) ?_
      refine seq_ex (wanted_none rfl) (e_callO rfl (by kernel_rfl) (grow22_ac (sumR (ls.take i)) (by omega)) (.cons (by first | exact se rfl (CEnt.refl _) | exact se rfl CEnt.nil | exact se rfl CEnt.nilB | exact se rfl (CEnt.osI rfl) | exact se rfl CEnt.opI | exact se_nilO rfl | exact se rfl (CEnt.agg2 (CEnt.refl _) (CEnt.refl _)) | exact se rfl (CEnt.agg3 (CEnt.refl _) (CEnt.refl _) (CEnt.refl _)) | exact se rfl (CEnt.agg4 (CEnt.refl _) (CEnt.refl _) (CEnt.refl _) (CEnt.refl _)) | exact se rfl (CEnt.agg5 (CEnt.refl _) (CEnt.refl _) (CEnt.refl _) (CEnt.refl _) (CEnt.refl _)) | exact se rfl (CEnt.agg6 (CEnt.refl _) (CEnt.refl _) (CEnt.refl _) (CEnt.refl _) (CEnt.refl _) (CEnt.refl _)) | exact se_frzB _ rfl rfl rfl (by simp) (fun _ _ => CEnt.refl _)) (.cons (by first | exact se rfl (CEnt.refl _) | exact se rfl CEnt.nil | exact se rfl CEnt.nilB | exact se rfl (CEnt.osI rfl) | exact se rfl CEnt.opI | exact se_nilO rfl | exact se rfl (CEnt.agg2 (CEnt.refl _) (CEnt.refl _)) | exact se rfl (CEnt.agg3 (CEnt.refl _) (CEnt.refl _) (CEnt.refl _)) | exact se rfl (CEnt.agg4 (CEnt.refl _) (CEnt.refl _) (CEnt.refl _) (CEnt.refl _)) | exact se rfl (CEnt.agg5 (CEnt.refl _) (CEnt.refl _) (CEnt.refl _) (CEnt.refl _) (CEnt.refl _)) | exact se rfl (CEnt.agg6 (CEnt.refl _) (CEnt.refl _) (CEnt.refl _) (CEnt.refl _) (CEnt.refl _) (CEnt.refl _)) | exact se_frzB _ rfl rfl rfl (by simp) (fun _ _ => CEnt.refl _)) .nil)) rfl rfl (fun p1 => ?_))
      first | refine q_rd (wanted_none rfl) rfl rfl (rd_assign (v := .rs _ _ _) rfl rfl) ?_ | refine q_rd (wanted_none rfl) rfl rfl (rd_assign (v := .os _ _ _ _ _) rfl rfl) ?_ | refine q_rd (wanted_none rfl) rfl rfl (rd_assign (v := .c _) rfl rfl) ?_ | refine q_rd (wanted_none rfl) rfl rfl (rd_assign (v := .pv _) rfl rfl) ?_ | refine q_rd (wanted_none rfl) rfl rfl (rd_assign (v := .top) rfl rfl) ?_
      refine seq_nil ?_
      refine then_norm ?_
      refine code_seq ?_
      refine code_seq ?_
      refine code_region ?_
      first | refine q_rd (wanted_none rfl) rfl rfl (rd_move (v := .rs _ _ _) rfl rfl) ?_ | refine q_rd (wanted_none rfl) rfl rfl (rd_move (v := .os _ _ _ _ _) rfl rfl) ?_ | refine q_rd (wanted_none rfl) rfl rfl (rd_move (v := .c _) rfl rfl) ?_ | refine q_rd (wanted_none rfl) rfl rfl (rd_move (v := .pv _) rfl rfl) ?_ | refine q_rd (wanted_none rfl) rfl rfl (rd_move (v := .top) rfl rfl) ?_
      first | refine q_rd (wanted_none rfl) rfl rfl (rd_lenR rfl rfl Try.underlying50) ?_ | refine q_rd (wanted_none rfl) rfl rfl (rd_lenO rfl rfl Try.underlying50) ?_ | refine q_rd (wanted_none rfl) rfl rfl (rd_lenN rfl rfl Try.underlying50) ?_
      refine q_rd (wanted_none rfl) rfl rfl (rd_move (v := .c _) rfl rfl) ?_
      refine seq_nil ?_
      refine then_norm ?_
      refine code_block ?_
      refine l_loop (α := Nat × List R5 × Option Nat) [6, 8, 27, 28, 29, 30, 31, 32, 33, 34] (fun (j, X, g) => [(6, .os 0 g 0 X.length 5), (27, .c (.int .i64 (j : Nat)))]) (fun (j, X, g) => [(g, .blk (X.length * 5) (tabF X))]) (fun (j, X, g) => j ≤ ls.length ∧ X = (ls.take j).flatten) (fun (j, X, g) => ls.length - j) ((0, [], p1)) ?_ (fun _ => rfl) ?_ ?_ ?_
      · exact ⟨Nat.zero_le _, rfl⟩
      · exact .cons (CEnt.refl _) (.cons (CEnt.refl _) .nil)
      · exact .blk rfl (fun j hj => absurd hj (Nat.not_lt_zero j)) .nil
      · rintro ⟨j, X, g'⟩ ⟨(hj : j ≤ ls.length), hX⟩
        refine code_seq ?_
        refine code_region ?_
        refine q_rd (wanted_none rfl) rfl rfl (rd_lt rfl rfl rfl) ?_
        refine seq_nil ?_
        refine then_norm ?_
        refine code_seq ?_
        first | refine code_condSD rfl rfl (fun h503 => ?_) (fun h503 => ?_) | refine code_condS rfl rfl (fun h503 => ?_) (fun h503 => ?_)
        · refine code_skip ?_
          refine then_norm ?_
          refine code_seq ?_
          refine code_block ?_
          refine code_seq ?_
          refine code_region ?_
          first | refine q_rd (wanted_none rfl) rfl rfl (rd_iaddrR rfl rfl rfl Try.underlying50 sz22 rfl (by (first | omega | decide | (dsimp only at *; omega))) (by decide)) ?_ | refine q_rd (wanted_none rfl) rfl rfl (rd_iaddrO1 rfl rfl rfl Try.underlying50 sz22 rfl (by (first | omega | decide | (dsimp only at *; omega)))) ?_ | refine q_rd (wanted_none rfl) rfl rfl (rd_iaddrO rfl rfl rfl Try.underlying50 sz22 rfl (by (first | omega | decide | (dsimp only at *; omega)))) ?_ | refine q_rd (wanted_none rfl) rfl rfl (rd_iaddrR rfl rfl rfl Try.underlying50 sz22 (natI (by omega)) (by (first | omega | decide | (dsimp only at *; omega))) (by decide)) ?_ | refine q_rd (wanted_none rfl) rfl rfl (rd_iaddrO1 rfl rfl rfl Try.underlying50 sz22 (natI (by omega)) (by (first | omega | decide | (dsimp only at *; omega)))) ?_ | refine q_rd (wanted_none rfl) rfl rfl (rd_iaddrO rfl rfl rfl Try.underlying50 sz22 (natI (by omega)) (by (first | omega | decide | (dsimp only at *; omega)))) ?_
          first | refine q_rdO (wanted_none rfl) rfl rfl (rd_loadO (v := .rs _ _ _) rfl rfl (.inl rfl) Try.underlying22 ag22 (by first | decide | (first | omega | decide | (dsimp only at *; omega))) rfl) ?_ | refine q_rdO (wanted_none rfl) rfl rfl (rd_loadO (v := .os _ _ _ _ _) rfl rfl (.inl rfl) Try.underlying22 ag22 (by first | decide | (first | omega | decide | (dsimp only at *; omega))) rfl) ?_ | refine q_rdO (wanted_none rfl) rfl rfl (rd_loadO (v := .c _) rfl rfl (.inl rfl) Try.underlying22 ag22 (by first | decide | (first | omega | decide | (dsimp only at *; omega))) rfl) ?_ | refine q_rdO (wanted_none rfl) rfl rfl (rd_loadO (v := .pv _) rfl rfl (.inl rfl) Try.underlying22 ag22 (by first | decide | (first | omega | decide | (dsimp only at *; omega))) rfl) ?_ | refine q_rdO (wanted_none rfl) rfl rfl (rd_loadO (v := .top) rfl rfl (.inl rfl) Try.underlying22 ag22 (by first | decide | (first | omega | decide | (dsimp only at *; omega))) rfl) ?_ | refine q_rd (wanted_none rfl) rfl rfl (rd_loadR (v := .rs _ _ _) rfl rfl Try.underlying22 ag22 (by first | decide | (first | omega | decide | (dsimp only at *; omega))) rfl) ?_ | refine q_rd (wanted_none rfl) rfl rfl (rd_loadR (v := .os _ _ _ _ _) rfl rfl Try.underlying22 ag22 (by first | decide | (first | omega | decide | (dsimp only at *; omega))) rfl) ?_ | refine q_rd (wanted_none rfl) rfl rfl (rd_loadR (v := .c _) rfl rfl Try.underlying22 ag22 (by first | decide | (first | omega | decide | (dsimp only at *; omega))) rfl) ?_ | refine q_rd (wanted_none rfl) rfl rfl (rd_loadR (v := .pv _) rfl rfl Try.underlying22 ag22 (by first | decide | (first | omega | decide | (dsimp only at *; omega))) rfl) ?_ | refine q_rd (wanted_none rfl) rfl rfl (rd_loadR (v := .top) rfl rfl Try.underlying22 ag22 (by first | decide | (first | omega | decide | (dsimp only at *; omega))) rfl) ?_ | refine q_rdO (wanted_none rfl) rfl rfl (rd_loadO (v := .rs _ _ _) rfl rfl (.inr rfl) Try.underlying22 ag22 (by first | decide | (first | omega | decide | (dsimp only at *; omega))) rfl) ?_ | refine q_rdO (wanted_none rfl) rfl rfl (rd_loadO (v := .os _ _ _ _ _) rfl rfl (.inr rfl) Try.underlying22 ag22 (by first | decide | (first | omega | decide | (dsimp only at *; omega))) rfl) ?_ | refine q_rdO (wanted_none rfl) rfl rfl (rd_loadO (v := .c _) rfl rfl (.inr rfl) Try.underlying22 ag22 (by first | decide | (first | omega | decide | (dsimp only at *; omega))) rfl) ?_ | refine q_rdO (wanted_none rfl) rfl rfl (rd_loadO (v := .pv _) rfl rfl (.inr rfl) Try.underlying22 ag22 (by first | decide | (first | omega | decide | (dsimp only at *; omega))) rfl) ?_ | refine q_rdO (wanted_none rfl) rfl rfl (rd_loadO (v := .top) rfl rfl (.inr rfl) Try.underlying22 ag22 (by first | decide | (first | omega | decide | (dsimp only at *; omega))) rfl) ?_
          first | refine q_rd (wanted_none rfl) rfl rfl (rd_assign (v := .rs _ _ _) rfl rfl) ?_ | refine q_rd (wanted_none rfl) rfl rfl (rd_assign (v := .os _ _ _ _ _) rfl rfl) ?_ | refine q_rd (wanted_none rfl) rfl rfl (rd_assign (v := .c _) rfl rfl) ?_ | refine q_rd (wanted_none rfl) rfl rfl (rd_assign (v := .pv _) rfl rfl) ?_ | refine q_rd (wanted_none rfl) rfl rfl (rd_assign (v := .top) rfl rfl) ?_
          refine seq_nil ?_
          refine then_norm ?_
          have hf1 := sumR_take (ls := ls) (i := j) (by omega)
          have hf2 := sumR_le ls (j + 1)
          have hf3 : X.length = sumR (ls.take j) := by rw [hX]; exact flatR_len _
          refine code_region ?_
          first | refine q_rd (wanted_none rfl) rfl rfl (rd_move (v := .rs _ _ _) rfl rfl) ?_ | refine q_rd (wanted_none rfl) rfl rfl (rd_move (v := .os _ _ _ _ _) rfl rfl) ?_ | refine q_rd (wanted_none rfl) rfl rfl (rd_move (v := .c _) rfl rfl) ?_ | refine q_rd (wanted_none rfl) rfl rfl (rd_move (v := .pv _) rfl rfl) ?_ | refine q_rd (wanted_none rfl) rfl rfl (rd_move (v := .top) rfl rfl) ?_
          first | refine q_rd (wanted_none rfl) rfl rfl (rd_move (v := .rs _ _ _) rfl rfl) ?_ | refine q_rd (wanted_none rfl) rfl rfl (rd_move (v := .os _ _ _ _ _) rfl rfl) ?_ | refine q_rd (wanted_none rfl) rfl rfl (rd_move (v := .c _) rfl rfl) ?_ | refine q_rd (wanted_none rfl) rfl rfl (rd_move (v := .pv _) rfl rfl) ?_ | refine q_rd (wanted_none rfl) rfl rfl (rd_move (v := .top) rfl rfl) ?_
          refine seq_md (wanted_none rfl) (m_appendC (rowC_row 5 ruleF r0) rfl rfl rfl rfl (by first | exact Nat.le_refl _ | omega) (fun _ _ => CEnt.refl _) (src_rs rfl) rfl (fun j hj => CEnt.refl _) Try.underlying22 nu22 sz24 zr24 by24 rfl (by first | omega | (simp; done) | (simp; omega) | (simp at *; omega)) (by first | omega | (simp; done) | (simp; omega) | (simp at *; omega)) (fun j hj => leaf_rule _ (Nat.mod_lt _ (by decide))) rfl rfl rfl (fun p2 => ?_))
          first | refine q_rd (wanted_none rfl) rfl rfl (rd_assign (v := .rs _ _ _) rfl rfl) ?_ | refine q_rd (wanted_none rfl) rfl rfl (rd_assign (v := .os _ _ _ _ _) rfl rfl) ?_ | refine q_rd (wanted_none rfl) rfl rfl (rd_assign (v := .c _) rfl rfl) ?_ | refine q_rd (wanted_none rfl) rfl rfl (rd_assign (v := .pv _) rfl rfl) ?_ | refine q_rd (wanted_none rfl) rfl rfl (rd_assign (v := .top) rfl rfl) ?_
          refine seq_nil ?_
          refine block_norm ?_
          refine then_norm ?_
          refine code_region ?_
          refine q_rd (wanted_none rfl) rfl rfl (rd_add rfl rfl rfl (wrap_id (k := .i64) (by show _ ∧ _; (first | omega | decide | (dsimp only at *; omega))))) ?_
          refine q_rd (wanted_none rfl) rfl rfl (rd_move (v := .c _) rfl rfl) ?_
          refine seq_nil ?_
          refine then_norm ?_
          refine ⟨(j + 1, X ++ ls.getD j [], p2), ?_, ?_, by first | exact .refl | exact .nest .refl rfl rfl | exact .nest (.nest .refl rfl rfl) rfl rfl | exact .nest (.nest (.nest .refl rfl rfl) rfl rfl) rfl rfl, rfl, ?_, by exact Nat.le_of_ble_eq_true rfl, ?_⟩
          · exact ⟨by omega, by rw [hX]; exact (flatR_take (by omega)).symm⟩
          · show ls.length - (j + 1) < ls.length - j; omega
          · exact .cons (CEnt.refl _) (.cons (CEnt.int (by omega)) .nil)
          · (repeat (first | exact HEnt.nil | refine HEnt.same ?_ | refine HEnt.blk rfl (fun j hj => by rcases j with _|_|_|_|_|_|_|_|j <;> first | exact CEnt.refl _ | exact CEnt.int (by omega) | omega) ?_))
        · refine code_exit ?_
          refine then_exit ?_
          refine then_exit ?_
          refine block_exit rfl ?_
          refine then_norm ?_
          refine code_seq ?_
          refine code_region ?_
          first | refine q_rd (wanted_none rfl) rfl rfl (rd_move (v := .rs _ _ _) rfl rfl) ?_ | refine q_rd (wanted_none rfl) rfl rfl (rd_move (v := .os _ _ _ _ _) rfl rfl) ?_ | refine q_rd (wanted_none rfl) rfl rfl (rd_move (v := .c _) rfl rfl) ?_ | refine q_rd (wanted_none rfl) rfl rfl (rd_move (v := .pv _) rfl rfl) ?_ | refine q_rd (wanted_none rfl) rfl rfl (rd_move (v := .top) rfl rfl) ?_
          first | refine q_rd (wanted_none rfl) rfl rfl (rd_assign (v := .rs _ _ _) rfl rfl) ?_ | refine q_rd (wanted_none rfl) rfl rfl (rd_assign (v := .os _ _ _ _ _) rfl rfl) ?_ | refine q_rd (wanted_none rfl) rfl rfl (rd_assign (v := .c _) rfl rfl) ?_ | refine q_rd (wanted_none rfl) rfl rfl (rd_assign (v := .pv _) rfl rfl) ?_ | refine q_rd (wanted_none rfl) rfl rfl (rd_assign (v := .top) rfl rfl) ?_
          refine seq_nil ?_
          refine then_norm ?_
          have hX2 : X = ls.flatten := by rw [hX, List.take_of_length_le (by omega)]
          refine code_ent (freeze 0 rfl) ?_
          refine code_ent (thaw 2 (fun a => ruleF (X.getD a r0)) rfl rfl (by omega) (fun a b ha hb => CEnt.of_eq (by rw [Nat.zero_add]; exact rowF_at (k := 5) hb))) ?_
          refine code_ret ?_
          refine end_val (.inl rfl) (res_1 rfl (arv_tmp rfl)) ?_
          rw [← hX2]
          exact CEnt.refl _
def defLs : List (List R5) := [eachL 0 [] [1, 2, 3, 4, 5, 6] [3], eachL 2 [] [1, 2] [1, 4], eachL 5 [] [2, 3, 4] [1], eachL 5 [46] [2, 3, 4] [2], eachL 6 [46] [1, 2] [2]]
def defL : List R5 := defLs.flatten
theorem ent_eqH {G : Gh} {env : List (Nat × CV)} {b : Nat → CV} {H H' : List (Option Nat × Res)} (h : H = H') : EntS G ⟨env, b, H⟩ ⟨env, b, H'⟩ := fun St _ _ k => ⟨St, fun _ h => h, h ▸ k⟩
theorem def_of (j : Nat) (hj : j < 5) : CEnt (fl [tabC (eachL 0 [] [1, 2, 3, 4, 5, 6] [3]), tabC (eachL 2 [] [1, 2] [1, 4]), tabC (eachL 5 [] [2, 3, 4] [1]), tabC (eachL 5 [46] [2, 3, 4] [2]), tabC (eachL 6 [46] [1, 2] [2])] j) (tabC (defLs.getD j [])) := by
  rcases j with _ | _ | _ | _ | _ | j <;> first | exact CEnt.refl _ | omega
set_option maxHeartbeats 2000000 in
theorem default_ac {gs : List Nat} : ACp gs Try.prog 9 [] (tabC defL) := by
  refine ac_of 24 Try.func9 rfl rfl rfl (fun al w0 F0 St0 => ?_)
  refine code_seq ?_
  refine code_region ?_
  first | refine q_rd (wanted_none rfl) rfl rfl (rd_assign (v := .rs _ _ _) rfl rfl) ?_ | refine q_rd (wanted_none rfl) rfl rfl (rd_assign (v := .os _ _ _ _ _) rfl rfl) ?_ | refine q_rd (wanted_none rfl) rfl rfl (rd_assign (v := .c _) rfl rfl) ?_ | refine q_rd (wanted_none rfl) rfl rfl (rd_assign (v := .pv _) rfl rfl) ?_ | refine q_rd (wanted_none rfl) rfl rfl (rd_assign (v := .top) rfl rfl) ?_
  refine seq_nil ?_
  refine then_norm ?_
  refine code_seq ?_
  refine code_region ?_
  refine seq_ex (wanted_none rfl) (e_buildSlice (n := 2) rfl Try.underlying41 sz3 zr3 rfl rfl rfl rfl rfl rfl rfl (fun p1 => ?_))
  refine seq_ex (wanted_none rfl) (e_buildSlice (n := 3) rfl Try.underlying41 sz3 zr3 rfl rfl rfl rfl rfl rfl rfl (fun p2 => ?_))
  first | refine q_rd (wanted_none rfl) rfl rfl (rd_assign (v := .rs _ _ _) rfl rfl) ?_ | refine q_rd (wanted_none rfl) rfl rfl (rd_assign (v := .os _ _ _ _ _) rfl rfl) ?_ | refine q_rd (wanted_none rfl) rfl rfl (rd_assign (v := .c _) rfl rfl) ?_ | refine q_rd (wanted_none rfl) rfl rfl (rd_assign (v := .pv _) rfl rfl) ?_ | refine q_rd (wanted_none rfl) rfl rfl (rd_assign (v := .top) rfl rfl) ?_
  first | refine q_rd (wanted_none rfl) rfl rfl (rd_assign (v := .rs _ _ _) rfl rfl) ?_ | refine q_rd (wanted_none rfl) rfl rfl (rd_assign (v := .os _ _ _ _ _) rfl rfl) ?_ | refine q_rd (wanted_none rfl) rfl rfl (rd_assign (v := .c _) rfl rfl) ?_ | refine q_rd (wanted_none rfl) rfl rfl (rd_assign (v := .pv _) rfl rfl) ?_ | refine q_rd (wanted_none rfl) rfl rfl (rd_assign (v := .top) rfl rfl) ?_
  refine seq_nil ?_
  refine then_norm ?_
  refine code_seq ?_
  refine code_region ?_
  refine seq_ex (wanted_none rfl) (e_buildSlice (n := 6) rfl Try.underlying41 sz3 zr3 rfl rfl rfl rfl rfl rfl rfl (fun p3 => ?_))
  first | refine q_rd (wanted_none rfl) rfl rfl (rd_assign (v := .rs _ _ _) rfl rfl) ?_ | refine q_rd (wanted_none rfl) rfl rfl (rd_assign (v := .os _ _ _ _ _) rfl rfl) ?_ | refine q_rd (wanted_none rfl) rfl rfl (rd_assign (v := .c _) rfl rfl) ?_ | refine q_rd (wanted_none rfl) rfl rfl (rd_assign (v := .pv _) rfl rfl) ?_ | refine q_rd (wanted_none rfl) rfl rfl (rd_assign (v := .top) rfl rfl) ?_
  refine seq_nil ?_
  refine then_norm ?_
  refine code_seq ?_
  refine code_ent (freeze 0 rfl) ?_
  refine code_ent (freeze 1 rfl) ?_
  refine code_ent (freeze 2 rfl) ?_
  refine code_region ?_
  first | refine q_rd (wanted_none rfl) rfl rfl (rd_move (v := .rs _ _ _) rfl rfl) ?_ | refine q_rd (wanted_none rfl) rfl rfl (rd_move (v := .os _ _ _ _ _) rfl rfl) ?_ | refine q_rd (wanted_none rfl) rfl rfl (rd_move (v := .c _) rfl rfl) ?_ | refine q_rd (wanted_none rfl) rfl rfl (rd_move (v := .pv _) rfl rfl) ?_ | refine q_rd (wanted_none rfl) rfl rfl (rd_move (v := .top) rfl rfl) ?_
  refine seq_ex (wanted_none rfl) (e_buildSlice (n := 1) rfl Try.underlying41 sz3 zr3 rfl rfl rfl rfl rfl rfl rfl (fun p4 => ?_))
  refine seq_ent (freeze 3 rfl) ?_
  refine seq_ex (wanted_none rfl) (e_callP rfl (by kernel_rfl) (each_ac 0 [] [1, 2, 3, 4, 5, 6] [3] (by decide) (by decide)) (.cons (se rfl (CEnt.refl _)) (.cons (se rfl (CEnt.refl _)) (.cons (se_frzI [1, 2, 3, 4, 5, 6] rfl rfl rfl (by decide) (fun a ha => by rcases a with _ | _ | _ | _ | _ | _ | a <;> first | exact CEnt.refl _ | (exfalso; revert ha; simp; done) | (exfalso; omega))) (.cons (se_frzI [3] rfl rfl rfl (by decide) (fun a ha => by rcases a with _ | a <;> first | exact CEnt.refl _ | (exfalso; revert ha; simp; done) | (exfalso; omega))) .nil)))) rfl rfl ?_)
  first | refine q_rd (wanted_none rfl) rfl rfl (rd_move (v := .rs _ _ _) rfl rfl) ?_ | refine q_rd (wanted_none rfl) rfl rfl (rd_move (v := .os _ _ _ _ _) rfl rfl) ?_ | refine q_rd (wanted_none rfl) rfl rfl (rd_move (v := .c _) rfl rfl) ?_ | refine q_rd (wanted_none rfl) rfl rfl (rd_move (v := .pv _) rfl rfl) ?_ | refine q_rd (wanted_none rfl) rfl rfl (rd_move (v := .top) rfl rfl) ?_
  refine seq_ex (wanted_none rfl) (e_buildSlice (n := 2) rfl Try.underlying41 sz3 zr3 rfl rfl rfl rfl rfl rfl rfl (fun p5 => ?_))
  refine seq_ent (freeze 4 rfl) ?_
  refine seq_ex (wanted_none rfl) (e_callP rfl (by kernel_rfl) (each_ac 2 [] [1, 2] [1, 4] (by decide) (by decide)) (.cons (se rfl (CEnt.refl _)) (.cons (se rfl (CEnt.refl _)) (.cons (se_frzI [1, 2] rfl rfl rfl (by decide) (fun a ha => by rcases a with _ | _ | a <;> first | exact CEnt.refl _ | (exfalso; revert ha; simp; done) | (exfalso; omega))) (.cons (se_frzI [1, 4] rfl rfl rfl (by decide) (fun a ha => by rcases a with _ | _ | a <;> first | exact CEnt.refl _ | (exfalso; revert ha; simp; done) | (exfalso; omega))) .nil)))) rfl rfl ?_)
  refine seq_ent (ent_eqH (H' := [(p1, .frz 2 (fl [.c (.int .i64 1), .c (.int .i64 2)])), (p2, .frz 3 (fl [.c (.int .i64 2), .c (.int .i64 3), .c (.int .i64 4)])), (p3, .frz 6 (fl [.c (.int .i64 1), .c (.int .i64 2), .c (.int .i64 3), .c (.int .i64 4), .c (.int .i64 5), .c (.int .i64 6)])), (p4, .frz 1 (fl [.c (.int .i64 3)])), (p5, .frz 2 (fl [.c (.int .i64 1), .c (.int .i64 4)]))]) rfl) ?_
  first | refine q_rd (wanted_none rfl) rfl rfl (rd_move (v := .rs _ _ _) rfl rfl) ?_ | refine q_rd (wanted_none rfl) rfl rfl (rd_move (v := .os _ _ _ _ _) rfl rfl) ?_ | refine q_rd (wanted_none rfl) rfl rfl (rd_move (v := .c _) rfl rfl) ?_ | refine q_rd (wanted_none rfl) rfl rfl (rd_move (v := .pv _) rfl rfl) ?_ | refine q_rd (wanted_none rfl) rfl rfl (rd_move (v := .top) rfl rfl) ?_
  refine seq_ex (wanted_none rfl) (e_buildSlice (n := 1) rfl Try.underlying41 sz3 zr3 rfl rfl rfl rfl rfl rfl rfl (fun p6 => ?_))
  refine seq_ent (freeze 5 rfl) ?_
  refine seq_ex (wanted_none rfl) (e_callP rfl (by kernel_rfl) (each_ac 5 [] [2, 3, 4] [1] (by decide) (by decide)) (.cons (se rfl (CEnt.refl _)) (.cons (se rfl (CEnt.refl _)) (.cons (se_frzI [2, 3, 4] rfl rfl rfl (by decide) (fun a ha => by rcases a with _ | _ | _ | a <;> first | exact CEnt.refl _ | (exfalso; revert ha; simp; done) | (exfalso; omega))) (.cons (se_frzI [1] rfl rfl rfl (by decide) (fun a ha => by rcases a with _ | a <;> first | exact CEnt.refl _ | (exfalso; revert ha; simp; done) | (exfalso; omega))) .nil)))) rfl rfl ?_)
  refine seq_ent (ent_eqH (H' := [(p1, .frz 2 (fl [.c (.int .i64 1), .c (.int .i64 2)])), (p2, .frz 3 (fl [.c (.int .i64 2), .c (.int .i64 3), .c (.int .i64 4)])), (p3, .frz 6 (fl [.c (.int .i64 1), .c (.int .i64 2), .c (.int .i64 3), .c (.int .i64 4), .c (.int .i64 5), .c (.int .i64 6)])), (p4, .frz 1 (fl [.c (.int .i64 3)])), (p5, .frz 2 (fl [.c (.int .i64 1), .c (.int .i64 4)])), (p6, .frz 1 (fl [.c (.int .i64 1)]))]) rfl) ?_
  first | refine q_rd (wanted_none rfl) rfl rfl (rd_move (v := .rs _ _ _) rfl rfl) ?_ | refine q_rd (wanted_none rfl) rfl rfl (rd_move (v := .os _ _ _ _ _) rfl rfl) ?_ | refine q_rd (wanted_none rfl) rfl rfl (rd_move (v := .c _) rfl rfl) ?_ | refine q_rd (wanted_none rfl) rfl rfl (rd_move (v := .pv _) rfl rfl) ?_ | refine q_rd (wanted_none rfl) rfl rfl (rd_move (v := .top) rfl rfl) ?_
  refine seq_ex (wanted_none rfl) (e_buildSlice (n := 1) rfl Try.underlying41 sz3 zr3 rfl rfl rfl rfl rfl rfl rfl (fun p7 => ?_))
  refine seq_ent (freeze 6 rfl) ?_
  refine seq_ex (wanted_none rfl) (e_callP rfl (by kernel_rfl) (each_ac 5 [46] [2, 3, 4] [2] (by decide) (by decide)) (.cons (se rfl (CEnt.refl _)) (.cons (se rfl (CEnt.refl _)) (.cons (se_frzI [2, 3, 4] rfl rfl rfl (by decide) (fun a ha => by rcases a with _ | _ | _ | a <;> first | exact CEnt.refl _ | (exfalso; revert ha; simp; done) | (exfalso; omega))) (.cons (se_frzI [2] rfl rfl rfl (by decide) (fun a ha => by rcases a with _ | a <;> first | exact CEnt.refl _ | (exfalso; revert ha; simp; done) | (exfalso; omega))) .nil)))) rfl rfl ?_)
  refine seq_ent (ent_eqH (H' := [(p1, .frz 2 (fl [.c (.int .i64 1), .c (.int .i64 2)])), (p2, .frz 3 (fl [.c (.int .i64 2), .c (.int .i64 3), .c (.int .i64 4)])), (p3, .frz 6 (fl [.c (.int .i64 1), .c (.int .i64 2), .c (.int .i64 3), .c (.int .i64 4), .c (.int .i64 5), .c (.int .i64 6)])), (p4, .frz 1 (fl [.c (.int .i64 3)])), (p5, .frz 2 (fl [.c (.int .i64 1), .c (.int .i64 4)])), (p6, .frz 1 (fl [.c (.int .i64 1)])), (p7, .frz 1 (fl [.c (.int .i64 2)]))]) rfl) ?_
  first | refine q_rd (wanted_none rfl) rfl rfl (rd_move (v := .rs _ _ _) rfl rfl) ?_ | refine q_rd (wanted_none rfl) rfl rfl (rd_move (v := .os _ _ _ _ _) rfl rfl) ?_ | refine q_rd (wanted_none rfl) rfl rfl (rd_move (v := .c _) rfl rfl) ?_ | refine q_rd (wanted_none rfl) rfl rfl (rd_move (v := .pv _) rfl rfl) ?_ | refine q_rd (wanted_none rfl) rfl rfl (rd_move (v := .top) rfl rfl) ?_
  refine seq_ex (wanted_none rfl) (e_buildSlice (n := 1) rfl Try.underlying41 sz3 zr3 rfl rfl rfl rfl rfl rfl rfl (fun p8 => ?_))
  refine seq_ent (freeze 7 rfl) ?_
  refine seq_ex (wanted_none rfl) (e_callP rfl (by kernel_rfl) (each_ac 6 [46] [1, 2] [2] (by decide) (by decide)) (.cons (se rfl (CEnt.refl _)) (.cons (se rfl (CEnt.refl _)) (.cons (se_frzI [1, 2] rfl rfl rfl (by decide) (fun a ha => by rcases a with _ | _ | a <;> first | exact CEnt.refl _ | (exfalso; revert ha; simp; done) | (exfalso; omega))) (.cons (se_frzI [2] rfl rfl rfl (by decide) (fun a ha => by rcases a with _ | a <;> first | exact CEnt.refl _ | (exfalso; revert ha; simp; done) | (exfalso; omega))) .nil)))) rfl rfl ?_)
  refine seq_ent (ent_eqH (H' := [(p1, .frz 2 (fl [.c (.int .i64 1), .c (.int .i64 2)])), (p2, .frz 3 (fl [.c (.int .i64 2), .c (.int .i64 3), .c (.int .i64 4)])), (p3, .frz 6 (fl [.c (.int .i64 1), .c (.int .i64 2), .c (.int .i64 3), .c (.int .i64 4), .c (.int .i64 5), .c (.int .i64 6)])), (p4, .frz 1 (fl [.c (.int .i64 3)])), (p5, .frz 2 (fl [.c (.int .i64 1), .c (.int .i64 4)])), (p6, .frz 1 (fl [.c (.int .i64 1)])), (p7, .frz 1 (fl [.c (.int .i64 2)])), (p8, .frz 1 (fl [.c (.int .i64 2)]))]) rfl) ?_
  refine seq_ex (wanted_none rfl) (e_buildSlice (n := 5) rfl Try.underlying50 sz22 zr22 rfl rfl rfl rfl rfl rfl rfl (fun p9 => ?_))
  refine seq_ent (blk_ent 8 (m := 5) (F := fun i => tabC (defLs.getD i [])) rfl (by decide) (fun _ => rfl) (fun j hj => def_of j hj)) ?_
  refine seq_ent (freeze 8 rfl) ?_
  refine seq_ex (wanted_none rfl) (e_callP rfl (by kernel_rfl) (concat22_ac defLs (by decide) (by decide)) (.cons (se_frz rfl rfl (by decide) (fun i _ => tabC (defLs.getD i [])) (fun a b ha hb => CEnt.of_eq (congrArg (fun n => tabC (defLs.getD n [])) (by omega)))) .nil) rfl rfl ?_)
  first | refine q_rd (wanted_none rfl) rfl rfl (rd_assign (v := .rs _ _ _) rfl rfl) ?_ | refine q_rd (wanted_none rfl) rfl rfl (rd_assign (v := .os _ _ _ _ _) rfl rfl) ?_ | refine q_rd (wanted_none rfl) rfl rfl (rd_assign (v := .c _) rfl rfl) ?_ | refine q_rd (wanted_none rfl) rfl rfl (rd_assign (v := .pv _) rfl rfl) ?_ | refine q_rd (wanted_none rfl) rfl rfl (rd_assign (v := .top) rfl rfl) ?_
  refine seq_nil ?_
  refine then_norm ?_
  refine code_ret ?_
  refine end_val (.inl rfl) (res_1 rfl (arv_tmp rfl)) ?_
  exact CEnt.refl _
end Am
end Go.Proofs.Ytghgbhekjgincaa
