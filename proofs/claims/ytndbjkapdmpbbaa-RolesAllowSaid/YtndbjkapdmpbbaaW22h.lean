/- Chapter 22: the reference's Of; the laws. -/
import Derived.Test.YtndbjkapdmpbbaaW22g
namespace Go.Proofs.Ytndbjkapdmpbbaa
set_option linter.unusedVariables false
namespace Am
variable {gs : List Nat} [OkG gs]
open Go.RowKit
set_option maxRecDepth 100000

theorem filt_yes {l : List R5} {i : Nat} {q : R5 → Bool} (hi : i < l.length) (h : q (l.getD i r0) = true) : (l.take (i + 1)).filter q = (l.take i).filter q ++ [l.getD i r0] := by
  have e : l.getD i r0 = l[i] := by simp [List.getD, hi]
  rw [e] at h ⊢
  rw [List.take_succ_eq_append_getElem hi, List.filter_append]
  simp [h]
theorem filt_no {l : List R5} {i : Nat} {q : R5 → Bool} (hi : i < l.length) (h : q (l.getD i r0) = false) : (l.take (i + 1)).filter q = (l.take i).filter q := by
  have e : l.getD i r0 = l[i] := by simp [List.getD, hi]
  rw [e] at h
  rw [List.take_succ_eq_append_getElem hi, List.filter_append]
  simp [h]
theorem rof_ac {gs : List Nat} (l : List R5) (s : S3) : ACp gs Try.prog 15 [tabC l, subjC s] (tabC (ofR l s)) := by
  refine ac_len 0 rfl fun hlen => ?_
  refine ac_of 62 Try.func15 rfl rfl rfl (fun al w0 F0 St0 => ?_)
  refine code_seq ?_
  refine code_region ?_
  refine seq_ex (wanted_none rfl) (e_box (n := 3) rfl rfl rfl rfl rfl rfl (fun p1 => ?_))
  first | refine q_rd (wanted_none rfl) rfl rfl (rd_assign (v := .rs _ _ _) rfl rfl) ?_ | refine q_rd (wanted_none rfl) rfl rfl (rd_assign (v := .os _ _ _ _ _) rfl rfl) ?_ | refine q_rd (wanted_none rfl) rfl rfl (rd_assign (v := .c _) rfl rfl) ?_ | refine q_rd (wanted_none rfl) rfl rfl (rd_assign (v := .pv _) rfl rfl) ?_ | refine q_rd (wanted_none rfl) rfl rfl (rd_assign (v := .top) rfl rfl) ?_
  refine seq_nil ?_
  refine then_norm ?_
  refine code_seq ?_
  refine code_region ?_
  refine seq_ex (wanted_none rfl) (e_buildSlice (n := 0) rfl Try.underlying29 sz43 zr43 rfl rfl rfl rfl rfl rfl rfl (fun p2 => ?_))
  first | refine q_rd (wanted_none rfl) rfl rfl (rd_assign (v := .rs _ _ _) rfl rfl) ?_ | refine q_rd (wanted_none rfl) rfl rfl (rd_assign (v := .os _ _ _ _ _) rfl rfl) ?_ | refine q_rd (wanted_none rfl) rfl rfl (rd_assign (v := .c _) rfl rfl) ?_ | refine q_rd (wanted_none rfl) rfl rfl (rd_assign (v := .pv _) rfl rfl) ?_ | refine q_rd (wanted_none rfl) rfl rfl (rd_assign (v := .top) rfl rfl) ?_
  refine seq_nil ?_
  refine then_norm ?_
  refine code_seq ?_
  refine code_seq ?_
  refine code_region ?_
  first | refine q_rd (wanted_none rfl) rfl rfl (rd_move (v := .rs _ _ _) rfl rfl) ?_ | refine q_rd (wanted_none rfl) rfl rfl (rd_move (v := .os _ _ _ _ _) rfl rfl) ?_ | refine q_rd (wanted_none rfl) rfl rfl (rd_move (v := .c _) rfl rfl) ?_ | refine q_rd (wanted_none rfl) rfl rfl (rd_move (v := .pv _) rfl rfl) ?_ | refine q_rd (wanted_none rfl) rfl rfl (rd_move (v := .top) rfl rfl) ?_
  refine seq_ex (wanted_none rfl) (e_callP rfl (by kernel_rfl) (rtright_ac l) (.cons (by first | exact se rfl (CEnt.refl _) | exact se rfl CEnt.nil | exact se rfl CEnt.nilB | exact se rfl (CEnt.osI rfl) | exact se rfl CEnt.opI | exact se_nilO rfl | exact se rfl (CEnt.agg2 (CEnt.refl _) (CEnt.refl _)) | exact se rfl (CEnt.agg3 (CEnt.refl _) (CEnt.refl _) (CEnt.refl _)) | exact se rfl (CEnt.agg4 (CEnt.refl _) (CEnt.refl _) (CEnt.refl _) (CEnt.refl _)) | exact se rfl (CEnt.agg5 (CEnt.refl _) (CEnt.refl _) (CEnt.refl _) (CEnt.refl _) (CEnt.refl _)) | exact se rfl (CEnt.agg6 (CEnt.refl _) (CEnt.refl _) (CEnt.refl _) (CEnt.refl _) (CEnt.refl _) (CEnt.refl _)) | exact se_frzB _ rfl rfl rfl (by simp) (fun _ _ => CEnt.refl _)) .nil) rfl rfl ?_)
  first | refine q_rd (wanted_none rfl) rfl rfl (rd_notD rfl rfl) ?_ | refine q_rd (wanted_none rfl) rfl rfl (rd_not rfl rfl) ?_
  refine q_rd (wanted_none rfl) rfl rfl (rd_move (v := .c _) rfl rfl) ?_
  first | refine seq_splitD (d := 12) rfl rfl (fun g65 => ?_) (fun g65 => ?_) | refine seq_split (d := 12) rfl rfl (fun g65 => ?_) (fun g65 => ?_)
  · refine q_skip (wanted_is rfl rfl rfl rfl false rfl) rfl rfl ?_
    refine q_skip (wanted_is rfl rfl rfl rfl false rfl) rfl rfl ?_
    refine q_skip (wanted_is rfl rfl rfl rfl false rfl) rfl rfl ?_
    refine q_rd (wanted_none rfl) rfl rfl (rd_pickT (v := .c _) rfl rfl rfl) ?_
    refine seq_nil ?_
    refine then_norm ?_
    refine code_condT rfl ?_
    refine code_seq ?_
    refine code_region ?_
    first | refine q_rd (wanted_none rfl) rfl rfl (rd_move (v := .rs _ _ _) rfl rfl) ?_ | refine q_rd (wanted_none rfl) rfl rfl (rd_move (v := .os _ _ _ _ _) rfl rfl) ?_ | refine q_rd (wanted_none rfl) rfl rfl (rd_move (v := .c _) rfl rfl) ?_ | refine q_rd (wanted_none rfl) rfl rfl (rd_move (v := .pv _) rfl rfl) ?_ | refine q_rd (wanted_none rfl) rfl rfl (rd_move (v := .top) rfl rfl) ?_
    first | refine q_rd (wanted_none rfl) rfl rfl (rd_assign (v := .rs _ _ _) rfl rfl) ?_ | refine q_rd (wanted_none rfl) rfl rfl (rd_assign (v := .os _ _ _ _ _) rfl rfl) ?_ | refine q_rd (wanted_none rfl) rfl rfl (rd_assign (v := .c _) rfl rfl) ?_ | refine q_rd (wanted_none rfl) rfl rfl (rd_assign (v := .pv _) rfl rfl) ?_ | refine q_rd (wanted_none rfl) rfl rfl (rd_assign (v := .top) rfl rfl) ?_
    refine seq_nil ?_
    refine then_norm ?_
    refine code_ent (freeze 1 rfl) ?_
    refine code_ent (thaw 4 (fun a => ruleF (([] : List R5).getD a r0)) rfl rfl (by omega) (fun a b ha hb => by omega)) ?_
    refine code_ret ?_
    refine then_ret ?_
    refine end_val (.inl rfl) (res_1 rfl (arv_tmp rfl)) ?_
    refine CEnt.of_eq ?_
    unfold ofR
    rw [if_neg (by simp_all)]
    rfl
  · first | refine q_rdO (wanted_is rfl rfl rfl rfl true rfl) rfl rfl (rd_loadOA rfl rfl (.inl rfl) Try.underlying24 ag24 sz24 (by first | decide | (first | omega | decide | (dsimp only at *; omega)))) ?_ | refine q_rd (wanted_is rfl rfl rfl rfl true rfl) rfl rfl (rd_loadRA rfl rfl Try.underlying24 ag24 sz24 (by first | decide | (first | omega | decide | (dsimp only at *; omega)))) ?_ | refine q_rdO (wanted_is rfl rfl rfl rfl true rfl) rfl rfl (rd_loadOA rfl rfl (.inr rfl) Try.underlying24 ag24 sz24 (by first | decide | (first | omega | decide | (dsimp only at *; omega)))) ?_
    refine seq_ex (wanted_is rfl rfl rfl rfl true rfl) (e_callP rfl (by kernel_rfl) (rright_ac s) (.cons (by first | exact se rfl (CEnt.refl _) | exact se rfl CEnt.nil | exact se rfl CEnt.nilB | exact se rfl (CEnt.osI rfl) | exact se rfl CEnt.opI | exact se_nilO rfl | exact se rfl (CEnt.agg2 (CEnt.refl _) (CEnt.refl _)) | exact se rfl (CEnt.agg3 (CEnt.refl _) (CEnt.refl _) (CEnt.refl _)) | exact se rfl (CEnt.agg4 (CEnt.refl _) (CEnt.refl _) (CEnt.refl _) (CEnt.refl _)) | exact se rfl (CEnt.agg5 (CEnt.refl _) (CEnt.refl _) (CEnt.refl _) (CEnt.refl _) (CEnt.refl _)) | exact se rfl (CEnt.agg6 (CEnt.refl _) (CEnt.refl _) (CEnt.refl _) (CEnt.refl _) (CEnt.refl _) (CEnt.refl _)) | exact se_frzB _ rfl rfl rfl (by simp) (fun _ _ => CEnt.refl _)) .nil) rfl rfl ?_)
    first | refine q_rd (wanted_is rfl rfl rfl rfl true rfl) rfl rfl (rd_notD rfl rfl) ?_ | refine q_rd (wanted_is rfl rfl rfl rfl true rfl) rfl rfl (rd_not rfl rfl) ?_
    refine q_rd (wanted_none rfl) rfl rfl (rd_pickF (v := .c _) rfl rfl rfl) ?_
    refine seq_nil ?_
    refine then_norm ?_
    first | refine code_condSD rfl rfl (fun h65 => ?_) (fun h65 => ?_) | refine code_condS rfl rfl (fun h65 => ?_) (fun h65 => ?_)
    · refine code_seq ?_
      refine code_region ?_
      first | refine q_rd (wanted_none rfl) rfl rfl (rd_move (v := .rs _ _ _) rfl rfl) ?_ | refine q_rd (wanted_none rfl) rfl rfl (rd_move (v := .os _ _ _ _ _) rfl rfl) ?_ | refine q_rd (wanted_none rfl) rfl rfl (rd_move (v := .c _) rfl rfl) ?_ | refine q_rd (wanted_none rfl) rfl rfl (rd_move (v := .pv _) rfl rfl) ?_ | refine q_rd (wanted_none rfl) rfl rfl (rd_move (v := .top) rfl rfl) ?_
      first | refine q_rd (wanted_none rfl) rfl rfl (rd_assign (v := .rs _ _ _) rfl rfl) ?_ | refine q_rd (wanted_none rfl) rfl rfl (rd_assign (v := .os _ _ _ _ _) rfl rfl) ?_ | refine q_rd (wanted_none rfl) rfl rfl (rd_assign (v := .c _) rfl rfl) ?_ | refine q_rd (wanted_none rfl) rfl rfl (rd_assign (v := .pv _) rfl rfl) ?_ | refine q_rd (wanted_none rfl) rfl rfl (rd_assign (v := .top) rfl rfl) ?_
      refine seq_nil ?_
      refine then_norm ?_
      refine code_ent (freeze 1 rfl) ?_
      refine code_ent (thaw 4 (fun a => ruleF (([] : List R5).getD a r0)) rfl rfl (by omega) (fun a b ha hb => by omega)) ?_
      refine code_ret ?_
      refine then_ret ?_
      refine end_val (.inl rfl) (res_1 rfl (arv_tmp rfl)) ?_
      refine CEnt.of_eq ?_
      unfold ofR
      rw [if_neg (by simp_all)]
      rfl
    · refine code_skip ?_
      refine then_norm ?_
      refine code_seq ?_
      refine code_seq ?_
      have ht : tabOk l = true ∧ rightS s = true := by simp_all
      have hl32 : l.length ≤ 32 := by have := ht.1; unfold tabOk at this; simp at this; omega
      refine code_region ?_
      first | refine q_rd (wanted_none rfl) rfl rfl (rd_move (v := .rs _ _ _) rfl rfl) ?_ | refine q_rd (wanted_none rfl) rfl rfl (rd_move (v := .os _ _ _ _ _) rfl rfl) ?_ | refine q_rd (wanted_none rfl) rfl rfl (rd_move (v := .c _) rfl rfl) ?_ | refine q_rd (wanted_none rfl) rfl rfl (rd_move (v := .pv _) rfl rfl) ?_ | refine q_rd (wanted_none rfl) rfl rfl (rd_move (v := .top) rfl rfl) ?_
      first | refine q_rd (wanted_none rfl) rfl rfl (rd_lenR rfl rfl Try.underlying29) ?_ | refine q_rd (wanted_none rfl) rfl rfl (rd_lenO rfl rfl Try.underlying29) ?_ | refine q_rd (wanted_none rfl) rfl rfl (rd_lenN rfl rfl Try.underlying29) ?_
      refine q_rd (wanted_none rfl) rfl rfl (rd_move (v := .c _) rfl rfl) ?_
      refine seq_nil ?_
      refine then_norm ?_
      refine code_block ?_
      refine l_loop (α := Nat × List R5 × Option Nat) [5, 7, 20, 21, 22, 23, 24, 25, 26, 27, 28, 29, 30, 31, 32, 33, 34, 35, 36, 37, 38, 39, 40, 41, 42, 43, 44, 45, 46, 47, 48, 49, 50, 51, 52, 53, 54, 55, 56, 57, 58, 59, 60] (fun (i, X, g) => [(5, .os 1 g 0 X.length 5), (20, .c (.int .i64 (i : Nat)))]) (fun (i, X, g) => [(p1, .blk 3 (subjF s)), (g, .blk (X.length * 5) (tabF X))]) (fun (i, X, g) => i ≤ l.length ∧ X = (l.take i).filter fun r => ruleOf r s) (fun (i, X, g) => l.length - i) ((0, [], p2)) ?_ (fun _ => rfl) ?_ ?_ ?_
      · exact ⟨Nat.zero_le _, rfl⟩
      · exact .cons (CEnt.refl _) (.cons (CEnt.refl _) .nil)
      · exact .blk rfl (fun j hj => by rcases j with _ | _ | _ | j <;> first | exact CEnt.refl _ | omega) (.blk rfl (fun j hj => absurd hj (Nat.not_lt_zero j)) .nil)
      · rintro ⟨i, X, g⟩ ⟨(hi : i ≤ l.length), hX⟩
        have hXl : X.length ≤ 32 := by rw [hX]; exact Nat.le_trans (List.length_filter_le _ _) (by rw [List.length_take]; omega)
        refine code_seq ?_
        have ht : tabOk l = true ∧ rightS s = true := by simp_all
        have hl32 : l.length ≤ 32 := by have := ht.1; unfold tabOk at this; simp at this; omega
        refine code_region ?_
        refine q_rd (wanted_none rfl) rfl rfl (rd_lt rfl rfl rfl) ?_
        refine seq_nil ?_
        refine then_norm ?_
        refine code_seq ?_
        first | refine code_condSD rfl rfl (fun h68 => ?_) (fun h68 => ?_) | refine code_condS rfl rfl (fun h68 => ?_) (fun h68 => ?_)
        · refine code_skip ?_
          refine then_norm ?_
          refine code_seq ?_
          refine code_block ?_
          refine code_seq ?_
          have ht : tabOk l = true ∧ rightS s = true := by simp_all
          have hl32 : l.length ≤ 32 := by have := ht.1; unfold tabOk at this; simp at this; omega
          refine code_region ?_
          first | refine q_rd (wanted_none rfl) rfl rfl (rd_iaddrR rfl rfl rfl Try.underlying29 sz43 rfl (by (first | omega | decide | (dsimp only at *; omega))) (by decide)) ?_ | refine q_rd (wanted_none rfl) rfl rfl (rd_iaddrO1 rfl rfl rfl Try.underlying29 sz43 rfl (by (first | omega | decide | (dsimp only at *; omega)))) ?_ | refine q_rd (wanted_none rfl) rfl rfl (rd_iaddrO rfl rfl rfl Try.underlying29 sz43 rfl (by (first | omega | decide | (dsimp only at *; omega)))) ?_ | refine q_rd (wanted_none rfl) rfl rfl (rd_iaddrR rfl rfl rfl Try.underlying29 sz43 (natI (by omega)) (by (first | omega | decide | (dsimp only at *; omega))) (by decide)) ?_ | refine q_rd (wanted_none rfl) rfl rfl (rd_iaddrO1 rfl rfl rfl Try.underlying29 sz43 (natI (by omega)) (by (first | omega | decide | (dsimp only at *; omega)))) ?_ | refine q_rd (wanted_none rfl) rfl rfl (rd_iaddrO rfl rfl rfl Try.underlying29 sz43 (natI (by omega)) (by (first | omega | decide | (dsimp only at *; omega)))) ?_
          first | refine q_rdO (wanted_none rfl) rfl rfl (rd_loadOA rfl rfl (.inl rfl) Try.underlying43 ag43 sz43 (by first | decide | (first | omega | decide | (dsimp only at *; omega)))) ?_ | refine q_rd (wanted_none rfl) rfl rfl (rd_loadRA rfl rfl Try.underlying43 ag43 sz43 (by first | decide | (first | omega | decide | (dsimp only at *; omega)))) ?_ | refine q_rdO (wanted_none rfl) rfl rfl (rd_loadOA rfl rfl (.inr rfl) Try.underlying43 ag43 sz43 (by first | decide | (first | omega | decide | (dsimp only at *; omega)))) ?_
          refine seq_ex (wanted_none rfl) (e_alloc (n := 5) rfl zr43 rfl rfl rfl (fun p3 => ?_))
          refine seq_md (wanted_none rfl) (m_store rfl rfl rfl rfl rfl sz43 rfl rfl (by first | decide | (first | omega | decide | (dsimp only at *; omega))) _ (fun _ _ => CEnt.refl _) rfl ?_)
          refine seq_nil ?_
          refine then_norm ?_
          refine code_seq ?_
          refine code_region ?_
          first | refine q_rd (wanted_none rfl) rfl rfl (rd_faddrO rfl rfl Try.underlying43 rfl sz3 rfl) ?_ | refine q_rd (wanted_none rfl) rfl rfl (rd_faddrR rfl rfl Try.underlying43 rfl sz3 rfl) ?_
          first | refine q_rdO (wanted_none rfl) rfl rfl (rd_loadO (v := .c _) rfl rfl (.inl rfl) Try.underlying3 ag3 (by first | decide | (first | omega | decide | (dsimp only at *; omega))) rfl) ?_ | refine q_rd (wanted_none rfl) rfl rfl (rd_loadR (v := .c _) rfl rfl Try.underlying3 ag3 (by first | decide | (first | omega | decide | (dsimp only at *; omega))) rfl) ?_ | refine q_rdO (wanted_none rfl) rfl rfl (rd_loadO (v := .c _) rfl rfl (.inr rfl) Try.underlying3 ag3 (by first | decide | (first | omega | decide | (dsimp only at *; omega))) rfl) ?_
          refine q_rd (wanted_none rfl) rfl rfl (rd_eqI rfl rfl rfl) ?_
          refine q_rd (wanted_none rfl) rfl rfl (rd_move (v := .c _) rfl rfl) ?_
          first | refine seq_splitD (d := 27) rfl rfl (fun g69 => ?_) (fun g69 => ?_) | refine seq_split (d := 27) rfl rfl (fun g69 => ?_) (fun g69 => ?_)
          · refine q_skip (wanted_is rfl rfl rfl rfl false rfl) rfl rfl ?_
            refine q_skip (wanted_is rfl rfl rfl rfl false rfl) rfl rfl ?_
            refine q_skip (wanted_is rfl rfl rfl rfl false rfl) rfl rfl ?_
            refine q_skip (wanted_is rfl rfl rfl rfl false rfl) rfl rfl ?_
            refine q_skip (wanted_is rfl rfl rfl rfl false rfl) rfl rfl ?_
            refine q_rd (wanted_none rfl) rfl rfl (rd_pickT (v := .c _) rfl rfl rfl) ?_
            refine q_rd (wanted_none rfl) rfl rfl (rd_move (v := .c _) rfl rfl) ?_
            first | refine q_rd (wanted_is rfl rfl rfl rfl true rfl) rfl rfl (rd_faddrO rfl rfl Try.underlying43 rfl sz9 rfl) ?_ | refine q_rd (wanted_is rfl rfl rfl rfl true rfl) rfl rfl (rd_faddrR rfl rfl Try.underlying43 rfl sz9 rfl) ?_
            first | refine q_rdO (wanted_is rfl rfl rfl rfl true rfl) rfl rfl (rd_loadO (v := .c _) rfl rfl (.inl rfl) Try.underlying9 ag9 (by first | decide | (first | omega | decide | (dsimp only at *; omega))) rfl) ?_ | refine q_rd (wanted_is rfl rfl rfl rfl true rfl) rfl rfl (rd_loadR (v := .c _) rfl rfl Try.underlying9 ag9 (by first | decide | (first | omega | decide | (dsimp only at *; omega))) rfl) ?_ | refine q_rdO (wanted_is rfl rfl rfl rfl true rfl) rfl rfl (rd_loadO (v := .c _) rfl rfl (.inr rfl) Try.underlying9 ag9 (by first | decide | (first | omega | decide | (dsimp only at *; omega))) rfl) ?_
            refine q_rd (wanted_is rfl rfl rfl rfl true rfl) rfl rfl (rd_eqL rfl rfl rfl) ?_
            refine q_rd (wanted_is rfl rfl rfl rfl true rfl) rfl rfl (rd_move (v := .c _) rfl rfl) ?_
            first | refine seq_splitD (d := 38) rfl rfl (fun g69_2 => ?_) (fun g69_2 => ?_) | refine seq_split (d := 38) rfl rfl (fun g69_2 => ?_) (fun g69_2 => ?_)
            · refine q_skip (wanted_is rfl rfl rfl rfl false rfl) rfl rfl ?_
              refine q_skip (wanted_is rfl rfl rfl rfl false rfl) rfl rfl ?_
              refine q_skip (wanted_is rfl rfl rfl rfl false rfl) rfl rfl ?_
              refine q_skip (wanted_is rfl rfl rfl rfl false rfl) rfl rfl ?_
              refine q_skip (wanted_is rfl rfl rfl rfl false rfl) rfl rfl ?_
              refine q_rd (wanted_is rfl rfl rfl rfl true rfl) rfl rfl (rd_pickT (v := .c _) rfl rfl rfl) ?_
              refine q_rd (wanted_none rfl) rfl rfl (rd_pickT (v := .c _) rfl rfl rfl) ?_
              refine q_rd (wanted_none rfl) rfl rfl (rd_move (v := .c _) rfl rfl) ?_
              first | refine q_rd (wanted_is rfl rfl rfl rfl true rfl) rfl rfl (rd_faddrO rfl rfl Try.underlying43 rfl sz9 rfl) ?_ | refine q_rd (wanted_is rfl rfl rfl rfl true rfl) rfl rfl (rd_faddrR rfl rfl Try.underlying43 rfl sz9 rfl) ?_
              first | refine q_rdO (wanted_is rfl rfl rfl rfl true rfl) rfl rfl (rd_loadO (v := .c _) rfl rfl (.inl rfl) Try.underlying9 ag9 (by first | decide | (first | omega | decide | (dsimp only at *; omega))) rfl) ?_ | refine q_rd (wanted_is rfl rfl rfl rfl true rfl) rfl rfl (rd_loadR (v := .c _) rfl rfl Try.underlying9 ag9 (by first | decide | (first | omega | decide | (dsimp only at *; omega))) rfl) ?_ | refine q_rdO (wanted_is rfl rfl rfl rfl true rfl) rfl rfl (rd_loadO (v := .c _) rfl rfl (.inr rfl) Try.underlying9 ag9 (by first | decide | (first | omega | decide | (dsimp only at *; omega))) rfl) ?_
              refine q_rd (wanted_is rfl rfl rfl rfl true rfl) rfl rfl (rd_neL rfl rfl rfl) ?_
              refine q_rd (wanted_is rfl rfl rfl rfl true rfl) rfl rfl (rd_move (v := .c _) rfl rfl) ?_
              first | refine seq_splitD (d := 50) rfl rfl (fun g69_3 => ?_) (fun g69_3 => ?_) | refine seq_split (d := 50) rfl rfl (fun g69_3 => ?_) (fun g69_3 => ?_)
              · refine q_skip (wanted_is rfl rfl rfl rfl false rfl) rfl rfl ?_
                refine q_skip (wanted_is rfl rfl rfl rfl false rfl) rfl rfl ?_
                refine q_skip (wanted_is rfl rfl rfl rfl false rfl) rfl rfl ?_
                refine q_rd (wanted_is rfl rfl rfl rfl true rfl) rfl rfl (rd_pickT (v := .c _) rfl rfl rfl) ?_
                refine q_rd (wanted_none rfl) rfl rfl (rd_pickT (v := .c _) rfl rfl rfl) ?_
                refine seq_nil ?_
                refine then_norm ?_
                refine code_condT rfl ?_
                refine code_region ?_
                first | refine q_rd (wanted_none rfl) rfl rfl (rd_move (v := .rs _ _ _) rfl rfl) ?_ | refine q_rd (wanted_none rfl) rfl rfl (rd_move (v := .os _ _ _ _ _) rfl rfl) ?_ | refine q_rd (wanted_none rfl) rfl rfl (rd_move (v := .c _) rfl rfl) ?_ | refine q_rd (wanted_none rfl) rfl rfl (rd_move (v := .pv _) rfl rfl) ?_ | refine q_rd (wanted_none rfl) rfl rfl (rd_move (v := .top) rfl rfl) ?_
                first | refine q_rdO (wanted_none rfl) rfl rfl (rd_loadOA rfl rfl (.inl rfl) Try.underlying43 ag43 sz43 (by first | decide | (first | omega | decide | (dsimp only at *; omega)))) ?_ | refine q_rd (wanted_none rfl) rfl rfl (rd_loadRA rfl rfl Try.underlying43 ag43 sz43 (by first | decide | (first | omega | decide | (dsimp only at *; omega)))) ?_ | refine q_rdO (wanted_none rfl) rfl rfl (rd_loadOA rfl rfl (.inr rfl) Try.underlying43 ag43 sz43 (by first | decide | (first | omega | decide | (dsimp only at *; omega)))) ?_
                refine seq_ex (wanted_none rfl) (e_buildSlice (n := 5) rfl Try.underlying29 sz43 zr43 rfl rfl rfl rfl rfl rfl rfl (fun p4 => ?_))
                refine seq_md (wanted_none rfl) (m_appendC (rowC_row 5 ruleF r0) (l2 := [l.getD i r0]) rfl rfl rfl rfl (by first | exact Nat.le_refl _ | omega) (fun _ _ => CEnt.refl _) (src_os rfl (.inl rfl) (by decide)) rfl (fun j hj => by rcases j with _|_|_|_|_|j <;> first | exact CEnt.refl _ | exact CEnt.int (by omega) | (exfalso; simp at hj; omega)) Try.underlying29 nu29 sz43 zr43 by43 rfl (by first | omega | (simp; done) | (simp; omega) | (simp at *; omega)) (by first | omega | (simp; done) | (simp; omega) | (simp at *; omega)) (leaf_flk rfl rfl) rfl rfl rfl (fun p5 => ?_))
                first | refine q_rd (wanted_none rfl) rfl rfl (rd_assign (v := .rs _ _ _) rfl rfl) ?_ | refine q_rd (wanted_none rfl) rfl rfl (rd_assign (v := .os _ _ _ _ _) rfl rfl) ?_ | refine q_rd (wanted_none rfl) rfl rfl (rd_assign (v := .c _) rfl rfl) ?_ | refine q_rd (wanted_none rfl) rfl rfl (rd_assign (v := .pv _) rfl rfl) ?_ | refine q_rd (wanted_none rfl) rfl rfl (rd_assign (v := .top) rfl rfl) ?_
                refine seq_nil ?_
                refine block_norm ?_
                refine then_norm ?_
                have ht : tabOk l = true ∧ rightS s = true := by simp_all
                have hl32 : l.length ≤ 32 := by have := ht.1; unfold tabOk at this; simp at this; omega
                refine code_region ?_
                refine q_rd (wanted_none rfl) rfl rfl (rd_add rfl rfl rfl (wrap_id (k := .i64) (by show _ ∧ _; (first | omega | decide | (dsimp only at *; omega))))) ?_
                refine q_rd (wanted_none rfl) rfl rfl (rd_move (v := .c _) rfl rfl) ?_
                refine seq_nil ?_
                refine then_norm ?_
                refine ⟨(i + 1, X ++ [l.getD i r0], p5), ?_, ?_, by first | exact .refl | exact .nest .refl rfl rfl | exact .nest (.nest .refl rfl rfl) rfl rfl | exact .nest (.nest (.nest .refl rfl rfl) rfl rfl) rfl rfl, rfl, ?_, by exact Nat.le_of_ble_eq_true rfl, ?_⟩
                · exact ⟨by omega, by rw [hX]; first | exact (filt_yes (by omega) (by unfold ruleOf; first | (simp_all; done) | grind)).symm | exact (filt_no (by omega) (by unfold ruleOf; first | (simp_all; done) | grind)).symm⟩
                · show l.length - (i + 1) < l.length - i; omega
                · exact .cons (CEnt.refl _) (.cons (CEnt.int (by omega)) .nil)
                · (repeat (first | exact HEnt.nil | refine HEnt.same ?_ | refine HEnt.blk rfl (fun j hj => by rcases j with _|_|_|_|_|_|_|_|j <;> first | exact CEnt.refl _ | exact CEnt.int (by omega) | omega) ?_))
              · first | refine q_rd (wanted_is rfl rfl rfl rfl true rfl) rfl rfl (rd_faddrO rfl rfl Try.underlying24 rfl sz9 rfl) ?_ | refine q_rd (wanted_is rfl rfl rfl rfl true rfl) rfl rfl (rd_faddrR rfl rfl Try.underlying24 rfl sz9 rfl) ?_
                first | refine q_rdO (wanted_is rfl rfl rfl rfl true rfl) rfl rfl (rd_loadO (v := .c _) rfl rfl (.inl rfl) Try.underlying9 ag9 (by first | decide | (first | omega | decide | (dsimp only at *; omega))) rfl) ?_ | refine q_rd (wanted_is rfl rfl rfl rfl true rfl) rfl rfl (rd_loadR (v := .c _) rfl rfl Try.underlying9 ag9 (by first | decide | (first | omega | decide | (dsimp only at *; omega))) rfl) ?_ | refine q_rdO (wanted_is rfl rfl rfl rfl true rfl) rfl rfl (rd_loadO (v := .c _) rfl rfl (.inr rfl) Try.underlying9 ag9 (by first | decide | (first | omega | decide | (dsimp only at *; omega))) rfl) ?_
                refine q_rd (wanted_is rfl rfl rfl rfl true rfl) rfl rfl (rd_neL rfl rfl rfl) ?_
                refine q_rd (wanted_is rfl rfl rfl rfl true rfl) rfl rfl (rd_pickF (v := .c _) rfl rfl rfl) ?_
                refine q_rd (wanted_none rfl) rfl rfl (rd_pickT (v := .c _) rfl rfl rfl) ?_
                refine seq_nil ?_
                refine then_norm ?_
                first | refine code_condSD rfl rfl (fun h69 => ?_) (fun h69 => ?_) | refine code_condS rfl rfl (fun h69 => ?_) (fun h69 => ?_)
                · refine code_region ?_
                  first | refine q_rd (wanted_none rfl) rfl rfl (rd_move (v := .rs _ _ _) rfl rfl) ?_ | refine q_rd (wanted_none rfl) rfl rfl (rd_move (v := .os _ _ _ _ _) rfl rfl) ?_ | refine q_rd (wanted_none rfl) rfl rfl (rd_move (v := .c _) rfl rfl) ?_ | refine q_rd (wanted_none rfl) rfl rfl (rd_move (v := .pv _) rfl rfl) ?_ | refine q_rd (wanted_none rfl) rfl rfl (rd_move (v := .top) rfl rfl) ?_
                  first | refine q_rdO (wanted_none rfl) rfl rfl (rd_loadOA rfl rfl (.inl rfl) Try.underlying43 ag43 sz43 (by first | decide | (first | omega | decide | (dsimp only at *; omega)))) ?_ | refine q_rd (wanted_none rfl) rfl rfl (rd_loadRA rfl rfl Try.underlying43 ag43 sz43 (by first | decide | (first | omega | decide | (dsimp only at *; omega)))) ?_ | refine q_rdO (wanted_none rfl) rfl rfl (rd_loadOA rfl rfl (.inr rfl) Try.underlying43 ag43 sz43 (by first | decide | (first | omega | decide | (dsimp only at *; omega)))) ?_
                  refine seq_ex (wanted_none rfl) (e_buildSlice (n := 5) rfl Try.underlying29 sz43 zr43 rfl rfl rfl rfl rfl rfl rfl (fun p4 => ?_))
                  refine seq_md (wanted_none rfl) (m_appendC (rowC_row 5 ruleF r0) (l2 := [l.getD i r0]) rfl rfl rfl rfl (by first | exact Nat.le_refl _ | omega) (fun _ _ => CEnt.refl _) (src_os rfl (.inl rfl) (by decide)) rfl (fun j hj => by rcases j with _|_|_|_|_|j <;> first | exact CEnt.refl _ | exact CEnt.int (by omega) | (exfalso; simp at hj; omega)) Try.underlying29 nu29 sz43 zr43 by43 rfl (by first | omega | (simp; done) | (simp; omega) | (simp at *; omega)) (by first | omega | (simp; done) | (simp; omega) | (simp at *; omega)) (leaf_flk rfl rfl) rfl rfl rfl (fun p5 => ?_))
                  first | refine q_rd (wanted_none rfl) rfl rfl (rd_assign (v := .rs _ _ _) rfl rfl) ?_ | refine q_rd (wanted_none rfl) rfl rfl (rd_assign (v := .os _ _ _ _ _) rfl rfl) ?_ | refine q_rd (wanted_none rfl) rfl rfl (rd_assign (v := .c _) rfl rfl) ?_ | refine q_rd (wanted_none rfl) rfl rfl (rd_assign (v := .pv _) rfl rfl) ?_ | refine q_rd (wanted_none rfl) rfl rfl (rd_assign (v := .top) rfl rfl) ?_
                  refine seq_nil ?_
                  refine block_norm ?_
                  refine then_norm ?_
                  have ht : tabOk l = true ∧ rightS s = true := by simp_all
                  have hl32 : l.length ≤ 32 := by have := ht.1; unfold tabOk at this; simp at this; omega
                  refine code_region ?_
                  refine q_rd (wanted_none rfl) rfl rfl (rd_add rfl rfl rfl (wrap_id (k := .i64) (by show _ ∧ _; (first | omega | decide | (dsimp only at *; omega))))) ?_
                  refine q_rd (wanted_none rfl) rfl rfl (rd_move (v := .c _) rfl rfl) ?_
                  refine seq_nil ?_
                  refine then_norm ?_
                  refine ⟨(i + 1, X ++ [l.getD i r0], p5), ?_, ?_, by first | exact .refl | exact .nest .refl rfl rfl | exact .nest (.nest .refl rfl rfl) rfl rfl | exact .nest (.nest (.nest .refl rfl rfl) rfl rfl) rfl rfl, rfl, ?_, by exact Nat.le_of_ble_eq_true rfl, ?_⟩
                  · exact ⟨by omega, by rw [hX]; first | exact (filt_yes (by omega) (by unfold ruleOf; first | (simp_all; done) | grind)).symm | exact (filt_no (by omega) (by unfold ruleOf; first | (simp_all; done) | grind)).symm⟩
                  · show l.length - (i + 1) < l.length - i; omega
                  · exact .cons (CEnt.refl _) (.cons (CEnt.int (by omega)) .nil)
                  · (repeat (first | exact HEnt.nil | refine HEnt.same ?_ | refine HEnt.blk rfl (fun j hj => by rcases j with _|_|_|_|_|_|_|_|j <;> first | exact CEnt.refl _ | exact CEnt.int (by omega) | omega) ?_))
                · refine code_skip ?_
                  refine block_norm ?_
                  refine then_norm ?_
                  have ht : tabOk l = true ∧ rightS s = true := by simp_all
                  have hl32 : l.length ≤ 32 := by have := ht.1; unfold tabOk at this; simp at this; omega
                  refine code_region ?_
                  refine q_rd (wanted_none rfl) rfl rfl (rd_add rfl rfl rfl (wrap_id (k := .i64) (by show _ ∧ _; (first | omega | decide | (dsimp only at *; omega))))) ?_
                  refine q_rd (wanted_none rfl) rfl rfl (rd_move (v := .c _) rfl rfl) ?_
                  refine seq_nil ?_
                  refine then_norm ?_
                  refine ⟨(i + 1, X, g), ?_, ?_, by first | exact .refl | exact .nest .refl rfl rfl | exact .nest (.nest .refl rfl rfl) rfl rfl | exact .nest (.nest (.nest .refl rfl rfl) rfl rfl) rfl rfl, rfl, ?_, by exact Nat.le_of_ble_eq_true rfl, ?_⟩
                  · exact ⟨by omega, by rw [hX]; first | exact (filt_yes (by omega) (by unfold ruleOf; first | (simp_all; done) | grind)).symm | exact (filt_no (by omega) (by unfold ruleOf; first | (simp_all; done) | grind)).symm⟩
                  · show l.length - (i + 1) < l.length - i; omega
                  · exact .cons (CEnt.refl _) (.cons (CEnt.int (by omega)) .nil)
                  · (repeat (first | exact HEnt.nil | refine HEnt.same ?_ | refine HEnt.blk rfl (fun j hj => by rcases j with _|_|_|_|_|_|_|_|j <;> first | exact CEnt.refl _ | exact CEnt.int (by omega) | omega) ?_))
            · first | refine q_rd (wanted_is rfl rfl rfl rfl true rfl) rfl rfl (rd_faddrO rfl rfl Try.underlying43 rfl sz9 rfl) ?_ | refine q_rd (wanted_is rfl rfl rfl rfl true rfl) rfl rfl (rd_faddrR rfl rfl Try.underlying43 rfl sz9 rfl) ?_
              first | refine q_rdO (wanted_is rfl rfl rfl rfl true rfl) rfl rfl (rd_loadO (v := .c _) rfl rfl (.inl rfl) Try.underlying9 ag9 (by first | decide | (first | omega | decide | (dsimp only at *; omega))) rfl) ?_ | refine q_rd (wanted_is rfl rfl rfl rfl true rfl) rfl rfl (rd_loadR (v := .c _) rfl rfl Try.underlying9 ag9 (by first | decide | (first | omega | decide | (dsimp only at *; omega))) rfl) ?_ | refine q_rdO (wanted_is rfl rfl rfl rfl true rfl) rfl rfl (rd_loadO (v := .c _) rfl rfl (.inr rfl) Try.underlying9 ag9 (by first | decide | (first | omega | decide | (dsimp only at *; omega))) rfl) ?_
              first | refine q_rd (wanted_is rfl rfl rfl rfl true rfl) rfl rfl (rd_faddrO rfl rfl Try.underlying24 rfl sz9 rfl) ?_ | refine q_rd (wanted_is rfl rfl rfl rfl true rfl) rfl rfl (rd_faddrR rfl rfl Try.underlying24 rfl sz9 rfl) ?_
              first | refine q_rdO (wanted_is rfl rfl rfl rfl true rfl) rfl rfl (rd_loadO (v := .c _) rfl rfl (.inl rfl) Try.underlying9 ag9 (by first | decide | (first | omega | decide | (dsimp only at *; omega))) rfl) ?_ | refine q_rd (wanted_is rfl rfl rfl rfl true rfl) rfl rfl (rd_loadR (v := .c _) rfl rfl Try.underlying9 ag9 (by first | decide | (first | omega | decide | (dsimp only at *; omega))) rfl) ?_ | refine q_rdO (wanted_is rfl rfl rfl rfl true rfl) rfl rfl (rd_loadO (v := .c _) rfl rfl (.inr rfl) Try.underlying9 ag9 (by first | decide | (first | omega | decide | (dsimp only at *; omega))) rfl) ?_
              refine q_rd (wanted_is rfl rfl rfl rfl true rfl) rfl rfl (rd_eqL rfl rfl rfl) ?_
              refine q_rd (wanted_is rfl rfl rfl rfl true rfl) rfl rfl (rd_pickF (v := .c _) rfl rfl rfl) ?_
              refine q_rd (wanted_none rfl) rfl rfl (rd_pickT (v := .c _) rfl rfl rfl) ?_
              refine q_rd (wanted_none rfl) rfl rfl (rd_move (v := .c _) rfl rfl) ?_
              first | refine seq_splitD (d := 46) rfl rfl (fun g69_3 => ?_) (fun g69_3 => ?_) | refine seq_split (d := 46) rfl rfl (fun g69_3 => ?_) (fun g69_3 => ?_)
              · first | refine q_rd (wanted_is rfl rfl rfl rfl true rfl) rfl rfl (rd_faddrO rfl rfl Try.underlying43 rfl sz9 rfl) ?_ | refine q_rd (wanted_is rfl rfl rfl rfl true rfl) rfl rfl (rd_faddrR rfl rfl Try.underlying43 rfl sz9 rfl) ?_
                first | refine q_rdO (wanted_is rfl rfl rfl rfl true rfl) rfl rfl (rd_loadO (v := .c _) rfl rfl (.inl rfl) Try.underlying9 ag9 (by first | decide | (first | omega | decide | (dsimp only at *; omega))) rfl) ?_ | refine q_rd (wanted_is rfl rfl rfl rfl true rfl) rfl rfl (rd_loadR (v := .c _) rfl rfl Try.underlying9 ag9 (by first | decide | (first | omega | decide | (dsimp only at *; omega))) rfl) ?_ | refine q_rdO (wanted_is rfl rfl rfl rfl true rfl) rfl rfl (rd_loadO (v := .c _) rfl rfl (.inr rfl) Try.underlying9 ag9 (by first | decide | (first | omega | decide | (dsimp only at *; omega))) rfl) ?_
                refine q_rd (wanted_is rfl rfl rfl rfl true rfl) rfl rfl (rd_neL rfl rfl rfl) ?_
                refine q_rd (wanted_is rfl rfl rfl rfl true rfl) rfl rfl (rd_move (v := .c _) rfl rfl) ?_
                first | refine seq_splitD (d := 50) rfl rfl (fun g69_4 => ?_) (fun g69_4 => ?_) | refine seq_split (d := 50) rfl rfl (fun g69_4 => ?_) (fun g69_4 => ?_)
                · refine q_skip (wanted_is rfl rfl rfl rfl false rfl) rfl rfl ?_
                  refine q_skip (wanted_is rfl rfl rfl rfl false rfl) rfl rfl ?_
                  refine q_skip (wanted_is rfl rfl rfl rfl false rfl) rfl rfl ?_
                  refine q_rd (wanted_is rfl rfl rfl rfl true rfl) rfl rfl (rd_pickT (v := .c _) rfl rfl rfl) ?_
                  refine q_rd (wanted_none rfl) rfl rfl (rd_pickT (v := .c _) rfl rfl rfl) ?_
                  refine seq_nil ?_
                  refine then_norm ?_
                  refine code_condT rfl ?_
                  refine code_region ?_
                  first | refine q_rd (wanted_none rfl) rfl rfl (rd_move (v := .rs _ _ _) rfl rfl) ?_ | refine q_rd (wanted_none rfl) rfl rfl (rd_move (v := .os _ _ _ _ _) rfl rfl) ?_ | refine q_rd (wanted_none rfl) rfl rfl (rd_move (v := .c _) rfl rfl) ?_ | refine q_rd (wanted_none rfl) rfl rfl (rd_move (v := .pv _) rfl rfl) ?_ | refine q_rd (wanted_none rfl) rfl rfl (rd_move (v := .top) rfl rfl) ?_
                  first | refine q_rdO (wanted_none rfl) rfl rfl (rd_loadOA rfl rfl (.inl rfl) Try.underlying43 ag43 sz43 (by first | decide | (first | omega | decide | (dsimp only at *; omega)))) ?_ | refine q_rd (wanted_none rfl) rfl rfl (rd_loadRA rfl rfl Try.underlying43 ag43 sz43 (by first | decide | (first | omega | decide | (dsimp only at *; omega)))) ?_ | refine q_rdO (wanted_none rfl) rfl rfl (rd_loadOA rfl rfl (.inr rfl) Try.underlying43 ag43 sz43 (by first | decide | (first | omega | decide | (dsimp only at *; omega)))) ?_
                  refine seq_ex (wanted_none rfl) (e_buildSlice (n := 5) rfl Try.underlying29 sz43 zr43 rfl rfl rfl rfl rfl rfl rfl (fun p4 => ?_))
                  refine seq_md (wanted_none rfl) (m_appendC (rowC_row 5 ruleF r0) (l2 := [l.getD i r0]) rfl rfl rfl rfl (by first | exact Nat.le_refl _ | omega) (fun _ _ => CEnt.refl _) (src_os rfl (.inl rfl) (by decide)) rfl (fun j hj => by rcases j with _|_|_|_|_|j <;> first | exact CEnt.refl _ | exact CEnt.int (by omega) | (exfalso; simp at hj; omega)) Try.underlying29 nu29 sz43 zr43 by43 rfl (by first | omega | (simp; done) | (simp; omega) | (simp at *; omega)) (by first | omega | (simp; done) | (simp; omega) | (simp at *; omega)) (leaf_flk rfl rfl) rfl rfl rfl (fun p5 => ?_))
                  first | refine q_rd (wanted_none rfl) rfl rfl (rd_assign (v := .rs _ _ _) rfl rfl) ?_ | refine q_rd (wanted_none rfl) rfl rfl (rd_assign (v := .os _ _ _ _ _) rfl rfl) ?_ | refine q_rd (wanted_none rfl) rfl rfl (rd_assign (v := .c _) rfl rfl) ?_ | refine q_rd (wanted_none rfl) rfl rfl (rd_assign (v := .pv _) rfl rfl) ?_ | refine q_rd (wanted_none rfl) rfl rfl (rd_assign (v := .top) rfl rfl) ?_
                  refine seq_nil ?_
                  refine block_norm ?_
                  refine then_norm ?_
                  have ht : tabOk l = true ∧ rightS s = true := by simp_all
                  have hl32 : l.length ≤ 32 := by have := ht.1; unfold tabOk at this; simp at this; omega
                  refine code_region ?_
                  refine q_rd (wanted_none rfl) rfl rfl (rd_add rfl rfl rfl (wrap_id (k := .i64) (by show _ ∧ _; (first | omega | decide | (dsimp only at *; omega))))) ?_
                  refine q_rd (wanted_none rfl) rfl rfl (rd_move (v := .c _) rfl rfl) ?_
                  refine seq_nil ?_
                  refine then_norm ?_
                  refine ⟨(i + 1, X ++ [l.getD i r0], p5), ?_, ?_, by first | exact .refl | exact .nest .refl rfl rfl | exact .nest (.nest .refl rfl rfl) rfl rfl | exact .nest (.nest (.nest .refl rfl rfl) rfl rfl) rfl rfl, rfl, ?_, by exact Nat.le_of_ble_eq_true rfl, ?_⟩
                  · exact ⟨by omega, by rw [hX]; first | exact (filt_yes (by omega) (by unfold ruleOf; first | (simp_all; done) | grind)).symm | exact (filt_no (by omega) (by unfold ruleOf; first | (simp_all; done) | grind)).symm⟩
                  · show l.length - (i + 1) < l.length - i; omega
                  · exact .cons (CEnt.refl _) (.cons (CEnt.int (by omega)) .nil)
                  · (repeat (first | exact HEnt.nil | refine HEnt.same ?_ | refine HEnt.blk rfl (fun j hj => by rcases j with _|_|_|_|_|_|_|_|j <;> first | exact CEnt.refl _ | exact CEnt.int (by omega) | omega) ?_))
                · first | refine q_rd (wanted_is rfl rfl rfl rfl true rfl) rfl rfl (rd_faddrO rfl rfl Try.underlying24 rfl sz9 rfl) ?_ | refine q_rd (wanted_is rfl rfl rfl rfl true rfl) rfl rfl (rd_faddrR rfl rfl Try.underlying24 rfl sz9 rfl) ?_
                  first | refine q_rdO (wanted_is rfl rfl rfl rfl true rfl) rfl rfl (rd_loadO (v := .c _) rfl rfl (.inl rfl) Try.underlying9 ag9 (by first | decide | (first | omega | decide | (dsimp only at *; omega))) rfl) ?_ | refine q_rd (wanted_is rfl rfl rfl rfl true rfl) rfl rfl (rd_loadR (v := .c _) rfl rfl Try.underlying9 ag9 (by first | decide | (first | omega | decide | (dsimp only at *; omega))) rfl) ?_ | refine q_rdO (wanted_is rfl rfl rfl rfl true rfl) rfl rfl (rd_loadO (v := .c _) rfl rfl (.inr rfl) Try.underlying9 ag9 (by first | decide | (first | omega | decide | (dsimp only at *; omega))) rfl) ?_
                  refine q_rd (wanted_is rfl rfl rfl rfl true rfl) rfl rfl (rd_neL rfl rfl rfl) ?_
                  refine q_rd (wanted_is rfl rfl rfl rfl true rfl) rfl rfl (rd_pickF (v := .c _) rfl rfl rfl) ?_
                  refine q_rd (wanted_none rfl) rfl rfl (rd_pickT (v := .c _) rfl rfl rfl) ?_
                  refine seq_nil ?_
                  refine then_norm ?_
                  first | refine code_condSD rfl rfl (fun h69 => ?_) (fun h69 => ?_) | refine code_condS rfl rfl (fun h69 => ?_) (fun h69 => ?_)
                  · refine code_region ?_
                    first | refine q_rd (wanted_none rfl) rfl rfl (rd_move (v := .rs _ _ _) rfl rfl) ?_ | refine q_rd (wanted_none rfl) rfl rfl (rd_move (v := .os _ _ _ _ _) rfl rfl) ?_ | refine q_rd (wanted_none rfl) rfl rfl (rd_move (v := .c _) rfl rfl) ?_ | refine q_rd (wanted_none rfl) rfl rfl (rd_move (v := .pv _) rfl rfl) ?_ | refine q_rd (wanted_none rfl) rfl rfl (rd_move (v := .top) rfl rfl) ?_
                    first | refine q_rdO (wanted_none rfl) rfl rfl (rd_loadOA rfl rfl (.inl rfl) Try.underlying43 ag43 sz43 (by first | decide | (first | omega | decide | (dsimp only at *; omega)))) ?_ | refine q_rd (wanted_none rfl) rfl rfl (rd_loadRA rfl rfl Try.underlying43 ag43 sz43 (by first | decide | (first | omega | decide | (dsimp only at *; omega)))) ?_ | refine q_rdO (wanted_none rfl) rfl rfl (rd_loadOA rfl rfl (.inr rfl) Try.underlying43 ag43 sz43 (by first | decide | (first | omega | decide | (dsimp only at *; omega)))) ?_
                    refine seq_ex (wanted_none rfl) (e_buildSlice (n := 5) rfl Try.underlying29 sz43 zr43 rfl rfl rfl rfl rfl rfl rfl (fun p4 => ?_))
                    refine seq_md (wanted_none rfl) (m_appendC (rowC_row 5 ruleF r0) (l2 := [l.getD i r0]) rfl rfl rfl rfl (by first | exact Nat.le_refl _ | omega) (fun _ _ => CEnt.refl _) (src_os rfl (.inl rfl) (by decide)) rfl (fun j hj => by rcases j with _|_|_|_|_|j <;> first | exact CEnt.refl _ | exact CEnt.int (by omega) | (exfalso; simp at hj; omega)) Try.underlying29 nu29 sz43 zr43 by43 rfl (by first | omega | (simp; done) | (simp; omega) | (simp at *; omega)) (by first | omega | (simp; done) | (simp; omega) | (simp at *; omega)) (leaf_flk rfl rfl) rfl rfl rfl (fun p5 => ?_))
                    first | refine q_rd (wanted_none rfl) rfl rfl (rd_assign (v := .rs _ _ _) rfl rfl) ?_ | refine q_rd (wanted_none rfl) rfl rfl (rd_assign (v := .os _ _ _ _ _) rfl rfl) ?_ | refine q_rd (wanted_none rfl) rfl rfl (rd_assign (v := .c _) rfl rfl) ?_ | refine q_rd (wanted_none rfl) rfl rfl (rd_assign (v := .pv _) rfl rfl) ?_ | refine q_rd (wanted_none rfl) rfl rfl (rd_assign (v := .top) rfl rfl) ?_
                    refine seq_nil ?_
                    refine block_norm ?_
                    refine then_norm ?_
                    have ht : tabOk l = true ∧ rightS s = true := by simp_all
                    have hl32 : l.length ≤ 32 := by have := ht.1; unfold tabOk at this; simp at this; omega
                    refine code_region ?_
                    refine q_rd (wanted_none rfl) rfl rfl (rd_add rfl rfl rfl (wrap_id (k := .i64) (by show _ ∧ _; (first | omega | decide | (dsimp only at *; omega))))) ?_
                    refine q_rd (wanted_none rfl) rfl rfl (rd_move (v := .c _) rfl rfl) ?_
                    refine seq_nil ?_
                    refine then_norm ?_
                    refine ⟨(i + 1, X ++ [l.getD i r0], p5), ?_, ?_, by first | exact .refl | exact .nest .refl rfl rfl | exact .nest (.nest .refl rfl rfl) rfl rfl | exact .nest (.nest (.nest .refl rfl rfl) rfl rfl) rfl rfl, rfl, ?_, by exact Nat.le_of_ble_eq_true rfl, ?_⟩
                    · exact ⟨by omega, by rw [hX]; first | exact (filt_yes (by omega) (by unfold ruleOf; first | (simp_all; done) | grind)).symm | exact (filt_no (by omega) (by unfold ruleOf; first | (simp_all; done) | grind)).symm⟩
                    · show l.length - (i + 1) < l.length - i; omega
                    · exact .cons (CEnt.refl _) (.cons (CEnt.int (by omega)) .nil)
                    · (repeat (first | exact HEnt.nil | refine HEnt.same ?_ | refine HEnt.blk rfl (fun j hj => by rcases j with _|_|_|_|_|_|_|_|j <;> first | exact CEnt.refl _ | exact CEnt.int (by omega) | omega) ?_))
                  · refine code_skip ?_
                    refine block_norm ?_
                    refine then_norm ?_
                    have ht : tabOk l = true ∧ rightS s = true := by simp_all
                    have hl32 : l.length ≤ 32 := by have := ht.1; unfold tabOk at this; simp at this; omega
                    refine code_region ?_
                    refine q_rd (wanted_none rfl) rfl rfl (rd_add rfl rfl rfl (wrap_id (k := .i64) (by show _ ∧ _; (first | omega | decide | (dsimp only at *; omega))))) ?_
                    refine q_rd (wanted_none rfl) rfl rfl (rd_move (v := .c _) rfl rfl) ?_
                    refine seq_nil ?_
                    refine then_norm ?_
                    refine ⟨(i + 1, X, g), ?_, ?_, by first | exact .refl | exact .nest .refl rfl rfl | exact .nest (.nest .refl rfl rfl) rfl rfl | exact .nest (.nest (.nest .refl rfl rfl) rfl rfl) rfl rfl, rfl, ?_, by exact Nat.le_of_ble_eq_true rfl, ?_⟩
                    · exact ⟨by omega, by rw [hX]; first | exact (filt_yes (by omega) (by unfold ruleOf; first | (simp_all; done) | grind)).symm | exact (filt_no (by omega) (by unfold ruleOf; first | (simp_all; done) | grind)).symm⟩
                    · show l.length - (i + 1) < l.length - i; omega
                    · exact .cons (CEnt.refl _) (.cons (CEnt.int (by omega)) .nil)
                    · (repeat (first | exact HEnt.nil | refine HEnt.same ?_ | refine HEnt.blk rfl (fun j hj => by rcases j with _|_|_|_|_|_|_|_|j <;> first | exact CEnt.refl _ | exact CEnt.int (by omega) | omega) ?_))
              · refine q_skip (wanted_is rfl rfl rfl rfl false rfl) rfl rfl ?_
                refine q_skip (wanted_is rfl rfl rfl rfl false rfl) rfl rfl ?_
                refine q_skip (wanted_is rfl rfl rfl rfl false rfl) rfl rfl ?_
                refine q_skip (wanted_is rfl rfl rfl rfl false rfl) rfl rfl ?_
                refine q_skip (wanted_undef rfl rfl rfl rfl) rfl rfl ?_
                refine q_skip (wanted_undef rfl rfl rfl rfl) rfl rfl ?_
                refine q_skip (wanted_undef rfl rfl rfl rfl) rfl rfl ?_
                refine q_skip (wanted_is rfl rfl rfl rfl false rfl) rfl rfl ?_
                refine q_rd (wanted_none rfl) rfl rfl (rd_pickF (v := .c _) rfl rfl rfl) ?_
                refine seq_nil ?_
                refine then_norm ?_
                refine code_condF rfl ?_
                refine code_skip ?_
                refine block_norm ?_
                refine then_norm ?_
                have ht : tabOk l = true ∧ rightS s = true := by simp_all
                have hl32 : l.length ≤ 32 := by have := ht.1; unfold tabOk at this; simp at this; omega
                refine code_region ?_
                refine q_rd (wanted_none rfl) rfl rfl (rd_add rfl rfl rfl (wrap_id (k := .i64) (by show _ ∧ _; (first | omega | decide | (dsimp only at *; omega))))) ?_
                refine q_rd (wanted_none rfl) rfl rfl (rd_move (v := .c _) rfl rfl) ?_
                refine seq_nil ?_
                refine then_norm ?_
                refine ⟨(i + 1, X, g), ?_, ?_, by first | exact .refl | exact .nest .refl rfl rfl | exact .nest (.nest .refl rfl rfl) rfl rfl | exact .nest (.nest (.nest .refl rfl rfl) rfl rfl) rfl rfl, rfl, ?_, by exact Nat.le_of_ble_eq_true rfl, ?_⟩
                · exact ⟨by omega, by rw [hX]; first | exact (filt_yes (by omega) (by unfold ruleOf; first | (simp_all; done) | grind)).symm | exact (filt_no (by omega) (by unfold ruleOf; first | (simp_all; done) | grind)).symm⟩
                · show l.length - (i + 1) < l.length - i; omega
                · exact .cons (CEnt.refl _) (.cons (CEnt.int (by omega)) .nil)
                · (repeat (first | exact HEnt.nil | refine HEnt.same ?_ | refine HEnt.blk rfl (fun j hj => by rcases j with _|_|_|_|_|_|_|_|j <;> first | exact CEnt.refl _ | exact CEnt.int (by omega) | omega) ?_))
          · first | refine q_rd (wanted_is rfl rfl rfl rfl true rfl) rfl rfl (rd_faddrO rfl rfl Try.underlying43 rfl sz3 rfl) ?_ | refine q_rd (wanted_is rfl rfl rfl rfl true rfl) rfl rfl (rd_faddrR rfl rfl Try.underlying43 rfl sz3 rfl) ?_
            first | refine q_rdO (wanted_is rfl rfl rfl rfl true rfl) rfl rfl (rd_loadO (v := .c _) rfl rfl (.inl rfl) Try.underlying3 ag3 (by first | decide | (first | omega | decide | (dsimp only at *; omega))) rfl) ?_ | refine q_rd (wanted_is rfl rfl rfl rfl true rfl) rfl rfl (rd_loadR (v := .c _) rfl rfl Try.underlying3 ag3 (by first | decide | (first | omega | decide | (dsimp only at *; omega))) rfl) ?_ | refine q_rdO (wanted_is rfl rfl rfl rfl true rfl) rfl rfl (rd_loadO (v := .c _) rfl rfl (.inr rfl) Try.underlying3 ag3 (by first | decide | (first | omega | decide | (dsimp only at *; omega))) rfl) ?_
            first | refine q_rd (wanted_is rfl rfl rfl rfl true rfl) rfl rfl (rd_faddrO rfl rfl Try.underlying24 rfl sz3 rfl) ?_ | refine q_rd (wanted_is rfl rfl rfl rfl true rfl) rfl rfl (rd_faddrR rfl rfl Try.underlying24 rfl sz3 rfl) ?_
            first | refine q_rdO (wanted_is rfl rfl rfl rfl true rfl) rfl rfl (rd_loadO (v := .c _) rfl rfl (.inl rfl) Try.underlying3 ag3 (by first | decide | (first | omega | decide | (dsimp only at *; omega))) rfl) ?_ | refine q_rd (wanted_is rfl rfl rfl rfl true rfl) rfl rfl (rd_loadR (v := .c _) rfl rfl Try.underlying3 ag3 (by first | decide | (first | omega | decide | (dsimp only at *; omega))) rfl) ?_ | refine q_rdO (wanted_is rfl rfl rfl rfl true rfl) rfl rfl (rd_loadO (v := .c _) rfl rfl (.inr rfl) Try.underlying3 ag3 (by first | decide | (first | omega | decide | (dsimp only at *; omega))) rfl) ?_
            refine q_rd (wanted_is rfl rfl rfl rfl true rfl) rfl rfl (rd_eqI rfl rfl rfl) ?_
            refine q_rd (wanted_none rfl) rfl rfl (rd_pickF (v := .c _) rfl rfl rfl) ?_
            refine q_rd (wanted_none rfl) rfl rfl (rd_move (v := .c _) rfl rfl) ?_
            first | refine seq_splitD (d := 34) rfl rfl (fun g69_2 => ?_) (fun g69_2 => ?_) | refine seq_split (d := 34) rfl rfl (fun g69_2 => ?_) (fun g69_2 => ?_)
            · first | refine q_rd (wanted_is rfl rfl rfl rfl true rfl) rfl rfl (rd_faddrO rfl rfl Try.underlying43 rfl sz9 rfl) ?_ | refine q_rd (wanted_is rfl rfl rfl rfl true rfl) rfl rfl (rd_faddrR rfl rfl Try.underlying43 rfl sz9 rfl) ?_
              first | refine q_rdO (wanted_is rfl rfl rfl rfl true rfl) rfl rfl (rd_loadO (v := .c _) rfl rfl (.inl rfl) Try.underlying9 ag9 (by first | decide | (first | omega | decide | (dsimp only at *; omega))) rfl) ?_ | refine q_rd (wanted_is rfl rfl rfl rfl true rfl) rfl rfl (rd_loadR (v := .c _) rfl rfl Try.underlying9 ag9 (by first | decide | (first | omega | decide | (dsimp only at *; omega))) rfl) ?_ | refine q_rdO (wanted_is rfl rfl rfl rfl true rfl) rfl rfl (rd_loadO (v := .c _) rfl rfl (.inr rfl) Try.underlying9 ag9 (by first | decide | (first | omega | decide | (dsimp only at *; omega))) rfl) ?_
              refine q_rd (wanted_is rfl rfl rfl rfl true rfl) rfl rfl (rd_eqL rfl rfl rfl) ?_
              refine q_rd (wanted_is rfl rfl rfl rfl true rfl) rfl rfl (rd_move (v := .c _) rfl rfl) ?_
              first | refine seq_splitD (d := 38) rfl rfl (fun g69_3 => ?_) (fun g69_3 => ?_) | refine seq_split (d := 38) rfl rfl (fun g69_3 => ?_) (fun g69_3 => ?_)
              · refine q_skip (wanted_is rfl rfl rfl rfl false rfl) rfl rfl ?_
                refine q_skip (wanted_is rfl rfl rfl rfl false rfl) rfl rfl ?_
                refine q_skip (wanted_is rfl rfl rfl rfl false rfl) rfl rfl ?_
                refine q_skip (wanted_is rfl rfl rfl rfl false rfl) rfl rfl ?_
                refine q_skip (wanted_is rfl rfl rfl rfl false rfl) rfl rfl ?_
                refine q_rd (wanted_is rfl rfl rfl rfl true rfl) rfl rfl (rd_pickT (v := .c _) rfl rfl rfl) ?_
                refine q_rd (wanted_none rfl) rfl rfl (rd_pickT (v := .c _) rfl rfl rfl) ?_
                refine q_rd (wanted_none rfl) rfl rfl (rd_move (v := .c _) rfl rfl) ?_
                first | refine q_rd (wanted_is rfl rfl rfl rfl true rfl) rfl rfl (rd_faddrO rfl rfl Try.underlying43 rfl sz9 rfl) ?_ | refine q_rd (wanted_is rfl rfl rfl rfl true rfl) rfl rfl (rd_faddrR rfl rfl Try.underlying43 rfl sz9 rfl) ?_
                first | refine q_rdO (wanted_is rfl rfl rfl rfl true rfl) rfl rfl (rd_loadO (v := .c _) rfl rfl (.inl rfl) Try.underlying9 ag9 (by first | decide | (first | omega | decide | (dsimp only at *; omega))) rfl) ?_ | refine q_rd (wanted_is rfl rfl rfl rfl true rfl) rfl rfl (rd_loadR (v := .c _) rfl rfl Try.underlying9 ag9 (by first | decide | (first | omega | decide | (dsimp only at *; omega))) rfl) ?_ | refine q_rdO (wanted_is rfl rfl rfl rfl true rfl) rfl rfl (rd_loadO (v := .c _) rfl rfl (.inr rfl) Try.underlying9 ag9 (by first | decide | (first | omega | decide | (dsimp only at *; omega))) rfl) ?_
                refine q_rd (wanted_is rfl rfl rfl rfl true rfl) rfl rfl (rd_neL rfl rfl rfl) ?_
                refine q_rd (wanted_is rfl rfl rfl rfl true rfl) rfl rfl (rd_move (v := .c _) rfl rfl) ?_
                first | refine seq_splitD (d := 50) rfl rfl (fun g69_4 => ?_) (fun g69_4 => ?_) | refine seq_split (d := 50) rfl rfl (fun g69_4 => ?_) (fun g69_4 => ?_)
                · refine q_skip (wanted_is rfl rfl rfl rfl false rfl) rfl rfl ?_
                  refine q_skip (wanted_is rfl rfl rfl rfl false rfl) rfl rfl ?_
                  refine q_skip (wanted_is rfl rfl rfl rfl false rfl) rfl rfl ?_
                  refine q_rd (wanted_is rfl rfl rfl rfl true rfl) rfl rfl (rd_pickT (v := .c _) rfl rfl rfl) ?_
                  refine q_rd (wanted_none rfl) rfl rfl (rd_pickT (v := .c _) rfl rfl rfl) ?_
                  refine seq_nil ?_
                  refine then_norm ?_
                  refine code_condT rfl ?_
                  refine code_region ?_
                  first | refine q_rd (wanted_none rfl) rfl rfl (rd_move (v := .rs _ _ _) rfl rfl) ?_ | refine q_rd (wanted_none rfl) rfl rfl (rd_move (v := .os _ _ _ _ _) rfl rfl) ?_ | refine q_rd (wanted_none rfl) rfl rfl (rd_move (v := .c _) rfl rfl) ?_ | refine q_rd (wanted_none rfl) rfl rfl (rd_move (v := .pv _) rfl rfl) ?_ | refine q_rd (wanted_none rfl) rfl rfl (rd_move (v := .top) rfl rfl) ?_
                  first | refine q_rdO (wanted_none rfl) rfl rfl (rd_loadOA rfl rfl (.inl rfl) Try.underlying43 ag43 sz43 (by first | decide | (first | omega | decide | (dsimp only at *; omega)))) ?_ | refine q_rd (wanted_none rfl) rfl rfl (rd_loadRA rfl rfl Try.underlying43 ag43 sz43 (by first | decide | (first | omega | decide | (dsimp only at *; omega)))) ?_ | refine q_rdO (wanted_none rfl) rfl rfl (rd_loadOA rfl rfl (.inr rfl) Try.underlying43 ag43 sz43 (by first | decide | (first | omega | decide | (dsimp only at *; omega)))) ?_
                  refine seq_ex (wanted_none rfl) (e_buildSlice (n := 5) rfl Try.underlying29 sz43 zr43 rfl rfl rfl rfl rfl rfl rfl (fun p4 => ?_))
                  refine seq_md (wanted_none rfl) (m_appendC (rowC_row 5 ruleF r0) (l2 := [l.getD i r0]) rfl rfl rfl rfl (by first | exact Nat.le_refl _ | omega) (fun _ _ => CEnt.refl _) (src_os rfl (.inl rfl) (by decide)) rfl (fun j hj => by rcases j with _|_|_|_|_|j <;> first | exact CEnt.refl _ | exact CEnt.int (by omega) | (exfalso; simp at hj; omega)) Try.underlying29 nu29 sz43 zr43 by43 rfl (by first | omega | (simp; done) | (simp; omega) | (simp at *; omega)) (by first | omega | (simp; done) | (simp; omega) | (simp at *; omega)) (leaf_flk rfl rfl) rfl rfl rfl (fun p5 => ?_))
                  first | refine q_rd (wanted_none rfl) rfl rfl (rd_assign (v := .rs _ _ _) rfl rfl) ?_ | refine q_rd (wanted_none rfl) rfl rfl (rd_assign (v := .os _ _ _ _ _) rfl rfl) ?_ | refine q_rd (wanted_none rfl) rfl rfl (rd_assign (v := .c _) rfl rfl) ?_ | refine q_rd (wanted_none rfl) rfl rfl (rd_assign (v := .pv _) rfl rfl) ?_ | refine q_rd (wanted_none rfl) rfl rfl (rd_assign (v := .top) rfl rfl) ?_
                  refine seq_nil ?_
                  refine block_norm ?_
                  refine then_norm ?_
                  have ht : tabOk l = true ∧ rightS s = true := by simp_all
                  have hl32 : l.length ≤ 32 := by have := ht.1; unfold tabOk at this; simp at this; omega
                  refine code_region ?_
                  refine q_rd (wanted_none rfl) rfl rfl (rd_add rfl rfl rfl (wrap_id (k := .i64) (by show _ ∧ _; (first | omega | decide | (dsimp only at *; omega))))) ?_
                  refine q_rd (wanted_none rfl) rfl rfl (rd_move (v := .c _) rfl rfl) ?_
                  refine seq_nil ?_
                  refine then_norm ?_
                  refine ⟨(i + 1, X ++ [l.getD i r0], p5), ?_, ?_, by first | exact .refl | exact .nest .refl rfl rfl | exact .nest (.nest .refl rfl rfl) rfl rfl | exact .nest (.nest (.nest .refl rfl rfl) rfl rfl) rfl rfl, rfl, ?_, by exact Nat.le_of_ble_eq_true rfl, ?_⟩
                  · exact ⟨by omega, by rw [hX]; first | exact (filt_yes (by omega) (by unfold ruleOf; first | (simp_all; done) | grind)).symm | exact (filt_no (by omega) (by unfold ruleOf; first | (simp_all; done) | grind)).symm⟩
                  · show l.length - (i + 1) < l.length - i; omega
                  · exact .cons (CEnt.refl _) (.cons (CEnt.int (by omega)) .nil)
                  · (repeat (first | exact HEnt.nil | refine HEnt.same ?_ | refine HEnt.blk rfl (fun j hj => by rcases j with _|_|_|_|_|_|_|_|j <;> first | exact CEnt.refl _ | exact CEnt.int (by omega) | omega) ?_))
                · first | refine q_rd (wanted_is rfl rfl rfl rfl true rfl) rfl rfl (rd_faddrO rfl rfl Try.underlying24 rfl sz9 rfl) ?_ | refine q_rd (wanted_is rfl rfl rfl rfl true rfl) rfl rfl (rd_faddrR rfl rfl Try.underlying24 rfl sz9 rfl) ?_
                  first | refine q_rdO (wanted_is rfl rfl rfl rfl true rfl) rfl rfl (rd_loadO (v := .c _) rfl rfl (.inl rfl) Try.underlying9 ag9 (by first | decide | (first | omega | decide | (dsimp only at *; omega))) rfl) ?_ | refine q_rd (wanted_is rfl rfl rfl rfl true rfl) rfl rfl (rd_loadR (v := .c _) rfl rfl Try.underlying9 ag9 (by first | decide | (first | omega | decide | (dsimp only at *; omega))) rfl) ?_ | refine q_rdO (wanted_is rfl rfl rfl rfl true rfl) rfl rfl (rd_loadO (v := .c _) rfl rfl (.inr rfl) Try.underlying9 ag9 (by first | decide | (first | omega | decide | (dsimp only at *; omega))) rfl) ?_
                  refine q_rd (wanted_is rfl rfl rfl rfl true rfl) rfl rfl (rd_neL rfl rfl rfl) ?_
                  refine q_rd (wanted_is rfl rfl rfl rfl true rfl) rfl rfl (rd_pickF (v := .c _) rfl rfl rfl) ?_
                  refine q_rd (wanted_none rfl) rfl rfl (rd_pickT (v := .c _) rfl rfl rfl) ?_
                  refine seq_nil ?_
                  refine then_norm ?_
                  first | refine code_condSD rfl rfl (fun h69 => ?_) (fun h69 => ?_) | refine code_condS rfl rfl (fun h69 => ?_) (fun h69 => ?_)
                  · refine code_region ?_
                    first | refine q_rd (wanted_none rfl) rfl rfl (rd_move (v := .rs _ _ _) rfl rfl) ?_ | refine q_rd (wanted_none rfl) rfl rfl (rd_move (v := .os _ _ _ _ _) rfl rfl) ?_ | refine q_rd (wanted_none rfl) rfl rfl (rd_move (v := .c _) rfl rfl) ?_ | refine q_rd (wanted_none rfl) rfl rfl (rd_move (v := .pv _) rfl rfl) ?_ | refine q_rd (wanted_none rfl) rfl rfl (rd_move (v := .top) rfl rfl) ?_
                    first | refine q_rdO (wanted_none rfl) rfl rfl (rd_loadOA rfl rfl (.inl rfl) Try.underlying43 ag43 sz43 (by first | decide | (first | omega | decide | (dsimp only at *; omega)))) ?_ | refine q_rd (wanted_none rfl) rfl rfl (rd_loadRA rfl rfl Try.underlying43 ag43 sz43 (by first | decide | (first | omega | decide | (dsimp only at *; omega)))) ?_ | refine q_rdO (wanted_none rfl) rfl rfl (rd_loadOA rfl rfl (.inr rfl) Try.underlying43 ag43 sz43 (by first | decide | (first | omega | decide | (dsimp only at *; omega)))) ?_
                    refine seq_ex (wanted_none rfl) (e_buildSlice (n := 5) rfl Try.underlying29 sz43 zr43 rfl rfl rfl rfl rfl rfl rfl (fun p4 => ?_))
                    refine seq_md (wanted_none rfl) (m_appendC (rowC_row 5 ruleF r0) (l2 := [l.getD i r0]) rfl rfl rfl rfl (by first | exact Nat.le_refl _ | omega) (fun _ _ => CEnt.refl _) (src_os rfl (.inl rfl) (by decide)) rfl (fun j hj => by rcases j with _|_|_|_|_|j <;> first | exact CEnt.refl _ | exact CEnt.int (by omega) | (exfalso; simp at hj; omega)) Try.underlying29 nu29 sz43 zr43 by43 rfl (by first | omega | (simp; done) | (simp; omega) | (simp at *; omega)) (by first | omega | (simp; done) | (simp; omega) | (simp at *; omega)) (leaf_flk rfl rfl) rfl rfl rfl (fun p5 => ?_))
                    first | refine q_rd (wanted_none rfl) rfl rfl (rd_assign (v := .rs _ _ _) rfl rfl) ?_ | refine q_rd (wanted_none rfl) rfl rfl (rd_assign (v := .os _ _ _ _ _) rfl rfl) ?_ | refine q_rd (wanted_none rfl) rfl rfl (rd_assign (v := .c _) rfl rfl) ?_ | refine q_rd (wanted_none rfl) rfl rfl (rd_assign (v := .pv _) rfl rfl) ?_ | refine q_rd (wanted_none rfl) rfl rfl (rd_assign (v := .top) rfl rfl) ?_
                    refine seq_nil ?_
                    refine block_norm ?_
                    refine then_norm ?_
                    have ht : tabOk l = true ∧ rightS s = true := by simp_all
                    have hl32 : l.length ≤ 32 := by have := ht.1; unfold tabOk at this; simp at this; omega
                    refine code_region ?_
                    refine q_rd (wanted_none rfl) rfl rfl (rd_add rfl rfl rfl (wrap_id (k := .i64) (by show _ ∧ _; (first | omega | decide | (dsimp only at *; omega))))) ?_
                    refine q_rd (wanted_none rfl) rfl rfl (rd_move (v := .c _) rfl rfl) ?_
                    refine seq_nil ?_
                    refine then_norm ?_
                    refine ⟨(i + 1, X ++ [l.getD i r0], p5), ?_, ?_, by first | exact .refl | exact .nest .refl rfl rfl | exact .nest (.nest .refl rfl rfl) rfl rfl | exact .nest (.nest (.nest .refl rfl rfl) rfl rfl) rfl rfl, rfl, ?_, by exact Nat.le_of_ble_eq_true rfl, ?_⟩
                    · exact ⟨by omega, by rw [hX]; first | exact (filt_yes (by omega) (by unfold ruleOf; first | (simp_all; done) | grind)).symm | exact (filt_no (by omega) (by unfold ruleOf; first | (simp_all; done) | grind)).symm⟩
                    · show l.length - (i + 1) < l.length - i; omega
                    · exact .cons (CEnt.refl _) (.cons (CEnt.int (by omega)) .nil)
                    · (repeat (first | exact HEnt.nil | refine HEnt.same ?_ | refine HEnt.blk rfl (fun j hj => by rcases j with _|_|_|_|_|_|_|_|j <;> first | exact CEnt.refl _ | exact CEnt.int (by omega) | omega) ?_))
                  · refine code_skip ?_
                    refine block_norm ?_
                    refine then_norm ?_
                    have ht : tabOk l = true ∧ rightS s = true := by simp_all
                    have hl32 : l.length ≤ 32 := by have := ht.1; unfold tabOk at this; simp at this; omega
                    refine code_region ?_
                    refine q_rd (wanted_none rfl) rfl rfl (rd_add rfl rfl rfl (wrap_id (k := .i64) (by show _ ∧ _; (first | omega | decide | (dsimp only at *; omega))))) ?_
                    refine q_rd (wanted_none rfl) rfl rfl (rd_move (v := .c _) rfl rfl) ?_
                    refine seq_nil ?_
                    refine then_norm ?_
                    refine ⟨(i + 1, X, g), ?_, ?_, by first | exact .refl | exact .nest .refl rfl rfl | exact .nest (.nest .refl rfl rfl) rfl rfl | exact .nest (.nest (.nest .refl rfl rfl) rfl rfl) rfl rfl, rfl, ?_, by exact Nat.le_of_ble_eq_true rfl, ?_⟩
                    · exact ⟨by omega, by rw [hX]; first | exact (filt_yes (by omega) (by unfold ruleOf; first | (simp_all; done) | grind)).symm | exact (filt_no (by omega) (by unfold ruleOf; first | (simp_all; done) | grind)).symm⟩
                    · show l.length - (i + 1) < l.length - i; omega
                    · exact .cons (CEnt.refl _) (.cons (CEnt.int (by omega)) .nil)
                    · (repeat (first | exact HEnt.nil | refine HEnt.same ?_ | refine HEnt.blk rfl (fun j hj => by rcases j with _|_|_|_|_|_|_|_|j <;> first | exact CEnt.refl _ | exact CEnt.int (by omega) | omega) ?_))
              · first | refine q_rd (wanted_is rfl rfl rfl rfl true rfl) rfl rfl (rd_faddrO rfl rfl Try.underlying43 rfl sz9 rfl) ?_ | refine q_rd (wanted_is rfl rfl rfl rfl true rfl) rfl rfl (rd_faddrR rfl rfl Try.underlying43 rfl sz9 rfl) ?_
                first | refine q_rdO (wanted_is rfl rfl rfl rfl true rfl) rfl rfl (rd_loadO (v := .c _) rfl rfl (.inl rfl) Try.underlying9 ag9 (by first | decide | (first | omega | decide | (dsimp only at *; omega))) rfl) ?_ | refine q_rd (wanted_is rfl rfl rfl rfl true rfl) rfl rfl (rd_loadR (v := .c _) rfl rfl Try.underlying9 ag9 (by first | decide | (first | omega | decide | (dsimp only at *; omega))) rfl) ?_ | refine q_rdO (wanted_is rfl rfl rfl rfl true rfl) rfl rfl (rd_loadO (v := .c _) rfl rfl (.inr rfl) Try.underlying9 ag9 (by first | decide | (first | omega | decide | (dsimp only at *; omega))) rfl) ?_
                first | refine q_rd (wanted_is rfl rfl rfl rfl true rfl) rfl rfl (rd_faddrO rfl rfl Try.underlying24 rfl sz9 rfl) ?_ | refine q_rd (wanted_is rfl rfl rfl rfl true rfl) rfl rfl (rd_faddrR rfl rfl Try.underlying24 rfl sz9 rfl) ?_
                first | refine q_rdO (wanted_is rfl rfl rfl rfl true rfl) rfl rfl (rd_loadO (v := .c _) rfl rfl (.inl rfl) Try.underlying9 ag9 (by first | decide | (first | omega | decide | (dsimp only at *; omega))) rfl) ?_ | refine q_rd (wanted_is rfl rfl rfl rfl true rfl) rfl rfl (rd_loadR (v := .c _) rfl rfl Try.underlying9 ag9 (by first | decide | (first | omega | decide | (dsimp only at *; omega))) rfl) ?_ | refine q_rdO (wanted_is rfl rfl rfl rfl true rfl) rfl rfl (rd_loadO (v := .c _) rfl rfl (.inr rfl) Try.underlying9 ag9 (by first | decide | (first | omega | decide | (dsimp only at *; omega))) rfl) ?_
                refine q_rd (wanted_is rfl rfl rfl rfl true rfl) rfl rfl (rd_eqL rfl rfl rfl) ?_
                refine q_rd (wanted_is rfl rfl rfl rfl true rfl) rfl rfl (rd_pickF (v := .c _) rfl rfl rfl) ?_
                refine q_rd (wanted_none rfl) rfl rfl (rd_pickT (v := .c _) rfl rfl rfl) ?_
                refine q_rd (wanted_none rfl) rfl rfl (rd_move (v := .c _) rfl rfl) ?_
                first | refine seq_splitD (d := 46) rfl rfl (fun g69_4 => ?_) (fun g69_4 => ?_) | refine seq_split (d := 46) rfl rfl (fun g69_4 => ?_) (fun g69_4 => ?_)
                · first | refine q_rd (wanted_is rfl rfl rfl rfl true rfl) rfl rfl (rd_faddrO rfl rfl Try.underlying43 rfl sz9 rfl) ?_ | refine q_rd (wanted_is rfl rfl rfl rfl true rfl) rfl rfl (rd_faddrR rfl rfl Try.underlying43 rfl sz9 rfl) ?_
                  first | refine q_rdO (wanted_is rfl rfl rfl rfl true rfl) rfl rfl (rd_loadO (v := .c _) rfl rfl (.inl rfl) Try.underlying9 ag9 (by first | decide | (first | omega | decide | (dsimp only at *; omega))) rfl) ?_ | refine q_rd (wanted_is rfl rfl rfl rfl true rfl) rfl rfl (rd_loadR (v := .c _) rfl rfl Try.underlying9 ag9 (by first | decide | (first | omega | decide | (dsimp only at *; omega))) rfl) ?_ | refine q_rdO (wanted_is rfl rfl rfl rfl true rfl) rfl rfl (rd_loadO (v := .c _) rfl rfl (.inr rfl) Try.underlying9 ag9 (by first | decide | (first | omega | decide | (dsimp only at *; omega))) rfl) ?_
                  refine q_rd (wanted_is rfl rfl rfl rfl true rfl) rfl rfl (rd_neL rfl rfl rfl) ?_
                  refine q_rd (wanted_is rfl rfl rfl rfl true rfl) rfl rfl (rd_move (v := .c _) rfl rfl) ?_
                  first | refine seq_splitD (d := 50) rfl rfl (fun g69_5 => ?_) (fun g69_5 => ?_) | refine seq_split (d := 50) rfl rfl (fun g69_5 => ?_) (fun g69_5 => ?_)
                  · refine q_skip (wanted_is rfl rfl rfl rfl false rfl) rfl rfl ?_
                    refine q_skip (wanted_is rfl rfl rfl rfl false rfl) rfl rfl ?_
                    refine q_skip (wanted_is rfl rfl rfl rfl false rfl) rfl rfl ?_
                    refine q_rd (wanted_is rfl rfl rfl rfl true rfl) rfl rfl (rd_pickT (v := .c _) rfl rfl rfl) ?_
                    refine q_rd (wanted_none rfl) rfl rfl (rd_pickT (v := .c _) rfl rfl rfl) ?_
                    refine seq_nil ?_
                    refine then_norm ?_
                    refine code_condT rfl ?_
                    refine code_region ?_
                    first | refine q_rd (wanted_none rfl) rfl rfl (rd_move (v := .rs _ _ _) rfl rfl) ?_ | refine q_rd (wanted_none rfl) rfl rfl (rd_move (v := .os _ _ _ _ _) rfl rfl) ?_ | refine q_rd (wanted_none rfl) rfl rfl (rd_move (v := .c _) rfl rfl) ?_ | refine q_rd (wanted_none rfl) rfl rfl (rd_move (v := .pv _) rfl rfl) ?_ | refine q_rd (wanted_none rfl) rfl rfl (rd_move (v := .top) rfl rfl) ?_
                    first | refine q_rdO (wanted_none rfl) rfl rfl (rd_loadOA rfl rfl (.inl rfl) Try.underlying43 ag43 sz43 (by first | decide | (first | omega | decide | (dsimp only at *; omega)))) ?_ | refine q_rd (wanted_none rfl) rfl rfl (rd_loadRA rfl rfl Try.underlying43 ag43 sz43 (by first | decide | (first | omega | decide | (dsimp only at *; omega)))) ?_ | refine q_rdO (wanted_none rfl) rfl rfl (rd_loadOA rfl rfl (.inr rfl) Try.underlying43 ag43 sz43 (by first | decide | (first | omega | decide | (dsimp only at *; omega)))) ?_
                    refine seq_ex (wanted_none rfl) (e_buildSlice (n := 5) rfl Try.underlying29 sz43 zr43 rfl rfl rfl rfl rfl rfl rfl (fun p4 => ?_))
                    refine seq_md (wanted_none rfl) (m_appendC (rowC_row 5 ruleF r0) (l2 := [l.getD i r0]) rfl rfl rfl rfl (by first | exact Nat.le_refl _ | omega) (fun _ _ => CEnt.refl _) (src_os rfl (.inl rfl) (by decide)) rfl (fun j hj => by rcases j with _|_|_|_|_|j <;> first | exact CEnt.refl _ | exact CEnt.int (by omega) | (exfalso; simp at hj; omega)) Try.underlying29 nu29 sz43 zr43 by43 rfl (by first | omega | (simp; done) | (simp; omega) | (simp at *; omega)) (by first | omega | (simp; done) | (simp; omega) | (simp at *; omega)) (leaf_flk rfl rfl) rfl rfl rfl (fun p5 => ?_))
                    first | refine q_rd (wanted_none rfl) rfl rfl (rd_assign (v := .rs _ _ _) rfl rfl) ?_ | refine q_rd (wanted_none rfl) rfl rfl (rd_assign (v := .os _ _ _ _ _) rfl rfl) ?_ | refine q_rd (wanted_none rfl) rfl rfl (rd_assign (v := .c _) rfl rfl) ?_ | refine q_rd (wanted_none rfl) rfl rfl (rd_assign (v := .pv _) rfl rfl) ?_ | refine q_rd (wanted_none rfl) rfl rfl (rd_assign (v := .top) rfl rfl) ?_
                    refine seq_nil ?_
                    refine block_norm ?_
                    refine then_norm ?_
                    have ht : tabOk l = true ∧ rightS s = true := by simp_all
                    have hl32 : l.length ≤ 32 := by have := ht.1; unfold tabOk at this; simp at this; omega
                    refine code_region ?_
                    refine q_rd (wanted_none rfl) rfl rfl (rd_add rfl rfl rfl (wrap_id (k := .i64) (by show _ ∧ _; (first | omega | decide | (dsimp only at *; omega))))) ?_
                    refine q_rd (wanted_none rfl) rfl rfl (rd_move (v := .c _) rfl rfl) ?_
                    refine seq_nil ?_
                    refine then_norm ?_
                    refine ⟨(i + 1, X ++ [l.getD i r0], p5), ?_, ?_, by first | exact .refl | exact .nest .refl rfl rfl | exact .nest (.nest .refl rfl rfl) rfl rfl | exact .nest (.nest (.nest .refl rfl rfl) rfl rfl) rfl rfl, rfl, ?_, by exact Nat.le_of_ble_eq_true rfl, ?_⟩
                    · exact ⟨by omega, by rw [hX]; first | exact (filt_yes (by omega) (by unfold ruleOf; first | (simp_all; done) | grind)).symm | exact (filt_no (by omega) (by unfold ruleOf; first | (simp_all; done) | grind)).symm⟩
                    · show l.length - (i + 1) < l.length - i; omega
                    · exact .cons (CEnt.refl _) (.cons (CEnt.int (by omega)) .nil)
                    · (repeat (first | exact HEnt.nil | refine HEnt.same ?_ | refine HEnt.blk rfl (fun j hj => by rcases j with _|_|_|_|_|_|_|_|j <;> first | exact CEnt.refl _ | exact CEnt.int (by omega) | omega) ?_))
                  · first | refine q_rd (wanted_is rfl rfl rfl rfl true rfl) rfl rfl (rd_faddrO rfl rfl Try.underlying24 rfl sz9 rfl) ?_ | refine q_rd (wanted_is rfl rfl rfl rfl true rfl) rfl rfl (rd_faddrR rfl rfl Try.underlying24 rfl sz9 rfl) ?_
                    first | refine q_rdO (wanted_is rfl rfl rfl rfl true rfl) rfl rfl (rd_loadO (v := .c _) rfl rfl (.inl rfl) Try.underlying9 ag9 (by first | decide | (first | omega | decide | (dsimp only at *; omega))) rfl) ?_ | refine q_rd (wanted_is rfl rfl rfl rfl true rfl) rfl rfl (rd_loadR (v := .c _) rfl rfl Try.underlying9 ag9 (by first | decide | (first | omega | decide | (dsimp only at *; omega))) rfl) ?_ | refine q_rdO (wanted_is rfl rfl rfl rfl true rfl) rfl rfl (rd_loadO (v := .c _) rfl rfl (.inr rfl) Try.underlying9 ag9 (by first | decide | (first | omega | decide | (dsimp only at *; omega))) rfl) ?_
                    refine q_rd (wanted_is rfl rfl rfl rfl true rfl) rfl rfl (rd_neL rfl rfl rfl) ?_
                    refine q_rd (wanted_is rfl rfl rfl rfl true rfl) rfl rfl (rd_pickF (v := .c _) rfl rfl rfl) ?_
                    refine q_rd (wanted_none rfl) rfl rfl (rd_pickT (v := .c _) rfl rfl rfl) ?_
                    refine seq_nil ?_
                    refine then_norm ?_
                    first | refine code_condSD rfl rfl (fun h69 => ?_) (fun h69 => ?_) | refine code_condS rfl rfl (fun h69 => ?_) (fun h69 => ?_)
                    · refine code_region ?_
                      first | refine q_rd (wanted_none rfl) rfl rfl (rd_move (v := .rs _ _ _) rfl rfl) ?_ | refine q_rd (wanted_none rfl) rfl rfl (rd_move (v := .os _ _ _ _ _) rfl rfl) ?_ | refine q_rd (wanted_none rfl) rfl rfl (rd_move (v := .c _) rfl rfl) ?_ | refine q_rd (wanted_none rfl) rfl rfl (rd_move (v := .pv _) rfl rfl) ?_ | refine q_rd (wanted_none rfl) rfl rfl (rd_move (v := .top) rfl rfl) ?_
                      first | refine q_rdO (wanted_none rfl) rfl rfl (rd_loadOA rfl rfl (.inl rfl) Try.underlying43 ag43 sz43 (by first | decide | (first | omega | decide | (dsimp only at *; omega)))) ?_ | refine q_rd (wanted_none rfl) rfl rfl (rd_loadRA rfl rfl Try.underlying43 ag43 sz43 (by first | decide | (first | omega | decide | (dsimp only at *; omega)))) ?_ | refine q_rdO (wanted_none rfl) rfl rfl (rd_loadOA rfl rfl (.inr rfl) Try.underlying43 ag43 sz43 (by first | decide | (first | omega | decide | (dsimp only at *; omega)))) ?_
                      refine seq_ex (wanted_none rfl) (e_buildSlice (n := 5) rfl Try.underlying29 sz43 zr43 rfl rfl rfl rfl rfl rfl rfl (fun p4 => ?_))
                      refine seq_md (wanted_none rfl) (m_appendC (rowC_row 5 ruleF r0) (l2 := [l.getD i r0]) rfl rfl rfl rfl (by first | exact Nat.le_refl _ | omega) (fun _ _ => CEnt.refl _) (src_os rfl (.inl rfl) (by decide)) rfl (fun j hj => by rcases j with _|_|_|_|_|j <;> first | exact CEnt.refl _ | exact CEnt.int (by omega) | (exfalso; simp at hj; omega)) Try.underlying29 nu29 sz43 zr43 by43 rfl (by first | omega | (simp; done) | (simp; omega) | (simp at *; omega)) (by first | omega | (simp; done) | (simp; omega) | (simp at *; omega)) (leaf_flk rfl rfl) rfl rfl rfl (fun p5 => ?_))
                      first | refine q_rd (wanted_none rfl) rfl rfl (rd_assign (v := .rs _ _ _) rfl rfl) ?_ | refine q_rd (wanted_none rfl) rfl rfl (rd_assign (v := .os _ _ _ _ _) rfl rfl) ?_ | refine q_rd (wanted_none rfl) rfl rfl (rd_assign (v := .c _) rfl rfl) ?_ | refine q_rd (wanted_none rfl) rfl rfl (rd_assign (v := .pv _) rfl rfl) ?_ | refine q_rd (wanted_none rfl) rfl rfl (rd_assign (v := .top) rfl rfl) ?_
                      refine seq_nil ?_
                      refine block_norm ?_
                      refine then_norm ?_
                      have ht : tabOk l = true ∧ rightS s = true := by simp_all
                      have hl32 : l.length ≤ 32 := by have := ht.1; unfold tabOk at this; simp at this; omega
                      refine code_region ?_
                      refine q_rd (wanted_none rfl) rfl rfl (rd_add rfl rfl rfl (wrap_id (k := .i64) (by show _ ∧ _; (first | omega | decide | (dsimp only at *; omega))))) ?_
                      refine q_rd (wanted_none rfl) rfl rfl (rd_move (v := .c _) rfl rfl) ?_
                      refine seq_nil ?_
                      refine then_norm ?_
                      refine ⟨(i + 1, X ++ [l.getD i r0], p5), ?_, ?_, by first | exact .refl | exact .nest .refl rfl rfl | exact .nest (.nest .refl rfl rfl) rfl rfl | exact .nest (.nest (.nest .refl rfl rfl) rfl rfl) rfl rfl, rfl, ?_, by exact Nat.le_of_ble_eq_true rfl, ?_⟩
                      · exact ⟨by omega, by rw [hX]; first | exact (filt_yes (by omega) (by unfold ruleOf; first | (simp_all; done) | grind)).symm | exact (filt_no (by omega) (by unfold ruleOf; first | (simp_all; done) | grind)).symm⟩
                      · show l.length - (i + 1) < l.length - i; omega
                      · exact .cons (CEnt.refl _) (.cons (CEnt.int (by omega)) .nil)
                      · (repeat (first | exact HEnt.nil | refine HEnt.same ?_ | refine HEnt.blk rfl (fun j hj => by rcases j with _|_|_|_|_|_|_|_|j <;> first | exact CEnt.refl _ | exact CEnt.int (by omega) | omega) ?_))
                    · refine code_skip ?_
                      refine block_norm ?_
                      refine then_norm ?_
                      have ht : tabOk l = true ∧ rightS s = true := by simp_all
                      have hl32 : l.length ≤ 32 := by have := ht.1; unfold tabOk at this; simp at this; omega
                      refine code_region ?_
                      refine q_rd (wanted_none rfl) rfl rfl (rd_add rfl rfl rfl (wrap_id (k := .i64) (by show _ ∧ _; (first | omega | decide | (dsimp only at *; omega))))) ?_
                      refine q_rd (wanted_none rfl) rfl rfl (rd_move (v := .c _) rfl rfl) ?_
                      refine seq_nil ?_
                      refine then_norm ?_
                      refine ⟨(i + 1, X, g), ?_, ?_, by first | exact .refl | exact .nest .refl rfl rfl | exact .nest (.nest .refl rfl rfl) rfl rfl | exact .nest (.nest (.nest .refl rfl rfl) rfl rfl) rfl rfl, rfl, ?_, by exact Nat.le_of_ble_eq_true rfl, ?_⟩
                      · exact ⟨by omega, by rw [hX]; first | exact (filt_yes (by omega) (by unfold ruleOf; first | (simp_all; done) | grind)).symm | exact (filt_no (by omega) (by unfold ruleOf; first | (simp_all; done) | grind)).symm⟩
                      · show l.length - (i + 1) < l.length - i; omega
                      · exact .cons (CEnt.refl _) (.cons (CEnt.int (by omega)) .nil)
                      · (repeat (first | exact HEnt.nil | refine HEnt.same ?_ | refine HEnt.blk rfl (fun j hj => by rcases j with _|_|_|_|_|_|_|_|j <;> first | exact CEnt.refl _ | exact CEnt.int (by omega) | omega) ?_))
                · refine q_skip (wanted_is rfl rfl rfl rfl false rfl) rfl rfl ?_
                  refine q_skip (wanted_is rfl rfl rfl rfl false rfl) rfl rfl ?_
                  refine q_skip (wanted_is rfl rfl rfl rfl false rfl) rfl rfl ?_
                  refine q_skip (wanted_is rfl rfl rfl rfl false rfl) rfl rfl ?_
                  refine q_skip (wanted_undef rfl rfl rfl rfl) rfl rfl ?_
                  refine q_skip (wanted_undef rfl rfl rfl rfl) rfl rfl ?_
                  refine q_skip (wanted_undef rfl rfl rfl rfl) rfl rfl ?_
                  refine q_skip (wanted_is rfl rfl rfl rfl false rfl) rfl rfl ?_
                  refine q_rd (wanted_none rfl) rfl rfl (rd_pickF (v := .c _) rfl rfl rfl) ?_
                  refine seq_nil ?_
                  refine then_norm ?_
                  refine code_condF rfl ?_
                  refine code_skip ?_
                  refine block_norm ?_
                  refine then_norm ?_
                  have ht : tabOk l = true ∧ rightS s = true := by simp_all
                  have hl32 : l.length ≤ 32 := by have := ht.1; unfold tabOk at this; simp at this; omega
                  refine code_region ?_
                  refine q_rd (wanted_none rfl) rfl rfl (rd_add rfl rfl rfl (wrap_id (k := .i64) (by show _ ∧ _; (first | omega | decide | (dsimp only at *; omega))))) ?_
                  refine q_rd (wanted_none rfl) rfl rfl (rd_move (v := .c _) rfl rfl) ?_
                  refine seq_nil ?_
                  refine then_norm ?_
                  refine ⟨(i + 1, X, g), ?_, ?_, by first | exact .refl | exact .nest .refl rfl rfl | exact .nest (.nest .refl rfl rfl) rfl rfl | exact .nest (.nest (.nest .refl rfl rfl) rfl rfl) rfl rfl, rfl, ?_, by exact Nat.le_of_ble_eq_true rfl, ?_⟩
                  · exact ⟨by omega, by rw [hX]; first | exact (filt_yes (by omega) (by unfold ruleOf; first | (simp_all; done) | grind)).symm | exact (filt_no (by omega) (by unfold ruleOf; first | (simp_all; done) | grind)).symm⟩
                  · show l.length - (i + 1) < l.length - i; omega
                  · exact .cons (CEnt.refl _) (.cons (CEnt.int (by omega)) .nil)
                  · (repeat (first | exact HEnt.nil | refine HEnt.same ?_ | refine HEnt.blk rfl (fun j hj => by rcases j with _|_|_|_|_|_|_|_|j <;> first | exact CEnt.refl _ | exact CEnt.int (by omega) | omega) ?_))
            · refine q_skip (wanted_is rfl rfl rfl rfl false rfl) rfl rfl ?_
              refine q_skip (wanted_is rfl rfl rfl rfl false rfl) rfl rfl ?_
              refine q_skip (wanted_is rfl rfl rfl rfl false rfl) rfl rfl ?_
              refine q_skip (wanted_is rfl rfl rfl rfl false rfl) rfl rfl ?_
              refine q_skip (wanted_undef rfl rfl rfl rfl) rfl rfl ?_
              refine q_skip (wanted_undef rfl rfl rfl rfl) rfl rfl ?_
              refine q_skip (wanted_undef rfl rfl rfl rfl) rfl rfl ?_
              refine q_skip (wanted_undef rfl rfl rfl rfl) rfl rfl ?_
              refine q_skip (wanted_undef rfl rfl rfl rfl) rfl rfl ?_
              refine q_skip (wanted_is rfl rfl rfl rfl false rfl) rfl rfl ?_
              refine q_rd (wanted_none rfl) rfl rfl (rd_pickF (v := .c _) rfl rfl rfl) ?_
              refine q_rd (wanted_none rfl) rfl rfl (rd_move (v := .c _) rfl rfl) ?_
              refine q_skip (wanted_is rfl rfl rfl rfl false rfl) rfl rfl ?_
              refine q_skip (wanted_is rfl rfl rfl rfl false rfl) rfl rfl ?_
              refine q_skip (wanted_is rfl rfl rfl rfl false rfl) rfl rfl ?_
              refine q_skip (wanted_is rfl rfl rfl rfl false rfl) rfl rfl ?_
              refine q_skip (wanted_undef rfl rfl rfl rfl) rfl rfl ?_
              refine q_skip (wanted_undef rfl rfl rfl rfl) rfl rfl ?_
              refine q_skip (wanted_undef rfl rfl rfl rfl) rfl rfl ?_
              refine q_skip (wanted_is rfl rfl rfl rfl false rfl) rfl rfl ?_
              refine q_rd (wanted_none rfl) rfl rfl (rd_pickF (v := .c _) rfl rfl rfl) ?_
              refine seq_nil ?_
              refine then_norm ?_
              refine code_condF rfl ?_
              refine code_skip ?_
              refine block_norm ?_
              refine then_norm ?_
              have ht : tabOk l = true ∧ rightS s = true := by simp_all
              have hl32 : l.length ≤ 32 := by have := ht.1; unfold tabOk at this; simp at this; omega
              refine code_region ?_
              refine q_rd (wanted_none rfl) rfl rfl (rd_add rfl rfl rfl (wrap_id (k := .i64) (by show _ ∧ _; (first | omega | decide | (dsimp only at *; omega))))) ?_
              refine q_rd (wanted_none rfl) rfl rfl (rd_move (v := .c _) rfl rfl) ?_
              refine seq_nil ?_
              refine then_norm ?_
              refine ⟨(i + 1, X, g), ?_, ?_, by first | exact .refl | exact .nest .refl rfl rfl | exact .nest (.nest .refl rfl rfl) rfl rfl | exact .nest (.nest (.nest .refl rfl rfl) rfl rfl) rfl rfl, rfl, ?_, by exact Nat.le_of_ble_eq_true rfl, ?_⟩
              · exact ⟨by omega, by rw [hX]; first | exact (filt_yes (by omega) (by unfold ruleOf; first | (simp_all; done) | grind)).symm | exact (filt_no (by omega) (by unfold ruleOf; first | (simp_all; done) | grind)).symm⟩
              · show l.length - (i + 1) < l.length - i; omega
              · exact .cons (CEnt.refl _) (.cons (CEnt.int (by omega)) .nil)
              · (repeat (first | exact HEnt.nil | refine HEnt.same ?_ | refine HEnt.blk rfl (fun j hj => by rcases j with _|_|_|_|_|_|_|_|j <;> first | exact CEnt.refl _ | exact CEnt.int (by omega) | omega) ?_))
        · refine code_exit ?_
          refine then_exit ?_
          refine then_exit ?_
          refine block_exit rfl ?_
          refine then_norm ?_
          refine code_seq ?_
          refine code_region ?_
          first | refine q_rd (wanted_none rfl) rfl rfl (rd_move (v := .rs _ _ _) rfl rfl) ?_ | refine q_rd (wanted_none rfl) rfl rfl (rd_move (v := .os _ _ _ _ _) rfl rfl) ?_ | refine q_rd (wanted_none rfl) rfl rfl (rd_move (v := .c _) rfl rfl) ?_ | refine q_rd (wanted_none rfl) rfl rfl (rd_move (v := .pv _) rfl rfl) ?_ | refine q_rd (wanted_none rfl) rfl rfl (rd_move (v := .top) rfl rfl) ?_
          first | refine q_rd (wanted_none rfl) rfl rfl (rd_assign (v := .rs _ _ _) rfl rfl) ?_ | refine q_rd (wanted_none rfl) rfl rfl (rd_assign (v := .os _ _ _ _ _) rfl rfl) ?_ | refine q_rd (wanted_none rfl) rfl rfl (rd_assign (v := .c _) rfl rfl) ?_ | refine q_rd (wanted_none rfl) rfl rfl (rd_assign (v := .pv _) rfl rfl) ?_ | refine q_rd (wanted_none rfl) rfl rfl (rd_assign (v := .top) rfl rfl) ?_
          refine seq_nil ?_
          refine then_norm ?_
          have hX2 : X = l.filter fun r => ruleOf r s := by rw [hX, List.take_of_length_le (by omega)]
          refine code_ent (freeze 1 rfl) ?_
          refine code_ent (thaw 4 (fun a => ruleF (X.getD a r0)) rfl rfl (by omega) (fun a b ha hb => CEnt.of_eq (by rw [Nat.zero_add]; exact rowF_at (k := 5) hb))) ?_
          refine code_ret ?_
          refine end_val (.inl rfl) (res_1 rfl (arv_tmp rfl)) ?_
          refine CEnt.of_eq ?_
          unfold ofR
          rw [if_pos ht, hX2]
          rfl
end Am
end Go.Proofs.Ytndbjkapdmpbbaa
