
/- Chapter 22: RolesMore. -/
import Derived.Test.YtghgbhekjgincaaL22
namespace Go.Proofs.Ytghgbhekjgincaa
set_option linter.unusedVariables false
namespace Am
variable {gs : List Nat} [OkG gs]
open Go.RowKit
set_option maxRecDepth 100000

theorem long_more {l : List R5} {m : R5} {a : A4} (h : longM (m :: l) a = false) : l.length ≤ 60 := by
  unfold longM at h
  simp at h
  omega
set_option maxHeartbeats 4000000 in
theorem rolesMore_ac {gs : List Nat} (l : List R5) (m : R5) (a : A4) (hl : l.length * 56 ≤ 140737488351232) : ACp gs Try.prog 3 [tabC l, ruleC m, askC a] (.c (.bool true)) := by
  refine ac_of 45 Try.func3 rfl rfl rfl (fun al w0 F0 St0 => ?_)
  refine code_seq ?_
  refine code_region ?_
  refine seq_ex (wanted_none rfl) (e_box (n := 5) rfl rfl rfl rfl rfl rfl (fun p1 => ?_))
  refine seq_ex (wanted_none rfl) (e_box (n := 6) rfl rfl rfl rfl rfl rfl (fun p2 => ?_))
  refine q_rd (wanted_none rfl) rfl rfl (rd_assign (v := .c _) rfl rfl) ?_
  refine seq_nil ?_
  refine then_norm ?_
  refine code_seq ?_
  refine code_seq ?_
  refine code_region ?_
  refine seq_ex (wanted_none rfl) (e_callP rfl (by kernel_rfl) (alive22_ac) .nil rfl rfl ?_)
  first | refine q_rd (wanted_none rfl) rfl rfl (rd_notD rfl rfl) ?_ | refine q_rd (wanted_none rfl) rfl rfl (rd_not rfl rfl) ?_
  refine seq_nil ?_
  refine then_norm ?_
  first | refine code_condSD rfl rfl (fun h80 => ?_) (fun h80 => ?_) | refine code_condS rfl rfl (fun h80 => ?_) (fun h80 => ?_)
  · refine code_seq ?_
    refine code_region ?_
    refine q_rd (wanted_none rfl) rfl rfl (rd_assign (v := .c _) rfl rfl) ?_
    refine seq_nil ?_
    refine then_norm ?_
    refine code_ret ?_
    refine then_ret ?_
    refine end_val (.inl rfl) (res_1 rfl (arv_tmp rfl)) ?_
    refine CEnt.bool ?_
    first | rfl | (simp_all; done)
  · refine code_skip ?_
    refine then_norm ?_
    refine code_seq ?_
    refine code_seq ?_
    refine code_ent (freeze 0 rfl) ?_
    refine code_ent (freeze 1 rfl) ?_
    refine code_ent (thawP (m := 5) 4 rfl rfl (by decide)) ?_
    refine code_ent (thawP (m := 6) 5 rfl rfl (by decide)) ?_
    refine code_drawZ (.rd 0 (.rd 2 (.rd 4 (.one 1 (.one 3 (.one 5 .done)))))) (by kernel_rfl) (by kernel_rfl) rfl (by kernel_rfl) (by kernel_rfl) ?_
    simp only [opsOfT, List.getElem?_toArray, List.getElem?_cons_zero, List.getElem?_cons_succ]
    first | refine zz_rdO (wanted_none rfl) rfl rfl (by kernel_rfl) (rd_loadOA rfl rfl (.inl rfl) Try.underlying24 ag24 sz24 (by first | decide | (first | omega | decide | (dsimp only at *; omega)))) ?_ | refine zz_rd (wanted_none rfl) rfl rfl (rd_loadRA rfl rfl Try.underlying24 ag24 sz24 (by first | decide | (first | omega | decide | (dsimp only at *; omega)))) ?_ | refine zz_rdO (wanted_none rfl) rfl rfl (by kernel_rfl) (rd_loadOA rfl rfl (.inr rfl) Try.underlying24 ag24 sz24 (by first | decide | (first | omega | decide | (dsimp only at *; omega)))) ?_
    first | refine zz_rd (wanted_none rfl) rfl rfl (rd_move (v := .rs _ _ _) rfl rfl) ?_ | refine zz_rd (wanted_none rfl) rfl rfl (rd_move (v := .os _ _ _ _ _) rfl rfl) ?_ | refine zz_rd (wanted_none rfl) rfl rfl (rd_move (v := .c _) rfl rfl) ?_ | refine zz_rd (wanted_none rfl) rfl rfl (rd_move (v := .pv _) rfl rfl) ?_ | refine zz_rd (wanted_none rfl) rfl rfl (rd_move (v := .top) rfl rfl) ?_
    first | refine zz_rdO (wanted_none rfl) rfl rfl (by kernel_rfl) (rd_loadOA rfl rfl (.inl rfl) Try.underlying28 ag28 sz28 (by first | decide | (first | omega | decide | (dsimp only at *; omega)))) ?_ | refine zz_rd (wanted_none rfl) rfl rfl (rd_loadRA rfl rfl Try.underlying28 ag28 sz28 (by first | decide | (first | omega | decide | (dsimp only at *; omega)))) ?_ | refine zz_rdO (wanted_none rfl) rfl rfl (by kernel_rfl) (rd_loadOA rfl rfl (.inr rfl) Try.underlying28 ag28 sz28 (by first | decide | (first | omega | decide | (dsimp only at *; omega)))) ?_
    refine z_ex (wanted_none rfl) (e_buildSlice (n := 5) rfl Try.underlying22 sz24 zr24 rfl rfl rfl rfl rfl rfl rfl (fun p3 => ?_))
    refine z_md (wanted_none rfl) rfl (m_appendC (l := [m]) (rowC_row 5 ruleF r0) rfl rfl rfl rfl (Nat.le_refl _) (fun j hj => by rcases j with _ | _ | _ | _ | _ | j <;> first | exact CEnt.refl _ | (exfalso; simp at hj; omega)) (src_rs rfl) rfl (fun j hj => CEnt.refl _) Try.underlying22 nu22 sz24 zr24 by24 rfl (by simp; omega) (by simp; omega) (fun j hj => leaf_rule _ (Nat.mod_lt _ (by decide))) rfl rfl rfl (fun p4 => ?_))
    refine z_ent (freeze 2 rfl) ?_
    refine z_ex (wanted_none rfl) (e_callP rfl (by kernel_rfl) (long22_ac (m :: l) a) (.cons (se_frz rfl rfl (by simp) (fun i => ruleF ((m :: l).getD i r0)) (fun a b ha hb => CEnt.of_eq (by rw [Nat.zero_add]; exact rowF_at (k := 5) hb))) (.cons (by first | exact se rfl (CEnt.refl _) | exact se rfl CEnt.nil | exact se rfl CEnt.nilB | exact se rfl (CEnt.osI rfl) | exact se rfl CEnt.opI | exact se_nilO rfl | exact se rfl (CEnt.agg2 (CEnt.refl _) (CEnt.refl _)) | exact se rfl (CEnt.agg3 (CEnt.refl _) (CEnt.refl _) (CEnt.refl _)) | exact se rfl (CEnt.agg4 (CEnt.refl _) (CEnt.refl _) (CEnt.refl _) (CEnt.refl _)) | exact se rfl (CEnt.agg5 (CEnt.refl _) (CEnt.refl _) (CEnt.refl _) (CEnt.refl _) (CEnt.refl _)) | exact se rfl (CEnt.agg6 (CEnt.refl _) (CEnt.refl _) (CEnt.refl _) (CEnt.refl _) (CEnt.refl _) (CEnt.refl _)) | exact se_frzB _ rfl rfl rfl (by simp) (fun _ _ => CEnt.refl _)) .nil)) rfl rfl ?_)
    refine z_done ?_
    refine then_norm ?_
    first | refine code_condSD rfl rfl (fun h83 => ?_) (fun h83 => ?_) | refine code_condS rfl rfl (fun h83 => ?_) (fun h83 => ?_)
    · refine code_seq ?_
      refine code_region ?_
      refine q_rd (wanted_none rfl) rfl rfl (rd_assign (v := .c _) rfl rfl) ?_
      refine seq_nil ?_
      refine then_norm ?_
      refine code_ret ?_
      refine then_ret ?_
      refine end_val (.inl rfl) (res_1 rfl (arv_tmp rfl)) ?_
      refine CEnt.bool ?_
      first | rfl | (simp_all; done)
    · refine code_skip ?_
      refine then_norm ?_
      refine code_seq ?_
      have hl60 : l.length ≤ 60 := long_more (a := a) (by simpa using h83)
      refine code_region ?_
      first | refine q_rd (wanted_none rfl) rfl rfl (rd_move (v := .rs _ _ _) rfl rfl) ?_ | refine q_rd (wanted_none rfl) rfl rfl (rd_move (v := .os _ _ _ _ _) rfl rfl) ?_ | refine q_rd (wanted_none rfl) rfl rfl (rd_move (v := .c _) rfl rfl) ?_ | refine q_rd (wanted_none rfl) rfl rfl (rd_move (v := .pv _) rfl rfl) ?_ | refine q_rd (wanted_none rfl) rfl rfl (rd_move (v := .top) rfl rfl) ?_
      first | refine q_rdO (wanted_none rfl) rfl rfl (rd_loadOA rfl rfl (.inl rfl) Try.underlying28 ag28 sz28 (by first | decide | (first | omega | decide | (dsimp only at *; omega)))) ?_ | refine q_rd (wanted_none rfl) rfl rfl (rd_loadRA rfl rfl Try.underlying28 ag28 sz28 (by first | decide | (first | omega | decide | (dsimp only at *; omega)))) ?_ | refine q_rdO (wanted_none rfl) rfl rfl (rd_loadOA rfl rfl (.inr rfl) Try.underlying28 ag28 sz28 (by first | decide | (first | omega | decide | (dsimp only at *; omega)))) ?_
      refine seq_ex (wanted_none rfl) (e_callP rfl (by kernel_rfl) (allows_ac l a) (.cons (by first | exact se rfl (CEnt.refl _) | exact se rfl CEnt.nil | exact se rfl CEnt.nilB | exact se rfl (CEnt.osI rfl) | exact se rfl CEnt.opI | exact se_nilO rfl | exact se rfl (CEnt.agg2 (CEnt.refl _) (CEnt.refl _)) | exact se rfl (CEnt.agg3 (CEnt.refl _) (CEnt.refl _) (CEnt.refl _)) | exact se rfl (CEnt.agg4 (CEnt.refl _) (CEnt.refl _) (CEnt.refl _) (CEnt.refl _)) | exact se rfl (CEnt.agg5 (CEnt.refl _) (CEnt.refl _) (CEnt.refl _) (CEnt.refl _) (CEnt.refl _)) | exact se rfl (CEnt.agg6 (CEnt.refl _) (CEnt.refl _) (CEnt.refl _) (CEnt.refl _) (CEnt.refl _) (CEnt.refl _)) | exact se_frzB _ rfl rfl rfl (by simp) (fun _ _ => CEnt.refl _)) (.cons (by first | exact se rfl (CEnt.refl _) | exact se rfl CEnt.nil | exact se rfl CEnt.nilB | exact se rfl (CEnt.osI rfl) | exact se rfl CEnt.opI | exact se_nilO rfl | exact se rfl (CEnt.agg2 (CEnt.refl _) (CEnt.refl _)) | exact se rfl (CEnt.agg3 (CEnt.refl _) (CEnt.refl _) (CEnt.refl _)) | exact se rfl (CEnt.agg4 (CEnt.refl _) (CEnt.refl _) (CEnt.refl _) (CEnt.refl _)) | exact se rfl (CEnt.agg5 (CEnt.refl _) (CEnt.refl _) (CEnt.refl _) (CEnt.refl _) (CEnt.refl _)) | exact se rfl (CEnt.agg6 (CEnt.refl _) (CEnt.refl _) (CEnt.refl _) (CEnt.refl _) (CEnt.refl _) (CEnt.refl _)) | exact se_frzB _ rfl rfl rfl (by simp) (fun _ _ => CEnt.refl _)) .nil)) rfl rfl ?_)
      refine q_rd (wanted_none rfl) rfl rfl (rd_assign (v := .c _) rfl rfl) ?_
      refine seq_nil ?_
      refine then_norm ?_
      refine code_seq ?_
      refine code_drawZ (.rd 1 (.rd 3 (.two 0 (.two 2 (.one 4 (.one 5 (.rd 6 .done))) 4 (.one 2 (.one 5 (.rd 6 .done)))) 4 (.one 0 (.one 2 (.one 5 (.rd 6 .done))))))) (by kernel_rfl) (by kernel_rfl) rfl (by kernel_rfl) (by kernel_rfl) ?_
      simp only [opsOfT, List.getElem?_toArray, List.getElem?_cons_zero, List.getElem?_cons_succ]
      first | refine zz_rd (wanted_none rfl) rfl rfl (rd_move (v := .rs _ _ _) rfl rfl) ?_ | refine zz_rd (wanted_none rfl) rfl rfl (rd_move (v := .os _ _ _ _ _) rfl rfl) ?_ | refine zz_rd (wanted_none rfl) rfl rfl (rd_move (v := .c _) rfl rfl) ?_ | refine zz_rd (wanted_none rfl) rfl rfl (rd_move (v := .pv _) rfl rfl) ?_ | refine zz_rd (wanted_none rfl) rfl rfl (rd_move (v := .top) rfl rfl) ?_
      first | refine zz_rdO (wanted_none rfl) rfl rfl (by kernel_rfl) (rd_loadOA rfl rfl (.inl rfl) Try.underlying24 ag24 sz24 (by first | decide | (first | omega | decide | (dsimp only at *; omega)))) ?_ | refine zz_rd (wanted_none rfl) rfl rfl (rd_loadRA rfl rfl Try.underlying24 ag24 sz24 (by first | decide | (first | omega | decide | (dsimp only at *; omega)))) ?_ | refine zz_rdO (wanted_none rfl) rfl rfl (by kernel_rfl) (rd_loadOA rfl rfl (.inr rfl) Try.underlying24 ag24 sz24 (by first | decide | (first | omega | decide | (dsimp only at *; omega)))) ?_
      refine z_two ?_ ?_
      · refine z_ex (wanted_none rfl) (e_buildSlice (n := 0) rfl Try.underlying22 sz24 zr24 rfl rfl rfl rfl rfl rfl rfl (fun p5 => ?_))
        refine z_two ?_ ?_
        · refine z_md (wanted_none rfl) rfl (m_appendC (l := []) (rowC_row 5 ruleF r0) rfl rfl rfl rfl (Nat.zero_le _) (fun j hj => absurd hj (by simp)) (src_rs rfl) rfl (fun j hj => CEnt.refl _) Try.underlying22 nu22 sz24 zr24 by24 rfl (by simp; omega) (by simp; omega) (fun j hj => leaf_rule _ (Nat.mod_lt _ (by decide))) rfl rfl rfl (fun p6 => ?_))
          refine z_ex (wanted_none rfl) (e_buildSlice (n := 5) rfl Try.underlying22 sz24 zr24 rfl rfl rfl rfl rfl rfl rfl (fun p7 => ?_))
          refine z_md (wanted_none rfl) rfl (m_appendC (l := [] ++ l) (l2 := [m]) (rowC_row 5 ruleF r0) rfl rfl rfl rfl (Nat.le_refl _) (fun j hj => CEnt.refl _) (src_os rfl (.inl rfl) (by decide)) rfl (fun j hj => by rcases j with _ | _ | _ | _ | _ | j <;> first | exact CEnt.refl _ | (exfalso; simp at hj; omega)) Try.underlying22 nu22 sz24 zr24 by24 rfl (by simp; omega) (by simp; omega) (leaf_flk rfl rfl) rfl rfl rfl (fun p8 => ?_))
          first | refine zz_rd (wanted_none rfl) rfl rfl (rd_assign (v := .rs _ _ _) rfl rfl) ?_ | refine zz_rd (wanted_none rfl) rfl rfl (rd_assign (v := .os _ _ _ _ _) rfl rfl) ?_ | refine zz_rd (wanted_none rfl) rfl rfl (rd_assign (v := .c _) rfl rfl) ?_ | refine zz_rd (wanted_none rfl) rfl rfl (rd_assign (v := .pv _) rfl rfl) ?_ | refine zz_rd (wanted_none rfl) rfl rfl (rd_assign (v := .top) rfl rfl) ?_
          refine z_done ?_
          refine then_norm ?_
          refine code_seq ?_
          refine code_seq ?_
          first | (refine code_ent (freeze 3 rfl) ?_; refine code_ent (thaw 8 (fun i => ruleF ((l ++ [m]).getD i r0)) rfl rfl (by simp) (fun a b ha hb => CEnt.of_eq (by rw [Nat.zero_add]; exact rowF_at (k := 5) hb))) ?_) | (refine code_ent (freeze 4 rfl) ?_; refine code_ent (thaw 8 (fun i => ruleF ((l ++ [m]).getD i r0)) rfl rfl (by simp) (fun a b ha hb => CEnt.of_eq (by rw [Nat.zero_add]; exact rowF_at (k := 5) hb))) ?_)
          refine code_region ?_
          first | refine q_rd (wanted_none rfl) rfl rfl (rd_move (v := .rs _ _ _) rfl rfl) ?_ | refine q_rd (wanted_none rfl) rfl rfl (rd_move (v := .os _ _ _ _ _) rfl rfl) ?_ | refine q_rd (wanted_none rfl) rfl rfl (rd_move (v := .c _) rfl rfl) ?_ | refine q_rd (wanted_none rfl) rfl rfl (rd_move (v := .pv _) rfl rfl) ?_ | refine q_rd (wanted_none rfl) rfl rfl (rd_move (v := .top) rfl rfl) ?_
          refine seq_ex (wanted_none rfl) (e_callP rfl (by kernel_rfl) (tright_ac (l ++ [m])) (.cons (by first | exact se rfl (CEnt.refl _) | exact se rfl CEnt.nil | exact se rfl CEnt.nilB | exact se rfl (CEnt.osI rfl) | exact se rfl CEnt.opI | exact se_nilO rfl | exact se rfl (CEnt.agg2 (CEnt.refl _) (CEnt.refl _)) | exact se rfl (CEnt.agg3 (CEnt.refl _) (CEnt.refl _) (CEnt.refl _)) | exact se rfl (CEnt.agg4 (CEnt.refl _) (CEnt.refl _) (CEnt.refl _) (CEnt.refl _)) | exact se rfl (CEnt.agg5 (CEnt.refl _) (CEnt.refl _) (CEnt.refl _) (CEnt.refl _) (CEnt.refl _)) | exact se rfl (CEnt.agg6 (CEnt.refl _) (CEnt.refl _) (CEnt.refl _) (CEnt.refl _) (CEnt.refl _) (CEnt.refl _)) | exact se_frzB _ rfl rfl rfl (by simp) (fun _ _ => CEnt.refl _)) .nil) rfl rfl ?_)
          refine q_rd (wanted_none rfl) rfl rfl (rd_move (v := .c _) rfl rfl) ?_
          first | refine seq_splitD (d := 28) rfl rfl (fun g88 => ?_) (fun g88 => ?_) | refine seq_split (d := 28) rfl rfl (fun g88 => ?_) (fun g88 => ?_)
          · refine q_rd (wanted_is rfl rfl rfl rfl true rfl) rfl rfl (rd_move (v := .c _) rfl rfl) ?_
            refine q_rd (wanted_none rfl) rfl rfl (rd_pickT (v := .c _) rfl rfl rfl) ?_
            refine q_rd (wanted_none rfl) rfl rfl (rd_move (v := .c _) rfl rfl) ?_
            first | refine seq_splitD (d := 31) rfl rfl (fun g88_2 => ?_) (fun g88_2 => ?_) | refine seq_split (d := 31) rfl rfl (fun g88_2 => ?_) (fun g88_2 => ?_)
            · first | refine q_rd (wanted_is rfl rfl rfl rfl true rfl) rfl rfl (rd_move (v := .rs _ _ _) rfl rfl) ?_ | refine q_rd (wanted_is rfl rfl rfl rfl true rfl) rfl rfl (rd_move (v := .os _ _ _ _ _) rfl rfl) ?_ | refine q_rd (wanted_is rfl rfl rfl rfl true rfl) rfl rfl (rd_move (v := .c _) rfl rfl) ?_ | refine q_rd (wanted_is rfl rfl rfl rfl true rfl) rfl rfl (rd_move (v := .pv _) rfl rfl) ?_ | refine q_rd (wanted_is rfl rfl rfl rfl true rfl) rfl rfl (rd_move (v := .top) rfl rfl) ?_
              first | refine q_rdO (wanted_is rfl rfl rfl rfl true rfl) rfl rfl (rd_loadOA rfl rfl (.inl rfl) Try.underlying28 ag28 sz28 (by first | decide | (first | omega | decide | (dsimp only at *; omega)))) ?_ | refine q_rd (wanted_is rfl rfl rfl rfl true rfl) rfl rfl (rd_loadRA rfl rfl Try.underlying28 ag28 sz28 (by first | decide | (first | omega | decide | (dsimp only at *; omega)))) ?_ | refine q_rdO (wanted_is rfl rfl rfl rfl true rfl) rfl rfl (rd_loadOA rfl rfl (.inr rfl) Try.underlying28 ag28 sz28 (by first | decide | (first | omega | decide | (dsimp only at *; omega)))) ?_
              refine seq_ex (wanted_is rfl rfl rfl rfl true rfl) (e_callP rfl (by kernel_rfl) (allows_ac (l ++ [m]) a) (.cons (by first | exact se rfl (CEnt.refl _) | exact se rfl CEnt.nil | exact se rfl CEnt.nilB | exact se rfl (CEnt.osI rfl) | exact se rfl CEnt.opI | exact se_nilO rfl | exact se rfl (CEnt.agg2 (CEnt.refl _) (CEnt.refl _)) | exact se rfl (CEnt.agg3 (CEnt.refl _) (CEnt.refl _) (CEnt.refl _)) | exact se rfl (CEnt.agg4 (CEnt.refl _) (CEnt.refl _) (CEnt.refl _) (CEnt.refl _)) | exact se rfl (CEnt.agg5 (CEnt.refl _) (CEnt.refl _) (CEnt.refl _) (CEnt.refl _) (CEnt.refl _)) | exact se rfl (CEnt.agg6 (CEnt.refl _) (CEnt.refl _) (CEnt.refl _) (CEnt.refl _) (CEnt.refl _) (CEnt.refl _)) | exact se_frzB _ rfl rfl rfl (by simp) (fun _ _ => CEnt.refl _)) (.cons (by first | exact se rfl (CEnt.refl _) | exact se rfl CEnt.nil | exact se rfl CEnt.nilB | exact se rfl (CEnt.osI rfl) | exact se rfl CEnt.opI | exact se_nilO rfl | exact se rfl (CEnt.agg2 (CEnt.refl _) (CEnt.refl _)) | exact se rfl (CEnt.agg3 (CEnt.refl _) (CEnt.refl _) (CEnt.refl _)) | exact se rfl (CEnt.agg4 (CEnt.refl _) (CEnt.refl _) (CEnt.refl _) (CEnt.refl _)) | exact se rfl (CEnt.agg5 (CEnt.refl _) (CEnt.refl _) (CEnt.refl _) (CEnt.refl _) (CEnt.refl _)) | exact se rfl (CEnt.agg6 (CEnt.refl _) (CEnt.refl _) (CEnt.refl _) (CEnt.refl _) (CEnt.refl _) (CEnt.refl _)) | exact se_frzB _ rfl rfl rfl (by simp) (fun _ _ => CEnt.refl _)) .nil)) rfl rfl ?_)
              first | refine q_rd (wanted_is rfl rfl rfl rfl true rfl) rfl rfl (rd_notD rfl rfl) ?_ | refine q_rd (wanted_is rfl rfl rfl rfl true rfl) rfl rfl (rd_not rfl rfl) ?_
              refine q_rd (wanted_none rfl) rfl rfl (rd_pickT (v := .c _) rfl rfl rfl) ?_
              refine seq_nil ?_
              refine then_norm ?_
              first | refine code_condSD rfl rfl (fun h88 => ?_) (fun h88 => ?_) | refine code_condS rfl rfl (fun h88 => ?_) (fun h88 => ?_)
              · refine code_seq ?_
                refine code_region ?_
                refine q_rd (wanted_none rfl) rfl rfl (rd_assign (v := .c _) rfl rfl) ?_
                refine seq_nil ?_
                refine then_norm ?_
                refine code_ret ?_
                refine then_ret ?_
                refine end_val (.inl rfl) (res_1 rfl (arv_tmp rfl)) ?_
                exfalso
                have := @which_more l m a
                simp_all
              · refine code_skip ?_
                refine then_norm ?_
                refine code_seq ?_
                refine code_draw (.rd 0 (.rd 1 (.rd 2 (.rd 4 (.rd 6 (.one 3 (.one 5 (.rd 7 (.rd 8 .done))))))))) (by kernel_rfl) (by kernel_rfl) rfl (by kernel_rfl) (by kernel_rfl) ?_
                simp only [opsOfT, List.getElem?_toArray, List.getElem?_cons_zero, List.getElem?_cons_succ]
                first | refine y_rd (wanted_none rfl) rfl rfl (rd_move (v := .rs _ _ _) rfl rfl) ?_ | refine y_rd (wanted_none rfl) rfl rfl (rd_move (v := .os _ _ _ _ _) rfl rfl) ?_ | refine y_rd (wanted_none rfl) rfl rfl (rd_move (v := .c _) rfl rfl) ?_ | refine y_rd (wanted_none rfl) rfl rfl (rd_move (v := .pv _) rfl rfl) ?_ | refine y_rd (wanted_none rfl) rfl rfl (rd_move (v := .top) rfl rfl) ?_
                first | refine y_rd (wanted_none rfl) rfl rfl (rd_faddrO rfl rfl Try.underlying28 rfl sz26 rfl) ?_ | refine y_rd (wanted_none rfl) rfl rfl (rd_faddrR rfl rfl Try.underlying28 rfl sz26 rfl) ?_
                first | refine y_rdO (wanted_none rfl) rfl rfl (rd_loadOA rfl rfl (.inl rfl) Try.underlying26 ag26 sz26 (by first | decide | (first | omega | decide | (dsimp only at *; omega)))) ?_ | refine y_rd (wanted_none rfl) rfl rfl (rd_loadRA rfl rfl Try.underlying26 ag26 sz26 (by first | decide | (first | omega | decide | (dsimp only at *; omega)))) ?_ | refine y_rdO (wanted_none rfl) rfl rfl (rd_loadOA rfl rfl (.inr rfl) Try.underlying26 ag26 sz26 (by first | decide | (first | omega | decide | (dsimp only at *; omega)))) ?_
                first | refine y_rdO (wanted_none rfl) rfl rfl (rd_loadOA rfl rfl (.inl rfl) Try.underlying28 ag28 sz28 (by first | decide | (first | omega | decide | (dsimp only at *; omega)))) ?_ | refine y_rd (wanted_none rfl) rfl rfl (rd_loadRA rfl rfl Try.underlying28 ag28 sz28 (by first | decide | (first | omega | decide | (dsimp only at *; omega)))) ?_ | refine y_rdO (wanted_none rfl) rfl rfl (rd_loadOA rfl rfl (.inr rfl) Try.underlying28 ag28 sz28 (by first | decide | (first | omega | decide | (dsimp only at *; omega)))) ?_
                refine y_rd (wanted_none rfl) rfl rfl (rd_move (v := .c _) rfl rfl) ?_
                refine x_one (wanted_none rfl) (e_callP rfl (by kernel_rfl) (of_ac l a.1) (.cons (by first | exact se rfl (CEnt.refl _) | exact se rfl CEnt.nil | exact se rfl CEnt.nilB | exact se rfl (CEnt.osI rfl) | exact se rfl CEnt.opI | exact se_nilO rfl | exact se rfl (CEnt.agg2 (CEnt.refl _) (CEnt.refl _)) | exact se rfl (CEnt.agg3 (CEnt.refl _) (CEnt.refl _) (CEnt.refl _)) | exact se rfl (CEnt.agg4 (CEnt.refl _) (CEnt.refl _) (CEnt.refl _) (CEnt.refl _)) | exact se rfl (CEnt.agg5 (CEnt.refl _) (CEnt.refl _) (CEnt.refl _) (CEnt.refl _) (CEnt.refl _)) | exact se rfl (CEnt.agg6 (CEnt.refl _) (CEnt.refl _) (CEnt.refl _) (CEnt.refl _) (CEnt.refl _) (CEnt.refl _)) | exact se_frzB _ rfl rfl rfl (by simp) (fun _ _ => CEnt.refl _)) (.cons (by first | exact se rfl (CEnt.refl _) | exact se rfl CEnt.nil | exact se rfl CEnt.nilB | exact se rfl (CEnt.osI rfl) | exact se rfl CEnt.opI | exact se_nilO rfl | exact se rfl (CEnt.agg2 (CEnt.refl _) (CEnt.refl _)) | exact se rfl (CEnt.agg3 (CEnt.refl _) (CEnt.refl _) (CEnt.refl _)) | exact se rfl (CEnt.agg4 (CEnt.refl _) (CEnt.refl _) (CEnt.refl _) (CEnt.refl _)) | exact se rfl (CEnt.agg5 (CEnt.refl _) (CEnt.refl _) (CEnt.refl _) (CEnt.refl _) (CEnt.refl _)) | exact se rfl (CEnt.agg6 (CEnt.refl _) (CEnt.refl _) (CEnt.refl _) (CEnt.refl _) (CEnt.refl _) (CEnt.refl _)) | exact se_frzB _ rfl rfl rfl (by simp) (fun _ _ => CEnt.refl _)) .nil)) rfl rfl ?_)
                refine x_one (wanted_none rfl) (e_callP rfl (by kernel_rfl) (allows_ac (ofR l a.1) a) (.cons (by first | exact se rfl (CEnt.refl _) | exact se rfl CEnt.nil | exact se rfl CEnt.nilB | exact se rfl (CEnt.osI rfl) | exact se rfl CEnt.opI | exact se_nilO rfl | exact se rfl (CEnt.agg2 (CEnt.refl _) (CEnt.refl _)) | exact se rfl (CEnt.agg3 (CEnt.refl _) (CEnt.refl _) (CEnt.refl _)) | exact se rfl (CEnt.agg4 (CEnt.refl _) (CEnt.refl _) (CEnt.refl _) (CEnt.refl _)) | exact se rfl (CEnt.agg5 (CEnt.refl _) (CEnt.refl _) (CEnt.refl _) (CEnt.refl _) (CEnt.refl _)) | exact se rfl (CEnt.agg6 (CEnt.refl _) (CEnt.refl _) (CEnt.refl _) (CEnt.refl _) (CEnt.refl _) (CEnt.refl _)) | exact se_frzB _ rfl rfl rfl (by simp) (fun _ _ => CEnt.refl _)) (.cons (by first | exact se rfl (CEnt.refl _) | exact se rfl CEnt.nil | exact se rfl CEnt.nilB | exact se rfl (CEnt.osI rfl) | exact se rfl CEnt.opI | exact se_nilO rfl | exact se rfl (CEnt.agg2 (CEnt.refl _) (CEnt.refl _)) | exact se rfl (CEnt.agg3 (CEnt.refl _) (CEnt.refl _) (CEnt.refl _)) | exact se rfl (CEnt.agg4 (CEnt.refl _) (CEnt.refl _) (CEnt.refl _) (CEnt.refl _)) | exact se rfl (CEnt.agg5 (CEnt.refl _) (CEnt.refl _) (CEnt.refl _) (CEnt.refl _) (CEnt.refl _)) | exact se rfl (CEnt.agg6 (CEnt.refl _) (CEnt.refl _) (CEnt.refl _) (CEnt.refl _) (CEnt.refl _) (CEnt.refl _)) | exact se_frzB _ rfl rfl rfl (by simp) (fun _ _ => CEnt.refl _)) .nil)) rfl rfl ?_)
                refine y_rd (wanted_none rfl) rfl rfl (rd_eqB rfl rfl rfl Try.underlying4) ?_
                refine y_rd (wanted_none rfl) rfl rfl (rd_assign (v := .c _) rfl rfl) ?_
                refine x_done ?_
                refine then_norm ?_
                refine code_ret ?_
                refine end_val (.inl rfl) (res_1 rfl (arv_tmp rfl)) ?_
                refine CEnt.bool ?_
                have := which_of l a
                simp [this]
            · refine q_skip (wanted_is rfl rfl rfl rfl false rfl) rfl rfl ?_
              refine q_skip (wanted_is rfl rfl rfl rfl false rfl) rfl rfl ?_
              refine q_skip (wanted_is rfl rfl rfl rfl false rfl) rfl rfl ?_
              refine q_skip (wanted_is rfl rfl rfl rfl false rfl) rfl rfl ?_
              refine q_rd (wanted_none rfl) rfl rfl (rd_pickF (v := .c _) rfl rfl rfl) ?_
              refine seq_nil ?_
              refine then_norm ?_
              refine code_condF rfl ?_
              refine code_skip ?_
              refine then_norm ?_
              refine code_seq ?_
              refine code_draw (.rd 0 (.rd 1 (.rd 2 (.rd 4 (.rd 6 (.one 3 (.one 5 (.rd 7 (.rd 8 .done))))))))) (by kernel_rfl) (by kernel_rfl) rfl (by kernel_rfl) (by kernel_rfl) ?_
              simp only [opsOfT, List.getElem?_toArray, List.getElem?_cons_zero, List.getElem?_cons_succ]
              first | refine y_rd (wanted_none rfl) rfl rfl (rd_move (v := .rs _ _ _) rfl rfl) ?_ | refine y_rd (wanted_none rfl) rfl rfl (rd_move (v := .os _ _ _ _ _) rfl rfl) ?_ | refine y_rd (wanted_none rfl) rfl rfl (rd_move (v := .c _) rfl rfl) ?_ | refine y_rd (wanted_none rfl) rfl rfl (rd_move (v := .pv _) rfl rfl) ?_ | refine y_rd (wanted_none rfl) rfl rfl (rd_move (v := .top) rfl rfl) ?_
              first | refine y_rd (wanted_none rfl) rfl rfl (rd_faddrO rfl rfl Try.underlying28 rfl sz26 rfl) ?_ | refine y_rd (wanted_none rfl) rfl rfl (rd_faddrR rfl rfl Try.underlying28 rfl sz26 rfl) ?_
              first | refine y_rdO (wanted_none rfl) rfl rfl (rd_loadOA rfl rfl (.inl rfl) Try.underlying26 ag26 sz26 (by first | decide | (first | omega | decide | (dsimp only at *; omega)))) ?_ | refine y_rd (wanted_none rfl) rfl rfl (rd_loadRA rfl rfl Try.underlying26 ag26 sz26 (by first | decide | (first | omega | decide | (dsimp only at *; omega)))) ?_ | refine y_rdO (wanted_none rfl) rfl rfl (rd_loadOA rfl rfl (.inr rfl) Try.underlying26 ag26 sz26 (by first | decide | (first | omega | decide | (dsimp only at *; omega)))) ?_
              first | refine y_rdO (wanted_none rfl) rfl rfl (rd_loadOA rfl rfl (.inl rfl) Try.underlying28 ag28 sz28 (by first | decide | (first | omega | decide | (dsimp only at *; omega)))) ?_ | refine y_rd (wanted_none rfl) rfl rfl (rd_loadRA rfl rfl Try.underlying28 ag28 sz28 (by first | decide | (first | omega | decide | (dsimp only at *; omega)))) ?_ | refine y_rdO (wanted_none rfl) rfl rfl (rd_loadOA rfl rfl (.inr rfl) Try.underlying28 ag28 sz28 (by first | decide | (first | omega | decide | (dsimp only at *; omega)))) ?_
              refine y_rd (wanted_none rfl) rfl rfl (rd_move (v := .c _) rfl rfl) ?_
              refine x_one (wanted_none rfl) (e_callP rfl (by kernel_rfl) (of_ac l a.1) (.cons (by first | exact se rfl (CEnt.refl _) | exact se rfl CEnt.nil | exact se rfl CEnt.nilB | exact se rfl (CEnt.osI rfl) | exact se rfl CEnt.opI | exact se_nilO rfl | exact se rfl (CEnt.agg2 (CEnt.refl _) (CEnt.refl _)) | exact se rfl (CEnt.agg3 (CEnt.refl _) (CEnt.refl _) (CEnt.refl _)) | exact se rfl (CEnt.agg4 (CEnt.refl _) (CEnt.refl _) (CEnt.refl _) (CEnt.refl _)) | exact se rfl (CEnt.agg5 (CEnt.refl _) (CEnt.refl _) (CEnt.refl _) (CEnt.refl _) (CEnt.refl _)) | exact se rfl (CEnt.agg6 (CEnt.refl _) (CEnt.refl _) (CEnt.refl _) (CEnt.refl _) (CEnt.refl _) (CEnt.refl _)) | exact se_frzB _ rfl rfl rfl (by simp) (fun _ _ => CEnt.refl _)) (.cons (by first | exact se rfl (CEnt.refl _) | exact se rfl CEnt.nil | exact se rfl CEnt.nilB | exact se rfl (CEnt.osI rfl) | exact se rfl CEnt.opI | exact se_nilO rfl | exact se rfl (CEnt.agg2 (CEnt.refl _) (CEnt.refl _)) | exact se rfl (CEnt.agg3 (CEnt.refl _) (CEnt.refl _) (CEnt.refl _)) | exact se rfl (CEnt.agg4 (CEnt.refl _) (CEnt.refl _) (CEnt.refl _) (CEnt.refl _)) | exact se rfl (CEnt.agg5 (CEnt.refl _) (CEnt.refl _) (CEnt.refl _) (CEnt.refl _) (CEnt.refl _)) | exact se rfl (CEnt.agg6 (CEnt.refl _) (CEnt.refl _) (CEnt.refl _) (CEnt.refl _) (CEnt.refl _) (CEnt.refl _)) | exact se_frzB _ rfl rfl rfl (by simp) (fun _ _ => CEnt.refl _)) .nil)) rfl rfl ?_)
              refine x_one (wanted_none rfl) (e_callP rfl (by kernel_rfl) (allows_ac (ofR l a.1) a) (.cons (by first | exact se rfl (CEnt.refl _) | exact se rfl CEnt.nil | exact se rfl CEnt.nilB | exact se rfl (CEnt.osI rfl) | exact se rfl CEnt.opI | exact se_nilO rfl | exact se rfl (CEnt.agg2 (CEnt.refl _) (CEnt.refl _)) | exact se rfl (CEnt.agg3 (CEnt.refl _) (CEnt.refl _) (CEnt.refl _)) | exact se rfl (CEnt.agg4 (CEnt.refl _) (CEnt.refl _) (CEnt.refl _) (CEnt.refl _)) | exact se rfl (CEnt.agg5 (CEnt.refl _) (CEnt.refl _) (CEnt.refl _) (CEnt.refl _) (CEnt.refl _)) | exact se rfl (CEnt.agg6 (CEnt.refl _) (CEnt.refl _) (CEnt.refl _) (CEnt.refl _) (CEnt.refl _) (CEnt.refl _)) | exact se_frzB _ rfl rfl rfl (by simp) (fun _ _ => CEnt.refl _)) (.cons (by first | exact se rfl (CEnt.refl _) | exact se rfl CEnt.nil | exact se rfl CEnt.nilB | exact se rfl (CEnt.osI rfl) | exact se rfl CEnt.opI | exact se_nilO rfl | exact se rfl (CEnt.agg2 (CEnt.refl _) (CEnt.refl _)) | exact se rfl (CEnt.agg3 (CEnt.refl _) (CEnt.refl _) (CEnt.refl _)) | exact se rfl (CEnt.agg4 (CEnt.refl _) (CEnt.refl _) (CEnt.refl _) (CEnt.refl _)) | exact se rfl (CEnt.agg5 (CEnt.refl _) (CEnt.refl _) (CEnt.refl _) (CEnt.refl _) (CEnt.refl _)) | exact se rfl (CEnt.agg6 (CEnt.refl _) (CEnt.refl _) (CEnt.refl _) (CEnt.refl _) (CEnt.refl _) (CEnt.refl _)) | exact se_frzB _ rfl rfl rfl (by simp) (fun _ _ => CEnt.refl _)) .nil)) rfl rfl ?_)
              refine y_rd (wanted_none rfl) rfl rfl (rd_eqB rfl rfl rfl Try.underlying4) ?_
              refine y_rd (wanted_none rfl) rfl rfl (rd_assign (v := .c _) rfl rfl) ?_
              refine x_done ?_
              refine then_norm ?_
              refine code_ret ?_
              refine end_val (.inl rfl) (res_1 rfl (arv_tmp rfl)) ?_
              refine CEnt.bool ?_
              have := which_of l a
              simp [this]
          · refine q_skip (wanted_is rfl rfl rfl rfl false rfl) rfl rfl ?_
            refine q_rd (wanted_none rfl) rfl rfl (rd_pickF (v := .c _) rfl rfl rfl) ?_
            refine q_rd (wanted_none rfl) rfl rfl (rd_move (v := .c _) rfl rfl) ?_
            refine q_skip (wanted_is rfl rfl rfl rfl false rfl) rfl rfl ?_
            refine q_skip (wanted_is rfl rfl rfl rfl false rfl) rfl rfl ?_
            refine q_skip (wanted_is rfl rfl rfl rfl false rfl) rfl rfl ?_
            refine q_skip (wanted_is rfl rfl rfl rfl false rfl) rfl rfl ?_
            refine q_rd (wanted_none rfl) rfl rfl (rd_pickF (v := .c _) rfl rfl rfl) ?_
            refine seq_nil ?_
            refine then_norm ?_
            refine code_condF rfl ?_
            refine code_skip ?_
            refine then_norm ?_
            refine code_seq ?_
            refine code_draw (.rd 0 (.rd 1 (.rd 2 (.rd 4 (.rd 6 (.one 3 (.one 5 (.rd 7 (.rd 8 .done))))))))) (by kernel_rfl) (by kernel_rfl) rfl (by kernel_rfl) (by kernel_rfl) ?_
            simp only [opsOfT, List.getElem?_toArray, List.getElem?_cons_zero, List.getElem?_cons_succ]
            first | refine y_rd (wanted_none rfl) rfl rfl (rd_move (v := .rs _ _ _) rfl rfl) ?_ | refine y_rd (wanted_none rfl) rfl rfl (rd_move (v := .os _ _ _ _ _) rfl rfl) ?_ | refine y_rd (wanted_none rfl) rfl rfl (rd_move (v := .c _) rfl rfl) ?_ | refine y_rd (wanted_none rfl) rfl rfl (rd_move (v := .pv _) rfl rfl) ?_ | refine y_rd (wanted_none rfl) rfl rfl (rd_move (v := .top) rfl rfl) ?_
            first | refine y_rd (wanted_none rfl) rfl rfl (rd_faddrO rfl rfl Try.underlying28 rfl sz26 rfl) ?_ | refine y_rd (wanted_none rfl) rfl rfl (rd_faddrR rfl rfl Try.underlying28 rfl sz26 rfl) ?_
            first | refine y_rdO (wanted_none rfl) rfl rfl (rd_loadOA rfl rfl (.inl rfl) Try.underlying26 ag26 sz26 (by first | decide | (first | omega | decide | (dsimp only at *; omega)))) ?_ | refine y_rd (wanted_none rfl) rfl rfl (rd_loadRA rfl rfl Try.underlying26 ag26 sz26 (by first | decide | (first | omega | decide | (dsimp only at *; omega)))) ?_ | refine y_rdO (wanted_none rfl) rfl rfl (rd_loadOA rfl rfl (.inr rfl) Try.underlying26 ag26 sz26 (by first | decide | (first | omega | decide | (dsimp only at *; omega)))) ?_
            first | refine y_rdO (wanted_none rfl) rfl rfl (rd_loadOA rfl rfl (.inl rfl) Try.underlying28 ag28 sz28 (by first | decide | (first | omega | decide | (dsimp only at *; omega)))) ?_ | refine y_rd (wanted_none rfl) rfl rfl (rd_loadRA rfl rfl Try.underlying28 ag28 sz28 (by first | decide | (first | omega | decide | (dsimp only at *; omega)))) ?_ | refine y_rdO (wanted_none rfl) rfl rfl (rd_loadOA rfl rfl (.inr rfl) Try.underlying28 ag28 sz28 (by first | decide | (first | omega | decide | (dsimp only at *; omega)))) ?_
            refine y_rd (wanted_none rfl) rfl rfl (rd_move (v := .c _) rfl rfl) ?_
            refine x_one (wanted_none rfl) (e_callP rfl (by kernel_rfl) (of_ac l a.1) (.cons (by first | exact se rfl (CEnt.refl _) | exact se rfl CEnt.nil | exact se rfl CEnt.nilB | exact se rfl (CEnt.osI rfl) | exact se rfl CEnt.opI | exact se_nilO rfl | exact se rfl (CEnt.agg2 (CEnt.refl _) (CEnt.refl _)) | exact se rfl (CEnt.agg3 (CEnt.refl _) (CEnt.refl _) (CEnt.refl _)) | exact se rfl (CEnt.agg4 (CEnt.refl _) (CEnt.refl _) (CEnt.refl _) (CEnt.refl _)) | exact se rfl (CEnt.agg5 (CEnt.refl _) (CEnt.refl _) (CEnt.refl _) (CEnt.refl _) (CEnt.refl _)) | exact se rfl (CEnt.agg6 (CEnt.refl _) (CEnt.refl _) (CEnt.refl _) (CEnt.refl _) (CEnt.refl _) (CEnt.refl _)) | exact se_frzB _ rfl rfl rfl (by simp) (fun _ _ => CEnt.refl _)) (.cons (by first | exact se rfl (CEnt.refl _) | exact se rfl CEnt.nil | exact se rfl CEnt.nilB | exact se rfl (CEnt.osI rfl) | exact se rfl CEnt.opI | exact se_nilO rfl | exact se rfl (CEnt.agg2 (CEnt.refl _) (CEnt.refl _)) | exact se rfl (CEnt.agg3 (CEnt.refl _) (CEnt.refl _) (CEnt.refl _)) | exact se rfl (CEnt.agg4 (CEnt.refl _) (CEnt.refl _) (CEnt.refl _) (CEnt.refl _)) | exact se rfl (CEnt.agg5 (CEnt.refl _) (CEnt.refl _) (CEnt.refl _) (CEnt.refl _) (CEnt.refl _)) | exact se rfl (CEnt.agg6 (CEnt.refl _) (CEnt.refl _) (CEnt.refl _) (CEnt.refl _) (CEnt.refl _) (CEnt.refl _)) | exact se_frzB _ rfl rfl rfl (by simp) (fun _ _ => CEnt.refl _)) .nil)) rfl rfl ?_)
            refine x_one (wanted_none rfl) (e_callP rfl (by kernel_rfl) (allows_ac (ofR l a.1) a) (.cons (by first | exact se rfl (CEnt.refl _) | exact se rfl CEnt.nil | exact se rfl CEnt.nilB | exact se rfl (CEnt.osI rfl) | exact se rfl CEnt.opI | exact se_nilO rfl | exact se rfl (CEnt.agg2 (CEnt.refl _) (CEnt.refl _)) | exact se rfl (CEnt.agg3 (CEnt.refl _) (CEnt.refl _) (CEnt.refl _)) | exact se rfl (CEnt.agg4 (CEnt.refl _) (CEnt.refl _) (CEnt.refl _) (CEnt.refl _)) | exact se rfl (CEnt.agg5 (CEnt.refl _) (CEnt.refl _) (CEnt.refl _) (CEnt.refl _) (CEnt.refl _)) | exact se rfl (CEnt.agg6 (CEnt.refl _) (CEnt.refl _) (CEnt.refl _) (CEnt.refl _) (CEnt.refl _) (CEnt.refl _)) | exact se_frzB _ rfl rfl rfl (by simp) (fun _ _ => CEnt.refl _)) (.cons (by first | exact se rfl (CEnt.refl _) | exact se rfl CEnt.nil | exact se rfl CEnt.nilB | exact se rfl (CEnt.osI rfl) | exact se rfl CEnt.opI | exact se_nilO rfl | exact se rfl (CEnt.agg2 (CEnt.refl _) (CEnt.refl _)) | exact se rfl (CEnt.agg3 (CEnt.refl _) (CEnt.refl _) (CEnt.refl _)) | exact se rfl (CEnt.agg4 (CEnt.refl _) (CEnt.refl _) (CEnt.refl _) (CEnt.refl _)) | exact se rfl (CEnt.agg5 (CEnt.refl _) (CEnt.refl _) (CEnt.refl _) (CEnt.refl _) (CEnt.refl _)) | exact se rfl (CEnt.agg6 (CEnt.refl _) (CEnt.refl _) (CEnt.refl _) (CEnt.refl _) (CEnt.refl _) (CEnt.refl _)) | exact se_frzB _ rfl rfl rfl (by simp) (fun _ _ => CEnt.refl _)) .nil)) rfl rfl ?_)
            refine y_rd (wanted_none rfl) rfl rfl (rd_eqB rfl rfl rfl Try.underlying4) ?_
            refine y_rd (wanted_none rfl) rfl rfl (rd_assign (v := .c _) rfl rfl) ?_
            refine x_done ?_
            refine then_norm ?_
            refine code_ret ?_
            refine end_val (.inl rfl) (res_1 rfl (arv_tmp rfl)) ?_
            refine CEnt.bool ?_
            have := which_of l a
            simp [this]
        · refine z_ex (wanted_none rfl) (e_buildSlice (n := 5) rfl Try.underlying22 sz24 zr24 rfl rfl rfl rfl rfl rfl rfl (fun p6 => ?_))
          refine z_md (wanted_none rfl) rfl (m_appendC (l := []) (rowC_row 5 ruleF r0) rfl rfl rfl rfl (Nat.zero_le _) (fun j hj => absurd hj (by simp)) (src_rs rfl) rfl (fun j hj => CEnt.refl _) Try.underlying22 nu22 sz24 zr24 by24 rfl (by simp; omega) (by simp; omega) (fun j hj => leaf_rule _ (Nat.mod_lt _ (by decide))) rfl rfl rfl (fun p7 => ?_))
          refine z_md (wanted_none rfl) rfl (m_appendC (l := [] ++ l) (l2 := [m]) (rowC_row 5 ruleF r0) rfl rfl rfl rfl (Nat.le_refl _) (fun j hj => CEnt.refl _) (src_os rfl (.inl rfl) (by decide)) rfl (fun j hj => by rcases j with _ | _ | _ | _ | _ | j <;> first | exact CEnt.refl _ | (exfalso; simp at hj; omega)) Try.underlying22 nu22 sz24 zr24 by24 rfl (by simp; omega) (by simp; omega) (leaf_flk rfl rfl) rfl rfl rfl (fun p8 => ?_))
          first | refine zz_rd (wanted_none rfl) rfl rfl (rd_assign (v := .rs _ _ _) rfl rfl) ?_ | refine zz_rd (wanted_none rfl) rfl rfl (rd_assign (v := .os _ _ _ _ _) rfl rfl) ?_ | refine zz_rd (wanted_none rfl) rfl rfl (rd_assign (v := .c _) rfl rfl) ?_ | refine zz_rd (wanted_none rfl) rfl rfl (rd_assign (v := .pv _) rfl rfl) ?_ | refine zz_rd (wanted_none rfl) rfl rfl (rd_assign (v := .top) rfl rfl) ?_
          refine z_done ?_
          refine then_norm ?_
          refine code_seq ?_
          refine code_seq ?_
          first | (refine code_ent (freeze 3 rfl) ?_; refine code_ent (thaw 8 (fun i => ruleF ((l ++ [m]).getD i r0)) rfl rfl (by simp) (fun a b ha hb => CEnt.of_eq (by rw [Nat.zero_add]; exact rowF_at (k := 5) hb))) ?_) | (refine code_ent (freeze 4 rfl) ?_; refine code_ent (thaw 8 (fun i => ruleF ((l ++ [m]).getD i r0)) rfl rfl (by simp) (fun a b ha hb => CEnt.of_eq (by rw [Nat.zero_add]; exact rowF_at (k := 5) hb))) ?_)
          refine code_region ?_
          first | refine q_rd (wanted_none rfl) rfl rfl (rd_move (v := .rs _ _ _) rfl rfl) ?_ | refine q_rd (wanted_none rfl) rfl rfl (rd_move (v := .os _ _ _ _ _) rfl rfl) ?_ | refine q_rd (wanted_none rfl) rfl rfl (rd_move (v := .c _) rfl rfl) ?_ | refine q_rd (wanted_none rfl) rfl rfl (rd_move (v := .pv _) rfl rfl) ?_ | refine q_rd (wanted_none rfl) rfl rfl (rd_move (v := .top) rfl rfl) ?_
          refine seq_ex (wanted_none rfl) (e_callP rfl (by kernel_rfl) (tright_ac (l ++ [m])) (.cons (by first | exact se rfl (CEnt.refl _) | exact se rfl CEnt.nil | exact se rfl CEnt.nilB | exact se rfl (CEnt.osI rfl) | exact se rfl CEnt.opI | exact se_nilO rfl | exact se rfl (CEnt.agg2 (CEnt.refl _) (CEnt.refl _)) | exact se rfl (CEnt.agg3 (CEnt.refl _) (CEnt.refl _) (CEnt.refl _)) | exact se rfl (CEnt.agg4 (CEnt.refl _) (CEnt.refl _) (CEnt.refl _) (CEnt.refl _)) | exact se rfl (CEnt.agg5 (CEnt.refl _) (CEnt.refl _) (CEnt.refl _) (CEnt.refl _) (CEnt.refl _)) | exact se rfl (CEnt.agg6 (CEnt.refl _) (CEnt.refl _) (CEnt.refl _) (CEnt.refl _) (CEnt.refl _) (CEnt.refl _)) | exact se_frzB _ rfl rfl rfl (by simp) (fun _ _ => CEnt.refl _)) .nil) rfl rfl ?_)
          refine q_rd (wanted_none rfl) rfl rfl (rd_move (v := .c _) rfl rfl) ?_
          first | refine seq_splitD (d := 28) rfl rfl (fun g88 => ?_) (fun g88 => ?_) | refine seq_split (d := 28) rfl rfl (fun g88 => ?_) (fun g88 => ?_)
          · refine q_rd (wanted_is rfl rfl rfl rfl true rfl) rfl rfl (rd_move (v := .c _) rfl rfl) ?_
            refine q_rd (wanted_none rfl) rfl rfl (rd_pickT (v := .c _) rfl rfl rfl) ?_
            refine q_rd (wanted_none rfl) rfl rfl (rd_move (v := .c _) rfl rfl) ?_
            first | refine seq_splitD (d := 31) rfl rfl (fun g88_2 => ?_) (fun g88_2 => ?_) | refine seq_split (d := 31) rfl rfl (fun g88_2 => ?_) (fun g88_2 => ?_)
            · first | refine q_rd (wanted_is rfl rfl rfl rfl true rfl) rfl rfl (rd_move (v := .rs _ _ _) rfl rfl) ?_ | refine q_rd (wanted_is rfl rfl rfl rfl true rfl) rfl rfl (rd_move (v := .os _ _ _ _ _) rfl rfl) ?_ | refine q_rd (wanted_is rfl rfl rfl rfl true rfl) rfl rfl (rd_move (v := .c _) rfl rfl) ?_ | refine q_rd (wanted_is rfl rfl rfl rfl true rfl) rfl rfl (rd_move (v := .pv _) rfl rfl) ?_ | refine q_rd (wanted_is rfl rfl rfl rfl true rfl) rfl rfl (rd_move (v := .top) rfl rfl) ?_
              first | refine q_rdO (wanted_is rfl rfl rfl rfl true rfl) rfl rfl (rd_loadOA rfl rfl (.inl rfl) Try.underlying28 ag28 sz28 (by first | decide | (first | omega | decide | (dsimp only at *; omega)))) ?_ | refine q_rd (wanted_is rfl rfl rfl rfl true rfl) rfl rfl (rd_loadRA rfl rfl Try.underlying28 ag28 sz28 (by first | decide | (first | omega | decide | (dsimp only at *; omega)))) ?_ | refine q_rdO (wanted_is rfl rfl rfl rfl true rfl) rfl rfl (rd_loadOA rfl rfl (.inr rfl) Try.underlying28 ag28 sz28 (by first | decide | (first | omega | decide | (dsimp only at *; omega)))) ?_
              refine seq_ex (wanted_is rfl rfl rfl rfl true rfl) (e_callP rfl (by kernel_rfl) (allows_ac (l ++ [m]) a) (.cons (by first | exact se rfl (CEnt.refl _) | exact se rfl CEnt.nil | exact se rfl CEnt.nilB | exact se rfl (CEnt.osI rfl) | exact se rfl CEnt.opI | exact se_nilO rfl | exact se rfl (CEnt.agg2 (CEnt.refl _) (CEnt.refl _)) | exact se rfl (CEnt.agg3 (CEnt.refl _) (CEnt.refl _) (CEnt.refl _)) | exact se rfl (CEnt.agg4 (CEnt.refl _) (CEnt.refl _) (CEnt.refl _) (CEnt.refl _)) | exact se rfl (CEnt.agg5 (CEnt.refl _) (CEnt.refl _) (CEnt.refl _) (CEnt.refl _) (CEnt.refl _)) | exact se rfl (CEnt.agg6 (CEnt.refl _) (CEnt.refl _) (CEnt.refl _) (CEnt.refl _) (CEnt.refl _) (CEnt.refl _)) | exact se_frzB _ rfl rfl rfl (by simp) (fun _ _ => CEnt.refl _)) (.cons (by first | exact se rfl (CEnt.refl _) | exact se rfl CEnt.nil | exact se rfl CEnt.nilB | exact se rfl (CEnt.osI rfl) | exact se rfl CEnt.opI | exact se_nilO rfl | exact se rfl (CEnt.agg2 (CEnt.refl _) (CEnt.refl _)) | exact se rfl (CEnt.agg3 (CEnt.refl _) (CEnt.refl _) (CEnt.refl _)) | exact se rfl (CEnt.agg4 (CEnt.refl _) (CEnt.refl _) (CEnt.refl _) (CEnt.refl _)) | exact se rfl (CEnt.agg5 (CEnt.refl _) (CEnt.refl _) (CEnt.refl _) (CEnt.refl _) (CEnt.refl _)) | exact se rfl (CEnt.agg6 (CEnt.refl _) (CEnt.refl _) (CEnt.refl _) (CEnt.refl _) (CEnt.refl _) (CEnt.refl _)) | exact se_frzB _ rfl rfl rfl (by simp) (fun _ _ => CEnt.refl _)) .nil)) rfl rfl ?_)
              first | refine q_rd (wanted_is rfl rfl rfl rfl true rfl) rfl rfl (rd_notD rfl rfl) ?_ | refine q_rd (wanted_is rfl rfl rfl rfl true rfl) rfl rfl (rd_not rfl rfl) ?_
              refine q_rd (wanted_none rfl) rfl rfl (rd_pickT (v := .c _) rfl rfl rfl) ?_
              refine seq_nil ?_
              refine then_norm ?_
              first | refine code_condSD rfl rfl (fun h88 => ?_) (fun h88 => ?_) | refine code_condS rfl rfl (fun h88 => ?_) (fun h88 => ?_)
              · refine code_seq ?_
                refine code_region ?_
                refine q_rd (wanted_none rfl) rfl rfl (rd_assign (v := .c _) rfl rfl) ?_
                refine seq_nil ?_
                refine then_norm ?_
                refine code_ret ?_
                refine then_ret ?_
                refine end_val (.inl rfl) (res_1 rfl (arv_tmp rfl)) ?_
                exfalso
                have := @which_more l m a
                simp_all
              · refine code_skip ?_
                refine then_norm ?_
                refine code_seq ?_
                refine code_draw (.rd 0 (.rd 1 (.rd 2 (.rd 4 (.rd 6 (.one 3 (.one 5 (.rd 7 (.rd 8 .done))))))))) (by kernel_rfl) (by kernel_rfl) rfl (by kernel_rfl) (by kernel_rfl) ?_
                simp only [opsOfT, List.getElem?_toArray, List.getElem?_cons_zero, List.getElem?_cons_succ]
                first | refine y_rd (wanted_none rfl) rfl rfl (rd_move (v := .rs _ _ _) rfl rfl) ?_ | refine y_rd (wanted_none rfl) rfl rfl (rd_move (v := .os _ _ _ _ _) rfl rfl) ?_ | refine y_rd (wanted_none rfl) rfl rfl (rd_move (v := .c _) rfl rfl) ?_ | refine y_rd (wanted_none rfl) rfl rfl (rd_move (v := .pv _) rfl rfl) ?_ | refine y_rd (wanted_none rfl) rfl rfl (rd_move (v := .top) rfl rfl) ?_
                first | refine y_rd (wanted_none rfl) rfl rfl (rd_faddrO rfl rfl Try.underlying28 rfl sz26 rfl) ?_ | refine y_rd (wanted_none rfl) rfl rfl (rd_faddrR rfl rfl Try.underlying28 rfl sz26 rfl) ?_
                first | refine y_rdO (wanted_none rfl) rfl rfl (rd_loadOA rfl rfl (.inl rfl) Try.underlying26 ag26 sz26 (by first | decide | (first | omega | decide | (dsimp only at *; omega)))) ?_ | refine y_rd (wanted_none rfl) rfl rfl (rd_loadRA rfl rfl Try.underlying26 ag26 sz26 (by first | decide | (first | omega | decide | (dsimp only at *; omega)))) ?_ | refine y_rdO (wanted_none rfl) rfl rfl (rd_loadOA rfl rfl (.inr rfl) Try.underlying26 ag26 sz26 (by first | decide | (first | omega | decide | (dsimp only at *; omega)))) ?_
                first | refine y_rdO (wanted_none rfl) rfl rfl (rd_loadOA rfl rfl (.inl rfl) Try.underlying28 ag28 sz28 (by first | decide | (first | omega | decide | (dsimp only at *; omega)))) ?_ | refine y_rd (wanted_none rfl) rfl rfl (rd_loadRA rfl rfl Try.underlying28 ag28 sz28 (by first | decide | (first | omega | decide | (dsimp only at *; omega)))) ?_ | refine y_rdO (wanted_none rfl) rfl rfl (rd_loadOA rfl rfl (.inr rfl) Try.underlying28 ag28 sz28 (by first | decide | (first | omega | decide | (dsimp only at *; omega)))) ?_
                refine y_rd (wanted_none rfl) rfl rfl (rd_move (v := .c _) rfl rfl) ?_
                refine x_one (wanted_none rfl) (e_callP rfl (by kernel_rfl) (of_ac l a.1) (.cons (by first | exact se rfl (CEnt.refl _) | exact se rfl CEnt.nil | exact se rfl CEnt.nilB | exact se rfl (CEnt.osI rfl) | exact se rfl CEnt.opI | exact se_nilO rfl | exact se rfl (CEnt.agg2 (CEnt.refl _) (CEnt.refl _)) | exact se rfl (CEnt.agg3 (CEnt.refl _) (CEnt.refl _) (CEnt.refl _)) | exact se rfl (CEnt.agg4 (CEnt.refl _) (CEnt.refl _) (CEnt.refl _) (CEnt.refl _)) | exact se rfl (CEnt.agg5 (CEnt.refl _) (CEnt.refl _) (CEnt.refl _) (CEnt.refl _) (CEnt.refl _)) | exact se rfl (CEnt.agg6 (CEnt.refl _) (CEnt.refl _) (CEnt.refl _) (CEnt.refl _) (CEnt.refl _) (CEnt.refl _)) | exact se_frzB _ rfl rfl rfl (by simp) (fun _ _ => CEnt.refl _)) (.cons (by first | exact se rfl (CEnt.refl _) | exact se rfl CEnt.nil | exact se rfl CEnt.nilB | exact se rfl (CEnt.osI rfl) | exact se rfl CEnt.opI | exact se_nilO rfl | exact se rfl (CEnt.agg2 (CEnt.refl _) (CEnt.refl _)) | exact se rfl (CEnt.agg3 (CEnt.refl _) (CEnt.refl _) (CEnt.refl _)) | exact se rfl (CEnt.agg4 (CEnt.refl _) (CEnt.refl _) (CEnt.refl _) (CEnt.refl _)) | exact se rfl (CEnt.agg5 (CEnt.refl _) (CEnt.refl _) (CEnt.refl _) (CEnt.refl _) (CEnt.refl _)) | exact se rfl (CEnt.agg6 (CEnt.refl _) (CEnt.refl _) (CEnt.refl _) (CEnt.refl _) (CEnt.refl _) (CEnt.refl _)) | exact se_frzB _ rfl rfl rfl (by simp) (fun _ _ => CEnt.refl _)) .nil)) rfl rfl ?_)
                refine x_one (wanted_none rfl) (e_callP rfl (by kernel_rfl) (allows_ac (ofR l a.1) a) (.cons (by first | exact se rfl (CEnt.refl _) | exact se rfl CEnt.nil | exact se rfl CEnt.nilB | exact se rfl (CEnt.osI rfl) | exact se rfl CEnt.opI | exact se_nilO rfl | exact se rfl (CEnt.agg2 (CEnt.refl _) (CEnt.refl _)) | exact se rfl (CEnt.agg3 (CEnt.refl _) (CEnt.refl _) (CEnt.refl _)) | exact se rfl (CEnt.agg4 (CEnt.refl _) (CEnt.refl _) (CEnt.refl _) (CEnt.refl _)) | exact se rfl (CEnt.agg5 (CEnt.refl _) (CEnt.refl _) (CEnt.refl _) (CEnt.refl _) (CEnt.refl _)) | exact se rfl (CEnt.agg6 (CEnt.refl _) (CEnt.refl _) (CEnt.refl _) (CEnt.refl _) (CEnt.refl _) (CEnt.refl _)) | exact se_frzB _ rfl rfl rfl (by simp) (fun _ _ => CEnt.refl _)) (.cons (by first | exact se rfl (CEnt.refl _) | exact se rfl CEnt.nil | exact se rfl CEnt.nilB | exact se rfl (CEnt.osI rfl) | exact se rfl CEnt.opI | exact se_nilO rfl | exact se rfl (CEnt.agg2 (CEnt.refl _) (CEnt.refl _)) | exact se rfl (CEnt.agg3 (CEnt.refl _) (CEnt.refl _) (CEnt.refl _)) | exact se rfl (CEnt.agg4 (CEnt.refl _) (CEnt.refl _) (CEnt.refl _) (CEnt.refl _)) | exact se rfl (CEnt.agg5 (CEnt.refl _) (CEnt.refl _) (CEnt.refl _) (CEnt.refl _) (CEnt.refl _)) | exact se rfl (CEnt.agg6 (CEnt.refl _) (CEnt.refl _) (CEnt.refl _) (CEnt.refl _) (CEnt.refl _) (CEnt.refl _)) | exact se_frzB _ rfl rfl rfl (by simp) (fun _ _ => CEnt.refl _)) .nil)) rfl rfl ?_)
                refine y_rd (wanted_none rfl) rfl rfl (rd_eqB rfl rfl rfl Try.underlying4) ?_
                refine y_rd (wanted_none rfl) rfl rfl (rd_assign (v := .c _) rfl rfl) ?_
                refine x_done ?_
                refine then_norm ?_
                refine code_ret ?_
                refine end_val (.inl rfl) (res_1 rfl (arv_tmp rfl)) ?_
                refine CEnt.bool ?_
                have := which_of l a
                simp [this]
            · refine q_skip (wanted_is rfl rfl rfl rfl false rfl) rfl rfl ?_
              refine q_skip (wanted_is rfl rfl rfl rfl false rfl) rfl rfl ?_
              refine q_skip (wanted_is rfl rfl rfl rfl false rfl) rfl rfl ?_
              refine q_skip (wanted_is rfl rfl rfl rfl false rfl) rfl rfl ?_
              refine q_rd (wanted_none rfl) rfl rfl (rd_pickF (v := .c _) rfl rfl rfl) ?_
              refine seq_nil ?_
              refine then_norm ?_
              refine code_condF rfl ?_
              refine code_skip ?_
              refine then_norm ?_
              refine code_seq ?_
              refine code_draw (.rd 0 (.rd 1 (.rd 2 (.rd 4 (.rd 6 (.one 3 (.one 5 (.rd 7 (.rd 8 .done))))))))) (by kernel_rfl) (by kernel_rfl) rfl (by kernel_rfl) (by kernel_rfl) ?_
              simp only [opsOfT, List.getElem?_toArray, List.getElem?_cons_zero, List.getElem?_cons_succ]
              first | refine y_rd (wanted_none rfl) rfl rfl (rd_move (v := .rs _ _ _) rfl rfl) ?_ | refine y_rd (wanted_none rfl) rfl rfl (rd_move (v := .os _ _ _ _ _) rfl rfl) ?_ | refine y_rd (wanted_none rfl) rfl rfl (rd_move (v := .c _) rfl rfl) ?_ | refine y_rd (wanted_none rfl) rfl rfl (rd_move (v := .pv _) rfl rfl) ?_ | refine y_rd (wanted_none rfl) rfl rfl (rd_move (v := .top) rfl rfl) ?_
              first | refine y_rd (wanted_none rfl) rfl rfl (rd_faddrO rfl rfl Try.underlying28 rfl sz26 rfl) ?_ | refine y_rd (wanted_none rfl) rfl rfl (rd_faddrR rfl rfl Try.underlying28 rfl sz26 rfl) ?_
              first | refine y_rdO (wanted_none rfl) rfl rfl (rd_loadOA rfl rfl (.inl rfl) Try.underlying26 ag26 sz26 (by first | decide | (first | omega | decide | (dsimp only at *; omega)))) ?_ | refine y_rd (wanted_none rfl) rfl rfl (rd_loadRA rfl rfl Try.underlying26 ag26 sz26 (by first | decide | (first | omega | decide | (dsimp only at *; omega)))) ?_ | refine y_rdO (wanted_none rfl) rfl rfl (rd_loadOA rfl rfl (.inr rfl) Try.underlying26 ag26 sz26 (by first | decide | (first | omega | decide | (dsimp only at *; omega)))) ?_
              first | refine y_rdO (wanted_none rfl) rfl rfl (rd_loadOA rfl rfl (.inl rfl) Try.underlying28 ag28 sz28 (by first | decide | (first | omega | decide | (dsimp only at *; omega)))) ?_ | refine y_rd (wanted_none rfl) rfl rfl (rd_loadRA rfl rfl Try.underlying28 ag28 sz28 (by first | decide | (first | omega | decide | (dsimp only at *; omega)))) ?_ | refine y_rdO (wanted_none rfl) rfl rfl (rd_loadOA rfl rfl (.inr rfl) Try.underlying28 ag28 sz28 (by first | decide | (first | omega | decide | (dsimp only at *; omega)))) ?_
              refine y_rd (wanted_none rfl) rfl rfl (rd_move (v := .c _) rfl rfl) ?_
              refine x_one (wanted_none rfl) (e_callP rfl (by kernel_rfl) (of_ac l a.1) (.cons (by first | exact se rfl (CEnt.refl _) | exact se rfl CEnt.nil | exact se rfl CEnt.nilB | exact se rfl (CEnt.osI rfl) | exact se rfl CEnt.opI | exact se_nilO rfl | exact se rfl (CEnt.agg2 (CEnt.refl _) (CEnt.refl _)) | exact se rfl (CEnt.agg3 (CEnt.refl _) (CEnt.refl _) (CEnt.refl _)) | exact se rfl (CEnt.agg4 (CEnt.refl _) (CEnt.refl _) (CEnt.refl _) (CEnt.refl _)) | exact se rfl (CEnt.agg5 (CEnt.refl _) (CEnt.refl _) (CEnt.refl _) (CEnt.refl _) (CEnt.refl _)) | exact se rfl (CEnt.agg6 (CEnt.refl _) (CEnt.refl _) (CEnt.refl _) (CEnt.refl _) (CEnt.refl _) (CEnt.refl _)) | exact se_frzB _ rfl rfl rfl (by simp) (fun _ _ => CEnt.refl _)) (.cons (by first | exact se rfl (CEnt.refl _) | exact se rfl CEnt.nil | exact se rfl CEnt.nilB | exact se rfl (CEnt.osI rfl) | exact se rfl CEnt.opI | exact se_nilO rfl | exact se rfl (CEnt.agg2 (CEnt.refl _) (CEnt.refl _)) | exact se rfl (CEnt.agg3 (CEnt.refl _) (CEnt.refl _) (CEnt.refl _)) | exact se rfl (CEnt.agg4 (CEnt.refl _) (CEnt.refl _) (CEnt.refl _) (CEnt.refl _)) | exact se rfl (CEnt.agg5 (CEnt.refl _) (CEnt.refl _) (CEnt.refl _) (CEnt.refl _) (CEnt.refl _)) | exact se rfl (CEnt.agg6 (CEnt.refl _) (CEnt.refl _) (CEnt.refl _) (CEnt.refl _) (CEnt.refl _) (CEnt.refl _)) | exact se_frzB _ rfl rfl rfl (by simp) (fun _ _ => CEnt.refl _)) .nil)) rfl rfl ?_)
              refine x_one (wanted_none rfl) (e_callP rfl (by kernel_rfl) (allows_ac (ofR l a.1) a) (.cons (by first | exact se rfl (CEnt.refl _) | exact se rfl CEnt.nil | exact se rfl CEnt.nilB | exact se rfl (CEnt.osI rfl) | exact se rfl CEnt.opI | exact se_nilO rfl | exact se rfl (CEnt.agg2 (CEnt.refl _) (CEnt.refl _)) | exact se rfl (CEnt.agg3 (CEnt.refl _) (CEnt.refl _) (CEnt.refl _)) | exact se rfl (CEnt.agg4 (CEnt.refl _) (CEnt.refl _) (CEnt.refl _) (CEnt.refl _)) | exact se rfl (CEnt.agg5 (CEnt.refl _) (CEnt.refl _) (CEnt.refl _) (CEnt.refl _) (CEnt.refl _)) | exact se rfl (CEnt.agg6 (CEnt.refl _) (CEnt.refl _) (CEnt.refl _) (CEnt.refl _) (CEnt.refl _) (CEnt.refl _)) | exact se_frzB _ rfl rfl rfl (by simp) (fun _ _ => CEnt.refl _)) (.cons (by first | exact se rfl (CEnt.refl _) | exact se rfl CEnt.nil | exact se rfl CEnt.nilB | exact se rfl (CEnt.osI rfl) | exact se rfl CEnt.opI | exact se_nilO rfl | exact se rfl (CEnt.agg2 (CEnt.refl _) (CEnt.refl _)) | exact se rfl (CEnt.agg3 (CEnt.refl _) (CEnt.refl _) (CEnt.refl _)) | exact se rfl (CEnt.agg4 (CEnt.refl _) (CEnt.refl _) (CEnt.refl _) (CEnt.refl _)) | exact se rfl (CEnt.agg5 (CEnt.refl _) (CEnt.refl _) (CEnt.refl _) (CEnt.refl _) (CEnt.refl _)) | exact se rfl (CEnt.agg6 (CEnt.refl _) (CEnt.refl _) (CEnt.refl _) (CEnt.refl _) (CEnt.refl _) (CEnt.refl _)) | exact se_frzB _ rfl rfl rfl (by simp) (fun _ _ => CEnt.refl _)) .nil)) rfl rfl ?_)
              refine y_rd (wanted_none rfl) rfl rfl (rd_eqB rfl rfl rfl Try.underlying4) ?_
              refine y_rd (wanted_none rfl) rfl rfl (rd_assign (v := .c _) rfl rfl) ?_
              refine x_done ?_
              refine then_norm ?_
              refine code_ret ?_
              refine end_val (.inl rfl) (res_1 rfl (arv_tmp rfl)) ?_
              refine CEnt.bool ?_
              have := which_of l a
              simp [this]
          · refine q_skip (wanted_is rfl rfl rfl rfl false rfl) rfl rfl ?_
            refine q_rd (wanted_none rfl) rfl rfl (rd_pickF (v := .c _) rfl rfl rfl) ?_
            refine q_rd (wanted_none rfl) rfl rfl (rd_move (v := .c _) rfl rfl) ?_
            refine q_skip (wanted_is rfl rfl rfl rfl false rfl) rfl rfl ?_
            refine q_skip (wanted_is rfl rfl rfl rfl false rfl) rfl rfl ?_
            refine q_skip (wanted_is rfl rfl rfl rfl false rfl) rfl rfl ?_
            refine q_skip (wanted_is rfl rfl rfl rfl false rfl) rfl rfl ?_
            refine q_rd (wanted_none rfl) rfl rfl (rd_pickF (v := .c _) rfl rfl rfl) ?_
            refine seq_nil ?_
            refine then_norm ?_
            refine code_condF rfl ?_
            refine code_skip ?_
            refine then_norm ?_
            refine code_seq ?_
            refine code_draw (.rd 0 (.rd 1 (.rd 2 (.rd 4 (.rd 6 (.one 3 (.one 5 (.rd 7 (.rd 8 .done))))))))) (by kernel_rfl) (by kernel_rfl) rfl (by kernel_rfl) (by kernel_rfl) ?_
            simp only [opsOfT, List.getElem?_toArray, List.getElem?_cons_zero, List.getElem?_cons_succ]
            first | refine y_rd (wanted_none rfl) rfl rfl (rd_move (v := .rs _ _ _) rfl rfl) ?_ | refine y_rd (wanted_none rfl) rfl rfl (rd_move (v := .os _ _ _ _ _) rfl rfl) ?_ | refine y_rd (wanted_none rfl) rfl rfl (rd_move (v := .c _) rfl rfl) ?_ | refine y_rd (wanted_none rfl) rfl rfl (rd_move (v := .pv _) rfl rfl) ?_ | refine y_rd (wanted_none rfl) rfl rfl (rd_move (v := .top) rfl rfl) ?_
            first | refine y_rd (wanted_none rfl) rfl rfl (rd_faddrO rfl rfl Try.underlying28 rfl sz26 rfl) ?_ | refine y_rd (wanted_none rfl) rfl rfl (rd_faddrR rfl rfl Try.underlying28 rfl sz26 rfl) ?_
            first | refine y_rdO (wanted_none rfl) rfl rfl (rd_loadOA rfl rfl (.inl rfl) Try.underlying26 ag26 sz26 (by first | decide | (first | omega | decide | (dsimp only at *; omega)))) ?_ | refine y_rd (wanted_none rfl) rfl rfl (rd_loadRA rfl rfl Try.underlying26 ag26 sz26 (by first | decide | (first | omega | decide | (dsimp only at *; omega)))) ?_ | refine y_rdO (wanted_none rfl) rfl rfl (rd_loadOA rfl rfl (.inr rfl) Try.underlying26 ag26 sz26 (by first | decide | (first | omega | decide | (dsimp only at *; omega)))) ?_
            first | refine y_rdO (wanted_none rfl) rfl rfl (rd_loadOA rfl rfl (.inl rfl) Try.underlying28 ag28 sz28 (by first | decide | (first | omega | decide | (dsimp only at *; omega)))) ?_ | refine y_rd (wanted_none rfl) rfl rfl (rd_loadRA rfl rfl Try.underlying28 ag28 sz28 (by first | decide | (first | omega | decide | (dsimp only at *; omega)))) ?_ | refine y_rdO (wanted_none rfl) rfl rfl (rd_loadOA rfl rfl (.inr rfl) Try.underlying28 ag28 sz28 (by first | decide | (first | omega | decide | (dsimp only at *; omega)))) ?_
            refine y_rd (wanted_none rfl) rfl rfl (rd_move (v := .c _) rfl rfl) ?_
            refine x_one (wanted_none rfl) (e_callP rfl (by kernel_rfl) (of_ac l a.1) (.cons (by first | exact se rfl (CEnt.refl _) | exact se rfl CEnt.nil | exact se rfl CEnt.nilB | exact se rfl (CEnt.osI rfl) | exact se rfl CEnt.opI | exact se_nilO rfl | exact se rfl (CEnt.agg2 (CEnt.refl _) (CEnt.refl _)) | exact se rfl (CEnt.agg3 (CEnt.refl _) (CEnt.refl _) (CEnt.refl _)) | exact se rfl (CEnt.agg4 (CEnt.refl _) (CEnt.refl _) (CEnt.refl _) (CEnt.refl _)) | exact se rfl (CEnt.agg5 (CEnt.refl _) (CEnt.refl _) (CEnt.refl _) (CEnt.refl _) (CEnt.refl _)) | exact se rfl (CEnt.agg6 (CEnt.refl _) (CEnt.refl _) (CEnt.refl _) (CEnt.refl _) (CEnt.refl _) (CEnt.refl _)) | exact se_frzB _ rfl rfl rfl (by simp) (fun _ _ => CEnt.refl _)) (.cons (by first | exact se rfl (CEnt.refl _) | exact se rfl CEnt.nil | exact se rfl CEnt.nilB | exact se rfl (CEnt.osI rfl) | exact se rfl CEnt.opI | exact se_nilO rfl | exact se rfl (CEnt.agg2 (CEnt.refl _) (CEnt.refl _)) | exact se rfl (CEnt.agg3 (CEnt.refl _) (CEnt.refl _) (CEnt.refl _)) | exact se rfl (CEnt.agg4 (CEnt.refl _) (CEnt.refl _) (CEnt.refl _) (CEnt.refl _)) | exact se rfl (CEnt.agg5 (CEnt.refl _) (CEnt.refl _) (CEnt.refl _) (CEnt.refl _) (CEnt.refl _)) | exact se rfl (CEnt.agg6 (CEnt.refl _) (CEnt.refl _) (CEnt.refl _) (CEnt.refl _) (CEnt.refl _) (CEnt.refl _)) | exact se_frzB _ rfl rfl rfl (by simp) (fun _ _ => CEnt.refl _)) .nil)) rfl rfl ?_)
            refine x_one (wanted_none rfl) (e_callP rfl (by kernel_rfl) (allows_ac (ofR l a.1) a) (.cons (by first | exact se rfl (CEnt.refl _) | exact se rfl CEnt.nil | exact se rfl CEnt.nilB | exact se rfl (CEnt.osI rfl) | exact se rfl CEnt.opI | exact se_nilO rfl | exact se rfl (CEnt.agg2 (CEnt.refl _) (CEnt.refl _)) | exact se rfl (CEnt.agg3 (CEnt.refl _) (CEnt.refl _) (CEnt.refl _)) | exact se rfl (CEnt.agg4 (CEnt.refl _) (CEnt.refl _) (CEnt.refl _) (CEnt.refl _)) | exact se rfl (CEnt.agg5 (CEnt.refl _) (CEnt.refl _) (CEnt.refl _) (CEnt.refl _) (CEnt.refl _)) | exact se rfl (CEnt.agg6 (CEnt.refl _) (CEnt.refl _) (CEnt.refl _) (CEnt.refl _) (CEnt.refl _) (CEnt.refl _)) | exact se_frzB _ rfl rfl rfl (by simp) (fun _ _ => CEnt.refl _)) (.cons (by first | exact se rfl (CEnt.refl _) | exact se rfl CEnt.nil | exact se rfl CEnt.nilB | exact se rfl (CEnt.osI rfl) | exact se rfl CEnt.opI | exact se_nilO rfl | exact se rfl (CEnt.agg2 (CEnt.refl _) (CEnt.refl _)) | exact se rfl (CEnt.agg3 (CEnt.refl _) (CEnt.refl _) (CEnt.refl _)) | exact se rfl (CEnt.agg4 (CEnt.refl _) (CEnt.refl _) (CEnt.refl _) (CEnt.refl _)) | exact se rfl (CEnt.agg5 (CEnt.refl _) (CEnt.refl _) (CEnt.refl _) (CEnt.refl _) (CEnt.refl _)) | exact se rfl (CEnt.agg6 (CEnt.refl _) (CEnt.refl _) (CEnt.refl _) (CEnt.refl _) (CEnt.refl _) (CEnt.refl _)) | exact se_frzB _ rfl rfl rfl (by simp) (fun _ _ => CEnt.refl _)) .nil)) rfl rfl ?_)
            refine y_rd (wanted_none rfl) rfl rfl (rd_eqB rfl rfl rfl Try.underlying4) ?_
            refine y_rd (wanted_none rfl) rfl rfl (rd_assign (v := .c _) rfl rfl) ?_
            refine x_done ?_
            refine then_norm ?_
            refine code_ret ?_
            refine end_val (.inl rfl) (res_1 rfl (arv_tmp rfl)) ?_
            refine CEnt.bool ?_
            have := which_of l a
            simp [this]
      · refine z_ex (wanted_none rfl) (e_buildSlice (n := 5) rfl Try.underlying22 sz24 zr24 rfl rfl rfl rfl rfl rfl rfl (fun p5 => ?_))
        refine z_ex (wanted_none rfl) (e_buildSlice (n := 0) rfl Try.underlying22 sz24 zr24 rfl rfl rfl rfl rfl rfl rfl (fun p6 => ?_))
        refine z_md (wanted_none rfl) rfl (m_appendC (l := []) (rowC_row 5 ruleF r0) rfl rfl rfl rfl (Nat.zero_le _) (fun j hj => absurd hj (by simp)) (src_rs rfl) rfl (fun j hj => CEnt.refl _) Try.underlying22 nu22 sz24 zr24 by24 rfl (by simp; omega) (by simp; omega) (fun j hj => leaf_rule _ (Nat.mod_lt _ (by decide))) rfl rfl rfl (fun p7 => ?_))
        refine z_md (wanted_none rfl) rfl (m_appendC (l := [] ++ l) (l2 := [m]) (rowC_row 5 ruleF r0) rfl rfl rfl rfl (Nat.le_refl _) (fun j hj => CEnt.refl _) (src_os rfl (.inl rfl) (by decide)) rfl (fun j hj => by rcases j with _ | _ | _ | _ | _ | j <;> first | exact CEnt.refl _ | (exfalso; simp at hj; omega)) Try.underlying22 nu22 sz24 zr24 by24 rfl (by simp; omega) (by simp; omega) (leaf_flk rfl rfl) rfl rfl rfl (fun p8 => ?_))
        first | refine zz_rd (wanted_none rfl) rfl rfl (rd_assign (v := .rs _ _ _) rfl rfl) ?_ | refine zz_rd (wanted_none rfl) rfl rfl (rd_assign (v := .os _ _ _ _ _) rfl rfl) ?_ | refine zz_rd (wanted_none rfl) rfl rfl (rd_assign (v := .c _) rfl rfl) ?_ | refine zz_rd (wanted_none rfl) rfl rfl (rd_assign (v := .pv _) rfl rfl) ?_ | refine zz_rd (wanted_none rfl) rfl rfl (rd_assign (v := .top) rfl rfl) ?_
        refine z_done ?_
        refine then_norm ?_
        refine code_seq ?_
        refine code_seq ?_
        first | (refine code_ent (freeze 3 rfl) ?_; refine code_ent (thaw 8 (fun i => ruleF ((l ++ [m]).getD i r0)) rfl rfl (by simp) (fun a b ha hb => CEnt.of_eq (by rw [Nat.zero_add]; exact rowF_at (k := 5) hb))) ?_) | (refine code_ent (freeze 4 rfl) ?_; refine code_ent (thaw 8 (fun i => ruleF ((l ++ [m]).getD i r0)) rfl rfl (by simp) (fun a b ha hb => CEnt.of_eq (by rw [Nat.zero_add]; exact rowF_at (k := 5) hb))) ?_)
        refine code_region ?_
        first | refine q_rd (wanted_none rfl) rfl rfl (rd_move (v := .rs _ _ _) rfl rfl) ?_ | refine q_rd (wanted_none rfl) rfl rfl (rd_move (v := .os _ _ _ _ _) rfl rfl) ?_ | refine q_rd (wanted_none rfl) rfl rfl (rd_move (v := .c _) rfl rfl) ?_ | refine q_rd (wanted_none rfl) rfl rfl (rd_move (v := .pv _) rfl rfl) ?_ | refine q_rd (wanted_none rfl) rfl rfl (rd_move (v := .top) rfl rfl) ?_
        refine seq_ex (wanted_none rfl) (e_callP rfl (by kernel_rfl) (tright_ac (l ++ [m])) (.cons (by first | exact se rfl (CEnt.refl _) | exact se rfl CEnt.nil | exact se rfl CEnt.nilB | exact se rfl (CEnt.osI rfl) | exact se rfl CEnt.opI | exact se_nilO rfl | exact se rfl (CEnt.agg2 (CEnt.refl _) (CEnt.refl _)) | exact se rfl (CEnt.agg3 (CEnt.refl _) (CEnt.refl _) (CEnt.refl _)) | exact se rfl (CEnt.agg4 (CEnt.refl _) (CEnt.refl _) (CEnt.refl _) (CEnt.refl _)) | exact se rfl (CEnt.agg5 (CEnt.refl _) (CEnt.refl _) (CEnt.refl _) (CEnt.refl _) (CEnt.refl _)) | exact se rfl (CEnt.agg6 (CEnt.refl _) (CEnt.refl _) (CEnt.refl _) (CEnt.refl _) (CEnt.refl _) (CEnt.refl _)) | exact se_frzB _ rfl rfl rfl (by simp) (fun _ _ => CEnt.refl _)) .nil) rfl rfl ?_)
        refine q_rd (wanted_none rfl) rfl rfl (rd_move (v := .c _) rfl rfl) ?_
        first | refine seq_splitD (d := 28) rfl rfl (fun g88 => ?_) (fun g88 => ?_) | refine seq_split (d := 28) rfl rfl (fun g88 => ?_) (fun g88 => ?_)
        · refine q_rd (wanted_is rfl rfl rfl rfl true rfl) rfl rfl (rd_move (v := .c _) rfl rfl) ?_
          refine q_rd (wanted_none rfl) rfl rfl (rd_pickT (v := .c _) rfl rfl rfl) ?_
          refine q_rd (wanted_none rfl) rfl rfl (rd_move (v := .c _) rfl rfl) ?_
          first | refine seq_splitD (d := 31) rfl rfl (fun g88_2 => ?_) (fun g88_2 => ?_) | refine seq_split (d := 31) rfl rfl (fun g88_2 => ?_) (fun g88_2 => ?_)
          · first | refine q_rd (wanted_is rfl rfl rfl rfl true rfl) rfl rfl (rd_move (v := .rs _ _ _) rfl rfl) ?_ | refine q_rd (wanted_is rfl rfl rfl rfl true rfl) rfl rfl (rd_move (v := .os _ _ _ _ _) rfl rfl) ?_ | refine q_rd (wanted_is rfl rfl rfl rfl true rfl) rfl rfl (rd_move (v := .c _) rfl rfl) ?_ | refine q_rd (wanted_is rfl rfl rfl rfl true rfl) rfl rfl (rd_move (v := .pv _) rfl rfl) ?_ | refine q_rd (wanted_is rfl rfl rfl rfl true rfl) rfl rfl (rd_move (v := .top) rfl rfl) ?_
            first | refine q_rdO (wanted_is rfl rfl rfl rfl true rfl) rfl rfl (rd_loadOA rfl rfl (.inl rfl) Try.underlying28 ag28 sz28 (by first | decide | (first | omega | decide | (dsimp only at *; omega)))) ?_ | refine q_rd (wanted_is rfl rfl rfl rfl true rfl) rfl rfl (rd_loadRA rfl rfl Try.underlying28 ag28 sz28 (by first | decide | (first | omega | decide | (dsimp only at *; omega)))) ?_ | refine q_rdO (wanted_is rfl rfl rfl rfl true rfl) rfl rfl (rd_loadOA rfl rfl (.inr rfl) Try.underlying28 ag28 sz28 (by first | decide | (first | omega | decide | (dsimp only at *; omega)))) ?_
            refine seq_ex (wanted_is rfl rfl rfl rfl true rfl) (e_callP rfl (by kernel_rfl) (allows_ac (l ++ [m]) a) (.cons (by first | exact se rfl (CEnt.refl _) | exact se rfl CEnt.nil | exact se rfl CEnt.nilB | exact se rfl (CEnt.osI rfl) | exact se rfl CEnt.opI | exact se_nilO rfl | exact se rfl (CEnt.agg2 (CEnt.refl _) (CEnt.refl _)) | exact se rfl (CEnt.agg3 (CEnt.refl _) (CEnt.refl _) (CEnt.refl _)) | exact se rfl (CEnt.agg4 (CEnt.refl _) (CEnt.refl _) (CEnt.refl _) (CEnt.refl _)) | exact se rfl (CEnt.agg5 (CEnt.refl _) (CEnt.refl _) (CEnt.refl _) (CEnt.refl _) (CEnt.refl _)) | exact se rfl (CEnt.agg6 (CEnt.refl _) (CEnt.refl _) (CEnt.refl _) (CEnt.refl _) (CEnt.refl _) (CEnt.refl _)) | exact se_frzB _ rfl rfl rfl (by simp) (fun _ _ => CEnt.refl _)) (.cons (by first | exact se rfl (CEnt.refl _) | exact se rfl CEnt.nil | exact se rfl CEnt.nilB | exact se rfl (CEnt.osI rfl) | exact se rfl CEnt.opI | exact se_nilO rfl | exact se rfl (CEnt.agg2 (CEnt.refl _) (CEnt.refl _)) | exact se rfl (CEnt.agg3 (CEnt.refl _) (CEnt.refl _) (CEnt.refl _)) | exact se rfl (CEnt.agg4 (CEnt.refl _) (CEnt.refl _) (CEnt.refl _) (CEnt.refl _)) | exact se rfl (CEnt.agg5 (CEnt.refl _) (CEnt.refl _) (CEnt.refl _) (CEnt.refl _) (CEnt.refl _)) | exact se rfl (CEnt.agg6 (CEnt.refl _) (CEnt.refl _) (CEnt.refl _) (CEnt.refl _) (CEnt.refl _) (CEnt.refl _)) | exact se_frzB _ rfl rfl rfl (by simp) (fun _ _ => CEnt.refl _)) .nil)) rfl rfl ?_)
            first | refine q_rd (wanted_is rfl rfl rfl rfl true rfl) rfl rfl (rd_notD rfl rfl) ?_ | refine q_rd (wanted_is rfl rfl rfl rfl true rfl) rfl rfl (rd_not rfl rfl) ?_
            refine q_rd (wanted_none rfl) rfl rfl (rd_pickT (v := .c _) rfl rfl rfl) ?_
            refine seq_nil ?_
            refine then_norm ?_
            first | refine code_condSD rfl rfl (fun h88 => ?_) (fun h88 => ?_) | refine code_condS rfl rfl (fun h88 => ?_) (fun h88 => ?_)
            · refine code_seq ?_
              refine code_region ?_
              refine q_rd (wanted_none rfl) rfl rfl (rd_assign (v := .c _) rfl rfl) ?_
              refine seq_nil ?_
              refine then_norm ?_
              refine code_ret ?_
              refine then_ret ?_
              refine end_val (.inl rfl) (res_1 rfl (arv_tmp rfl)) ?_
              exfalso
              have := @which_more l m a
              simp_all
            · refine code_skip ?_
              refine then_norm ?_
              refine code_seq ?_
              refine code_draw (.rd 0 (.rd 1 (.rd 2 (.rd 4 (.rd 6 (.one 3 (.one 5 (.rd 7 (.rd 8 .done))))))))) (by kernel_rfl) (by kernel_rfl) rfl (by kernel_rfl) (by kernel_rfl) ?_
              simp only [opsOfT, List.getElem?_toArray, List.getElem?_cons_zero, List.getElem?_cons_succ]
              first | refine y_rd (wanted_none rfl) rfl rfl (rd_move (v := .rs _ _ _) rfl rfl) ?_ | refine y_rd (wanted_none rfl) rfl rfl (rd_move (v := .os _ _ _ _ _) rfl rfl) ?_ | refine y_rd (wanted_none rfl) rfl rfl (rd_move (v := .c _) rfl rfl) ?_ | refine y_rd (wanted_none rfl) rfl rfl (rd_move (v := .pv _) rfl rfl) ?_ | refine y_rd (wanted_none rfl) rfl rfl (rd_move (v := .top) rfl rfl) ?_
              first | refine y_rd (wanted_none rfl) rfl rfl (rd_faddrO rfl rfl Try.underlying28 rfl sz26 rfl) ?_ | refine y_rd (wanted_none rfl) rfl rfl (rd_faddrR rfl rfl Try.underlying28 rfl sz26 rfl) ?_
              first | refine y_rdO (wanted_none rfl) rfl rfl (rd_loadOA rfl rfl (.inl rfl) Try.underlying26 ag26 sz26 (by first | decide | (first | omega | decide | (dsimp only at *; omega)))) ?_ | refine y_rd (wanted_none rfl) rfl rfl (rd_loadRA rfl rfl Try.underlying26 ag26 sz26 (by first | decide | (first | omega | decide | (dsimp only at *; omega)))) ?_ | refine y_rdO (wanted_none rfl) rfl rfl (rd_loadOA rfl rfl (.inr rfl) Try.underlying26 ag26 sz26 (by first | decide | (first | omega | decide | (dsimp only at *; omega)))) ?_
              first | refine y_rdO (wanted_none rfl) rfl rfl (rd_loadOA rfl rfl (.inl rfl) Try.underlying28 ag28 sz28 (by first | decide | (first | omega | decide | (dsimp only at *; omega)))) ?_ | refine y_rd (wanted_none rfl) rfl rfl (rd_loadRA rfl rfl Try.underlying28 ag28 sz28 (by first | decide | (first | omega | decide | (dsimp only at *; omega)))) ?_ | refine y_rdO (wanted_none rfl) rfl rfl (rd_loadOA rfl rfl (.inr rfl) Try.underlying28 ag28 sz28 (by first | decide | (first | omega | decide | (dsimp only at *; omega)))) ?_
              refine y_rd (wanted_none rfl) rfl rfl (rd_move (v := .c _) rfl rfl) ?_
              refine x_one (wanted_none rfl) (e_callP rfl (by kernel_rfl) (of_ac l a.1) (.cons (by first | exact se rfl (CEnt.refl _) | exact se rfl CEnt.nil | exact se rfl CEnt.nilB | exact se rfl (CEnt.osI rfl) | exact se rfl CEnt.opI | exact se_nilO rfl | exact se rfl (CEnt.agg2 (CEnt.refl _) (CEnt.refl _)) | exact se rfl (CEnt.agg3 (CEnt.refl _) (CEnt.refl _) (CEnt.refl _)) | exact se rfl (CEnt.agg4 (CEnt.refl _) (CEnt.refl _) (CEnt.refl _) (CEnt.refl _)) | exact se rfl (CEnt.agg5 (CEnt.refl _) (CEnt.refl _) (CEnt.refl _) (CEnt.refl _) (CEnt.refl _)) | exact se rfl (CEnt.agg6 (CEnt.refl _) (CEnt.refl _) (CEnt.refl _) (CEnt.refl _) (CEnt.refl _) (CEnt.refl _)) | exact se_frzB _ rfl rfl rfl (by simp) (fun _ _ => CEnt.refl _)) (.cons (by first | exact se rfl (CEnt.refl _) | exact se rfl CEnt.nil | exact se rfl CEnt.nilB | exact se rfl (CEnt.osI rfl) | exact se rfl CEnt.opI | exact se_nilO rfl | exact se rfl (CEnt.agg2 (CEnt.refl _) (CEnt.refl _)) | exact se rfl (CEnt.agg3 (CEnt.refl _) (CEnt.refl _) (CEnt.refl _)) | exact se rfl (CEnt.agg4 (CEnt.refl _) (CEnt.refl _) (CEnt.refl _) (CEnt.refl _)) | exact se rfl (CEnt.agg5 (CEnt.refl _) (CEnt.refl _) (CEnt.refl _) (CEnt.refl _) (CEnt.refl _)) | exact se rfl (CEnt.agg6 (CEnt.refl _) (CEnt.refl _) (CEnt.refl _) (CEnt.refl _) (CEnt.refl _) (CEnt.refl _)) | exact se_frzB _ rfl rfl rfl (by simp) (fun _ _ => CEnt.refl _)) .nil)) rfl rfl ?_)
              refine x_one (wanted_none rfl) (e_callP rfl (by kernel_rfl) (allows_ac (ofR l a.1) a) (.cons (by first | exact se rfl (CEnt.refl _) | exact se rfl CEnt.nil | exact se rfl CEnt.nilB | exact se rfl (CEnt.osI rfl) | exact se rfl CEnt.opI | exact se_nilO rfl | exact se rfl (CEnt.agg2 (CEnt.refl _) (CEnt.refl _)) | exact se rfl (CEnt.agg3 (CEnt.refl _) (CEnt.refl _) (CEnt.refl _)) | exact se rfl (CEnt.agg4 (CEnt.refl _) (CEnt.refl _) (CEnt.refl _) (CEnt.refl _)) | exact se rfl (CEnt.agg5 (CEnt.refl _) (CEnt.refl _) (CEnt.refl _) (CEnt.refl _) (CEnt.refl _)) | exact se rfl (CEnt.agg6 (CEnt.refl _) (CEnt.refl _) (CEnt.refl _) (CEnt.refl _) (CEnt.refl _) (CEnt.refl _)) | exact se_frzB _ rfl rfl rfl (by simp) (fun _ _ => CEnt.refl _)) (.cons (by first | exact se rfl (CEnt.refl _) | exact se rfl CEnt.nil | exact se rfl CEnt.nilB | exact se rfl (CEnt.osI rfl) | exact se rfl CEnt.opI | exact se_nilO rfl | exact se rfl (CEnt.agg2 (CEnt.refl _) (CEnt.refl _)) | exact se rfl (CEnt.agg3 (CEnt.refl _) (CEnt.refl _) (CEnt.refl _)) | exact se rfl (CEnt.agg4 (CEnt.refl _) (CEnt.refl _) (CEnt.refl _) (CEnt.refl _)) | exact se rfl (CEnt.agg5 (CEnt.refl _) (CEnt.refl _) (CEnt.refl _) (CEnt.refl _) (CEnt.refl _)) | exact se rfl (CEnt.agg6 (CEnt.refl _) (CEnt.refl _) (CEnt.refl _) (CEnt.refl _) (CEnt.refl _) (CEnt.refl _)) | exact se_frzB _ rfl rfl rfl (by simp) (fun _ _ => CEnt.refl _)) .nil)) rfl rfl ?_)
              refine y_rd (wanted_none rfl) rfl rfl (rd_eqB rfl rfl rfl Try.underlying4) ?_
              refine y_rd (wanted_none rfl) rfl rfl (rd_assign (v := .c _) rfl rfl) ?_
              refine x_done ?_
              refine then_norm ?_
              refine code_ret ?_
              refine end_val (.inl rfl) (res_1 rfl (arv_tmp rfl)) ?_
              refine CEnt.bool ?_
              have := which_of l a
              simp [this]
          · refine q_skip (wanted_is rfl rfl rfl rfl false rfl) rfl rfl ?_
            refine q_skip (wanted_is rfl rfl rfl rfl false rfl) rfl rfl ?_
            refine q_skip (wanted_is rfl rfl rfl rfl false rfl) rfl rfl ?_
            refine q_skip (wanted_is rfl rfl rfl rfl false rfl) rfl rfl ?_
            refine q_rd (wanted_none rfl) rfl rfl (rd_pickF (v := .c _) rfl rfl rfl) ?_
            refine seq_nil ?_
            refine then_norm ?_
            refine code_condF rfl ?_
            refine code_skip ?_
            refine then_norm ?_
            refine code_seq ?_
            refine code_draw (.rd 0 (.rd 1 (.rd 2 (.rd 4 (.rd 6 (.one 3 (.one 5 (.rd 7 (.rd 8 .done))))))))) (by kernel_rfl) (by kernel_rfl) rfl (by kernel_rfl) (by kernel_rfl) ?_
            simp only [opsOfT, List.getElem?_toArray, List.getElem?_cons_zero, List.getElem?_cons_succ]
            first | refine y_rd (wanted_none rfl) rfl rfl (rd_move (v := .rs _ _ _) rfl rfl) ?_ | refine y_rd (wanted_none rfl) rfl rfl (rd_move (v := .os _ _ _ _ _) rfl rfl) ?_ | refine y_rd (wanted_none rfl) rfl rfl (rd_move (v := .c _) rfl rfl) ?_ | refine y_rd (wanted_none rfl) rfl rfl (rd_move (v := .pv _) rfl rfl) ?_ | refine y_rd (wanted_none rfl) rfl rfl (rd_move (v := .top) rfl rfl) ?_
            first | refine y_rd (wanted_none rfl) rfl rfl (rd_faddrO rfl rfl Try.underlying28 rfl sz26 rfl) ?_ | refine y_rd (wanted_none rfl) rfl rfl (rd_faddrR rfl rfl Try.underlying28 rfl sz26 rfl) ?_
            first | refine y_rdO (wanted_none rfl) rfl rfl (rd_loadOA rfl rfl (.inl rfl) Try.underlying26 ag26 sz26 (by first | decide | (first | omega | decide | (dsimp only at *; omega)))) ?_ | refine y_rd (wanted_none rfl) rfl rfl (rd_loadRA rfl rfl Try.underlying26 ag26 sz26 (by first | decide | (first | omega | decide | (dsimp only at *; omega)))) ?_ | refine y_rdO (wanted_none rfl) rfl rfl (rd_loadOA rfl rfl (.inr rfl) Try.underlying26 ag26 sz26 (by first | decide | (first | omega | decide | (dsimp only at *; omega)))) ?_
            first | refine y_rdO (wanted_none rfl) rfl rfl (rd_loadOA rfl rfl (.inl rfl) Try.underlying28 ag28 sz28 (by first | decide | (first | omega | decide | (dsimp only at *; omega)))) ?_ | refine y_rd (wanted_none rfl) rfl rfl (rd_loadRA rfl rfl Try.underlying28 ag28 sz28 (by first | decide | (first | omega | decide | (dsimp only at *; omega)))) ?_ | refine y_rdO (wanted_none rfl) rfl rfl (rd_loadOA rfl rfl (.inr rfl) Try.underlying28 ag28 sz28 (by first | decide | (first | omega | decide | (dsimp only at *; omega)))) ?_
            refine y_rd (wanted_none rfl) rfl rfl (rd_move (v := .c _) rfl rfl) ?_
            refine x_one (wanted_none rfl) (e_callP rfl (by kernel_rfl) (of_ac l a.1) (.cons (by first | exact se rfl (CEnt.refl _) | exact se rfl CEnt.nil | exact se rfl CEnt.nilB | exact se rfl (CEnt.osI rfl) | exact se rfl CEnt.opI | exact se_nilO rfl | exact se rfl (CEnt.agg2 (CEnt.refl _) (CEnt.refl _)) | exact se rfl (CEnt.agg3 (CEnt.refl _) (CEnt.refl _) (CEnt.refl _)) | exact se rfl (CEnt.agg4 (CEnt.refl _) (CEnt.refl _) (CEnt.refl _) (CEnt.refl _)) | exact se rfl (CEnt.agg5 (CEnt.refl _) (CEnt.refl _) (CEnt.refl _) (CEnt.refl _) (CEnt.refl _)) | exact se rfl (CEnt.agg6 (CEnt.refl _) (CEnt.refl _) (CEnt.refl _) (CEnt.refl _) (CEnt.refl _) (CEnt.refl _)) | exact se_frzB _ rfl rfl rfl (by simp) (fun _ _ => CEnt.refl _)) (.cons (by first | exact se rfl (CEnt.refl _) | exact se rfl CEnt.nil | exact se rfl CEnt.nilB | exact se rfl (CEnt.osI rfl) | exact se rfl CEnt.opI | exact se_nilO rfl | exact se rfl (CEnt.agg2 (CEnt.refl _) (CEnt.refl _)) | exact se rfl (CEnt.agg3 (CEnt.refl _) (CEnt.refl _) (CEnt.refl _)) | exact se rfl (CEnt.agg4 (CEnt.refl _) (CEnt.refl _) (CEnt.refl _) (CEnt.refl _)) | exact se rfl (CEnt.agg5 (CEnt.refl _) (CEnt.refl _) (CEnt.refl _) (CEnt.refl _) (CEnt.refl _)) | exact se rfl (CEnt.agg6 (CEnt.refl _) (CEnt.refl _) (CEnt.refl _) (CEnt.refl _) (CEnt.refl _) (CEnt.refl _)) | exact se_frzB _ rfl rfl rfl (by simp) (fun _ _ => CEnt.refl _)) .nil)) rfl rfl ?_)
            refine x_one (wanted_none rfl) (e_callP rfl (by kernel_rfl) (allows_ac (ofR l a.1) a) (.cons (by first | exact se rfl (CEnt.refl _) | exact se rfl CEnt.nil | exact se rfl CEnt.nilB | exact se rfl (CEnt.osI rfl) | exact se rfl CEnt.opI | exact se_nilO rfl | exact se rfl (CEnt.agg2 (CEnt.refl _) (CEnt.refl _)) | exact se rfl (CEnt.agg3 (CEnt.refl _) (CEnt.refl _) (CEnt.refl _)) | exact se rfl (CEnt.agg4 (CEnt.refl _) (CEnt.refl _) (CEnt.refl _) (CEnt.refl _)) | exact se rfl (CEnt.agg5 (CEnt.refl _) (CEnt.refl _) (CEnt.refl _) (CEnt.refl _) (CEnt.refl _)) | exact se rfl (CEnt.agg6 (CEnt.refl _) (CEnt.refl _) (CEnt.refl _) (CEnt.refl _) (CEnt.refl _) (CEnt.refl _)) | exact se_frzB _ rfl rfl rfl (by simp) (fun _ _ => CEnt.refl _)) (.cons (by first | exact se rfl (CEnt.refl _) | exact se rfl CEnt.nil | exact se rfl CEnt.nilB | exact se rfl (CEnt.osI rfl) | exact se rfl CEnt.opI | exact se_nilO rfl | exact se rfl (CEnt.agg2 (CEnt.refl _) (CEnt.refl _)) | exact se rfl (CEnt.agg3 (CEnt.refl _) (CEnt.refl _) (CEnt.refl _)) | exact se rfl (CEnt.agg4 (CEnt.refl _) (CEnt.refl _) (CEnt.refl _) (CEnt.refl _)) | exact se rfl (CEnt.agg5 (CEnt.refl _) (CEnt.refl _) (CEnt.refl _) (CEnt.refl _) (CEnt.refl _)) | exact se rfl (CEnt.agg6 (CEnt.refl _) (CEnt.refl _) (CEnt.refl _) (CEnt.refl _) (CEnt.refl _) (CEnt.refl _)) | exact se_frzB _ rfl rfl rfl (by simp) (fun _ _ => CEnt.refl _)) .nil)) rfl rfl ?_)
            refine y_rd (wanted_none rfl) rfl rfl (rd_eqB rfl rfl rfl Try.underlying4) ?_
            refine y_rd (wanted_none rfl) rfl rfl (rd_assign (v := .c _) rfl rfl) ?_
            refine x_done ?_
            refine then_norm ?_
            refine code_ret ?_
            refine end_val (.inl rfl) (res_1 rfl (arv_tmp rfl)) ?_
            refine CEnt.bool ?_
            have := which_of l a
            simp [this]
        · refine q_skip (wanted_is rfl rfl rfl rfl false rfl) rfl rfl ?_
          refine q_rd (wanted_none rfl) rfl rfl (rd_pickF (v := .c _) rfl rfl rfl) ?_
          refine q_rd (wanted_none rfl) rfl rfl (rd_move (v := .c _) rfl rfl) ?_
          refine q_skip (wanted_is rfl rfl rfl rfl false rfl) rfl rfl ?_
          refine q_skip (wanted_is rfl rfl rfl rfl false rfl) rfl rfl ?_
          refine q_skip (wanted_is rfl rfl rfl rfl false rfl) rfl rfl ?_
          refine q_skip (wanted_is rfl rfl rfl rfl false rfl) rfl rfl ?_
          refine q_rd (wanted_none rfl) rfl rfl (rd_pickF (v := .c _) rfl rfl rfl) ?_
          refine seq_nil ?_
          refine then_norm ?_
          refine code_condF rfl ?_
          refine code_skip ?_
          refine then_norm ?_
          refine code_seq ?_
          refine code_draw (.rd 0 (.rd 1 (.rd 2 (.rd 4 (.rd 6 (.one 3 (.one 5 (.rd 7 (.rd 8 .done))))))))) (by kernel_rfl) (by kernel_rfl) rfl (by kernel_rfl) (by kernel_rfl) ?_
          simp only [opsOfT, List.getElem?_toArray, List.getElem?_cons_zero, List.getElem?_cons_succ]
          first | refine y_rd (wanted_none rfl) rfl rfl (rd_move (v := .rs _ _ _) rfl rfl) ?_ | refine y_rd (wanted_none rfl) rfl rfl (rd_move (v := .os _ _ _ _ _) rfl rfl) ?_ | refine y_rd (wanted_none rfl) rfl rfl (rd_move (v := .c _) rfl rfl) ?_ | refine y_rd (wanted_none rfl) rfl rfl (rd_move (v := .pv _) rfl rfl) ?_ | refine y_rd (wanted_none rfl) rfl rfl (rd_move (v := .top) rfl rfl) ?_
          first | refine y_rd (wanted_none rfl) rfl rfl (rd_faddrO rfl rfl Try.underlying28 rfl sz26 rfl) ?_ | refine y_rd (wanted_none rfl) rfl rfl (rd_faddrR rfl rfl Try.underlying28 rfl sz26 rfl) ?_
          first | refine y_rdO (wanted_none rfl) rfl rfl (rd_loadOA rfl rfl (.inl rfl) Try.underlying26 ag26 sz26 (by first | decide | (first | omega | decide | (dsimp only at *; omega)))) ?_ | refine y_rd (wanted_none rfl) rfl rfl (rd_loadRA rfl rfl Try.underlying26 ag26 sz26 (by first | decide | (first | omega | decide | (dsimp only at *; omega)))) ?_ | refine y_rdO (wanted_none rfl) rfl rfl (rd_loadOA rfl rfl (.inr rfl) Try.underlying26 ag26 sz26 (by first | decide | (first | omega | decide | (dsimp only at *; omega)))) ?_
          first | refine y_rdO (wanted_none rfl) rfl rfl (rd_loadOA rfl rfl (.inl rfl) Try.underlying28 ag28 sz28 (by first | decide | (first | omega | decide | (dsimp only at *; omega)))) ?_ | refine y_rd (wanted_none rfl) rfl rfl (rd_loadRA rfl rfl Try.underlying28 ag28 sz28 (by first | decide | (first | omega | decide | (dsimp only at *; omega)))) ?_ | refine y_rdO (wanted_none rfl) rfl rfl (rd_loadOA rfl rfl (.inr rfl) Try.underlying28 ag28 sz28 (by first | decide | (first | omega | decide | (dsimp only at *; omega)))) ?_
          refine y_rd (wanted_none rfl) rfl rfl (rd_move (v := .c _) rfl rfl) ?_
          refine x_one (wanted_none rfl) (e_callP rfl (by kernel_rfl) (of_ac l a.1) (.cons (by first | exact se rfl (CEnt.refl _) | exact se rfl CEnt.nil | exact se rfl CEnt.nilB | exact se rfl (CEnt.osI rfl) | exact se rfl CEnt.opI | exact se_nilO rfl | exact se rfl (CEnt.agg2 (CEnt.refl _) (CEnt.refl _)) | exact se rfl (CEnt.agg3 (CEnt.refl _) (CEnt.refl _) (CEnt.refl _)) | exact se rfl (CEnt.agg4 (CEnt.refl _) (CEnt.refl _) (CEnt.refl _) (CEnt.refl _)) | exact se rfl (CEnt.agg5 (CEnt.refl _) (CEnt.refl _) (CEnt.refl _) (CEnt.refl _) (CEnt.refl _)) | exact se rfl (CEnt.agg6 (CEnt.refl _) (CEnt.refl _) (CEnt.refl _) (CEnt.refl _) (CEnt.refl _) (CEnt.refl _)) | exact se_frzB _ rfl rfl rfl (by simp) (fun _ _ => CEnt.refl _)) (.cons (by first | exact se rfl (CEnt.refl _) | exact se rfl CEnt.nil | exact se rfl CEnt.nilB | exact se rfl (CEnt.osI rfl) | exact se rfl CEnt.opI | exact se_nilO rfl | exact se rfl (CEnt.agg2 (CEnt.refl _) (CEnt.refl _)) | exact se rfl (CEnt.agg3 (CEnt.refl _) (CEnt.refl _) (CEnt.refl _)) | exact se rfl (CEnt.agg4 (CEnt.refl _) (CEnt.refl _) (CEnt.refl _) (CEnt.refl _)) | exact se rfl (CEnt.agg5 (CEnt.refl _) (CEnt.refl _) (CEnt.refl _) (CEnt.refl _) (CEnt.refl _)) | exact se rfl (CEnt.agg6 (CEnt.refl _) (CEnt.refl _) (CEnt.refl _) (CEnt.refl _) (CEnt.refl _) (CEnt.refl _)) | exact se_frzB _ rfl rfl rfl (by simp) (fun _ _ => CEnt.refl _)) .nil)) rfl rfl ?_)
          refine x_one (wanted_none rfl) (e_callP rfl (by kernel_rfl) (allows_ac (ofR l a.1) a) (.cons (by first | exact se rfl (CEnt.refl _) | exact se rfl CEnt.nil | exact se rfl CEnt.nilB | exact se rfl (CEnt.osI rfl) | exact se rfl CEnt.opI | exact se_nilO rfl | exact se rfl (CEnt.agg2 (CEnt.refl _) (CEnt.refl _)) | exact se rfl (CEnt.agg3 (CEnt.refl _) (CEnt.refl _) (CEnt.refl _)) | exact se rfl (CEnt.agg4 (CEnt.refl _) (CEnt.refl _) (CEnt.refl _) (CEnt.refl _)) | exact se rfl (CEnt.agg5 (CEnt.refl _) (CEnt.refl _) (CEnt.refl _) (CEnt.refl _) (CEnt.refl _)) | exact se rfl (CEnt.agg6 (CEnt.refl _) (CEnt.refl _) (CEnt.refl _) (CEnt.refl _) (CEnt.refl _) (CEnt.refl _)) | exact se_frzB _ rfl rfl rfl (by simp) (fun _ _ => CEnt.refl _)) (.cons (by first | exact se rfl (CEnt.refl _) | exact se rfl CEnt.nil | exact se rfl CEnt.nilB | exact se rfl (CEnt.osI rfl) | exact se rfl CEnt.opI | exact se_nilO rfl | exact se rfl (CEnt.agg2 (CEnt.refl _) (CEnt.refl _)) | exact se rfl (CEnt.agg3 (CEnt.refl _) (CEnt.refl _) (CEnt.refl _)) | exact se rfl (CEnt.agg4 (CEnt.refl _) (CEnt.refl _) (CEnt.refl _) (CEnt.refl _)) | exact se rfl (CEnt.agg5 (CEnt.refl _) (CEnt.refl _) (CEnt.refl _) (CEnt.refl _) (CEnt.refl _)) | exact se rfl (CEnt.agg6 (CEnt.refl _) (CEnt.refl _) (CEnt.refl _) (CEnt.refl _) (CEnt.refl _) (CEnt.refl _)) | exact se_frzB _ rfl rfl rfl (by simp) (fun _ _ => CEnt.refl _)) .nil)) rfl rfl ?_)
          refine y_rd (wanted_none rfl) rfl rfl (rd_eqB rfl rfl rfl Try.underlying4) ?_
          refine y_rd (wanted_none rfl) rfl rfl (rd_assign (v := .c _) rfl rfl) ?_
          refine x_done ?_
          refine then_norm ?_
          refine code_ret ?_
          refine end_val (.inl rfl) (res_1 rfl (arv_tmp rfl)) ?_
          refine CEnt.bool ?_
          have := which_of l a
          simp [this]
end Am
end Go.Proofs.Ytghgbhekjgincaa
