
/- Chapter 23: Permit by the reference: its walk. -/
import Derived.Test.YtoliiompofonlaaDoorW23l
namespace Go.Proofs.YtoliiompofonlaaDoor
set_option linter.unusedVariables false
namespace Am
variable {gs : List Nat} [OkG gs]
open Go.RowKit
set_option maxRecDepth 100000

def bitV (k : Nat) : Int := ([1, 2, 4, 8, 16] : List Int).getD k 16
theorem bitV_bd (k : Nat) : 1 ≤ bitV k ∧ bitV k ≤ 16 := by
  rcases k with _ | _ | _ | _ | _ | k <;> simp [bitV]
theorem bitV_lt {k : Nat} (hk : k ≤ 4) (h : bitV k < 16) : k < 4 ∧ bitV k * 2 = bitV (k + 1) := by
  rcases k with _ | _ | _ | _ | _ | k <;> simp [bitV] at h ⊢ <;> omega
theorem bitV_end {k : Nat} (hk : k ≤ 4) (h : ¬ bitV k < 16) : k = 4 := by
  rcases k with _ | _ | _ | _ | _ | k <;> simp [bitV] at h ⊢ <;> omega
theorem hasK_next {u g : Int} {k : Nat} (h : k < 4) : hasK u g (k + 1) = (hasK u g k && (decide (u / bitV k % 2 = 0) || decide (g / bitV k % 2 = 1))) := by
  rcases k with _ | _ | _ | _ | k <;> first | (simp [hasK, bitL, bitV]; done) | (simp [hasK, bitL, bitV, Bool.and_assoc]; done) | omega
theorem div_bd {u b : Int} (h : 0 ≤ u) (hb : 1 ≤ b) : 0 ≤ u / b ∧ u / b ≤ u := ⟨Int.ediv_nonneg h (by omega), Int.ediv_le_self _ h⟩
section
variable {w : S3} {q : Q5} {s : Int × Int} {g : G5}
theorem stepR_no (h : p1M w q g = false) : stepR w q s g = s := by unfold stepR; rw [if_pos h]
theorem stepR_one (h : p1M w q g = true) (h2 : p2M w q g = false) : stepR w q s g = (s.1, if s.2 = 22 then 9 else s.2) := by unfold stepR; rw [if_neg (by simp [h]), if_pos h2]
theorem stepR_two (h : p1M w q g = true) (h2 : p2M w q g = true) (h3 : p3M q g = false) : stepR w q s g = (s.1, if (if s.2 = 22 then 9 else s.2) = 9 then 15 else (if s.2 = 22 then 9 else s.2)) := by unfold stepR; rw [if_neg (by simp [h]), if_neg (by simp [h2]), if_pos h3]
theorem stepR_all (h : p1M w q g = true) (h2 : p2M w q g = true) (h3 : p3M q g = true) : stepR w q s g = (if s.1 < g.2.2.2.2 then g.2.2.2.2 else s.1, 0) := by unfold stepR; rw [if_neg (by simp [h]), if_neg (by simp [h2]), if_neg (by simp [h3])]
end
set_option maxHeartbeats 2000000 in
theorem rperm_ac {gs : List Nat} (l : List G5) (w : S3) (q : Q5) (hk : q.2.1.length ≤ 1000000) : ACp gs Tryd.prog 13 [gtC l, subjC w, reqC q] (.tup 2 (fl [.c (.int .i64 (permM l w q).1), .c (.int .i64 ((permM l w q).2 : Nat))])) := by
  refine ac_len 0 rfl fun hlen => ?_
  refine ac_of 85 Tryd.func13 rfl rfl rfl (fun al w0 F0 St0 => ?_)
  refine code_seq ?_
  refine code_region ?_
  refine seq_ex (wanted_none rfl) (e_box (n := 3) rfl rfl rfl rfl rfl rfl (fun p1 => ?_))
  refine seq_ex (wanted_none rfl) (e_box (n := 7) rfl rfl rfl rfl rfl rfl (fun p2 => ?_))
  refine q_rd (wanted_none rfl) rfl rfl (rd_assign (v := .c _) rfl rfl) ?_
  refine q_rd (wanted_none rfl) rfl rfl (rd_assign (v := .c _) rfl rfl) ?_
  refine seq_nil ?_
  refine then_norm ?_
  refine code_seq ?_
  refine code_seq ?_
  refine code_region ?_
  first | refine q_rd (wanted_none rfl) rfl rfl (rd_move (v := .rs _ _ _) rfl rfl) ?_ | refine q_rd (wanted_none rfl) rfl rfl (rd_move (v := .os _ _ _ _ _) rfl rfl) ?_ | refine q_rd (wanted_none rfl) rfl rfl (rd_move (v := .c _) rfl rfl) ?_ | refine q_rd (wanted_none rfl) rfl rfl (rd_move (v := .pv _) rfl rfl) ?_ | refine q_rd (wanted_none rfl) rfl rfl (rd_move (v := .top) rfl rfl) ?_
  refine seq_ex (wanted_none rfl) (e_callP rfl (by kernel_rfl) (rright23_ac l) (.cons (by first | exact se rfl (CEnt.refl _) | exact se rfl CEnt.nil | exact se rfl CEnt.nilB | exact se rfl (CEnt.osI rfl) | exact se rfl CEnt.opI | exact se_nilO rfl | exact se rfl (CEnt.agg2 (CEnt.refl _) (CEnt.refl _)) | exact se rfl (CEnt.agg3 (CEnt.refl _) (CEnt.refl _) (CEnt.refl _)) | exact se rfl (CEnt.agg4 (CEnt.refl _) (CEnt.refl _) (CEnt.refl _) (CEnt.refl _)) | exact se rfl (CEnt.agg5 (CEnt.refl _) (CEnt.refl _) (CEnt.refl _) (CEnt.refl _) (CEnt.refl _)) | exact se rfl (CEnt.agg6 (CEnt.refl _) (CEnt.refl _) (CEnt.refl _) (CEnt.refl _) (CEnt.refl _) (CEnt.refl _)) | exact se_frzB _ rfl rfl rfl (by simp) (fun _ _ => CEnt.refl _)) .nil) rfl rfl ?_)
  first | refine q_rd (wanted_none rfl) rfl rfl (rd_notD rfl rfl) ?_ | refine q_rd (wanted_none rfl) rfl rfl (rd_not rfl rfl) ?_
  refine seq_nil ?_
  refine then_norm ?_
  first | refine code_condSD rfl rfl (fun h40 => ?_) (fun h40 => ?_) | refine code_condS rfl rfl (fun h40 => ?_) (fun h40 => ?_)
  · refine code_seq ?_
    refine code_region ?_
    refine q_rd (wanted_none rfl) rfl rfl (rd_assign (v := .c _) rfl rfl) ?_
    refine q_rd (wanted_none rfl) rfl rfl (rd_assign (v := .c _) rfl rfl) ?_
    refine seq_nil ?_
    refine then_norm ?_
    refine code_ret ?_
    refine then_ret ?_
    refine end_val (.inl rfl) (res_2 rfl (arv_tmp rfl) (arv_tmp rfl)) ?_
    have hb : permM l w q = (0, 24) := by unfold permM; rw [if_pos (by simp_all)]
    exact CEnt.tup2 (CEnt.int (by rw [hb])) (CEnt.int (by rw [hb]; rfl))
  · refine code_skip ?_
    refine then_norm ?_
    refine code_seq ?_
    refine code_seq ?_
    refine code_region ?_
    first | refine q_rdO (wanted_none rfl) rfl rfl (rd_loadOA rfl rfl (.inl rfl) Tryd.underlying23 ag23 sz23 (by first | decide | (first | omega | decide | (dsimp only at *; omega)))) ?_ | refine q_rd (wanted_none rfl) rfl rfl (rd_loadRA rfl rfl Tryd.underlying23 ag23 sz23 (by first | decide | (first | omega | decide | (dsimp only at *; omega)))) ?_ | refine q_rdO (wanted_none rfl) rfl rfl (rd_loadOA rfl rfl (.inr rfl) Tryd.underlying23 ag23 sz23 (by first | decide | (first | omega | decide | (dsimp only at *; omega)))) ?_
    refine seq_ex (wanted_none rfl) (e_callP rfl (by kernel_rfl) (rright_ac w) (.cons (by first | exact se rfl (CEnt.refl _) | exact se rfl CEnt.nil | exact se rfl CEnt.nilB | exact se rfl (CEnt.osI rfl) | exact se rfl CEnt.opI | exact se_nilO rfl | exact se rfl (CEnt.agg2 (CEnt.refl _) (CEnt.refl _)) | exact se rfl (CEnt.agg3 (CEnt.refl _) (CEnt.refl _) (CEnt.refl _)) | exact se rfl (CEnt.agg4 (CEnt.refl _) (CEnt.refl _) (CEnt.refl _) (CEnt.refl _)) | exact se rfl (CEnt.agg5 (CEnt.refl _) (CEnt.refl _) (CEnt.refl _) (CEnt.refl _) (CEnt.refl _)) | exact se rfl (CEnt.agg6 (CEnt.refl _) (CEnt.refl _) (CEnt.refl _) (CEnt.refl _) (CEnt.refl _) (CEnt.refl _)) | exact se_frzB _ rfl rfl rfl (by simp) (fun _ _ => CEnt.refl _)) .nil) rfl rfl ?_)
    first | refine q_rd (wanted_none rfl) rfl rfl (rd_notD rfl rfl) ?_ | refine q_rd (wanted_none rfl) rfl rfl (rd_not rfl rfl) ?_
    refine seq_nil ?_
    refine then_norm ?_
    first | refine code_condSD rfl rfl (fun h43 => ?_) (fun h43 => ?_) | refine code_condS rfl rfl (fun h43 => ?_) (fun h43 => ?_)
    · refine code_seq ?_
      refine code_region ?_
      refine q_rd (wanted_none rfl) rfl rfl (rd_assign (v := .c _) rfl rfl) ?_
      refine q_rd (wanted_none rfl) rfl rfl (rd_assign (v := .c _) rfl rfl) ?_
      refine seq_nil ?_
      refine then_norm ?_
      refine code_ret ?_
      refine then_ret ?_
      refine end_val (.inl rfl) (res_2 rfl (arv_tmp rfl) (arv_tmp rfl)) ?_
      have hb : permM l w q = (0, 9) := by unfold permM; rw [if_neg (by simp_all), if_pos (by simp_all)]
      exact CEnt.tup2 (CEnt.int (by rw [hb])) (CEnt.int (by rw [hb]; rfl))
    · refine code_skip ?_
      refine then_norm ?_
      refine code_seq ?_
      refine code_seq ?_
      refine code_region ?_
      first | refine q_rdO (wanted_none rfl) rfl rfl (rd_loadOA rfl rfl (.inl rfl) Tryd.underlying26 ag26 sz26 (by first | decide | (first | omega | decide | (dsimp only at *; omega)))) ?_ | refine q_rd (wanted_none rfl) rfl rfl (rd_loadRA rfl rfl Tryd.underlying26 ag26 sz26 (by first | decide | (first | omega | decide | (dsimp only at *; omega)))) ?_ | refine q_rdO (wanted_none rfl) rfl rfl (rd_loadOA rfl rfl (.inr rfl) Tryd.underlying26 ag26 sz26 (by first | decide | (first | omega | decide | (dsimp only at *; omega)))) ?_
      refine seq_ex (wanted_none rfl) (e_callP rfl (by kernel_rfl) (rqright_ac q hk) (.cons (se rfl (CEnt.agg rfl fun m hm => req_box q m hm)) .nil) rfl rfl ?_)
      first | refine q_rd (wanted_none rfl) rfl rfl (rd_notD rfl rfl) ?_ | refine q_rd (wanted_none rfl) rfl rfl (rd_not rfl rfl) ?_
      refine seq_nil ?_
      refine then_norm ?_
      first | refine code_condSD rfl rfl (fun h46 => ?_) (fun h46 => ?_) | refine code_condS rfl rfl (fun h46 => ?_) (fun h46 => ?_)
      · refine code_seq ?_
        refine code_region ?_
        refine q_rd (wanted_none rfl) rfl rfl (rd_assign (v := .c _) rfl rfl) ?_
        refine q_rd (wanted_none rfl) rfl rfl (rd_assign (v := .c _) rfl rfl) ?_
        refine seq_nil ?_
        refine then_norm ?_
        refine code_ret ?_
        refine then_ret ?_
        refine end_val (.inl rfl) (res_2 rfl (arv_tmp rfl) (arv_tmp rfl)) ?_
        have hb : permM l w q = (0, 4) := by unfold permM; rw [if_neg (by simp_all), if_neg (by simp_all), if_pos (by simp_all)]
        exact CEnt.tup2 (CEnt.int (by rw [hb])) (CEnt.int (by rw [hb]; rfl))
      · refine code_skip ?_
        refine then_norm ?_
        refine code_seq ?_
        have hpol : polOk l = true := by simp_all
        have hwr : rightS w = true := by simp_all
        have hqr : reqOk q = true := by simp_all
        have href := perm_ref (l := l) hpol hwr hqr
        have hpa := pol_all hpol
        have hq1 : 1 ≤ q.2.2.1 ∧ q.2.2.1 ≤ 15 := by unfold reqOk at hqr; simp only [Bool.and_eq_true, decide_eq_true_eq] at hqr; omega
        refine code_ent (freeze 0 rfl) ?_
        refine code_ent (freeze 1 rfl) ?_
        refine code_ent (thawP 4 (m := 3) rfl rfl (by decide)) ?_
        refine code_ent (thawP 5 (m := 7) rfl rfl (by decide)) ?_
        refine code_ent (pick_ent (H' := []) [] (by decide) rfl) ?_
        refine code_region ?_
        refine q_rd (wanted_none rfl) rfl rfl (rd_assign (v := .c _) rfl rfl) ?_
        refine q_rd (wanted_none rfl) rfl rfl (rd_assign (v := .c _) rfl rfl) ?_
        refine seq_nil ?_
        refine then_norm ?_
        refine code_seq ?_
        refine code_seq ?_
        refine code_region ?_
        first | refine q_rd (wanted_none rfl) rfl rfl (rd_move (v := .rs _ _ _) rfl rfl) ?_ | refine q_rd (wanted_none rfl) rfl rfl (rd_move (v := .os _ _ _ _ _) rfl rfl) ?_ | refine q_rd (wanted_none rfl) rfl rfl (rd_move (v := .c _) rfl rfl) ?_ | refine q_rd (wanted_none rfl) rfl rfl (rd_move (v := .pv _) rfl rfl) ?_ | refine q_rd (wanted_none rfl) rfl rfl (rd_move (v := .top) rfl rfl) ?_
        first | refine q_rd (wanted_none rfl) rfl rfl (rd_lenR rfl rfl Tryd.underlying37) ?_ | refine q_rd (wanted_none rfl) rfl rfl (rd_lenO rfl rfl Tryd.underlying37) ?_ | refine q_rd (wanted_none rfl) rfl rfl (rd_lenN rfl rfl Tryd.underlying37) ?_
        refine q_rd (wanted_none rfl) rfl rfl (rd_move (v := .c _) rfl rfl) ?_
        refine seq_nil ?_
        refine then_norm ?_
        refine code_block ?_
        refine l_loop (α := Nat) [8, 9, 11, 12, 13, 25, 26, 27, 28, 29, 30, 31, 32, 33, 34, 35, 36, 37, 38, 39, 40, 41, 42, 43, 44, 45, 46, 47, 48, 49, 50, 51, 52, 53, 54, 55, 56, 57, 58, 59, 60, 61, 62, 63, 64, 65, 66, 67, 68, 69, 70, 71, 72, 73, 74, 75, 76, 77, 78, 79, 80, 81, 82] (fun i => [(25, .c (.int .i64 (i : Nat))), (8, .c (.int .i64 (refS (l.take i) w q).1)), (9, .c (.int .i64 (refS (l.take i) w q).2))]) (fun _ => []) (fun i => i ≤ l.length) (fun i => l.length - i) (0) ?_ (fun _ => rfl) ?_ ?_ ?_
        · exact Nat.zero_le _
        · exact .cons (CEnt.refl _) (.cons (CEnt.refl _) (.cons (CEnt.refl _) .nil))
        · (repeat (first | exact HEnt.nil | refine HEnt.same ?_ | refine HEnt.blk rfl (fun j hj => by rcases j with _|_|_|_|_|_|_|_|j <;> first | exact CEnt.refl _ | exact CEnt.int (by omega) | omega) ?_))
        · rintro i hi
          refine code_seq ?_
          refine code_region ?_
          refine q_rd (wanted_none rfl) rfl rfl (rd_lt rfl rfl rfl) ?_
          refine seq_nil ?_
          refine then_norm ?_
          refine code_seq ?_
          first | refine code_condSD rfl rfl (fun h50 => ?_) (fun h50 => ?_) | refine code_condS rfl rfl (fun h50 => ?_) (fun h50 => ?_)
          · refine code_skip ?_
            refine then_norm ?_
            refine code_seq ?_
            refine code_block ?_
            refine code_seq ?_
            refine code_region ?_
            first | refine q_rd (wanted_none rfl) rfl rfl (rd_iaddrR rfl rfl rfl Tryd.underlying37 sz112 rfl (by (first | omega | decide | (dsimp only at *; omega))) (by decide)) ?_ | refine q_rd (wanted_none rfl) rfl rfl (rd_iaddrO1 rfl rfl rfl Tryd.underlying37 sz112 rfl (by (first | omega | decide | (dsimp only at *; omega)))) ?_ | refine q_rd (wanted_none rfl) rfl rfl (rd_iaddrO rfl rfl rfl Tryd.underlying37 sz112 rfl (by (first | omega | decide | (dsimp only at *; omega)))) ?_ | refine q_rd (wanted_none rfl) rfl rfl (rd_iaddrR rfl rfl rfl Tryd.underlying37 sz112 (natI (by omega)) (by (first | omega | decide | (dsimp only at *; omega))) (by decide)) ?_ | refine q_rd (wanted_none rfl) rfl rfl (rd_iaddrO1 rfl rfl rfl Tryd.underlying37 sz112 (natI (by omega)) (by (first | omega | decide | (dsimp only at *; omega)))) ?_ | refine q_rd (wanted_none rfl) rfl rfl (rd_iaddrO rfl rfl rfl Tryd.underlying37 sz112 (natI (by omega)) (by (first | omega | decide | (dsimp only at *; omega)))) ?_
            first | refine q_rdO (wanted_none rfl) rfl rfl (rd_loadOA rfl rfl (.inl rfl) Tryd.underlying112 ag112 sz112 (by first | decide | (first | omega | decide | (dsimp only at *; omega)))) ?_ | refine q_rd (wanted_none rfl) rfl rfl (rd_loadRA rfl rfl Tryd.underlying112 ag112 sz112 (by first | decide | (first | omega | decide | (dsimp only at *; omega)))) ?_ | refine q_rdO (wanted_none rfl) rfl rfl (rd_loadOA rfl rfl (.inr rfl) Tryd.underlying112 ag112 sz112 (by first | decide | (first | omega | decide | (dsimp only at *; omega)))) ?_
            refine seq_ex (wanted_none rfl) (e_alloc (n := 5) rfl zr112 rfl rfl rfl (fun p3 => ?_))
            refine seq_md (wanted_none rfl) (m_store rfl rfl rfl rfl rfl sz112 rfl rfl (by first | decide | (first | omega | decide | (dsimp only at *; omega))) _ (fun _ _ => CEnt.refl _) rfl ?_)
            refine seq_nil ?_
            refine then_norm ?_
            refine code_seq ?_
            refine code_seq ?_
            have hgo := hpa _ (gt_at (l := l) (i := i) (by omega))
            have hu : 1 ≤ (l.getD i g0).2.2.2.1 ∧ (l.getD i g0).2.2.2.1 ≤ 15 := by unfold grOk at hgo; simp only [Bool.and_eq_true, decide_eq_true_eq] at hgo; omega
            have hlk : hasK q.2.2.1 (l.getD i g0).2.2.2.1 4 = p3M q (l.getD i g0) := has_lack (by omega) (by omega) (by omega) (by omega)
            refine code_region ?_
            first | refine q_rd (wanted_none rfl) rfl rfl (rd_faddrO rfl rfl Tryd.underlying112 rfl sz3 rfl) ?_ | refine q_rd (wanted_none rfl) rfl rfl (rd_faddrR rfl rfl Tryd.underlying112 rfl sz3 rfl) ?_
            first | refine q_rdO (wanted_none rfl) rfl rfl (rd_loadO (v := .c _) rfl rfl (.inl rfl) Tryd.underlying3 ag3 (by first | decide | (first | omega | decide | (dsimp only at *; omega))) rfl) ?_ | refine q_rd (wanted_none rfl) rfl rfl (rd_loadR (v := .c _) rfl rfl Tryd.underlying3 ag3 (by first | decide | (first | omega | decide | (dsimp only at *; omega))) rfl) ?_ | refine q_rdO (wanted_none rfl) rfl rfl (rd_loadO (v := .c _) rfl rfl (.inr rfl) Tryd.underlying3 ag3 (by first | decide | (first | omega | decide | (dsimp only at *; omega))) rfl) ?_
            first | refine q_rd (wanted_none rfl) rfl rfl (rd_faddrO rfl rfl Tryd.underlying23 rfl sz3 rfl) ?_ | refine q_rd (wanted_none rfl) rfl rfl (rd_faddrR rfl rfl Tryd.underlying23 rfl sz3 rfl) ?_
            first | refine q_rdO (wanted_none rfl) rfl rfl (rd_loadO (v := .c _) rfl rfl (.inl rfl) Tryd.underlying3 ag3 (by first | decide | (first | omega | decide | (dsimp only at *; omega))) rfl) ?_ | refine q_rd (wanted_none rfl) rfl rfl (rd_loadR (v := .c _) rfl rfl Tryd.underlying3 ag3 (by first | decide | (first | omega | decide | (dsimp only at *; omega))) rfl) ?_ | refine q_rdO (wanted_none rfl) rfl rfl (rd_loadO (v := .c _) rfl rfl (.inr rfl) Tryd.underlying3 ag3 (by first | decide | (first | omega | decide | (dsimp only at *; omega))) rfl) ?_
            refine q_rd (wanted_none rfl) rfl rfl (rd_neI rfl rfl rfl) ?_
            refine q_rd (wanted_none rfl) rfl rfl (rd_move (v := .c _) rfl rfl) ?_
            first | refine seq_splitD (d := 34) rfl rfl (fun g51 => ?_) (fun g51 => ?_) | refine seq_split (d := 34) rfl rfl (fun g51 => ?_) (fun g51 => ?_)
            · refine q_skip (wanted_is rfl rfl rfl rfl false rfl) rfl rfl ?_
              refine q_skip (wanted_is rfl rfl rfl rfl false rfl) rfl rfl ?_
              refine q_skip (wanted_is rfl rfl rfl rfl false rfl) rfl rfl ?_
              refine q_skip (wanted_is rfl rfl rfl rfl false rfl) rfl rfl ?_
              refine q_skip (wanted_is rfl rfl rfl rfl false rfl) rfl rfl ?_
              refine q_skip (wanted_is rfl rfl rfl rfl false rfl) rfl rfl ?_
              refine q_rd (wanted_none rfl) rfl rfl (rd_pickT (v := .c _) rfl rfl rfl) ?_
              refine seq_nil ?_
              refine then_norm ?_
              refine code_condT rfl ?_
              refine code_exit ?_
              refine then_exit ?_
              refine block_exit rfl ?_
              refine then_norm ?_
              refine code_region ?_
              refine q_rd (wanted_none rfl) rfl rfl (rd_add rfl rfl rfl (wrap_id (k := .i64) (by show _ ∧ _; (first | omega | decide | (dsimp only at *; omega))))) ?_
              refine q_rd (wanted_none rfl) rfl rfl (rd_move (v := .c _) rfl rfl) ?_
              refine seq_nil ?_
              refine then_norm ?_
              refine ⟨i + 1, ?_, ?_, by first | exact .refl | exact .nest .refl rfl rfl | exact .nest (.nest .refl rfl rfl) rfl rfl | exact .nest (.nest (.nest .refl rfl rfl) rfl rfl) rfl rfl | (repeat (first | exact .refl | refine .nest ?_ rfl rfl | refine BLe.look2 ?_ rfl)), rfl, ?_, by exact Nat.le_of_ble_eq_true rfl, ?_⟩
              · show i + 1 ≤ l.length; omega
              · show l.length - (i + 1) < l.length - i; omega
              · exact .cons (CEnt.int (by omega)) (.cons (CEnt.int (by have hs := refS_next (w := w) (q := q) (show i < l.length by omega); rw [hs]; first | (rw [stepR_all hp1 hp2 (hlk.symm.trans h67)]; done) | (rw [stepR_all hp1 hp2 (hlk.symm.trans h67)]; first | exact (if_pos h69).symm | exact (if_neg h69).symm) | (rw [stepR_two hp1 hp2 (hlk.symm.trans (by simpa using h67))]) | rw [stepR_one hp1 (by unfold p2M; first | (simp_all; done) | grind)] | rw [stepR_no (by unfold p1M; first | (simp_all; done) | grind)])) (.cons (CEnt.int (by have hs := refS_next (w := w) (q := q) (show i < l.length by omega); rw [hs]; first | (rw [stepR_all hp1 hp2 (hlk.symm.trans h67)]; done) | (rw [stepR_all hp1 hp2 (hlk.symm.trans h67)]; first | exact (if_pos h69).symm | exact (if_neg h69).symm) | (rw [stepR_two hp1 hp2 (hlk.symm.trans (by simpa using h67))]) | rw [stepR_one hp1 (by unfold p2M; first | (simp_all; done) | grind)] | rw [stepR_no (by unfold p1M; first | (simp_all; done) | grind)])) .nil))
              · (repeat (first | exact HEnt.nil | refine HEnt.same ?_ | refine HEnt.blk rfl (fun j hj => by rcases j with _|_|_|_|_|_|_|_|j <;> first | exact CEnt.refl _ | exact CEnt.int (by omega) | omega) ?_))
            · first | refine q_rd (wanted_is rfl rfl rfl rfl true rfl) rfl rfl (rd_faddrO rfl rfl Tryd.underlying112 rfl sz3 rfl) ?_ | refine q_rd (wanted_is rfl rfl rfl rfl true rfl) rfl rfl (rd_faddrR rfl rfl Tryd.underlying112 rfl sz3 rfl) ?_
              first | refine q_rdO (wanted_is rfl rfl rfl rfl true rfl) rfl rfl (rd_loadO (v := .c _) rfl rfl (.inl rfl) Tryd.underlying3 ag3 (by first | decide | (first | omega | decide | (dsimp only at *; omega))) rfl) ?_ | refine q_rd (wanted_is rfl rfl rfl rfl true rfl) rfl rfl (rd_loadR (v := .c _) rfl rfl Tryd.underlying3 ag3 (by first | decide | (first | omega | decide | (dsimp only at *; omega))) rfl) ?_ | refine q_rdO (wanted_is rfl rfl rfl rfl true rfl) rfl rfl (rd_loadO (v := .c _) rfl rfl (.inr rfl) Tryd.underlying3 ag3 (by first | decide | (first | omega | decide | (dsimp only at *; omega))) rfl) ?_
              first | refine q_rd (wanted_is rfl rfl rfl rfl true rfl) rfl rfl (rd_faddrO rfl rfl Tryd.underlying26 rfl sz23 rfl) ?_ | refine q_rd (wanted_is rfl rfl rfl rfl true rfl) rfl rfl (rd_faddrR rfl rfl Tryd.underlying26 rfl sz23 rfl) ?_
              first | refine q_rd (wanted_is rfl rfl rfl rfl true rfl) rfl rfl (rd_faddrO rfl rfl Tryd.underlying23 rfl sz3 rfl) ?_ | refine q_rd (wanted_is rfl rfl rfl rfl true rfl) rfl rfl (rd_faddrR rfl rfl Tryd.underlying23 rfl sz3 rfl) ?_
              first | refine q_rdO (wanted_is rfl rfl rfl rfl true rfl) rfl rfl (rd_loadO (v := .c _) rfl rfl (.inl rfl) Tryd.underlying3 ag3 (by first | decide | (first | omega | decide | (dsimp only at *; omega))) rfl) ?_ | refine q_rd (wanted_is rfl rfl rfl rfl true rfl) rfl rfl (rd_loadR (v := .c _) rfl rfl Tryd.underlying3 ag3 (by first | decide | (first | omega | decide | (dsimp only at *; omega))) rfl) ?_ | refine q_rdO (wanted_is rfl rfl rfl rfl true rfl) rfl rfl (rd_loadO (v := .c _) rfl rfl (.inr rfl) Tryd.underlying3 ag3 (by first | decide | (first | omega | decide | (dsimp only at *; omega))) rfl) ?_
              refine q_rd (wanted_is rfl rfl rfl rfl true rfl) rfl rfl (rd_neI rfl rfl rfl) ?_
              refine q_rd (wanted_none rfl) rfl rfl (rd_pickF (v := .c _) rfl rfl rfl) ?_
              refine seq_nil ?_
              refine then_norm ?_
              first | refine code_condSD rfl rfl (fun h51 => ?_) (fun h51 => ?_) | refine code_condS rfl rfl (fun h51 => ?_) (fun h51 => ?_)
              · refine code_exit ?_
                refine then_exit ?_
                refine block_exit rfl ?_
                refine then_norm ?_
                refine code_region ?_
                refine q_rd (wanted_none rfl) rfl rfl (rd_add rfl rfl rfl (wrap_id (k := .i64) (by show _ ∧ _; (first | omega | decide | (dsimp only at *; omega))))) ?_
                refine q_rd (wanted_none rfl) rfl rfl (rd_move (v := .c _) rfl rfl) ?_
                refine seq_nil ?_
                refine then_norm ?_
                refine ⟨i + 1, ?_, ?_, by first | exact .refl | exact .nest .refl rfl rfl | exact .nest (.nest .refl rfl rfl) rfl rfl | exact .nest (.nest (.nest .refl rfl rfl) rfl rfl) rfl rfl | (repeat (first | exact .refl | refine .nest ?_ rfl rfl | refine BLe.look2 ?_ rfl)), rfl, ?_, by exact Nat.le_of_ble_eq_true rfl, ?_⟩
                · show i + 1 ≤ l.length; omega
                · show l.length - (i + 1) < l.length - i; omega
                · exact .cons (CEnt.int (by omega)) (.cons (CEnt.int (by have hs := refS_next (w := w) (q := q) (show i < l.length by omega); rw [hs]; first | (rw [stepR_all hp1 hp2 (hlk.symm.trans h67)]; done) | (rw [stepR_all hp1 hp2 (hlk.symm.trans h67)]; first | exact (if_pos h69).symm | exact (if_neg h69).symm) | (rw [stepR_two hp1 hp2 (hlk.symm.trans (by simpa using h67))]) | rw [stepR_one hp1 (by unfold p2M; first | (simp_all; done) | grind)] | rw [stepR_no (by unfold p1M; first | (simp_all; done) | grind)])) (.cons (CEnt.int (by have hs := refS_next (w := w) (q := q) (show i < l.length by omega); rw [hs]; first | (rw [stepR_all hp1 hp2 (hlk.symm.trans h67)]; done) | (rw [stepR_all hp1 hp2 (hlk.symm.trans h67)]; first | exact (if_pos h69).symm | exact (if_neg h69).symm) | (rw [stepR_two hp1 hp2 (hlk.symm.trans (by simpa using h67))]) | rw [stepR_one hp1 (by unfold p2M; first | (simp_all; done) | grind)] | rw [stepR_no (by unfold p1M; first | (simp_all; done) | grind)])) .nil))
                · (repeat (first | exact HEnt.nil | refine HEnt.same ?_ | refine HEnt.blk rfl (fun j hj => by rcases j with _|_|_|_|_|_|_|_|j <;> first | exact CEnt.refl _ | exact CEnt.int (by omega) | omega) ?_))
              · refine code_skip ?_
                refine then_norm ?_
                refine code_join (α := Unit) [9, 42, 43] (fun _ => [(9, .c (.int .i64 (if (refS (l.take i) w q).2 = 22 then 9 else (refS (l.take i) w q).2)))]) (fun _ => [(p3, .blk 5 (grF (l.getD i g0)))]) (fun _ => p1M w q (l.getD i g0) = true) (fun _ => rfl) ?_ ?_
                · refine code_seq ?_
                  refine code_region ?_
                  refine q_rd (wanted_none rfl) rfl rfl (rd_move (v := .c _) rfl rfl) ?_
                  refine q_rd (wanted_none rfl) rfl rfl (rd_eqI rfl rfl rfl) ?_
                  refine seq_nil ?_
                  refine then_norm ?_
                  first | refine code_condSD rfl rfl (fun h54 => ?_) (fun h54 => ?_) | refine code_condS rfl rfl (fun h54 => ?_) (fun h54 => ?_)
                  · refine code_region ?_
                    refine q_rd (wanted_none rfl) rfl rfl (rd_assign (v := .c _) rfl rfl) ?_
                    refine seq_nil ?_
                    refine then_norm ?_
                    refine ⟨(), ?_, by first | exact .refl | exact .nest .refl rfl rfl | exact .nest (.nest .refl rfl rfl) rfl rfl | exact .nest (.nest (.nest .refl rfl rfl) rfl rfl) rfl rfl | (repeat (first | exact .refl | refine .nest ?_ rfl rfl | refine BLe.look2 ?_ rfl)), rfl, ?_, by exact Nat.le_of_ble_eq_true rfl, ?_⟩
                    · show p1M w q (l.getD i g0) = true; unfold p1M; first | (simp_all; done) | grind
                    · exact .cons (CEnt.int (by first | rw [if_pos (by omega)] | rw [if_neg (by omega)])) .nil
                    · exact .blk rfl (fun j hj => by rcases j with _ | _ | _ | _ | _ | j <;> first | exact CEnt.refl _ | omega) .nil
                  · refine code_skip ?_
                    refine then_norm ?_
                    refine ⟨(), ?_, by first | exact .refl | exact .nest .refl rfl rfl | exact .nest (.nest .refl rfl rfl) rfl rfl | exact .nest (.nest (.nest .refl rfl rfl) rfl rfl) rfl rfl | (repeat (first | exact .refl | refine .nest ?_ rfl rfl | refine BLe.look2 ?_ rfl)), rfl, ?_, by exact Nat.le_of_ble_eq_true rfl, ?_⟩
                    · show p1M w q (l.getD i g0) = true; unfold p1M; first | (simp_all; done) | grind
                    · exact .cons (CEnt.int (by first | rw [if_pos (by omega)] | rw [if_neg (by omega)])) .nil
                    · exact .blk rfl (fun j hj => by rcases j with _ | _ | _ | _ | _ | j <;> first | exact CEnt.refl _ | omega) .nil
                · rintro u hp1
                  refine code_join (α := Unit) [44, 45, 46, 47, 48, 49, 50, 51] (fun _ => []) (fun _ => [(p3, .blk 5 (grF (l.getD i g0)))]) (fun _ => p2M w q (l.getD i g0) = true) (fun _ => rfl) ?_ ?_
                  · refine code_seq ?_
                    refine code_region ?_
                    first | refine q_rd (wanted_none rfl) rfl rfl (rd_faddrO rfl rfl Tryd.underlying112 rfl sz4 rfl) ?_ | refine q_rd (wanted_none rfl) rfl rfl (rd_faddrR rfl rfl Tryd.underlying112 rfl sz4 rfl) ?_
                    first | refine q_rdO (wanted_none rfl) rfl rfl (rd_loadO (v := .c _) rfl rfl (.inl rfl) Tryd.underlying4 ag4 (by first | decide | (first | omega | decide | (dsimp only at *; omega))) rfl) ?_ | refine q_rd (wanted_none rfl) rfl rfl (rd_loadR (v := .c _) rfl rfl Tryd.underlying4 ag4 (by first | decide | (first | omega | decide | (dsimp only at *; omega))) rfl) ?_ | refine q_rdO (wanted_none rfl) rfl rfl (rd_loadO (v := .c _) rfl rfl (.inr rfl) Tryd.underlying4 ag4 (by first | decide | (first | omega | decide | (dsimp only at *; omega))) rfl) ?_
                    refine q_rd (wanted_none rfl) rfl rfl (rd_move (v := .c _) rfl rfl) ?_
                    first | refine seq_splitD (d := 46) rfl rfl (fun g57 => ?_) (fun g57 => ?_) | refine seq_split (d := 46) rfl rfl (fun g57 => ?_) (fun g57 => ?_)
                    · first | refine q_rdO (wanted_is rfl rfl rfl rfl true rfl) rfl rfl (rd_loadOA rfl rfl (.inl rfl) Tryd.underlying23 ag23 sz23 (by first | decide | (first | omega | decide | (dsimp only at *; omega)))) ?_ | refine q_rd (wanted_is rfl rfl rfl rfl true rfl) rfl rfl (rd_loadRA rfl rfl Tryd.underlying23 ag23 sz23 (by first | decide | (first | omega | decide | (dsimp only at *; omega)))) ?_ | refine q_rdO (wanted_is rfl rfl rfl rfl true rfl) rfl rfl (rd_loadOA rfl rfl (.inr rfl) Tryd.underlying23 ag23 sz23 (by first | decide | (first | omega | decide | (dsimp only at *; omega)))) ?_
                      first | refine q_rdO (wanted_is rfl rfl rfl rfl true rfl) rfl rfl (rd_loadOA rfl rfl (.inl rfl) Tryd.underlying26 ag26 sz26 (by first | decide | (first | omega | decide | (dsimp only at *; omega)))) ?_ | refine q_rd (wanted_is rfl rfl rfl rfl true rfl) rfl rfl (rd_loadRA rfl rfl Tryd.underlying26 ag26 sz26 (by first | decide | (first | omega | decide | (dsimp only at *; omega)))) ?_ | refine q_rdO (wanted_is rfl rfl rfl rfl true rfl) rfl rfl (rd_loadOA rfl rfl (.inr rfl) Tryd.underlying26 ag26 sz26 (by first | decide | (first | omega | decide | (dsimp only at *; omega)))) ?_
                      refine seq_ex (wanted_is rfl rfl rfl rfl true rfl) (e_callP rfl (by kernel_rfl) (rsub_ac w q) (.cons (se rfl (CEnt.agg rfl fun m hm => sub_box w m hm)) (.cons (se rfl (CEnt.agg rfl fun m hm => req_box q m hm)) .nil)) rfl rfl ?_)
                      first | refine q_rd (wanted_is rfl rfl rfl rfl true rfl) rfl rfl (rd_notD rfl rfl) ?_ | refine q_rd (wanted_is rfl rfl rfl rfl true rfl) rfl rfl (rd_not rfl rfl) ?_
                      refine q_rd (wanted_none rfl) rfl rfl (rd_pickT (v := .c _) rfl rfl rfl) ?_
                      refine seq_nil ?_
                      refine then_norm ?_
                      first | refine code_condSD rfl rfl (fun h57 => ?_) (fun h57 => ?_) | refine code_condS rfl rfl (fun h57 => ?_) (fun h57 => ?_)
                      · refine code_exit ?_
                        refine then_exit ?_
                        refine block_exit rfl ?_
                        refine then_norm ?_
                        refine code_region ?_
                        refine q_rd (wanted_none rfl) rfl rfl (rd_add rfl rfl rfl (wrap_id (k := .i64) (by show _ ∧ _; (first | omega | decide | (dsimp only at *; omega))))) ?_
                        refine q_rd (wanted_none rfl) rfl rfl (rd_move (v := .c _) rfl rfl) ?_
                        refine seq_nil ?_
                        refine then_norm ?_
                        refine ⟨i + 1, ?_, ?_, by first | exact .refl | exact .nest .refl rfl rfl | exact .nest (.nest .refl rfl rfl) rfl rfl | exact .nest (.nest (.nest .refl rfl rfl) rfl rfl) rfl rfl | (repeat (first | exact .refl | refine .nest ?_ rfl rfl | refine BLe.look2 ?_ rfl)), rfl, ?_, by exact Nat.le_of_ble_eq_true rfl, ?_⟩
                        · show i + 1 ≤ l.length; omega
                        · show l.length - (i + 1) < l.length - i; omega
                        · exact .cons (CEnt.int (by omega)) (.cons (CEnt.int (by have hs := refS_next (w := w) (q := q) (show i < l.length by omega); rw [hs]; first | (rw [stepR_all hp1 hp2 (hlk.symm.trans h67)]; done) | (rw [stepR_all hp1 hp2 (hlk.symm.trans h67)]; first | exact (if_pos h69).symm | exact (if_neg h69).symm) | (rw [stepR_two hp1 hp2 (hlk.symm.trans (by simpa using h67))]) | rw [stepR_one hp1 (by unfold p2M; first | (simp_all; done) | grind)] | rw [stepR_no (by unfold p1M; first | (simp_all; done) | grind)])) (.cons (CEnt.int (by have hs := refS_next (w := w) (q := q) (show i < l.length by omega); rw [hs]; first | (rw [stepR_all hp1 hp2 (hlk.symm.trans h67)]; done) | (rw [stepR_all hp1 hp2 (hlk.symm.trans h67)]; first | exact (if_pos h69).symm | exact (if_neg h69).symm) | (rw [stepR_two hp1 hp2 (hlk.symm.trans (by simpa using h67))]) | rw [stepR_one hp1 (by unfold p2M; first | (simp_all; done) | grind)] | rw [stepR_no (by unfold p1M; first | (simp_all; done) | grind)])) .nil))
                        · (repeat (first | exact HEnt.nil | refine HEnt.same ?_ | refine HEnt.blk rfl (fun j hj => by rcases j with _|_|_|_|_|_|_|_|j <;> first | exact CEnt.refl _ | exact CEnt.int (by omega) | omega) ?_))
                      · refine code_skip ?_
                        refine then_norm ?_
                        refine ⟨(), ?_, by first | exact .refl | exact .nest .refl rfl rfl | exact .nest (.nest .refl rfl rfl) rfl rfl | exact .nest (.nest (.nest .refl rfl rfl) rfl rfl) rfl rfl | (repeat (first | exact .refl | refine .nest ?_ rfl rfl | refine BLe.look2 ?_ rfl)), rfl, ?_, by exact Nat.le_of_ble_eq_true rfl, ?_⟩
                        · show p2M w q (l.getD i g0) = true; unfold p2M; first | (simp_all; done) | grind
                        · exact .nil
                        · exact .same .nil
                    · refine q_skip (wanted_is rfl rfl rfl rfl false rfl) rfl rfl ?_
                      refine q_skip (wanted_is rfl rfl rfl rfl false rfl) rfl rfl ?_
                      refine q_skip (wanted_is rfl rfl rfl rfl false rfl) rfl rfl ?_
                      refine q_skip (wanted_is rfl rfl rfl rfl false rfl) rfl rfl ?_
                      refine q_rd (wanted_none rfl) rfl rfl (rd_pickF (v := .c _) rfl rfl rfl) ?_
                      refine seq_nil ?_
                      refine then_norm ?_
                      refine code_condF rfl ?_
                      refine code_skip ?_
                      refine then_norm ?_
                      refine ⟨(), ?_, by first | exact .refl | exact .nest .refl rfl rfl | exact .nest (.nest .refl rfl rfl) rfl rfl | exact .nest (.nest (.nest .refl rfl rfl) rfl rfl) rfl rfl | (repeat (first | exact .refl | refine .nest ?_ rfl rfl | refine BLe.look2 ?_ rfl)), rfl, ?_, by exact Nat.le_of_ble_eq_true rfl, ?_⟩
                      · show p2M w q (l.getD i g0) = true; unfold p2M; first | (simp_all; done) | grind
                      · exact .nil
                      · exact .same .nil
                  · rintro u2 hp2
                    refine code_join (α := Unit) [9, 52, 53] (fun _ => [(9, .c (.int .i64 (if (if (refS (l.take i) w q).2 = 22 then 9 else (refS (l.take i) w q).2) = 9 then 15 else (if (refS (l.take i) w q).2 = 22 then 9 else (refS (l.take i) w q).2))))]) (fun _ => [(p3, .blk 5 (grF (l.getD i g0)))]) (fun _ => True) (fun _ => rfl) ?_ ?_
                    · refine code_seq ?_
                      refine code_region ?_
                      refine q_rd (wanted_none rfl) rfl rfl (rd_move (v := .c _) rfl rfl) ?_
                      refine q_rd (wanted_none rfl) rfl rfl (rd_eqI rfl rfl rfl) ?_
                      refine seq_nil ?_
                      refine then_norm ?_
                      first | refine code_condSD rfl rfl (fun h60 => ?_) (fun h60 => ?_) | refine code_condS rfl rfl (fun h60 => ?_) (fun h60 => ?_)
                      · refine code_region ?_
                        refine q_rd (wanted_none rfl) rfl rfl (rd_assign (v := .c _) rfl rfl) ?_
                        refine seq_nil ?_
                        refine then_norm ?_
                        refine ⟨(), ?_, by first | exact .refl | exact .nest .refl rfl rfl | exact .nest (.nest .refl rfl rfl) rfl rfl | exact .nest (.nest (.nest .refl rfl rfl) rfl rfl) rfl rfl | (repeat (first | exact .refl | refine .nest ?_ rfl rfl | refine BLe.look2 ?_ rfl)), rfl, ?_, by exact Nat.le_of_ble_eq_true rfl, ?_⟩
                        · trivial
                        · exact .cons (CEnt.int (by first | exact (if_pos h60).symm | exact (if_neg h60).symm)) .nil
                        · exact .same .nil
                      · refine code_skip ?_
                        refine then_norm ?_
                        refine ⟨(), ?_, by first | exact .refl | exact .nest .refl rfl rfl | exact .nest (.nest .refl rfl rfl) rfl rfl | exact .nest (.nest (.nest .refl rfl rfl) rfl rfl) rfl rfl | (repeat (first | exact .refl | refine .nest ?_ rfl rfl | refine BLe.look2 ?_ rfl)), rfl, ?_, by exact Nat.le_of_ble_eq_true rfl, ?_⟩
                        · trivial
                        · exact .cons (CEnt.int (by first | exact (if_pos h60).symm | exact (if_neg h60).symm)) .nil
                        · exact .same .nil
                    · rintro u3 _
                      refine code_seq ?_
                      refine code_region ?_
                      refine q_rd (wanted_none rfl) rfl rfl (rd_assign (v := .c _) rfl rfl) ?_
                      refine seq_nil ?_
                      refine then_norm ?_
                      refine code_seq ?_
                      refine code_seq ?_
                      refine code_region ?_
                      refine q_rd (wanted_none rfl) rfl rfl (rd_assign (v := .c _) rfl rfl) ?_
                      refine seq_nil ?_
                      refine then_norm ?_
                      refine code_block ?_
                      refine l_loop (α := Nat) [12, 13, 54, 55, 56, 57, 58, 59, 60, 61, 62, 63, 64, 65, 66, 67, 68, 69, 70, 71, 72, 73, 74] (fun k => [(13, .c (.int .i64 (bitV k))), (12, .c (.bool (hasK q.2.2.1 (l.getD i g0).2.2.2.1 k)))]) (fun k => [(p3, .blk 5 (grF (l.getD i g0)))]) (fun k => k ≤ 4) (fun k => 4 - k) (0) ?_ (fun _ => rfl) ?_ ?_ ?_
                      · exact Nat.zero_le _
                      · exact .cons (CEnt.refl _) (.cons (CEnt.refl _) .nil)
                      · exact .blk rfl (fun j hj => by rcases j with _ | _ | _ | _ | _ | j <;> first | exact CEnt.refl _ | omega) .nil
                      · rintro k hk4
                        have hbv := bitV_bd k
                        have hd1 := div_bd (u := q.2.2.1) (b := bitV k) (by omega) hbv.1
                        have hd2 := div_bd (u := (l.getD i g0).2.2.2.1) (b := bitV k) (by omega) hbv.1
                        refine code_seq ?_
                        refine code_seq ?_
                        refine code_region ?_
                        refine q_rd (wanted_none rfl) rfl rfl (rd_move (v := .c _) rfl rfl) ?_
                        refine q_rd (wanted_none rfl) rfl rfl (rd_lt rfl rfl rfl) ?_
                        refine seq_nil ?_
                        refine then_norm ?_
                        first | refine code_condSD rfl rfl (fun h64 => ?_) (fun h64 => ?_) | refine code_condS rfl rfl (fun h64 => ?_) (fun h64 => ?_)
                        · refine code_skip ?_
                          refine then_norm ?_
                          refine code_seq ?_
                          refine code_block ?_
                          refine code_region ?_
                          refine q_rd (wanted_none rfl) rfl rfl (rd_move (v := .c _) rfl rfl) ?_
                          refine q_rd (wanted_none rfl) rfl rfl (rd_move (v := .c _) rfl rfl) ?_
                          first | refine seq_splitD (d := 59) rfl rfl (fun g65 => ?_) (fun g65 => ?_) | refine seq_split (d := 59) rfl rfl (fun g65 => ?_) (fun g65 => ?_)
                          · first | refine q_rd (wanted_is rfl rfl rfl rfl true rfl) rfl rfl (rd_faddrO rfl rfl Tryd.underlying26 rfl sz3 rfl) ?_ | refine q_rd (wanted_is rfl rfl rfl rfl true rfl) rfl rfl (rd_faddrR rfl rfl Tryd.underlying26 rfl sz3 rfl) ?_
                            first | refine q_rdO (wanted_is rfl rfl rfl rfl true rfl) rfl rfl (rd_loadO (v := .c _) rfl rfl (.inl rfl) Tryd.underlying3 ag3 (by first | decide | (first | omega | decide | (dsimp only at *; omega))) rfl) ?_ | refine q_rd (wanted_is rfl rfl rfl rfl true rfl) rfl rfl (rd_loadR (v := .c _) rfl rfl Tryd.underlying3 ag3 (by first | decide | (first | omega | decide | (dsimp only at *; omega))) rfl) ?_ | refine q_rdO (wanted_is rfl rfl rfl rfl true rfl) rfl rfl (rd_loadO (v := .c _) rfl rfl (.inr rfl) Tryd.underlying3 ag3 (by first | decide | (first | omega | decide | (dsimp only at *; omega))) rfl) ?_
                            refine q_rd (wanted_is rfl rfl rfl rfl true rfl) rfl rfl (rd_move (v := .c _) rfl rfl) ?_
                            first | refine q_rd (wanted_is rfl rfl rfl rfl true rfl) rfl rfl (rd_quo rfl rfl rfl (by (first | omega | decide | (dsimp only at *; omega))) (by (first | omega | decide | (dsimp only at *; omega))) (wrap_id (k := .i64) (by show _ ∧ _; (first | omega | decide | (dsimp only at *; omega))))) ?_ | refine q_rd (wanted_is rfl rfl rfl rfl true rfl) rfl rfl (rd_quoT rfl rfl rfl (by (first | omega | decide | (dsimp only at *; omega))) _ rfl) ?_
                            first | refine q_rd (wanted_is rfl rfl rfl rfl true rfl) rfl rfl (rd_rem rfl rfl rfl (by (first | omega | decide | (dsimp only at *; omega))) (by (first | omega | decide | (dsimp only at *; omega)))) ?_ | refine q_rd (wanted_is rfl rfl rfl rfl true rfl) rfl rfl (rd_remT rfl rfl rfl (by (first | omega | decide | (dsimp only at *; omega)))) ?_
                            refine q_rd (wanted_is rfl rfl rfl rfl true rfl) rfl rfl (rd_eqI rfl rfl rfl) ?_
                            refine q_rd (wanted_is rfl rfl rfl rfl true rfl) rfl rfl (rd_move (v := .c _) rfl rfl) ?_
                            first | refine seq_splitD (d := 66) rfl rfl (fun g65_2 => ?_) (fun g65_2 => ?_) | refine seq_split (d := 66) rfl rfl (fun g65_2 => ?_) (fun g65_2 => ?_)
                            · refine q_skip (wanted_is rfl rfl rfl rfl false rfl) rfl rfl ?_
                              refine q_skip (wanted_is rfl rfl rfl rfl false rfl) rfl rfl ?_
                              refine q_skip (wanted_is rfl rfl rfl rfl false rfl) rfl rfl ?_
                              refine q_skip (wanted_is rfl rfl rfl rfl false rfl) rfl rfl ?_
                              refine q_skip (wanted_is rfl rfl rfl rfl false rfl) rfl rfl ?_
                              refine q_skip (wanted_is rfl rfl rfl rfl false rfl) rfl rfl ?_
                              refine q_rd (wanted_is rfl rfl rfl rfl true rfl) rfl rfl (rd_pickT (v := .c _) rfl rfl rfl) ?_
                              refine q_rd (wanted_none rfl) rfl rfl (rd_pickT (v := .c _) rfl rfl rfl) ?_
                              refine q_rd (wanted_none rfl) rfl rfl (rd_assign (v := .c _) rfl rfl) ?_
                              refine seq_nil ?_
                              refine block_norm ?_
                              refine then_norm ?_
                              refine code_region ?_
                              refine q_rd (wanted_none rfl) rfl rfl (rd_move (v := .c _) rfl rfl) ?_
                              refine q_rd (wanted_none rfl) rfl rfl (rd_mul rfl rfl rfl (wrap_id (k := .i64) (by show _ ∧ _; (first | omega | decide | (dsimp only at *; omega))))) ?_
                              refine q_rd (wanted_none rfl) rfl rfl (rd_assign (v := .c _) rfl rfl) ?_
                              refine seq_nil ?_
                              refine then_norm ?_
                              refine ⟨k + 1, ?_, ?_, by first | exact .refl | exact .nest .refl rfl rfl | exact .nest (.nest .refl rfl rfl) rfl rfl | exact .nest (.nest (.nest .refl rfl rfl) rfl rfl) rfl rfl | (repeat (first | exact .refl | refine .nest ?_ rfl rfl | refine BLe.look2 ?_ rfl)), rfl, ?_, by exact Nat.le_of_ble_eq_true rfl, ?_⟩
                              · show k + 1 ≤ 4; have := bitV_lt hk4 h64; omega
                              · show 4 - (k + 1) < 4 - k; have := bitV_lt hk4 h64; omega
                              · exact .cons (CEnt.int (bitV_lt hk4 h64).2) (.cons (CEnt.bool (by rw [hasK_next (bitV_lt hk4 h64).1]; first | (simp_all; done) | grind)) .nil)
                              · exact .same .nil
                            · first | refine q_rd (wanted_is rfl rfl rfl rfl true rfl) rfl rfl (rd_faddrO rfl rfl Tryd.underlying112 rfl sz3 rfl) ?_ | refine q_rd (wanted_is rfl rfl rfl rfl true rfl) rfl rfl (rd_faddrR rfl rfl Tryd.underlying112 rfl sz3 rfl) ?_
                              first | refine q_rdO (wanted_is rfl rfl rfl rfl true rfl) rfl rfl (rd_loadO (v := .c _) rfl rfl (.inl rfl) Tryd.underlying3 ag3 (by first | decide | (first | omega | decide | (dsimp only at *; omega))) rfl) ?_ | refine q_rd (wanted_is rfl rfl rfl rfl true rfl) rfl rfl (rd_loadR (v := .c _) rfl rfl Tryd.underlying3 ag3 (by first | decide | (first | omega | decide | (dsimp only at *; omega))) rfl) ?_ | refine q_rdO (wanted_is rfl rfl rfl rfl true rfl) rfl rfl (rd_loadO (v := .c _) rfl rfl (.inr rfl) Tryd.underlying3 ag3 (by first | decide | (first | omega | decide | (dsimp only at *; omega))) rfl) ?_
                              refine q_rd (wanted_is rfl rfl rfl rfl true rfl) rfl rfl (rd_move (v := .c _) rfl rfl) ?_
                              first | refine q_rd (wanted_is rfl rfl rfl rfl true rfl) rfl rfl (rd_quo rfl rfl rfl (by (first | omega | decide | (dsimp only at *; omega))) (by (first | omega | decide | (dsimp only at *; omega))) (wrap_id (k := .i64) (by show _ ∧ _; (first | omega | decide | (dsimp only at *; omega))))) ?_ | refine q_rd (wanted_is rfl rfl rfl rfl true rfl) rfl rfl (rd_quoT rfl rfl rfl (by (first | omega | decide | (dsimp only at *; omega))) _ rfl) ?_
                              first | refine q_rd (wanted_is rfl rfl rfl rfl true rfl) rfl rfl (rd_rem rfl rfl rfl (by (first | omega | decide | (dsimp only at *; omega))) (by (first | omega | decide | (dsimp only at *; omega)))) ?_ | refine q_rd (wanted_is rfl rfl rfl rfl true rfl) rfl rfl (rd_remT rfl rfl rfl (by (first | omega | decide | (dsimp only at *; omega)))) ?_
                              refine q_rd (wanted_is rfl rfl rfl rfl true rfl) rfl rfl (rd_eqI rfl rfl rfl) ?_
                              refine q_rd (wanted_is rfl rfl rfl rfl true rfl) rfl rfl (rd_pickF (v := .c _) rfl rfl rfl) ?_
                              refine q_rd (wanted_none rfl) rfl rfl (rd_pickT (v := .c _) rfl rfl rfl) ?_
                              refine q_rd (wanted_none rfl) rfl rfl (rd_assign (v := .c _) rfl rfl) ?_
                              refine seq_nil ?_
                              refine block_norm ?_
                              refine then_norm ?_
                              refine code_region ?_
                              refine q_rd (wanted_none rfl) rfl rfl (rd_move (v := .c _) rfl rfl) ?_
                              refine q_rd (wanted_none rfl) rfl rfl (rd_mul rfl rfl rfl (wrap_id (k := .i64) (by show _ ∧ _; (first | omega | decide | (dsimp only at *; omega))))) ?_
                              refine q_rd (wanted_none rfl) rfl rfl (rd_assign (v := .c _) rfl rfl) ?_
                              refine seq_nil ?_
                              refine then_norm ?_
                              refine ⟨k + 1, ?_, ?_, by first | exact .refl | exact .nest .refl rfl rfl | exact .nest (.nest .refl rfl rfl) rfl rfl | exact .nest (.nest (.nest .refl rfl rfl) rfl rfl) rfl rfl | (repeat (first | exact .refl | refine .nest ?_ rfl rfl | refine BLe.look2 ?_ rfl)), rfl, ?_, by exact Nat.le_of_ble_eq_true rfl, ?_⟩
                              · show k + 1 ≤ 4; have := bitV_lt hk4 h64; omega
                              · show 4 - (k + 1) < 4 - k; have := bitV_lt hk4 h64; omega
                              · exact .cons (CEnt.int (bitV_lt hk4 h64).2) (.cons (CEnt.bool (by rw [hasK_next (bitV_lt hk4 h64).1]; first | (simp_all; done) | grind)) .nil)
                              · exact .same .nil
                          · refine q_skip (wanted_is rfl rfl rfl rfl false rfl) rfl rfl ?_
                            refine q_skip (wanted_is rfl rfl rfl rfl false rfl) rfl rfl ?_
                            refine q_skip (wanted_is rfl rfl rfl rfl false rfl) rfl rfl ?_
                            refine q_skip (wanted_is rfl rfl rfl rfl false rfl) rfl rfl ?_
                            refine q_skip (wanted_is rfl rfl rfl rfl false rfl) rfl rfl ?_
                            refine q_skip (wanted_is rfl rfl rfl rfl false rfl) rfl rfl ?_
                            refine q_skip (wanted_is rfl rfl rfl rfl false rfl) rfl rfl ?_
                            refine q_skip (wanted_undef rfl rfl rfl rfl) rfl rfl ?_
                            refine q_skip (wanted_undef rfl rfl rfl rfl) rfl rfl ?_
                            refine q_skip (wanted_undef rfl rfl rfl rfl) rfl rfl ?_
                            refine q_skip (wanted_undef rfl rfl rfl rfl) rfl rfl ?_
                            refine q_skip (wanted_undef rfl rfl rfl rfl) rfl rfl ?_
                            refine q_skip (wanted_undef rfl rfl rfl rfl) rfl rfl ?_
                            refine q_skip (wanted_is rfl rfl rfl rfl false rfl) rfl rfl ?_
                            refine q_rd (wanted_none rfl) rfl rfl (rd_pickF (v := .c _) rfl rfl rfl) ?_
                            refine q_rd (wanted_none rfl) rfl rfl (rd_assign (v := .c _) rfl rfl) ?_
                            refine seq_nil ?_
                            refine block_norm ?_
                            refine then_norm ?_
                            refine code_region ?_
                            refine q_rd (wanted_none rfl) rfl rfl (rd_move (v := .c _) rfl rfl) ?_
                            refine q_rd (wanted_none rfl) rfl rfl (rd_mul rfl rfl rfl (wrap_id (k := .i64) (by show _ ∧ _; (first | omega | decide | (dsimp only at *; omega))))) ?_
                            refine q_rd (wanted_none rfl) rfl rfl (rd_assign (v := .c _) rfl rfl) ?_
                            refine seq_nil ?_
                            refine then_norm ?_
                            refine ⟨k + 1, ?_, ?_, by first | exact .refl | exact .nest .refl rfl rfl | exact .nest (.nest .refl rfl rfl) rfl rfl | exact .nest (.nest (.nest .refl rfl rfl) rfl rfl) rfl rfl | (repeat (first | exact .refl | refine .nest ?_ rfl rfl | refine BLe.look2 ?_ rfl)), rfl, ?_, by exact Nat.le_of_ble_eq_true rfl, ?_⟩
                            · show k + 1 ≤ 4; have := bitV_lt hk4 h64; omega
                            · show 4 - (k + 1) < 4 - k; have := bitV_lt hk4 h64; omega
                            · exact .cons (CEnt.int (bitV_lt hk4 h64).2) (.cons (CEnt.bool (by rw [hasK_next (bitV_lt hk4 h64).1]; first | (simp_all; done) | grind)) .nil)
                            · exact .same .nil
                        · refine code_exit ?_
                          refine then_exit ?_
                          refine then_exit ?_
                          refine block_exit rfl ?_
                          refine then_norm ?_
                          refine code_seq ?_
                          have hk5 := bitV_end hk4 h64
                          subst hk5
                          refine code_region ?_
                          refine q_rd (wanted_none rfl) rfl rfl (rd_move (v := .c _) rfl rfl) ?_
                          refine seq_nil ?_
                          refine then_norm ?_
                          first | refine code_condSD rfl rfl (fun h67 => ?_) (fun h67 => ?_) | refine code_condS rfl rfl (fun h67 => ?_) (fun h67 => ?_)
                          · refine code_seq ?_
                            refine code_region ?_
                            refine q_rd (wanted_none rfl) rfl rfl (rd_assign (v := .c _) rfl rfl) ?_
                            refine seq_nil ?_
                            refine then_norm ?_
                            refine code_seq ?_
                            refine code_region ?_
                            first | refine q_rd (wanted_none rfl) rfl rfl (rd_faddrO rfl rfl Tryd.underlying112 rfl sz3 rfl) ?_ | refine q_rd (wanted_none rfl) rfl rfl (rd_faddrR rfl rfl Tryd.underlying112 rfl sz3 rfl) ?_
                            first | refine q_rdO (wanted_none rfl) rfl rfl (rd_loadO (v := .c _) rfl rfl (.inl rfl) Tryd.underlying3 ag3 (by first | decide | (first | omega | decide | (dsimp only at *; omega))) rfl) ?_ | refine q_rd (wanted_none rfl) rfl rfl (rd_loadR (v := .c _) rfl rfl Tryd.underlying3 ag3 (by first | decide | (first | omega | decide | (dsimp only at *; omega))) rfl) ?_ | refine q_rdO (wanted_none rfl) rfl rfl (rd_loadO (v := .c _) rfl rfl (.inr rfl) Tryd.underlying3 ag3 (by first | decide | (first | omega | decide | (dsimp only at *; omega))) rfl) ?_
                            refine q_rd (wanted_none rfl) rfl rfl (rd_move (v := .c _) rfl rfl) ?_
                            refine q_rd (wanted_none rfl) rfl rfl (rd_gt rfl rfl rfl) ?_
                            refine seq_nil ?_
                            refine then_norm ?_
                            first | refine code_condSD rfl rfl (fun h69 => ?_) (fun h69 => ?_) | refine code_condS rfl rfl (fun h69 => ?_) (fun h69 => ?_)
                            · refine code_region ?_
                              first | refine q_rd (wanted_none rfl) rfl rfl (rd_faddrO rfl rfl Tryd.underlying112 rfl sz3 rfl) ?_ | refine q_rd (wanted_none rfl) rfl rfl (rd_faddrR rfl rfl Tryd.underlying112 rfl sz3 rfl) ?_
                              first | refine q_rdO (wanted_none rfl) rfl rfl (rd_loadO (v := .c _) rfl rfl (.inl rfl) Tryd.underlying3 ag3 (by first | decide | (first | omega | decide | (dsimp only at *; omega))) rfl) ?_ | refine q_rd (wanted_none rfl) rfl rfl (rd_loadR (v := .c _) rfl rfl Tryd.underlying3 ag3 (by first | decide | (first | omega | decide | (dsimp only at *; omega))) rfl) ?_ | refine q_rdO (wanted_none rfl) rfl rfl (rd_loadO (v := .c _) rfl rfl (.inr rfl) Tryd.underlying3 ag3 (by first | decide | (first | omega | decide | (dsimp only at *; omega))) rfl) ?_
                              refine q_rd (wanted_none rfl) rfl rfl (rd_assign (v := .c _) rfl rfl) ?_
                              refine seq_nil ?_
                              refine block_norm ?_
                              refine then_norm ?_
                              refine code_region ?_
                              refine q_rd (wanted_none rfl) rfl rfl (rd_add rfl rfl rfl (wrap_id (k := .i64) (by show _ ∧ _; (first | omega | decide | (dsimp only at *; omega))))) ?_
                              refine q_rd (wanted_none rfl) rfl rfl (rd_move (v := .c _) rfl rfl) ?_
                              refine seq_nil ?_
                              refine then_norm ?_
                              refine ⟨i + 1, ?_, ?_, by first | exact .refl | exact .nest .refl rfl rfl | exact .nest (.nest .refl rfl rfl) rfl rfl | exact .nest (.nest (.nest .refl rfl rfl) rfl rfl) rfl rfl | (repeat (first | exact .refl | refine .nest ?_ rfl rfl | refine BLe.look2 ?_ rfl)), rfl, ?_, by exact Nat.le_of_ble_eq_true rfl, ?_⟩
                              · show i + 1 ≤ l.length; omega
                              · show l.length - (i + 1) < l.length - i; omega
                              · exact .cons (CEnt.int (by omega)) (.cons (CEnt.int (by have hs := refS_next (w := w) (q := q) (show i < l.length by omega); rw [hs]; first | (rw [stepR_all hp1 hp2 (hlk.symm.trans h67)]; done) | (rw [stepR_all hp1 hp2 (hlk.symm.trans h67)]; first | exact (if_pos h69).symm | exact (if_neg h69).symm) | (rw [stepR_two hp1 hp2 (hlk.symm.trans (by simpa using h67))]) | rw [stepR_one hp1 (by unfold p2M; first | (simp_all; done) | grind)] | rw [stepR_no (by unfold p1M; first | (simp_all; done) | grind)])) (.cons (CEnt.int (by have hs := refS_next (w := w) (q := q) (show i < l.length by omega); rw [hs]; first | (rw [stepR_all hp1 hp2 (hlk.symm.trans h67)]; done) | (rw [stepR_all hp1 hp2 (hlk.symm.trans h67)]; first | exact (if_pos h69).symm | exact (if_neg h69).symm) | (rw [stepR_two hp1 hp2 (hlk.symm.trans (by simpa using h67))]) | rw [stepR_one hp1 (by unfold p2M; first | (simp_all; done) | grind)] | rw [stepR_no (by unfold p1M; first | (simp_all; done) | grind)])) .nil))
                              · (repeat (first | exact HEnt.nil | refine HEnt.same ?_ | refine HEnt.blk rfl (fun j hj => by rcases j with _|_|_|_|_|_|_|_|j <;> first | exact CEnt.refl _ | exact CEnt.int (by omega) | omega) ?_))
                            · refine code_skip ?_
                              refine block_norm ?_
                              refine then_norm ?_
                              refine code_region ?_
                              refine q_rd (wanted_none rfl) rfl rfl (rd_add rfl rfl rfl (wrap_id (k := .i64) (by show _ ∧ _; (first | omega | decide | (dsimp only at *; omega))))) ?_
                              refine q_rd (wanted_none rfl) rfl rfl (rd_move (v := .c _) rfl rfl) ?_
                              refine seq_nil ?_
                              refine then_norm ?_
                              refine ⟨i + 1, ?_, ?_, by first | exact .refl | exact .nest .refl rfl rfl | exact .nest (.nest .refl rfl rfl) rfl rfl | exact .nest (.nest (.nest .refl rfl rfl) rfl rfl) rfl rfl | (repeat (first | exact .refl | refine .nest ?_ rfl rfl | refine BLe.look2 ?_ rfl)), rfl, ?_, by exact Nat.le_of_ble_eq_true rfl, ?_⟩
                              · show i + 1 ≤ l.length; omega
                              · show l.length - (i + 1) < l.length - i; omega
                              · exact .cons (CEnt.int (by omega)) (.cons (CEnt.int (by have hs := refS_next (w := w) (q := q) (show i < l.length by omega); rw [hs]; first | (rw [stepR_all hp1 hp2 (hlk.symm.trans h67)]; done) | (rw [stepR_all hp1 hp2 (hlk.symm.trans h67)]; first | exact (if_pos h69).symm | exact (if_neg h69).symm) | (rw [stepR_two hp1 hp2 (hlk.symm.trans (by simpa using h67))]) | rw [stepR_one hp1 (by unfold p2M; first | (simp_all; done) | grind)] | rw [stepR_no (by unfold p1M; first | (simp_all; done) | grind)])) (.cons (CEnt.int (by have hs := refS_next (w := w) (q := q) (show i < l.length by omega); rw [hs]; first | (rw [stepR_all hp1 hp2 (hlk.symm.trans h67)]; done) | (rw [stepR_all hp1 hp2 (hlk.symm.trans h67)]; first | exact (if_pos h69).symm | exact (if_neg h69).symm) | (rw [stepR_two hp1 hp2 (hlk.symm.trans (by simpa using h67))]) | rw [stepR_one hp1 (by unfold p2M; first | (simp_all; done) | grind)] | rw [stepR_no (by unfold p1M; first | (simp_all; done) | grind)])) .nil))
                              · (repeat (first | exact HEnt.nil | refine HEnt.same ?_ | refine HEnt.blk rfl (fun j hj => by rcases j with _|_|_|_|_|_|_|_|j <;> first | exact CEnt.refl _ | exact CEnt.int (by omega) | omega) ?_))
                          · refine code_skip ?_
                            refine block_norm ?_
                            refine then_norm ?_
                            refine code_region ?_
                            refine q_rd (wanted_none rfl) rfl rfl (rd_add rfl rfl rfl (wrap_id (k := .i64) (by show _ ∧ _; (first | omega | decide | (dsimp only at *; omega))))) ?_
                            refine q_rd (wanted_none rfl) rfl rfl (rd_move (v := .c _) rfl rfl) ?_
                            refine seq_nil ?_
                            refine then_norm ?_
                            refine ⟨i + 1, ?_, ?_, by first | exact .refl | exact .nest .refl rfl rfl | exact .nest (.nest .refl rfl rfl) rfl rfl | exact .nest (.nest (.nest .refl rfl rfl) rfl rfl) rfl rfl | (repeat (first | exact .refl | refine .nest ?_ rfl rfl | refine BLe.look2 ?_ rfl)), rfl, ?_, by exact Nat.le_of_ble_eq_true rfl, ?_⟩
                            · show i + 1 ≤ l.length; omega
                            · show l.length - (i + 1) < l.length - i; omega
                            · exact .cons (CEnt.int (by omega)) (.cons (CEnt.int (by have hs := refS_next (w := w) (q := q) (show i < l.length by omega); rw [hs]; first | (rw [stepR_all hp1 hp2 (hlk.symm.trans h67)]; done) | (rw [stepR_all hp1 hp2 (hlk.symm.trans h67)]; first | exact (if_pos h69).symm | exact (if_neg h69).symm) | (rw [stepR_two hp1 hp2 (hlk.symm.trans (by simpa using h67))]) | rw [stepR_one hp1 (by unfold p2M; first | (simp_all; done) | grind)] | rw [stepR_no (by unfold p1M; first | (simp_all; done) | grind)])) (.cons (CEnt.int (by have hs := refS_next (w := w) (q := q) (show i < l.length by omega); rw [hs]; first | (rw [stepR_all hp1 hp2 (hlk.symm.trans h67)]; done) | (rw [stepR_all hp1 hp2 (hlk.symm.trans h67)]; first | exact (if_pos h69).symm | exact (if_neg h69).symm) | (rw [stepR_two hp1 hp2 (hlk.symm.trans (by simpa using h67))]) | rw [stepR_one hp1 (by unfold p2M; first | (simp_all; done) | grind)] | rw [stepR_no (by unfold p1M; first | (simp_all; done) | grind)])) .nil))
                            · (repeat (first | exact HEnt.nil | refine HEnt.same ?_ | refine HEnt.blk rfl (fun j hj => by rcases j with _|_|_|_|_|_|_|_|j <;> first | exact CEnt.refl _ | exact CEnt.int (by omega) | omega) ?_))
          · refine code_exit ?_
            refine then_exit ?_
            refine then_exit ?_
            refine block_exit rfl ?_
            refine then_norm ?_
            refine code_seq ?_
            refine code_region ?_
            refine q_rd (wanted_none rfl) rfl rfl (rd_move (v := .c _) rfl rfl) ?_
            refine q_rd (wanted_none rfl) rfl rfl (rd_move (v := .c _) rfl rfl) ?_
            refine q_rd (wanted_none rfl) rfl rfl (rd_assign (v := .c _) rfl rfl) ?_
            refine q_rd (wanted_none rfl) rfl rfl (rd_assign (v := .c _) rfl rfl) ?_
            refine seq_nil ?_
            refine then_norm ?_
            refine code_ret ?_
            refine end_val (.inl rfl) (res_2 rfl (arv_tmp rfl) (arv_tmp rfl)) ?_
            have he : i = l.length := by omega
            exact CEnt.tup2 (CEnt.int (by rw [he, List.take_length, href])) (CEnt.int (by rw [he, List.take_length, href]))
end Am
end Go.Proofs.YtoliiompofonlaaDoor
