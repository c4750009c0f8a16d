
/- Slices of the library on bytes and numbers: Index, Contains, Reverse, Clone, Compare. -/
import Derived.Test.YtghgbhekjgincaaDoorAmA
namespace Go.Proofs.YtghgbhekjgincaaDoor
set_option linter.unusedVariables false
namespace Am
variable {gs : List Nat} [OkG gs]
open Go.RowKit
set_option maxRecDepth 100000

theorem isNaN8_ac {gs : List Nat} (c : UInt8) : ACp gs Tryd.prog 208 [.c (.int .u8 (c.toNat : Nat))] (.c (.bool false)) := by
  refine ac_of 6 Tryd.func208 rfl rfl rfl (fun al w0 F0 St0 => ?_)
  refine code_seq ?_
  refine code_region ?_
  refine q_rd (wanted_none rfl) rfl rfl (rd_assign (v := .c _) rfl rfl) ?_
  refine seq_nil ?_
  refine then_norm ?_
  refine code_seq ?_
  refine code_region ?_
  refine q_rd (wanted_none rfl) rfl rfl (rd_move (v := .c _) rfl rfl) ?_
  refine q_rd (wanted_none rfl) rfl rfl (rd_move (v := .c _) rfl rfl) ?_
  refine q_rd (wanted_none rfl) rfl rfl (rd_neI rfl rfl rfl) ?_
  refine q_rd (wanted_none rfl) rfl rfl (rd_assign (v := .c _) rfl rfl) ?_
  refine seq_nil ?_
  refine then_norm ?_
  refine code_ret ?_
  refine end_val (.inl rfl) (res_1 rfl (arv_tmp rfl)) ?_
  exact CEnt.bool (by simp)
def cmp8 (a b : UInt8) : Int := if a.toNat < b.toNat then -1 else if b.toNat < a.toNat then 1 else 0
theorem cmp8_ac {gs : List Nat} (a b : UInt8) : ACp gs Tryd.prog 173 [.c (.int .u8 (a.toNat : Nat)), .c (.int .u8 (b.toNat : Nat))] (.c (.int .i64 (cmp8 a b))) := by
  refine ac_of 20 Tryd.func173 rfl rfl rfl (fun al w0 F0 St0 => ?_)
  refine code_seq ?_
  refine code_region ?_
  refine q_rd (wanted_none rfl) rfl rfl (rd_assign (v := .c _) rfl rfl) ?_
  refine seq_nil ?_
  refine then_norm ?_
  refine code_seq ?_
  refine code_region ?_
  refine q_rd (wanted_none rfl) rfl rfl (rd_move (v := .c _) rfl rfl) ?_
  refine seq_ex (wanted_none rfl) (e_callP rfl (by kernel_rfl) (isNaN8_ac a) (.cons (by first | exact se rfl (CEnt.refl _) | exact se rfl CEnt.nil | exact se rfl CEnt.nilB | exact se rfl (CEnt.osI rfl) | exact se rfl CEnt.opI | exact se_nilO rfl | exact se rfl (CEnt.agg2 (CEnt.refl _) (CEnt.refl _)) | exact se rfl (CEnt.agg3 (CEnt.refl _) (CEnt.refl _) (CEnt.refl _)) | exact se rfl (CEnt.agg4 (CEnt.refl _) (CEnt.refl _) (CEnt.refl _) (CEnt.refl _)) | exact se rfl (CEnt.agg5 (CEnt.refl _) (CEnt.refl _) (CEnt.refl _) (CEnt.refl _) (CEnt.refl _)) | exact se rfl (CEnt.agg6 (CEnt.refl _) (CEnt.refl _) (CEnt.refl _) (CEnt.refl _) (CEnt.refl _) (CEnt.refl _)) | exact se_frzB _ rfl rfl rfl (by simp) (fun _ _ => CEnt.refl _)) .nil) rfl rfl ?_)
  refine q_rd (wanted_none rfl) rfl rfl (rd_assign (v := .c _) rfl rfl) ?_
  refine seq_nil ?_
  refine then_norm ?_
  refine code_seq ?_
  refine code_region ?_
  refine q_rd (wanted_none rfl) rfl rfl (rd_move (v := .c _) rfl rfl) ?_
  refine seq_ex (wanted_none rfl) (e_callP rfl (by kernel_rfl) (isNaN8_ac b) (.cons (by first | exact se rfl (CEnt.refl _) | exact se rfl CEnt.nil | exact se rfl CEnt.nilB | exact se rfl (CEnt.osI rfl) | exact se rfl CEnt.opI | exact se_nilO rfl | exact se rfl (CEnt.agg2 (CEnt.refl _) (CEnt.refl _)) | exact se rfl (CEnt.agg3 (CEnt.refl _) (CEnt.refl _) (CEnt.refl _)) | exact se rfl (CEnt.agg4 (CEnt.refl _) (CEnt.refl _) (CEnt.refl _) (CEnt.refl _)) | exact se rfl (CEnt.agg5 (CEnt.refl _) (CEnt.refl _) (CEnt.refl _) (CEnt.refl _) (CEnt.refl _)) | exact se rfl (CEnt.agg6 (CEnt.refl _) (CEnt.refl _) (CEnt.refl _) (CEnt.refl _) (CEnt.refl _) (CEnt.refl _)) | exact se_frzB _ rfl rfl rfl (by simp) (fun _ _ => CEnt.refl _)) .nil) rfl rfl ?_)
  refine q_rd (wanted_none rfl) rfl rfl (rd_assign (v := .c _) rfl rfl) ?_
  refine seq_nil ?_
  refine then_norm ?_
  refine code_seq ?_
  refine code_seq ?_
  refine code_region ?_
  refine q_rd (wanted_none rfl) rfl rfl (rd_move (v := .c _) rfl rfl) ?_
  refine seq_nil ?_
  refine then_norm ?_
  first | refine code_condSD rfl rfl (fun h43 => ?_) (fun h43 => ?_) | refine code_condS rfl rfl (fun h43 => ?_) (fun h43 => ?_)
  · refine code_seq ?_
    refine code_seq ?_
    refine code_region ?_
    refine q_rd (wanted_none rfl) rfl rfl (rd_move (v := .c _) rfl rfl) ?_
    refine seq_nil ?_
    refine then_norm ?_
    first | refine code_condSD rfl rfl (fun h44 => ?_) (fun h44 => ?_) | refine code_condS rfl rfl (fun h44 => ?_) (fun h44 => ?_)
    · refine code_seq ?_
      refine code_region ?_
      refine q_rd (wanted_none rfl) rfl rfl (rd_assign (v := .c _) rfl rfl) ?_
      refine seq_nil ?_
      refine then_norm ?_
      refine code_ret ?_
      refine then_ret ?_
      refine then_ret ?_
      refine end_val (.inl rfl) (res_1 rfl (arv_tmp rfl)) ?_
      first | (exfalso; simp at *; done) | (refine CEnt.int ?_; unfold cmp8; split <;> first | omega | (split <;> omega))
    · refine code_skip ?_
      refine then_norm ?_
      refine code_seq ?_
      refine code_region ?_
      refine q_rd (wanted_none rfl) rfl rfl (rd_assign (v := .c _) rfl rfl) ?_
      refine seq_nil ?_
      refine then_norm ?_
      refine code_ret ?_
      refine then_ret ?_
      refine end_val (.inl rfl) (res_1 rfl (arv_tmp rfl)) ?_
      first | (exfalso; simp at *; done) | (refine CEnt.int ?_; unfold cmp8; split <;> first | omega | (split <;> omega))
  · refine code_skip ?_
    refine then_norm ?_
    refine code_seq ?_
    refine code_seq ?_
    refine code_region ?_
    refine q_rd (wanted_none rfl) rfl rfl (rd_move (v := .c _) rfl rfl) ?_
    refine seq_nil ?_
    refine then_norm ?_
    first | refine code_condSD rfl rfl (fun h49 => ?_) (fun h49 => ?_) | refine code_condS rfl rfl (fun h49 => ?_) (fun h49 => ?_)
    · refine code_seq ?_
      refine code_region ?_
      refine q_rd (wanted_none rfl) rfl rfl (rd_assign (v := .c _) rfl rfl) ?_
      refine seq_nil ?_
      refine then_norm ?_
      refine code_ret ?_
      refine then_ret ?_
      refine end_val (.inl rfl) (res_1 rfl (arv_tmp rfl)) ?_
      first | (exfalso; simp at *; done) | (refine CEnt.int ?_; unfold cmp8; split <;> first | omega | (split <;> omega))
    · refine code_skip ?_
      refine then_norm ?_
      refine code_seq ?_
      refine code_seq ?_
      refine code_region ?_
      refine q_rd (wanted_none rfl) rfl rfl (rd_move (v := .c _) rfl rfl) ?_
      refine q_rd (wanted_none rfl) rfl rfl (rd_move (v := .c _) rfl rfl) ?_
      refine q_rd (wanted_none rfl) rfl rfl (rd_lt rfl rfl rfl) ?_
      refine seq_nil ?_
      refine then_norm ?_
      first | refine code_condSD rfl rfl (fun h52 => ?_) (fun h52 => ?_) | refine code_condS rfl rfl (fun h52 => ?_) (fun h52 => ?_)
      · refine code_seq ?_
        refine code_region ?_
        refine q_rd (wanted_none rfl) rfl rfl (rd_assign (v := .c _) rfl rfl) ?_
        refine seq_nil ?_
        refine then_norm ?_
        refine code_ret ?_
        refine then_ret ?_
        refine end_val (.inl rfl) (res_1 rfl (arv_tmp rfl)) ?_
        first | (exfalso; simp at *; done) | (refine CEnt.int ?_; unfold cmp8; split <;> first | omega | (split <;> omega))
      · refine code_skip ?_
        refine then_norm ?_
        refine code_seq ?_
        refine code_seq ?_
        refine code_region ?_
        refine q_rd (wanted_none rfl) rfl rfl (rd_move (v := .c _) rfl rfl) ?_
        refine q_rd (wanted_none rfl) rfl rfl (rd_move (v := .c _) rfl rfl) ?_
        refine q_rd (wanted_none rfl) rfl rfl (rd_gt rfl rfl rfl) ?_
        refine seq_nil ?_
        refine then_norm ?_
        first | refine code_condSD rfl rfl (fun h55 => ?_) (fun h55 => ?_) | refine code_condS rfl rfl (fun h55 => ?_) (fun h55 => ?_)
        · refine code_seq ?_
          refine code_region ?_
          refine q_rd (wanted_none rfl) rfl rfl (rd_assign (v := .c _) rfl rfl) ?_
          refine seq_nil ?_
          refine then_norm ?_
          refine code_ret ?_
          refine then_ret ?_
          refine end_val (.inl rfl) (res_1 rfl (arv_tmp rfl)) ?_
          first | (exfalso; simp at *; done) | (refine CEnt.int ?_; unfold cmp8; split <;> first | omega | (split <;> omega))
        · refine code_skip ?_
          refine then_norm ?_
          refine code_seq ?_
          refine code_region ?_
          refine q_rd (wanted_none rfl) rfl rfl (rd_assign (v := .c _) rfl rfl) ?_
          refine seq_nil ?_
          refine then_norm ?_
          refine code_ret ?_
          refine end_val (.inl rfl) (res_1 rfl (arv_tmp rfl)) ?_
          first | (exfalso; simp at *; done) | (refine CEnt.int ?_; unfold cmp8; split <;> first | omega | (split <;> omega))
/-- bytes in order -/
def cmpL : List UInt8 → List UInt8 → Int
  | [], [] => 0
  | [], _ :: _ => -1
  | _ :: _, [] => 1
  | a :: l, b :: r => if cmp8 a b ≠ 0 then cmp8 a b else cmpL l r
theorem cmpL_lt : ∀ l r : List UInt8, decide (cmpL l r < 0) = Op.bytesLess l r
  | [], [] => by simp [cmpL, Op.bytesLess]
  | [], _ :: _ => by simp [cmpL, Op.bytesLess]
  | _ :: _, [] => by simp [cmpL, Op.bytesLess]
  | a :: l, b :: r => by
    have ih := cmpL_lt l r
    rw [cmpL, Op.bytesLess, ← ih]
    have h1 : (a < b) ↔ a.toNat < b.toNat := UInt8.lt_iff_toNat_lt
    have h2 : (a = b) ↔ a.toNat = b.toNat := UInt8.toNat_inj.symm
    rw [Bool.eq_iff_iff]
    simp only [decide_eq_true_eq, Bool.or_eq_true, Bool.and_eq_true, beq_iff_eq, h1, h2]
    by_cases h3 : a.toNat < b.toNat
    · simp [cmp8, h3]
    · by_cases h4 : b.toNat < a.toNat
      · simp [cmp8, h3, h4]
        omega
      · have h5 : a.toNat = b.toNat := by omega
        simp [cmp8, h5]
theorem cmpL_eq : ∀ l r : List UInt8, cmpL l r = 0 ↔ l = r
  | [], [] => by simp [cmpL]
  | [], _ :: _ => by simp [cmpL]
  | _ :: _, [] => by simp [cmpL]
  | a :: l, b :: r => by
    have ih := cmpL_eq l r
    have h2 : (a = b) ↔ a.toNat = b.toNat := UInt8.toNat_inj.symm
    rw [cmpL, List.cons.injEq, h2]
    by_cases h3 : a.toNat < b.toNat
    · simp [cmp8, h3]
      omega
    · by_cases h4 : b.toNat < a.toNat
      · simp [cmp8, h3, h4]
        omega
      · have h5 : a.toNat = b.toNat := by omega
        simp [cmp8, h5, ih]
theorem cmpL_bd (l r : List UInt8) : -1 ≤ cmpL l r ∧ cmpL l r ≤ 1 := by
  induction l generalizing r with
  | nil => cases r <;> simp [cmpL]
  | cons a l ih =>
    cases r with
    | nil => simp [cmpL]
    | cons b r =>
      rw [cmpL]
      split
      · unfold cmp8; split <;> first | omega | (split <;> omega)
      · exact ih r
theorem cmpL_drop {l r : List UInt8} {i : Nat} (h1 : i < l.length) (h2 : i < r.length) : cmpL (l.drop i) (r.drop i) = if cmp8 (l.getD i 0) (r.getD i 0) ≠ 0 then cmp8 (l.getD i 0) (r.getD i 0) else cmpL (l.drop (i + 1)) (r.drop (i + 1)) := by
  rw [List.drop_eq_getElem_cons h1, List.drop_eq_getElem_cons h2, cmpL]
  simp [List.getD, h1, h2]
theorem compare8_ac {gs : List Nat} (l r : List UInt8) : ACp gs Tryd.prog 125 [bsC l, bsC r] (.c (.int .i64 (cmpL l r))) := by
  refine ac_len 0 rfl fun hlen => ?_
  refine ac_of 36 Tryd.func125 rfl rfl rfl (fun al w0 F0 St0 => ?_)
  refine code_seq ?_
  refine code_region ?_
  refine q_rd (wanted_none rfl) rfl rfl (rd_assign (v := .c _) rfl rfl) ?_
  refine seq_nil ?_
  refine then_norm ?_
  refine code_seq ?_
  refine code_seq ?_
  refine code_region ?_
  first | refine q_rd (wanted_none rfl) rfl rfl (rd_move (v := bsC _) rfl rfl) ?_ | refine q_rd (wanted_none rfl) rfl rfl (rd_move (v := .rs _ _ _) rfl rfl) ?_ | refine q_rd (wanted_none rfl) rfl rfl (rd_move (v := .os _ _ _ _ _) rfl rfl) ?_ | refine q_rd (wanted_none rfl) rfl rfl (rd_move (v := .c _) rfl rfl) ?_ | refine q_rd (wanted_none rfl) rfl rfl (rd_move (v := .pv _) rfl rfl) ?_ | refine q_rd (wanted_none rfl) rfl rfl (rd_move (v := .top) rfl rfl) ?_
  first | refine q_rd (wanted_none rfl) rfl rfl (rd_lenR rfl rfl Tryd.underlying90) ?_ | refine q_rd (wanted_none rfl) rfl rfl (rd_lenO rfl rfl Tryd.underlying90) ?_ | refine q_rd (wanted_none rfl) rfl rfl (rd_lenN rfl rfl Tryd.underlying90) ?_
  refine q_rd (wanted_none rfl) rfl rfl (rd_move (v := .c _) rfl rfl) ?_
  refine seq_nil ?_
  refine then_norm ?_
  refine code_block ?_
  refine l_loop (α := Nat) [4, 5, 6, 7, 8, 11, 12, 13, 14, 15, 16, 17, 18, 19, 20, 21, 22, 23, 24, 25, 26, 27, 28, 29, 30] (fun i => [(11, .c (.int .i64 (i : Nat)))]) (fun _ => []) (fun i => i ≤ l.length ∧ i ≤ r.length ∧ cmpL (l.drop i) (r.drop i) = cmpL l r) (fun i => l.length - i) (0) ?_ (fun _ => rfl) ?_ ?_ ?_
  · exact ⟨by omega, by omega, rfl⟩
  · (repeat (first | exact EntE.nil | refine EntE.cons (CEnt.refl _) ?_ | refine EntE.cons (CEnt.int (by omega)) ?_))
  · (repeat (first | exact HEnt.nil | refine HEnt.same ?_ | refine HEnt.blk rfl (fun j hj => by rcases j with _|_|_|_|_|_|_|_|j <;> first | exact CEnt.refl _ | exact CEnt.int (by omega) | omega) ?_))
  · rintro i ⟨hi, hj, he⟩
    refine code_seq ?_
    refine code_region ?_
    refine q_rd (wanted_none rfl) rfl rfl (rd_lt rfl rfl rfl) ?_
    refine seq_nil ?_
    refine then_norm ?_
    refine code_seq ?_
    first | refine code_condSD rfl rfl (fun h58 => ?_) (fun h58 => ?_) | refine code_condS rfl rfl (fun h58 => ?_) (fun h58 => ?_)
    · refine code_skip ?_
      refine then_norm ?_
      refine code_seq ?_
      refine code_block ?_
      refine code_seq ?_
      refine code_region ?_
      refine q_rd (wanted_none rfl) rfl rfl (rd_move (v := .c _) rfl rfl) ?_
      first | refine q_rd (wanted_none rfl) rfl rfl (rd_iaddrR rfl rfl rfl Tryd.underlying90 sz5 rfl (by (first | omega | decide | (dsimp only at *; omega))) (by decide)) ?_ | refine q_rd (wanted_none rfl) rfl rfl (rd_iaddrO1 rfl rfl rfl Tryd.underlying90 sz5 rfl (by (first | omega | decide | (dsimp only at *; omega)))) ?_ | refine q_rd (wanted_none rfl) rfl rfl (rd_iaddrO rfl rfl rfl Tryd.underlying90 sz5 rfl (by (first | omega | decide | (dsimp only at *; omega)))) ?_ | refine q_rd (wanted_none rfl) rfl rfl (rd_iaddrR rfl rfl rfl Tryd.underlying90 sz5 (natI (by omega)) (by (first | omega | decide | (dsimp only at *; omega))) (by decide)) ?_ | refine q_rd (wanted_none rfl) rfl rfl (rd_iaddrO1 rfl rfl rfl Tryd.underlying90 sz5 (natI (by omega)) (by (first | omega | decide | (dsimp only at *; omega)))) ?_ | refine q_rd (wanted_none rfl) rfl rfl (rd_iaddrO rfl rfl rfl Tryd.underlying90 sz5 (natI (by omega)) (by (first | omega | decide | (dsimp only at *; omega)))) ?_
      first | refine q_rdO (wanted_none rfl) rfl rfl (rd_loadO (v := .c _) rfl rfl (.inl rfl) Tryd.underlying5 ag5 (by first | decide | (first | omega | decide | (dsimp only at *; omega))) rfl) ?_ | refine q_rd (wanted_none rfl) rfl rfl (rd_loadR (v := .c _) rfl rfl Tryd.underlying5 ag5 (by first | decide | (first | omega | decide | (dsimp only at *; omega))) rfl) ?_ | refine q_rdO (wanted_none rfl) rfl rfl (rd_loadO (v := .c _) rfl rfl (.inr rfl) Tryd.underlying5 ag5 (by first | decide | (first | omega | decide | (dsimp only at *; omega))) rfl) ?_
      refine q_rd (wanted_none rfl) rfl rfl (rd_assign (v := .c _) rfl rfl) ?_
      refine q_rd (wanted_none rfl) rfl rfl (rd_assign (v := .c _) rfl rfl) ?_
      refine seq_nil ?_
      refine then_norm ?_
      refine code_seq ?_
      refine code_seq ?_
      refine code_region ?_
      refine q_rd (wanted_none rfl) rfl rfl (rd_move (v := .c _) rfl rfl) ?_
      first | refine q_rd (wanted_none rfl) rfl rfl (rd_move (v := bsC _) rfl rfl) ?_ | refine q_rd (wanted_none rfl) rfl rfl (rd_move (v := .rs _ _ _) rfl rfl) ?_ | refine q_rd (wanted_none rfl) rfl rfl (rd_move (v := .os _ _ _ _ _) rfl rfl) ?_ | refine q_rd (wanted_none rfl) rfl rfl (rd_move (v := .c _) rfl rfl) ?_ | refine q_rd (wanted_none rfl) rfl rfl (rd_move (v := .pv _) rfl rfl) ?_ | refine q_rd (wanted_none rfl) rfl rfl (rd_move (v := .top) rfl rfl) ?_
      first | refine q_rd (wanted_none rfl) rfl rfl (rd_lenR rfl rfl Tryd.underlying90) ?_ | refine q_rd (wanted_none rfl) rfl rfl (rd_lenO rfl rfl Tryd.underlying90) ?_ | refine q_rd (wanted_none rfl) rfl rfl (rd_lenN rfl rfl Tryd.underlying90) ?_
      refine q_rd (wanted_none rfl) rfl rfl (rd_ge rfl rfl rfl) ?_
      refine seq_nil ?_
      refine then_norm ?_
      first | refine code_condSD rfl rfl (fun h59 => ?_) (fun h59 => ?_) | refine code_condS rfl rfl (fun h59 => ?_) (fun h59 => ?_)
      · refine code_seq ?_
        refine code_region ?_
        refine q_rd (wanted_none rfl) rfl rfl (rd_assign (v := .c _) rfl rfl) ?_
        refine seq_nil ?_
        refine then_norm ?_
        refine code_ret ?_
        refine then_ret ?_
        refine block_ret ?_
        refine then_ret ?_
        refine then_ret ?_
        refine block_ret ?_
        refine then_ret ?_
        refine end_val (.inl rfl) (res_1 rfl (arv_tmp rfl)) ?_
        refine CEnt.int ?_
        have : r.drop i = [] := List.drop_eq_nil_of_le (by omega)
        rw [← he, this, List.drop_eq_getElem_cons (by omega)]
        rfl
      · refine code_skip ?_
        refine then_norm ?_
        refine code_seq ?_
        refine code_region ?_
        first | refine q_rd (wanted_none rfl) rfl rfl (rd_move (v := bsC _) rfl rfl) ?_ | refine q_rd (wanted_none rfl) rfl rfl (rd_move (v := .rs _ _ _) rfl rfl) ?_ | refine q_rd (wanted_none rfl) rfl rfl (rd_move (v := .os _ _ _ _ _) rfl rfl) ?_ | refine q_rd (wanted_none rfl) rfl rfl (rd_move (v := .c _) rfl rfl) ?_ | refine q_rd (wanted_none rfl) rfl rfl (rd_move (v := .pv _) rfl rfl) ?_ | refine q_rd (wanted_none rfl) rfl rfl (rd_move (v := .top) rfl rfl) ?_
        refine q_rd (wanted_none rfl) rfl rfl (rd_move (v := .c _) rfl rfl) ?_
        first | refine q_rd (wanted_none rfl) rfl rfl (rd_iaddrR rfl rfl rfl Tryd.underlying90 sz5 rfl (by (first | omega | decide | (dsimp only at *; omega))) (by decide)) ?_ | refine q_rd (wanted_none rfl) rfl rfl (rd_iaddrO1 rfl rfl rfl Tryd.underlying90 sz5 rfl (by (first | omega | decide | (dsimp only at *; omega)))) ?_ | refine q_rd (wanted_none rfl) rfl rfl (rd_iaddrO rfl rfl rfl Tryd.underlying90 sz5 rfl (by (first | omega | decide | (dsimp only at *; omega)))) ?_ | refine q_rd (wanted_none rfl) rfl rfl (rd_iaddrR rfl rfl rfl Tryd.underlying90 sz5 (natI (by omega)) (by (first | omega | decide | (dsimp only at *; omega))) (by decide)) ?_ | refine q_rd (wanted_none rfl) rfl rfl (rd_iaddrO1 rfl rfl rfl Tryd.underlying90 sz5 (natI (by omega)) (by (first | omega | decide | (dsimp only at *; omega)))) ?_ | refine q_rd (wanted_none rfl) rfl rfl (rd_iaddrO rfl rfl rfl Tryd.underlying90 sz5 (natI (by omega)) (by (first | omega | decide | (dsimp only at *; omega)))) ?_
        first | refine q_rdO (wanted_none rfl) rfl rfl (rd_loadO (v := .c _) rfl rfl (.inl rfl) Tryd.underlying5 ag5 (by first | decide | (first | omega | decide | (dsimp only at *; omega))) rfl) ?_ | refine q_rd (wanted_none rfl) rfl rfl (rd_loadR (v := .c _) rfl rfl Tryd.underlying5 ag5 (by first | decide | (first | omega | decide | (dsimp only at *; omega))) rfl) ?_ | refine q_rdO (wanted_none rfl) rfl rfl (rd_loadO (v := .c _) rfl rfl (.inr rfl) Tryd.underlying5 ag5 (by first | decide | (first | omega | decide | (dsimp only at *; omega))) rfl) ?_
        refine q_rd (wanted_none rfl) rfl rfl (rd_assign (v := .c _) rfl rfl) ?_
        refine seq_nil ?_
        refine then_norm ?_
        refine code_seq ?_
        refine code_region ?_
        refine q_rd (wanted_none rfl) rfl rfl (rd_move (v := .c _) rfl rfl) ?_
        refine q_rd (wanted_none rfl) rfl rfl (rd_move (v := .c _) rfl rfl) ?_
        refine seq_ex (wanted_none rfl) (e_callP rfl (by kernel_rfl) (cmp8_ac (l.getD i 0) (r.getD i 0)) (.cons (by first | exact se rfl (CEnt.refl _) | exact se rfl CEnt.nil | exact se rfl CEnt.nilB | exact se rfl (CEnt.osI rfl) | exact se rfl CEnt.opI | exact se_nilO rfl | exact se rfl (CEnt.agg2 (CEnt.refl _) (CEnt.refl _)) | exact se rfl (CEnt.agg3 (CEnt.refl _) (CEnt.refl _) (CEnt.refl _)) | exact se rfl (CEnt.agg4 (CEnt.refl _) (CEnt.refl _) (CEnt.refl _) (CEnt.refl _)) | exact se rfl (CEnt.agg5 (CEnt.refl _) (CEnt.refl _) (CEnt.refl _) (CEnt.refl _) (CEnt.refl _)) | exact se rfl (CEnt.agg6 (CEnt.refl _) (CEnt.refl _) (CEnt.refl _) (CEnt.refl _) (CEnt.refl _) (CEnt.refl _)) | exact se_frzB _ rfl rfl rfl (by simp) (fun _ _ => CEnt.refl _)) (.cons (by first | exact se rfl (CEnt.refl _) | exact se rfl CEnt.nil | exact se rfl CEnt.nilB | exact se rfl (CEnt.osI rfl) | exact se rfl CEnt.opI | exact se_nilO rfl | exact se rfl (CEnt.agg2 (CEnt.refl _) (CEnt.refl _)) | exact se rfl (CEnt.agg3 (CEnt.refl _) (CEnt.refl _) (CEnt.refl _)) | exact se rfl (CEnt.agg4 (CEnt.refl _) (CEnt.refl _) (CEnt.refl _) (CEnt.refl _)) | exact se rfl (CEnt.agg5 (CEnt.refl _) (CEnt.refl _) (CEnt.refl _) (CEnt.refl _) (CEnt.refl _)) | exact se rfl (CEnt.agg6 (CEnt.refl _) (CEnt.refl _) (CEnt.refl _) (CEnt.refl _) (CEnt.refl _) (CEnt.refl _)) | exact se_frzB _ rfl rfl rfl (by simp) (fun _ _ => CEnt.refl _)) .nil)) rfl rfl ?_)
        refine q_rd (wanted_none rfl) rfl rfl (rd_assign (v := .c _) rfl rfl) ?_
        refine seq_nil ?_
        refine then_norm ?_
        refine code_seq ?_
        refine code_region ?_
        refine q_rd (wanted_none rfl) rfl rfl (rd_move (v := .c _) rfl rfl) ?_
        refine q_rd (wanted_none rfl) rfl rfl (rd_neI rfl rfl rfl) ?_
        refine seq_nil ?_
        refine then_norm ?_
        first | refine code_condSD rfl rfl (fun h63 => ?_) (fun h63 => ?_) | refine code_condS rfl rfl (fun h63 => ?_) (fun h63 => ?_)
        · refine code_seq ?_
          refine code_region ?_
          refine q_rd (wanted_none rfl) rfl rfl (rd_move (v := .c _) rfl rfl) ?_
          refine q_rd (wanted_none rfl) rfl rfl (rd_assign (v := .c _) rfl rfl) ?_
          refine seq_nil ?_
          refine then_norm ?_
          refine code_ret ?_
          refine block_ret ?_
          refine then_ret ?_
          refine then_ret ?_
          refine block_ret ?_
          refine then_ret ?_
          refine end_val (.inl rfl) (res_1 rfl (arv_tmp rfl)) ?_
          refine CEnt.int ?_
          rw [← he, cmpL_drop (l := l) (r := r) (i := i) (by omega) (by omega), if_pos h63]
        · refine code_skip ?_
          refine block_norm ?_
          refine then_norm ?_
          refine code_region ?_
          refine q_rd (wanted_none rfl) rfl rfl (rd_add rfl rfl rfl (wrap_id (k := .i64) (by show _ ∧ _; (first | omega | decide | (dsimp only at *; omega))))) ?_
          refine q_rd (wanted_none rfl) rfl rfl (rd_move (v := .c _) rfl rfl) ?_
          refine seq_nil ?_
          refine then_norm ?_
          refine ⟨i + 1, ?_, ?_, by first | exact .refl | exact .nest .refl rfl rfl | exact .nest (.nest .refl rfl rfl) rfl rfl | exact .nest (.nest (.nest .refl rfl rfl) rfl rfl) rfl rfl, rfl, ?_, by exact Nat.le_of_ble_eq_true rfl, ?_⟩
          · exact ⟨by omega, by omega, by rw [← he, cmpL_drop (l := l) (r := r) (i := i) (by omega) (by omega), if_neg h63]⟩
          · omega
          · (repeat (first | exact EntE.nil | refine EntE.cons (CEnt.refl _) ?_ | refine EntE.cons (CEnt.int (by omega)) ?_))
          · (repeat (first | exact HEnt.nil | refine HEnt.same ?_ | refine HEnt.blk rfl (fun j hj => by rcases j with _|_|_|_|_|_|_|_|j <;> first | exact CEnt.refl _ | exact CEnt.int (by omega) | omega) ?_))
    · refine code_exit ?_
      refine then_exit ?_
      refine then_exit ?_
      refine block_exit rfl ?_
      refine then_norm ?_
      refine code_seq ?_
      refine code_seq ?_
      refine code_region ?_
      first | refine q_rd (wanted_none rfl) rfl rfl (rd_move (v := bsC _) rfl rfl) ?_ | refine q_rd (wanted_none rfl) rfl rfl (rd_move (v := .rs _ _ _) rfl rfl) ?_ | refine q_rd (wanted_none rfl) rfl rfl (rd_move (v := .os _ _ _ _ _) rfl rfl) ?_ | refine q_rd (wanted_none rfl) rfl rfl (rd_move (v := .c _) rfl rfl) ?_ | refine q_rd (wanted_none rfl) rfl rfl (rd_move (v := .pv _) rfl rfl) ?_ | refine q_rd (wanted_none rfl) rfl rfl (rd_move (v := .top) rfl rfl) ?_
      first | refine q_rd (wanted_none rfl) rfl rfl (rd_lenR rfl rfl Tryd.underlying90) ?_ | refine q_rd (wanted_none rfl) rfl rfl (rd_lenO rfl rfl Tryd.underlying90) ?_ | refine q_rd (wanted_none rfl) rfl rfl (rd_lenN rfl rfl Tryd.underlying90) ?_
      first | refine q_rd (wanted_none rfl) rfl rfl (rd_move (v := bsC _) rfl rfl) ?_ | refine q_rd (wanted_none rfl) rfl rfl (rd_move (v := .rs _ _ _) rfl rfl) ?_ | refine q_rd (wanted_none rfl) rfl rfl (rd_move (v := .os _ _ _ _ _) rfl rfl) ?_ | refine q_rd (wanted_none rfl) rfl rfl (rd_move (v := .c _) rfl rfl) ?_ | refine q_rd (wanted_none rfl) rfl rfl (rd_move (v := .pv _) rfl rfl) ?_ | refine q_rd (wanted_none rfl) rfl rfl (rd_move (v := .top) rfl rfl) ?_
      first | refine q_rd (wanted_none rfl) rfl rfl (rd_lenR rfl rfl Tryd.underlying90) ?_ | refine q_rd (wanted_none rfl) rfl rfl (rd_lenO rfl rfl Tryd.underlying90) ?_ | refine q_rd (wanted_none rfl) rfl rfl (rd_lenN rfl rfl Tryd.underlying90) ?_
      refine q_rd (wanted_none rfl) rfl rfl (rd_lt rfl rfl rfl) ?_
      refine seq_nil ?_
      refine then_norm ?_
      first | refine code_condSD rfl rfl (fun h67 => ?_) (fun h67 => ?_) | refine code_condS rfl rfl (fun h67 => ?_) (fun h67 => ?_)
      · refine code_seq ?_
        refine code_region ?_
        refine q_rd (wanted_none rfl) rfl rfl (rd_assign (v := .c _) rfl rfl) ?_
        refine seq_nil ?_
        refine then_norm ?_
        refine code_ret ?_
        refine then_ret ?_
        refine end_val (.inl rfl) (res_1 rfl (arv_tmp rfl)) ?_
        refine CEnt.int ?_
        have h1 : l.drop i = [] := List.drop_eq_nil_of_le (by omega)
        rw [← he, h1]
        first | (rw [List.drop_eq_nil_of_le (show r.length ≤ i by omega)]; rfl) | (rw [List.drop_eq_getElem_cons (show i < r.length by omega)]; rfl)
      · refine code_skip ?_
        refine then_norm ?_
        refine code_seq ?_
        refine code_region ?_
        refine q_rd (wanted_none rfl) rfl rfl (rd_assign (v := .c _) rfl rfl) ?_
        refine seq_nil ?_
        refine then_norm ?_
        refine code_ret ?_
        refine end_val (.inl rfl) (res_1 rfl (arv_tmp rfl)) ?_
        refine CEnt.int ?_
        have h1 : l.drop i = [] := List.drop_eq_nil_of_le (by omega)
        rw [← he, h1]
        first | (rw [List.drop_eq_nil_of_le (show r.length ≤ i by omega)]; rfl) | (rw [List.drop_eq_getElem_cons (show i < r.length by omega)]; rfl)

/-- where a number first stands -/
def idxI (l : List Int) (x : Int) : Int := if x ∈ l then (l.idxOf x : Nat) else -1
/-- a list, turned at its ends up to i -/
def revJ (l : List UInt8) (i : Nat) : List UInt8 := (List.range l.length).map fun j => if j < i ∨ l.length ≤ j + i then l.reverse.getD j 0 else l.getD j 0
theorem revJ_len (l : List UInt8) (i : Nat) : (revJ l i).length = l.length := by simp [revJ]
theorem revJ_get {l : List UInt8} {i j : Nat} (h : j < l.length) : (revJ l i).getD j 0 = if j < i ∨ l.length ≤ j + i then l.reverse.getD j 0 else l.getD j 0 := by simp [revJ, List.getD, h]
theorem rev_get {l : List UInt8} {j : Nat} (h : j < l.length) : l.reverse.getD j 0 = l.getD (l.length - 1 - j) 0 := by
  simp [List.getD, List.getElem?_reverse h, show l.length - 1 - j < l.length by omega]
theorem revJ_all {l : List UInt8} {i : Nat} (h : l.length ≤ 2 * i + 1) : revJ l i = l.reverse := by
  apply List.ext_getElem
  · simp [revJ]
  · intro j h1 h2
    have hj : j < l.length := by simpa using h2
    have e := revJ_get (i := i) hj
    simp only [List.getD_eq_getElem?_getD, List.getElem?_eq_getElem h1, List.getElem?_eq_getElem h2, List.getElem?_eq_getElem hj, Option.getD_some] at e
    rw [e]
    split
    · rfl
    · have : j = l.length - 1 - j := by omega
      rw [List.getElem_reverse]
      congr 1
theorem revJ_zero (l : List UInt8) : revJ l 0 = l := by
  apply List.ext_getElem
  · simp [revJ]
  · intro j h1 h2
    have e := revJ_get (i := 0) h2
    simp only [List.getD_eq_getElem?_getD, List.getElem?_eq_getElem h1, List.getElem?_eq_getElem h2, Option.getD_some] at e
    rw [e, if_neg (by omega)]
def OwnL (g : Option Nat) (l : List UInt8) : CV → List (Option Nat × Res) → Prop := fun r H' => r = .c (.tuple #[]) ∧ H' = [(g, .blk l.length (byF l))]
theorem reverse8_ac {gs : List Nat} (g : Option Nat) (l : List UInt8) (hl : l.length ≤ 100000000000) : AC gs Tryd.prog 128 [(g, .blk l.length (byF l))] [.os 0 g 0 l.length 1] (OwnL g l.reverse) := by
  refine ac_of 28 Tryd.func128 rfl rfl rfl (fun al w0 F0 St0 => ?_)
  refine code_seq ?_
  refine code_region ?_
  first | refine q_rd (wanted_none rfl) rfl rfl (rd_move (v := bsC _) rfl rfl) ?_ | refine q_rd (wanted_none rfl) rfl rfl (rd_move (v := .rs _ _ _) rfl rfl) ?_ | refine q_rd (wanted_none rfl) rfl rfl (rd_move (v := .os _ _ _ _ _) rfl rfl) ?_ | refine q_rd (wanted_none rfl) rfl rfl (rd_move (v := .c _) rfl rfl) ?_ | refine q_rd (wanted_none rfl) rfl rfl (rd_move (v := .pv _) rfl rfl) ?_ | refine q_rd (wanted_none rfl) rfl rfl (rd_move (v := .top) rfl rfl) ?_
  first | refine q_rd (wanted_none rfl) rfl rfl (rd_lenR rfl rfl Tryd.underlying90) ?_ | refine q_rd (wanted_none rfl) rfl rfl (rd_lenO rfl rfl Tryd.underlying90) ?_ | refine q_rd (wanted_none rfl) rfl rfl (rd_lenN rfl rfl Tryd.underlying90) ?_
  refine q_rd (wanted_none rfl) rfl rfl (rd_sub rfl rfl rfl (wrap_id (k := .i64) (by show _ ∧ _; (first | omega | decide | (dsimp only at *; omega))))) ?_
  refine q_rd (wanted_none rfl) rfl rfl (rd_assign (v := .c _) rfl rfl) ?_
  refine q_rd (wanted_none rfl) rfl rfl (rd_assign (v := .c _) rfl rfl) ?_
  refine seq_nil ?_
  refine then_norm ?_
  refine code_block ?_
  refine l_loop (α := Nat) [2, 3, 7, 8, 9, 10, 11, 12, 13, 14, 15, 16, 17, 18, 19, 20, 21, 22, 23, 24, 25, 26, 27] (fun i => [(2, .c (.int .i64 (i : Nat))), (3, .c (.int .i64 ((l.length : Int) - 1 - i)))]) (fun i => [(g, .blk l.length (byF (revJ l i)))]) (fun i => 2 * i ≤ l.length + 1) (fun i => l.length - i) (0) ?_ (fun _ => rfl) ?_ ?_ ?_
  · show 2 * 0 ≤ l.length + 1; omega
  · exact .cons (CEnt.refl _) (.cons (CEnt.int (by omega)) .nil)
  · exact .blk rfl (fun j hj => by rw [revJ_zero]; exact CEnt.refl _) .nil
  · rintro i (hi : 2 * i ≤ l.length + 1)
    refine code_seq ?_
    refine code_seq ?_
    refine code_region ?_
    refine q_rd (wanted_none rfl) rfl rfl (rd_move (v := .c _) rfl rfl) ?_
    refine q_rd (wanted_none rfl) rfl rfl (rd_move (v := .c _) rfl rfl) ?_
    refine q_rd (wanted_none rfl) rfl rfl (rd_lt rfl rfl rfl) ?_
    refine seq_nil ?_
    refine then_norm ?_
    first | refine code_condSD rfl rfl (fun h484 => ?_) (fun h484 => ?_) | refine code_condS rfl rfl (fun h484 => ?_) (fun h484 => ?_)
    · refine code_skip ?_
      refine then_norm ?_
      refine code_seq ?_
      refine code_block ?_
      refine code_drawZ (.rd 0 (.rd 1 (.rd 2 (.rd 3 (.rd 4 (.rd 5 (.rd 6 (.rd 7 (.rd 8 (.rd 9 (.rd 10 (.rd 11 (.rd 12 (.one 13 (.rd 14 (.one 15 .done)))))))))))))))) (by kernel_rfl) (by kernel_rfl) rfl (by kernel_rfl) (by kernel_rfl) ?_
      simp only [opsOfT, List.getElem?_toArray, List.getElem?_cons_zero, List.getElem?_cons_succ]
      first | refine zz_rd (wanted_none rfl) rfl rfl (rd_move (v := bsC _) rfl rfl) ?_ | refine zz_rd (wanted_none rfl) rfl rfl (rd_move (v := .rs _ _ _) rfl rfl) ?_ | refine zz_rd (wanted_none rfl) rfl rfl (rd_move (v := .os _ _ _ _ _) rfl rfl) ?_ | refine zz_rd (wanted_none rfl) rfl rfl (rd_move (v := .c _) rfl rfl) ?_ | refine zz_rd (wanted_none rfl) rfl rfl (rd_move (v := .pv _) rfl rfl) ?_ | refine zz_rd (wanted_none rfl) rfl rfl (rd_move (v := .top) rfl rfl) ?_
      refine zz_rd (wanted_none rfl) rfl rfl (rd_move (v := .c _) rfl rfl) ?_
      first | refine zz_rd (wanted_none rfl) rfl rfl (rd_move (v := bsC _) rfl rfl) ?_ | refine zz_rd (wanted_none rfl) rfl rfl (rd_move (v := .rs _ _ _) rfl rfl) ?_ | refine zz_rd (wanted_none rfl) rfl rfl (rd_move (v := .os _ _ _ _ _) rfl rfl) ?_ | refine zz_rd (wanted_none rfl) rfl rfl (rd_move (v := .c _) rfl rfl) ?_ | refine zz_rd (wanted_none rfl) rfl rfl (rd_move (v := .pv _) rfl rfl) ?_ | refine zz_rd (wanted_none rfl) rfl rfl (rd_move (v := .top) rfl rfl) ?_
      refine zz_rd (wanted_none rfl) rfl rfl (rd_move (v := .c _) rfl rfl) ?_
      first | refine zz_rd (wanted_none rfl) rfl rfl (rd_move (v := bsC _) rfl rfl) ?_ | refine zz_rd (wanted_none rfl) rfl rfl (rd_move (v := .rs _ _ _) rfl rfl) ?_ | refine zz_rd (wanted_none rfl) rfl rfl (rd_move (v := .os _ _ _ _ _) rfl rfl) ?_ | refine zz_rd (wanted_none rfl) rfl rfl (rd_move (v := .c _) rfl rfl) ?_ | refine zz_rd (wanted_none rfl) rfl rfl (rd_move (v := .pv _) rfl rfl) ?_ | refine zz_rd (wanted_none rfl) rfl rfl (rd_move (v := .top) rfl rfl) ?_
      refine zz_rd (wanted_none rfl) rfl rfl (rd_move (v := .c _) rfl rfl) ?_
      first | refine zz_rd (wanted_none rfl) rfl rfl (rd_iaddrR rfl rfl rfl Tryd.underlying90 sz5 (show _ = (((l.length - 1 - i) : Nat) : Int) by first | omega | (simp only [List.length_append, List.length_cons, List.length_nil]; omega)) (by (first | omega | decide | (dsimp only at *; omega))) (by decide)) ?_ | refine zz_rd (wanted_none rfl) rfl rfl (rd_iaddrO1 rfl rfl rfl Tryd.underlying90 sz5 (show _ = (((l.length - 1 - i) : Nat) : Int) by first | omega | (simp only [List.length_append, List.length_cons, List.length_nil]; omega)) (by (first | omega | decide | (dsimp only at *; omega)))) ?_ | refine zz_rd (wanted_none rfl) rfl rfl (rd_iaddrO rfl rfl rfl Tryd.underlying90 sz5 (show _ = (((l.length - 1 - i) : Nat) : Int) by first | omega | (simp only [List.length_append, List.length_cons, List.length_nil]; omega)) (by (first | omega | decide | (dsimp only at *; omega)))) ?_
      first | refine zz_rdO (wanted_none rfl) rfl rfl (by kernel_rfl) (rd_loadO (v := .c _) rfl rfl (.inl rfl) Tryd.underlying5 ag5 (by first | decide | (first | omega | decide | (dsimp only at *; omega))) rfl) ?_ | refine zz_rd (wanted_none rfl) rfl rfl (rd_loadR (v := .c _) rfl rfl Tryd.underlying5 ag5 (by first | decide | (first | omega | decide | (dsimp only at *; omega))) rfl) ?_ | refine zz_rdO (wanted_none rfl) rfl rfl (by kernel_rfl) (rd_loadO (v := .c _) rfl rfl (.inr rfl) Tryd.underlying5 ag5 (by first | decide | (first | omega | decide | (dsimp only at *; omega))) rfl) ?_
      first | refine zz_rd (wanted_none rfl) rfl rfl (rd_move (v := bsC _) rfl rfl) ?_ | refine zz_rd (wanted_none rfl) rfl rfl (rd_move (v := .rs _ _ _) rfl rfl) ?_ | refine zz_rd (wanted_none rfl) rfl rfl (rd_move (v := .os _ _ _ _ _) rfl rfl) ?_ | refine zz_rd (wanted_none rfl) rfl rfl (rd_move (v := .c _) rfl rfl) ?_ | refine zz_rd (wanted_none rfl) rfl rfl (rd_move (v := .pv _) rfl rfl) ?_ | refine zz_rd (wanted_none rfl) rfl rfl (rd_move (v := .top) rfl rfl) ?_
      refine zz_rd (wanted_none rfl) rfl rfl (rd_move (v := .c _) rfl rfl) ?_
      first | refine zz_rd (wanted_none rfl) rfl rfl (rd_iaddrR rfl rfl rfl Tryd.underlying90 sz5 (show _ = ((i : Nat) : Int) by first | omega | (simp only [List.length_append, List.length_cons, List.length_nil]; omega)) (by (first | omega | decide | (dsimp only at *; omega))) (by decide)) ?_ | refine zz_rd (wanted_none rfl) rfl rfl (rd_iaddrO1 rfl rfl rfl Tryd.underlying90 sz5 (show _ = ((i : Nat) : Int) by first | omega | (simp only [List.length_append, List.length_cons, List.length_nil]; omega)) (by (first | omega | decide | (dsimp only at *; omega)))) ?_ | refine zz_rd (wanted_none rfl) rfl rfl (rd_iaddrO rfl rfl rfl Tryd.underlying90 sz5 (show _ = ((i : Nat) : Int) by first | omega | (simp only [List.length_append, List.length_cons, List.length_nil]; omega)) (by (first | omega | decide | (dsimp only at *; omega)))) ?_
      first | refine zz_rdO (wanted_none rfl) rfl rfl (by kernel_rfl) (rd_loadO (v := .c _) rfl rfl (.inl rfl) Tryd.underlying5 ag5 (by first | decide | (first | omega | decide | (dsimp only at *; omega))) rfl) ?_ | refine zz_rd (wanted_none rfl) rfl rfl (rd_loadR (v := .c _) rfl rfl Tryd.underlying5 ag5 (by first | decide | (first | omega | decide | (dsimp only at *; omega))) rfl) ?_ | refine zz_rdO (wanted_none rfl) rfl rfl (by kernel_rfl) (rd_loadO (v := .c _) rfl rfl (.inr rfl) Tryd.underlying5 ag5 (by first | decide | (first | omega | decide | (dsimp only at *; omega))) rfl) ?_
      first | refine zz_rd (wanted_none rfl) rfl rfl (rd_iaddrR rfl rfl rfl Tryd.underlying90 sz5 (show _ = ((i : Nat) : Int) by first | omega | (simp only [List.length_append, List.length_cons, List.length_nil]; omega)) (by (first | omega | decide | (dsimp only at *; omega))) (by decide)) ?_ | refine zz_rd (wanted_none rfl) rfl rfl (rd_iaddrO1 rfl rfl rfl Tryd.underlying90 sz5 (show _ = ((i : Nat) : Int) by first | omega | (simp only [List.length_append, List.length_cons, List.length_nil]; omega)) (by (first | omega | decide | (dsimp only at *; omega)))) ?_ | refine zz_rd (wanted_none rfl) rfl rfl (rd_iaddrO rfl rfl rfl Tryd.underlying90 sz5 (show _ = ((i : Nat) : Int) by first | omega | (simp only [List.length_append, List.length_cons, List.length_nil]; omega)) (by (first | omega | decide | (dsimp only at *; omega)))) ?_
      refine z_md (wanted_none rfl) rfl (m_store rfl rfl rfl rfl rfl sz5 rfl rfl (by first | decide | (first | omega | decide | (dsimp only at *; omega))) _ (fun _ _ => CEnt.refl _) rfl ?_)
      first | refine zz_rd (wanted_none rfl) rfl rfl (rd_iaddrR rfl rfl rfl Tryd.underlying90 sz5 (show _ = (((l.length - 1 - i) : Nat) : Int) by first | omega | (simp only [List.length_append, List.length_cons, List.length_nil]; omega)) (by (first | omega | decide | (dsimp only at *; omega))) (by decide)) ?_ | refine zz_rd (wanted_none rfl) rfl rfl (rd_iaddrO1 rfl rfl rfl Tryd.underlying90 sz5 (show _ = (((l.length - 1 - i) : Nat) : Int) by first | omega | (simp only [List.length_append, List.length_cons, List.length_nil]; omega)) (by (first | omega | decide | (dsimp only at *; omega)))) ?_ | refine zz_rd (wanted_none rfl) rfl rfl (rd_iaddrO rfl rfl rfl Tryd.underlying90 sz5 (show _ = (((l.length - 1 - i) : Nat) : Int) by first | omega | (simp only [List.length_append, List.length_cons, List.length_nil]; omega)) (by (first | omega | decide | (dsimp only at *; omega)))) ?_
      refine z_md (wanted_none rfl) rfl (m_store rfl rfl rfl rfl rfl sz5 rfl rfl (by first | decide | (first | omega | decide | (dsimp only at *; omega))) _ (fun _ _ => CEnt.refl _) rfl ?_)
      refine z_done ?_
      refine block_norm ?_
      refine then_norm ?_
      refine code_region ?_
      refine q_rd (wanted_none rfl) rfl rfl (rd_move (v := .c _) rfl rfl) ?_
      refine q_rd (wanted_none rfl) rfl rfl (rd_add rfl rfl rfl (wrap_id (k := .i64) (by show _ ∧ _; (first | omega | decide | (dsimp only at *; omega))))) ?_
      refine q_rd (wanted_none rfl) rfl rfl (rd_move (v := .c _) rfl rfl) ?_
      refine q_rd (wanted_none rfl) rfl rfl (rd_sub rfl rfl rfl (wrap_id (k := .i64) (by show _ ∧ _; (first | omega | decide | (dsimp only at *; omega))))) ?_
      refine q_rd (wanted_none rfl) rfl rfl (rd_assign (v := .c _) rfl rfl) ?_
      refine q_rd (wanted_none rfl) rfl rfl (rd_assign (v := .c _) rfl rfl) ?_
      refine seq_nil ?_
      refine then_norm ?_
      refine ⟨i + 1, ?_, ?_, by first | exact .refl | exact .nest .refl rfl rfl | exact .nest (.nest .refl rfl rfl) rfl rfl | exact .nest (.nest (.nest .refl rfl rfl) rfl rfl) rfl rfl, rfl, ?_, by exact Nat.le_of_ble_eq_true rfl, ?_⟩
      · show 2 * (i + 1) ≤ l.length + 1; omega
      · omega
      · (repeat (first | exact EntE.nil | refine EntE.cons (CEnt.refl _) ?_ | refine EntE.cons (CEnt.int (by omega)) ?_))
      · exact .blk rfl (fun j hj => by
          refine (CEnt.of_eq (updF_one _ _ _ j)).trans ?_
          have hj : j < l.length := hj
          have e3 := revJ_get (i := i + 1) hj
          have ri := @rev_get l i (by omega)
          have rj := @rev_get l (l.length - 1 - i) (by omega)
          have ei := @revJ_get l i i (by omega)
          have ej := @revJ_get l i (l.length - 1 - i) (by omega)
          rw [if_neg (by omega)] at ei ej
          rw [show l.length - 1 - (l.length - 1 - i) = i by omega] at rj
          show CEnt (if j = _ then _ else updF (byF (revJ l i)) i [_] j) _
          rw [updF_one]
          unfold byF
          by_cases h1 : j = l.length - 1 - i
          · rw [if_pos h1]
            subst h1
            exact CEnt.int (by rw [ei, e3, if_pos (.inr (by omega)), rj])
          · rw [if_neg h1]
            by_cases h2 : j = i
            · rw [if_pos h2]
              subst h2
              exact CEnt.int (by rw [ej, e3, if_pos (.inl (by omega)), ri])
            · rw [if_neg h2]
              have e0 := revJ_get (i := i) hj
              refine CEnt.int ?_
              rw [e0, e3]
              by_cases h3 : j < i ∨ l.length ≤ j + i
              · rw [if_pos h3, if_pos (by omega)]
              · rw [if_neg h3, if_neg (by omega)]) .nil
    · refine code_exit ?_
      refine then_exit ?_
      refine then_exit ?_
      refine block_exit rfl ?_
      exact end_own (.inr rfl) _ _ [0] (by decide) rfl (res_0 rfl) ⟨rfl, by show [(g, Res.blk l.length (byF (revJ l i)))] = _; rw [revJ_all (by omega), List.length_reverse]⟩
end Am
end Go.Proofs.YtghgbhekjgincaaDoor
