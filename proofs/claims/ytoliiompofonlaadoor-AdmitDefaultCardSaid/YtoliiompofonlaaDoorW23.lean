
/- Chapter 23: grants: tables, ContainsFunc, Clone, DeleteFunc. -/
import Derived.Test.YtoliiompofonlaaDoorW09n
import Derived.Test.YtoliiompofonlaaDoorAmI
import Derived.Test.YtoliiompofonlaaDoorAmF
namespace Go.Proofs.YtoliiompofonlaaDoor
set_option linter.unusedVariables false
namespace Am
variable {gs : List Nat} [OkG gs]
open Go.RowKit
set_option maxRecDepth 100000

abbrev G5 := Int × Int × Bool × Int × Int
def grF (r : G5) : Nat → CV := fl [.c (.int .i64 r.1), .c (.int .i64 r.2.1), .c (.bool r.2.2.1), .c (.int .i64 r.2.2.2.1), .c (.int .i64 r.2.2.2.2)]
def grC (r : G5) : CV := .agg 5 (grF r)
def g0 : G5 := (0, 0, false, 0, 0)
def gtC (l : List G5) : CV := .rs 5 l.length fun i => grF (l.getD i g0)
theorem gidx_ac {gs : List Nat} {g : FuncId} {n : Nat} {fv : Nat → CV} (hc : calleeB Tryd.prog g = true) (l : List G5) (p : G5 → Bool) (hp : ∀ r, ACp gs Tryd.prog g (grC r :: (List.range n).map fv) (.c (.bool (p r)))) :
    ACp gs Tryd.prog 120 [gtC l, .fn g n fv] (.c (.int .i64 (firstI p l))) := by
  refine ac_len 0 rfl fun hlen => ?_
  refine ac_of 19 Tryd.func120 rfl rfl rfl (fun al w0 F0 St0 => ?_)
  refine code_seq ?_
  refine code_region ?_
  refine q_rd (wanted_none rfl) rfl rfl (rd_assign (v := .c _) rfl rfl) ?_
  refine seq_nil ?_
  refine then_norm ?_
  refine code_seq ?_
  refine code_seq ?_
  refine code_region ?_
  first | refine q_rd (wanted_none rfl) rfl rfl (rd_move (v := .rs _ _ _) rfl rfl) ?_ | refine q_rd (wanted_none rfl) rfl rfl (rd_move (v := .os _ _ _ _ _) rfl rfl) ?_ | refine q_rd (wanted_none rfl) rfl rfl (rd_move (v := .c _) rfl rfl) ?_ | refine q_rd (wanted_none rfl) rfl rfl (rd_move (v := .pv _) rfl rfl) ?_ | refine q_rd (wanted_none rfl) rfl rfl (rd_move (v := .top) rfl rfl) ?_
  first | refine q_rd (wanted_none rfl) rfl rfl (rd_lenR rfl rfl Tryd.underlying29) ?_ | refine q_rd (wanted_none rfl) rfl rfl (rd_lenO rfl rfl Tryd.underlying29) ?_ | refine q_rd (wanted_none rfl) rfl rfl (rd_lenN rfl rfl Tryd.underlying29) ?_
  refine q_rd (wanted_none rfl) rfl rfl (rd_move (v := .c _) rfl rfl) ?_
  refine seq_nil ?_
  refine then_norm ?_
  refine code_block ?_
  refine l_loop (α := Nat) [4, 5, 8, 9, 10, 11, 12, 13, 14, 15, 16, 17, 18] (fun i => [(8, .c (.int .i64 (i : Nat)))]) (fun _ => []) (fun i => i ≤ l.length ∧ ∀ j (hj : j < l.length), j < i → p l[j] = false) (fun i => l.length - i) (0) ?_ (fun _ => rfl) ?_ ?_ ?_
  · exact ⟨by omega, fun j _ hj => absurd hj (Nat.not_lt_zero j)⟩
  · (repeat (first | exact EntE.nil | refine EntE.cons (CEnt.refl _) ?_ | refine EntE.cons (CEnt.int (by omega)) ?_))
  · (repeat (first | exact HEnt.nil | refine HEnt.same ?_ | refine HEnt.blk rfl (fun j hj => by rcases j with _|_|_|_|_|_|_|_|j <;> first | exact CEnt.refl _ | exact CEnt.int (by omega) | omega) ?_))
  · rintro i ⟨hi, he⟩
    refine code_seq ?_
    refine code_region ?_
    refine q_rd (wanted_none rfl) rfl rfl (rd_lt rfl rfl rfl) ?_
    refine seq_nil ?_
    refine then_norm ?_
    refine code_seq ?_
    first | refine code_condSD rfl rfl (fun h108 => ?_) (fun h108 => ?_) | refine code_condS rfl rfl (fun h108 => ?_) (fun h108 => ?_)
    · refine code_skip ?_
      refine then_norm ?_
      refine code_seq ?_
      refine code_block ?_
      refine code_seq ?_
      refine code_region ?_
      refine q_rd (wanted_none rfl) rfl rfl (rd_move (v := .c _) rfl rfl) ?_
      refine q_rd (wanted_none rfl) rfl rfl (rd_assign (v := .c _) rfl rfl) ?_
      refine seq_nil ?_
      refine then_norm ?_
      refine code_seq ?_
      refine code_region ?_
      first | refine q_rd (wanted_none rfl) rfl rfl (rd_move (v := .fn _ _ _) rfl rfl) ?_ | refine q_rd (wanted_none rfl) rfl rfl (rd_move (v := .c _) rfl rfl) ?_
      first | refine q_rd (wanted_none rfl) rfl rfl (rd_move (v := .rs _ _ _) rfl rfl) ?_ | refine q_rd (wanted_none rfl) rfl rfl (rd_move (v := .os _ _ _ _ _) rfl rfl) ?_ | refine q_rd (wanted_none rfl) rfl rfl (rd_move (v := .c _) rfl rfl) ?_ | refine q_rd (wanted_none rfl) rfl rfl (rd_move (v := .pv _) rfl rfl) ?_ | refine q_rd (wanted_none rfl) rfl rfl (rd_move (v := .top) rfl rfl) ?_
      refine q_rd (wanted_none rfl) rfl rfl (rd_move (v := .c _) rfl rfl) ?_
      first | refine q_rd (wanted_none rfl) rfl rfl (rd_iaddrR rfl rfl rfl Tryd.underlying29 sz100 rfl (by (first | omega | decide | (dsimp only at *; omega))) (by decide)) ?_ | refine q_rd (wanted_none rfl) rfl rfl (rd_iaddrO1 rfl rfl rfl Tryd.underlying29 sz100 rfl (by (first | omega | decide | (dsimp only at *; omega)))) ?_ | refine q_rd (wanted_none rfl) rfl rfl (rd_iaddrO rfl rfl rfl Tryd.underlying29 sz100 rfl (by (first | omega | decide | (dsimp only at *; omega)))) ?_ | refine q_rd (wanted_none rfl) rfl rfl (rd_iaddrR rfl rfl rfl Tryd.underlying29 sz100 (natI (by omega)) (by (first | omega | decide | (dsimp only at *; omega))) (by decide)) ?_ | refine q_rd (wanted_none rfl) rfl rfl (rd_iaddrO1 rfl rfl rfl Tryd.underlying29 sz100 (natI (by omega)) (by (first | omega | decide | (dsimp only at *; omega)))) ?_ | refine q_rd (wanted_none rfl) rfl rfl (rd_iaddrO rfl rfl rfl Tryd.underlying29 sz100 (natI (by omega)) (by (first | omega | decide | (dsimp only at *; omega)))) ?_
      first | refine q_rdO (wanted_none rfl) rfl rfl (rd_loadOA rfl rfl (.inl rfl) Tryd.underlying100 ag100 sz100 (by first | decide | (first | omega | decide | (dsimp only at *; omega)))) ?_ | refine q_rd (wanted_none rfl) rfl rfl (rd_loadRA rfl rfl Tryd.underlying100 ag100 sz100 (by first | decide | (first | omega | decide | (dsimp only at *; omega)))) ?_ | refine q_rdO (wanted_none rfl) rfl rfl (rd_loadOA rfl rfl (.inr rfl) Tryd.underlying100 ag100 sz100 (by first | decide | (first | omega | decide | (dsimp only at *; omega)))) ?_
      refine seq_ex (wanted_none rfl) (e_callV rfl rfl (by first | assumption | kernel_rfl) (hp (l.getD i g0)) (entL_fn (CEnt.refl _) _) rfl rfl ?_)
      rintro _ _ ⟨rfl, rfl⟩
      refine seq_nil ?_
      refine then_norm ?_
      first | refine code_condSD rfl rfl (fun h109 => ?_) (fun h109 => ?_) | refine code_condS rfl rfl (fun h109 => ?_) (fun h109 => ?_)
      · refine code_seq ?_
        refine code_region ?_
        refine q_rd (wanted_none rfl) rfl rfl (rd_move (v := .c _) rfl rfl) ?_
        refine q_rd (wanted_none rfl) rfl rfl (rd_assign (v := .c _) rfl rfl) ?_
        refine seq_nil ?_
        refine then_norm ?_
        refine code_ret ?_
        refine block_ret ?_
        refine then_ret ?_
        refine then_ret ?_
        refine block_ret ?_
        refine then_ret ?_
        refine end_val (.inl rfl) (res_1 rfl (arv_tmp rfl)) ?_
        refine CEnt.int ?_
        have hlt : i < l.length := by omega
        exact (firstI_at i hlt (by simpa [List.getD, hlt] using h109) (fun j hj => he j (by omega) hj)).symm
      · refine code_skip ?_
        refine block_norm ?_
        refine then_norm ?_
        refine code_region ?_
        refine q_rd (wanted_none rfl) rfl rfl (rd_add rfl rfl rfl (wrap_id (k := .i64) (by show _ ∧ _; (first | omega | decide | (dsimp only at *; omega))))) ?_
        refine q_rd (wanted_none rfl) rfl rfl (rd_move (v := .c _) rfl rfl) ?_
        refine seq_nil ?_
        refine then_norm ?_
        refine ⟨i + 1, ?_, ?_, by first | exact .refl | exact .nest .refl rfl rfl | exact .nest (.nest .refl rfl rfl) rfl rfl | exact .nest (.nest (.nest .refl rfl rfl) rfl rfl) rfl rfl | (repeat (first | exact .refl | refine .nest ?_ rfl rfl | refine BLe.look2 ?_ rfl)), rfl, ?_, by exact Nat.le_of_ble_eq_true rfl, ?_⟩
        · exact ⟨by omega, fun j hj hj1 => by
            by_cases e : j = i
            · subst e
              simpa [List.getD, hj] using h109
            · exact he j hj (by omega)⟩
        · omega
        · (repeat (first | exact EntE.nil | refine EntE.cons (CEnt.refl _) ?_ | refine EntE.cons (CEnt.int (by omega)) ?_))
        · (repeat (first | exact HEnt.nil | refine HEnt.same ?_ | refine HEnt.blk rfl (fun j hj => by rcases j with _|_|_|_|_|_|_|_|j <;> first | exact CEnt.refl _ | exact CEnt.int (by omega) | omega) ?_))
    · refine code_exit ?_
      refine then_exit ?_
      refine then_exit ?_
      refine block_exit rfl ?_
      refine then_norm ?_
      refine code_seq ?_
      refine code_region ?_
      refine q_rd (wanted_none rfl) rfl rfl (rd_assign (v := .c _) rfl rfl) ?_
      refine seq_nil ?_
      refine then_norm ?_
      refine code_ret ?_
      refine end_val (.inl rfl) (res_1 rfl (arv_tmp rfl)) ?_
      refine CEnt.int ?_
      exact (firstI_none fun j hj => he j hj (by omega)).symm
theorem ghas_ac {gs : List Nat} {g : FuncId} {n : Nat} {fv : Nat → CV} (hc : calleeB Tryd.prog g = true) (l : List G5) (p : G5 → Bool) (hp : ∀ r, ACp gs Tryd.prog g (grC r :: (List.range n).map fv) (.c (.bool (p r)))) :
    ACp gs Tryd.prog 69 [gtC l, .fn g n fv] (.c (.bool (l.any p))) := by
  refine ac_of 9 Tryd.func69 rfl rfl rfl (fun al w0 F0 St0 => ?_)
  refine code_seq ?_
  refine code_region ?_
  refine q_rd (wanted_none rfl) rfl rfl (rd_assign (v := .c _) rfl rfl) ?_
  refine seq_nil ?_
  refine then_norm ?_
  refine code_seq ?_
  refine code_region ?_
  first | refine q_rd (wanted_none rfl) rfl rfl (rd_move (v := .rs _ _ _) rfl rfl) ?_ | refine q_rd (wanted_none rfl) rfl rfl (rd_move (v := .os _ _ _ _ _) rfl rfl) ?_ | refine q_rd (wanted_none rfl) rfl rfl (rd_move (v := .c _) rfl rfl) ?_ | refine q_rd (wanted_none rfl) rfl rfl (rd_move (v := .pv _) rfl rfl) ?_ | refine q_rd (wanted_none rfl) rfl rfl (rd_move (v := .top) rfl rfl) ?_
  first | refine q_rd (wanted_none rfl) rfl rfl (rd_move (v := .fn _ _ _) rfl rfl) ?_ | refine q_rd (wanted_none rfl) rfl rfl (rd_move (v := .c _) rfl rfl) ?_
  refine seq_ex (wanted_none rfl) (e_callP rfl (by kernel_rfl) (gidx_ac hc l p hp) (.cons (by first | exact se rfl (CEnt.refl _) | exact se rfl CEnt.nil | exact se rfl CEnt.nilB | exact se rfl (CEnt.osI rfl) | exact se rfl CEnt.opI | exact se_nilO rfl | exact se rfl (CEnt.agg2 (CEnt.refl _) (CEnt.refl _)) | exact se rfl (CEnt.agg3 (CEnt.refl _) (CEnt.refl _) (CEnt.refl _)) | exact se rfl (CEnt.agg4 (CEnt.refl _) (CEnt.refl _) (CEnt.refl _) (CEnt.refl _)) | exact se rfl (CEnt.agg5 (CEnt.refl _) (CEnt.refl _) (CEnt.refl _) (CEnt.refl _) (CEnt.refl _)) | exact se rfl (CEnt.agg6 (CEnt.refl _) (CEnt.refl _) (CEnt.refl _) (CEnt.refl _) (CEnt.refl _) (CEnt.refl _)) | exact se_frzB _ rfl rfl rfl (by simp) (fun _ _ => CEnt.refl _)) (.cons (by first | exact se rfl (CEnt.refl _) | exact se rfl CEnt.nil | exact se rfl CEnt.nilB | exact se rfl (CEnt.osI rfl) | exact se rfl CEnt.opI | exact se_nilO rfl | exact se rfl (CEnt.agg2 (CEnt.refl _) (CEnt.refl _)) | exact se rfl (CEnt.agg3 (CEnt.refl _) (CEnt.refl _) (CEnt.refl _)) | exact se rfl (CEnt.agg4 (CEnt.refl _) (CEnt.refl _) (CEnt.refl _) (CEnt.refl _)) | exact se rfl (CEnt.agg5 (CEnt.refl _) (CEnt.refl _) (CEnt.refl _) (CEnt.refl _) (CEnt.refl _)) | exact se rfl (CEnt.agg6 (CEnt.refl _) (CEnt.refl _) (CEnt.refl _) (CEnt.refl _) (CEnt.refl _) (CEnt.refl _)) | exact se_frzB _ rfl rfl rfl (by simp) (fun _ _ => CEnt.refl _)) .nil)) rfl rfl ?_)
  refine q_rd (wanted_none rfl) rfl rfl (rd_ge rfl rfl rfl) ?_
  refine q_rd (wanted_none rfl) rfl rfl (rd_assign (v := .c _) rfl rfl) ?_
  refine seq_nil ?_
  refine then_norm ?_
  refine code_ret ?_
  refine end_val (.inl rfl) (res_1 rfl (arv_tmp rfl)) ?_
  refine CEnt.bool ?_
  exact firstI_any p l
theorem code_knowG {P : Program} {G : Gh} {c : Code} {s : AS} {R : Exit → AS → Prop} {φ : Prop} (hφ : ∀ a w, Rel G s a w → φ) (h : φ → ACode P G c s R) : ACode P G c s R := fun a w hr Q hQ => h (hφ a w hr) a w hr Q hQ
theorem know_osG {G : Gh} {s : AS} (d : Nat) {i off n m : Nat} {g : Option Nat} (hl : look s.env s.b d = .os i g off n m) : ∀ a w, Rel G s a w → g = none → n = 0 := fun a w ⟨St, hr⟩ hg => by
  have := evR hr (x := .tmp d) hl
  subst hg
  exact this.1
theorem end_atG {P : Program} {G : Gh} {s : AS} {fn : Func} {Q : CV → List (Option Nat × Res) → Prop} {e : Exit} {v m : CV} (he : e = .ret ∨ e = .normal) (H' : List (Option Nat × Res)) (l : List Nat) (hl : l.Nodup) (hH : pickL s.H l = H') (hres : ARes P G fn s v) (hv : CEnt v m) (hq : Q m H') : bodyR P G fn Q e s :=
  end_own he m H' l hl hH (hres.ent hv) hq
def gtF (l : List G5) : Nat → CV := rowF 5 grF g0 l
theorem leaf_gr (r : G5) {j : Nat} (hj : j < 5) : leafC (grF r j) = true := by
  rcases j with _ | _ | _ | _ | _ | j <;> first | rfl | omega
theorem grow_ent {X : List G5} {j : Nat} {F : Nat → CV} (h : ∀ m, m < 5 → CEnt (F m) (gtF X (j * 5 + m))) : CEnt (.agg 5 F) (grC (X.getD j g0)) :=
  CEnt.agg rfl fun m hm => (h m hm).trans (CEnt.of_eq (rowF_at hm))
theorem gset_row {X : List G5} {i o : Nat} (y : G5) {l : List CV} (ho : o = i * 5) (hi : i < X.length) (hl : l.length = 5) (he : ∀ m, m < 5 → CEnt (fl l m) (grF y m)) :
    ∀ j, j < X.length * 5 → CEnt (updF (gtF X) o l j) (gtF (X.set i y) j) := fun j hj => by
  subst ho
  obtain ⟨q, r, hr, rfl⟩ : ∃ q r, r < 5 ∧ j = q * 5 + r := ⟨j / 5, j % 5, Nat.mod_lt _ (by decide), by omega⟩
  rw [updF_get, hl]
  have e1 : gtF (X.set i y) (q * 5 + r) = grF ((X.set i y).getD q g0) r := rowF_at hr
  have e2 : gtF X (q * 5 + r) = grF (X.getD q g0) r := rowF_at hr
  have hq : q < X.length := by omega
  by_cases h : q = i
  · subst h
    rw [if_pos (by omega), e1, show q * 5 + r - q * 5 = r by omega]
    have : (X.set q y).getD q g0 = y := by simp [List.getD, hq]
    rw [this]
    exact he r hr
  · rw [if_neg (by omega), e1, e2]
    have : (X.set i y).getD q g0 = X.getD q g0 := by simp [List.getD, Ne.symm h]
    rw [this]
    exact CEnt.refl _
theorem gtF_take {X : List G5} {i j : Nat} (hi : i ≤ X.length) (hj : j < i * 5) : gtF X j = gtF (X.take i) j := by
  obtain ⟨q, r, hr, rfl⟩ : ∃ q r, r < 5 ∧ j = q * 5 + r := ⟨j / 5, j % 5, Nat.mod_lt _ (by decide), by omega⟩
  have e1 : gtF X (q * 5 + r) = grF (X.getD q g0) r := rowF_at hr
  have e2 : gtF (X.take i) (q * 5 + r) = grF ((X.take i).getD q g0) r := rowF_at hr
  rw [e1, e2]
  have hq : q < i := by omega
  simp [List.getD, hq]
theorem gclone_ac {gs : List Nat} (l : List G5) (hl : l.length ≤ 1000000) : AC gs Tryd.prog 58 [] [gtC l] (OwnQ l.length 5 (l.length * 5) (gtF l)) := by
  refine ac_of 8 Tryd.func58 rfl rfl rfl (fun al w0 F0 St0 => ?_)
  refine code_seq ?_
  refine code_region ?_
  first | refine q_rd (wanted_none rfl) rfl rfl (rd_assign (v := .rs _ _ _) rfl rfl) ?_ | refine q_rd (wanted_none rfl) rfl rfl (rd_assign (v := .os _ _ _ _ _) rfl rfl) ?_ | refine q_rd (wanted_none rfl) rfl rfl (rd_assign (v := .c _) rfl rfl) ?_ | refine q_rd (wanted_none rfl) rfl rfl (rd_assign (v := .pv _) rfl rfl) ?_ | refine q_rd (wanted_none rfl) rfl rfl (rd_assign (v := .top) rfl rfl) ?_
  refine seq_nil ?_
  refine then_norm ?_
  refine code_seq ?_
  refine code_seq ?_
  refine code_region ?_
  first | refine q_rd (wanted_none rfl) rfl rfl (rd_move (v := .rs _ _ _) rfl rfl) ?_ | refine q_rd (wanted_none rfl) rfl rfl (rd_move (v := .os _ _ _ _ _) rfl rfl) ?_ | refine q_rd (wanted_none rfl) rfl rfl (rd_move (v := .c _) rfl rfl) ?_ | refine q_rd (wanted_none rfl) rfl rfl (rd_move (v := .pv _) rfl rfl) ?_ | refine q_rd (wanted_none rfl) rfl rfl (rd_move (v := .top) rfl rfl) ?_
  refine seq_eqNil (wanted_none rfl) rfl rfl rfl Tryd.underlying29 rfl rfl (fun h357 => ?_) ?_
  · refine seq_nil ?_
    refine then_norm ?_
    refine code_condT rfl ?_
    refine code_seq ?_
    refine code_region ?_
    first | refine q_rd (wanted_none rfl) rfl rfl (rd_assign (v := .rs _ _ _) rfl rfl) ?_ | refine q_rd (wanted_none rfl) rfl rfl (rd_assign (v := .os _ _ _ _ _) rfl rfl) ?_ | refine q_rd (wanted_none rfl) rfl rfl (rd_assign (v := .c _) rfl rfl) ?_ | refine q_rd (wanted_none rfl) rfl rfl (rd_assign (v := .pv _) rfl rfl) ?_ | refine q_rd (wanted_none rfl) rfl rfl (rd_assign (v := .top) rfl rfl) ?_
    refine seq_nil ?_
    refine then_norm ?_
    refine code_ent (own_nil 2 5 (gtF l) rfl) ?_
    refine code_ret ?_
    refine then_ret ?_
    exact end_O 0 (.inl rfl) (res_1 rfl (arv_tmp rfl)) rfl (by omega) (by omega) (fun _ => by omega) (fun j hj => by omega)
  · refine seq_nil ?_
    refine then_norm ?_
    refine code_condF rfl ?_
    refine code_skip ?_
    refine then_norm ?_
    refine code_seq ?_
    refine code_region ?_
    refine seq_ex (wanted_none rfl) (e_buildSlice (n := 0) rfl Tryd.underlying29 sz100 zr100 rfl rfl rfl rfl rfl rfl rfl (fun p1 => ?_))
    first | refine q_rd (wanted_none rfl) rfl rfl (rd_move (v := .rs _ _ _) rfl rfl) ?_ | refine q_rd (wanted_none rfl) rfl rfl (rd_move (v := .os _ _ _ _ _) rfl rfl) ?_ | refine q_rd (wanted_none rfl) rfl rfl (rd_move (v := .c _) rfl rfl) ?_ | refine q_rd (wanted_none rfl) rfl rfl (rd_move (v := .pv _) rfl rfl) ?_ | refine q_rd (wanted_none rfl) rfl rfl (rd_move (v := .top) rfl rfl) ?_
    refine seq_md (wanted_none rfl) (m_appendC (l := []) ( rowC_row 5 grF g0) rfl rfl rfl rfl (Nat.le_of_eq (Nat.zero_mul _)) (fun j hj => absurd hj (by simp)) (src_rs rfl) rfl (fun j hj => by first | exact CEnt.refl _ | (simp only [Nat.div_one]; exact CEnt.refl _)) Tryd.underlying29 nu29 sz100 zr100 by100 rfl (by first | omega | (simp; done) | (simp; omega) | (simp at *; omega)) (by first | omega | (simp; done) | (simp; omega) | (simp at *; omega)) (fun j hj => leaf_gr _ (Nat.mod_lt _ (by decide))) rfl rfl rfl (fun p2 => ?_))
    first | refine q_rd (wanted_none rfl) rfl rfl (rd_assign (v := .rs _ _ _) rfl rfl) ?_ | refine q_rd (wanted_none rfl) rfl rfl (rd_assign (v := .os _ _ _ _ _) rfl rfl) ?_ | refine q_rd (wanted_none rfl) rfl rfl (rd_assign (v := .c _) rfl rfl) ?_ | refine q_rd (wanted_none rfl) rfl rfl (rd_assign (v := .pv _) rfl rfl) ?_ | refine q_rd (wanted_none rfl) rfl rfl (rd_assign (v := .top) rfl rfl) ?_
    refine seq_nil ?_
    refine then_norm ?_
    refine code_ret ?_
    exact end_O 0 (.inl rfl) (res_1 rfl (arv_tmp rfl)) rfl (by simp) (by simp) (fun _ => by simp) (fun j hj => CEnt.refl _)
theorem gidxO_ac {gs : List Nat} {f : FuncId} {n : Nat} {fv : Nat → CV} (hc : calleeB Tryd.prog f = true) (g : Option Nat) (l : List G5) (hlen : l.length ≤ 1000000) (p : G5 → Bool) (hp : ∀ r, ACp gs Tryd.prog f (grC r :: (List.range n).map fv) (.c (.bool (p r)))) :
    AC gs Tryd.prog 120 [(g, .blk (l.length * 5) (gtF l))] [.os 0 g 0 l.length 5, .fn f n fv] (fun r H' => r = .c (.int .i64 (firstI p l)) ∧ H' = [(g, .blk (l.length * 5) (gtF l))]) := by
  refine ac_of 19 Tryd.func120 rfl rfl rfl (fun al w0 F0 St0 => ?_)
  refine code_seq ?_
  refine code_region ?_
  refine q_rd (wanted_none rfl) rfl rfl (rd_assign (v := .c _) rfl rfl) ?_
  refine seq_nil ?_
  refine then_norm ?_
  refine code_seq ?_
  refine code_seq ?_
  refine code_region ?_
  first | refine q_rd (wanted_none rfl) rfl rfl (rd_move (v := .rs _ _ _) rfl rfl) ?_ | refine q_rd (wanted_none rfl) rfl rfl (rd_move (v := .os _ _ _ _ _) rfl rfl) ?_ | refine q_rd (wanted_none rfl) rfl rfl (rd_move (v := .c _) rfl rfl) ?_ | refine q_rd (wanted_none rfl) rfl rfl (rd_move (v := .pv _) rfl rfl) ?_ | refine q_rd (wanted_none rfl) rfl rfl (rd_move (v := .top) rfl rfl) ?_
  first | refine q_rd (wanted_none rfl) rfl rfl (rd_lenR rfl rfl Tryd.underlying29) ?_ | refine q_rd (wanted_none rfl) rfl rfl (rd_lenO rfl rfl Tryd.underlying29) ?_ | refine q_rd (wanted_none rfl) rfl rfl (rd_lenN rfl rfl Tryd.underlying29) ?_
  refine q_rd (wanted_none rfl) rfl rfl (rd_move (v := .c _) rfl rfl) ?_
  refine seq_nil ?_
  refine then_norm ?_
  refine code_block ?_
  refine l_loop (α := Nat) [4, 5, 8, 9, 10, 11, 12, 13, 14, 15, 16, 17, 18] (fun i => [(8, .c (.int .i64 (i : Nat)))]) (fun i => [(g, .blk (l.length * 5) (gtF l))]) (fun i => i ≤ l.length ∧ ∀ j (hj : j < l.length), j < i → p l[j] = false) (fun i => l.length - i) (0) ?_ (fun _ => rfl) ?_ ?_ ?_
  · exact ⟨by omega, fun j _ hj => absurd hj (Nat.not_lt_zero j)⟩
  · (repeat (first | exact EntE.nil | refine EntE.cons (CEnt.refl _) ?_ | refine EntE.cons (CEnt.int (by omega)) ?_))
  · (repeat (first | exact HEnt.nil | refine HEnt.same ?_ | refine HEnt.blk rfl (fun j hj => by rcases j with _|_|_|_|_|_|_|_|j <;> first | exact CEnt.refl _ | exact CEnt.int (by omega) | omega) ?_))
  · rintro i ⟨hi, he⟩
    refine code_seq ?_
    refine code_region ?_
    refine q_rd (wanted_none rfl) rfl rfl (rd_lt rfl rfl rfl) ?_
    refine seq_nil ?_
    refine then_norm ?_
    refine code_seq ?_
    first | refine code_condSD rfl rfl (fun h108 => ?_) (fun h108 => ?_) | refine code_condS rfl rfl (fun h108 => ?_) (fun h108 => ?_)
    · refine code_skip ?_
      refine then_norm ?_
      refine code_seq ?_
      refine code_block ?_
      refine code_seq ?_
      refine code_region ?_
      refine q_rd (wanted_none rfl) rfl rfl (rd_move (v := .c _) rfl rfl) ?_
      refine q_rd (wanted_none rfl) rfl rfl (rd_assign (v := .c _) rfl rfl) ?_
      refine seq_nil ?_
      refine then_norm ?_
      refine code_seq ?_
      refine code_region ?_
      first | refine q_rd (wanted_none rfl) rfl rfl (rd_move (v := .fn _ _ _) rfl rfl) ?_ | refine q_rd (wanted_none rfl) rfl rfl (rd_move (v := .c _) rfl rfl) ?_
      first | refine q_rd (wanted_none rfl) rfl rfl (rd_move (v := .rs _ _ _) rfl rfl) ?_ | refine q_rd (wanted_none rfl) rfl rfl (rd_move (v := .os _ _ _ _ _) rfl rfl) ?_ | refine q_rd (wanted_none rfl) rfl rfl (rd_move (v := .c _) rfl rfl) ?_ | refine q_rd (wanted_none rfl) rfl rfl (rd_move (v := .pv _) rfl rfl) ?_ | refine q_rd (wanted_none rfl) rfl rfl (rd_move (v := .top) rfl rfl) ?_
      refine q_rd (wanted_none rfl) rfl rfl (rd_move (v := .c _) rfl rfl) ?_
      first | refine q_rd (wanted_none rfl) rfl rfl (rd_iaddrR rfl rfl rfl Tryd.underlying29 sz100 rfl (by (first | omega | decide | (dsimp only at *; omega))) (by decide)) ?_ | refine q_rd (wanted_none rfl) rfl rfl (rd_iaddrO1 rfl rfl rfl Tryd.underlying29 sz100 rfl (by (first | omega | decide | (dsimp only at *; omega)))) ?_ | refine q_rd (wanted_none rfl) rfl rfl (rd_iaddrO rfl rfl rfl Tryd.underlying29 sz100 rfl (by (first | omega | decide | (dsimp only at *; omega)))) ?_ | refine q_rd (wanted_none rfl) rfl rfl (rd_iaddrR rfl rfl rfl Tryd.underlying29 sz100 (natI (by omega)) (by (first | omega | decide | (dsimp only at *; omega))) (by decide)) ?_ | refine q_rd (wanted_none rfl) rfl rfl (rd_iaddrO1 rfl rfl rfl Tryd.underlying29 sz100 (natI (by omega)) (by (first | omega | decide | (dsimp only at *; omega)))) ?_ | refine q_rd (wanted_none rfl) rfl rfl (rd_iaddrO rfl rfl rfl Tryd.underlying29 sz100 (natI (by omega)) (by (first | omega | decide | (dsimp only at *; omega)))) ?_
      first | refine q_rdO (wanted_none rfl) rfl rfl (rd_loadOA rfl rfl (.inl rfl) Tryd.underlying100 ag100 sz100 (by first | decide | (first | omega | decide | (dsimp only at *; omega)))) ?_ | refine q_rd (wanted_none rfl) rfl rfl (rd_loadRA rfl rfl Tryd.underlying100 ag100 sz100 (by first | decide | (first | omega | decide | (dsimp only at *; omega)))) ?_ | refine q_rdO (wanted_none rfl) rfl rfl (rd_loadOA rfl rfl (.inr rfl) Tryd.underlying100 ag100 sz100 (by first | decide | (first | omega | decide | (dsimp only at *; omega)))) ?_
      refine seq_ex (wanted_none rfl) (e_callV rfl rfl (by first | assumption | kernel_rfl) (hp (l.getD i g0)) (entL_fn (grow_ent fun m hm => CEnt.of_eq (congrArg (gtF l) (by omega))) _) rfl rfl ?_)
      rintro _ _ ⟨rfl, rfl⟩
      refine seq_nil ?_
      refine then_norm ?_
      first | refine code_condSD rfl rfl (fun h109 => ?_) (fun h109 => ?_) | refine code_condS rfl rfl (fun h109 => ?_) (fun h109 => ?_)
      · refine code_seq ?_
        refine code_region ?_
        refine q_rd (wanted_none rfl) rfl rfl (rd_move (v := .c _) rfl rfl) ?_
        refine q_rd (wanted_none rfl) rfl rfl (rd_assign (v := .c _) rfl rfl) ?_
        refine seq_nil ?_
        refine then_norm ?_
        refine code_ret ?_
        refine block_ret ?_
        refine then_ret ?_
        refine then_ret ?_
        refine block_ret ?_
        refine then_ret ?_
        have hlt : i < l.length := by omega
        have hfi := (firstI_at i hlt (by simpa [List.getD, hlt] using h109) (fun j hj => he j (by omega) hj)).symm
        refine end_atG (.inl rfl) [(g, .blk (l.length * 5) (gtF l))] [0] (by decide) rfl (res_1 rfl (arv_tmp rfl)) (m := .c (.int .i64 (firstI p l))) ?_ ⟨rfl, rfl⟩
        exact CEnt.int hfi
      · refine code_skip ?_
        refine block_norm ?_
        refine then_norm ?_
        refine code_region ?_
        refine q_rd (wanted_none rfl) rfl rfl (rd_add rfl rfl rfl (wrap_id (k := .i64) (by show _ ∧ _; (first | omega | decide | (dsimp only at *; omega))))) ?_
        refine q_rd (wanted_none rfl) rfl rfl (rd_move (v := .c _) rfl rfl) ?_
        refine seq_nil ?_
        refine then_norm ?_
        refine ⟨i + 1, ?_, ?_, by first | exact .refl | exact .nest .refl rfl rfl | exact .nest (.nest .refl rfl rfl) rfl rfl | exact .nest (.nest (.nest .refl rfl rfl) rfl rfl) rfl rfl | (repeat (first | exact .refl | refine .nest ?_ rfl rfl | refine BLe.look2 ?_ rfl)), rfl, ?_, by exact Nat.le_of_ble_eq_true rfl, ?_⟩
        · exact ⟨by omega, fun j hj hj1 => by
            by_cases e : j = i
            · subst e
              simpa [List.getD, hj] using h109
            · exact he j hj (by omega)⟩
        · omega
        · (repeat (first | exact EntE.nil | refine EntE.cons (CEnt.refl _) ?_ | refine EntE.cons (CEnt.int (by omega)) ?_))
        · (repeat (first | exact HEnt.nil | refine HEnt.same ?_ | refine HEnt.blk rfl (fun j hj => by rcases j with _|_|_|_|_|_|_|_|j <;> first | exact CEnt.refl _ | exact CEnt.int (by omega) | omega) ?_))
    · refine code_exit ?_
      refine then_exit ?_
      refine then_exit ?_
      refine block_exit rfl ?_
      refine then_norm ?_
      refine code_seq ?_
      refine code_region ?_
      refine q_rd (wanted_none rfl) rfl rfl (rd_assign (v := .c _) rfl rfl) ?_
      refine seq_nil ?_
      refine then_norm ?_
      refine code_ret ?_
      have hfi := (firstI_none fun j hj => he j hj (by omega)).symm
      refine end_atG (.inl rfl) [(g, .blk (l.length * 5) (gtF l))] [0] (by decide) rfl (res_1 rfl (arv_tmp rfl)) (m := .c (.int .i64 (firstI p l))) ?_ ⟨rfl, rfl⟩
      exact CEnt.int hfi
/-! ### what stays, moved to the front -/
structure GDelI (q : G5 → Bool) (l X : List G5) (i j : Nat) : Prop where
  len : X.length = l.length
  pre : X.take i = (l.take j).filter q
  suf : X.drop j = l.drop j
  lt : i < j
  le : j ≤ l.length
variable {q : G5 → Bool} {l X : List G5} {i j : Nat}
theorem GDelI.at (h : GDelI q l X i j) (hj : j < l.length) : X.getD j g0 = l[j] := by
  have hx : j < X.length := by rw [h.len]; exact hj
  have e := h.suf
  rw [List.drop_eq_getElem_cons hx, List.drop_eq_getElem_cons hj] at e
  have := (List.cons.inj e).1
  simp [List.getD, hx, this]
theorem GDelI.sufS (h : GDelI q l X i j) (hj : j < l.length) : X.drop (j + 1) = l.drop (j + 1) := by
  have e := congrArg (List.drop 1) h.suf
  rw [List.drop_drop, List.drop_drop] at e
  exact e
theorem GDelI.skip (h : GDelI q l X i j) (hj : j < l.length) (hq : q (X.getD j g0) = false) : GDelI q l X i (j + 1) where
  len := h.len
  pre := by
    rw [List.take_succ_eq_append_getElem hj, List.filter_append, ← h.pre]
    rw [h.at hj] at hq
    simp [hq]
  suf := h.sufS hj
  lt := by have := h.lt; omega
  le := hj
theorem GDelI.put (h : GDelI q l X i j) (hj : j < l.length) (hq : q (X.getD j g0) = true) : GDelI q l (X.set i (X.getD j g0)) (i + 1) (j + 1) where
  len := by rw [List.length_set]; exact h.len
  pre := by
    have hi : i < X.length := by have := h.lt; rw [h.len]; omega
    rw [h.at hj] at hq ⊢
    rw [List.take_succ_eq_append_getElem hj, List.filter_append, ← h.pre]
    rw [List.take_succ_eq_append_getElem (by simpa using hi)]
    simp [hq, List.take_set_of_le]
  suf := by
    rw [List.drop_set_of_lt (by have := h.lt; omega)]
    exact h.sufS hj
  lt := by have := h.lt; omega
  le := hj
theorem GDelI.fin (h : GDelI q l X i j) (hj : ¬ j < l.length) : X.take i = l.filter q := by
  rw [h.pre, List.take_of_length_le (by omega)]
theorem gfirstI_is {p : G5 → Bool} : ∀ {l : List G5} {i : Nat}, firstI p l = (i : Nat) → (∀ hi : i < l.length, p l[i] = true) ∧ ∀ j (hj : j < i) (hl : j < l.length), p l[j] = false
  | [], i, h => by simp [firstI] at h
  | x :: l, i, h => by
    rw [firstI] at h
    by_cases hx : p x = true
    · rw [if_pos hx] at h
      obtain rfl : i = 0 := by omega
      exact ⟨fun _ => hx, fun j hj => absurd hj (Nat.not_lt_zero j)⟩
    · rw [if_neg hx] at h
      have hb := firstI_bd p l
      by_cases hn : firstI p l < 0
      · rw [if_pos hn] at h; omega
      · rw [if_neg hn] at h
        obtain ⟨k, rfl⟩ : ∃ k, i = k + 1 := ⟨i - 1, by omega⟩
        obtain ⟨h1, h2⟩ := @gfirstI_is p l k (by omega)
        refine ⟨fun hi => ?_, fun j hj hl => ?_⟩
        · simpa using h1 (by simpa using hi)
        · rcases j with _ | j
          · simpa using hx
          · simpa using h2 j (by omega) (by simpa using hl)
theorem GDelI.init {p : G5 → Bool} (h0 : ¬ firstI p l = -1) : ∃ i : Nat, firstI p l = (i : Nat) ∧ i < l.length ∧ GDelI (fun r => !p r) l l i (i + 1) := by
  have hb := firstI_bd p l
  obtain ⟨i, hi⟩ : ∃ i : Nat, firstI p l = (i : Nat) := ⟨(firstI p l).toNat, by omega⟩
  have hlt : i < l.length := by omega
  refine ⟨i, hi, hlt, rfl, ?_, rfl, Nat.lt_succ_self i, hlt⟩
  obtain ⟨h1, h2⟩ := gfirstI_is hi
  rw [List.take_succ_eq_append_getElem hlt, List.filter_append]
  have e1 : (l.take i).filter (fun r => !p r) = l.take i := by
    rw [List.filter_eq_self]
    intro x hx
    obtain ⟨j, hj, rfl⟩ := List.getElem_of_mem hx
    have hj' : j < i := by have := List.length_take_le i l; omega
    rw [List.getElem_take, h2 j hj' (by omega)]; rfl
  rw [e1]
  simp [h1 hlt]
theorem gdel_none {p : G5 → Bool} (h0 : firstI p l = -1) : l.filter (fun r => !p r) = l := by
  rw [List.filter_eq_self]
  intro x hx
  exact List.all_eq_true.1 (firstI_neg.1 (show firstI p l < 0 by omega)) x hx
theorem gdel_ac {gs : List Nat} {f : FuncId} {n : Nat} {fv : Nat → CV} (hc : calleeB Tryd.prog f = true) (g : Option Nat) (l : List G5) (hlen : l.length ≤ 1000000) (p : G5 → Bool) (hp : ∀ r, ACp gs Tryd.prog f (grC r :: (List.range n).map fv) (.c (.bool (p r)))) :
    AC gs Tryd.prog 114 [(g, .blk (l.length * 5) (gtF l))] [.os 0 g 0 l.length 5, .fn f n fv]
      (OwnQ (l.filter fun r => !p r).length 5 ((l.filter fun r => !p r).length * 5) (gtF (l.filter fun r => !p r))) := by
  have hbd := firstI_bd p l
  refine ac_of 42 Tryd.func114 rfl rfl rfl (fun al w0 F0 St0 => ?_)
  refine code_seq ?_
  refine code_region ?_
  first | refine q_rd (wanted_none rfl) rfl rfl (rd_assign (v := .rs _ _ _) rfl rfl) ?_ | refine q_rd (wanted_none rfl) rfl rfl (rd_assign (v := .os _ _ _ _ _) rfl rfl) ?_ | refine q_rd (wanted_none rfl) rfl rfl (rd_assign (v := .c _) rfl rfl) ?_ | refine q_rd (wanted_none rfl) rfl rfl (rd_assign (v := .pv _) rfl rfl) ?_ | refine q_rd (wanted_none rfl) rfl rfl (rd_assign (v := .top) rfl rfl) ?_
  refine seq_nil ?_
  refine then_norm ?_
  refine code_seq ?_
  refine code_region ?_
  first | refine q_rd (wanted_none rfl) rfl rfl (rd_move (v := .rs _ _ _) rfl rfl) ?_ | refine q_rd (wanted_none rfl) rfl rfl (rd_move (v := .os _ _ _ _ _) rfl rfl) ?_ | refine q_rd (wanted_none rfl) rfl rfl (rd_move (v := .c _) rfl rfl) ?_ | refine q_rd (wanted_none rfl) rfl rfl (rd_move (v := .pv _) rfl rfl) ?_ | refine q_rd (wanted_none rfl) rfl rfl (rd_move (v := .top) rfl rfl) ?_
  first | refine q_rd (wanted_none rfl) rfl rfl (rd_move (v := .fn _ _ _) rfl rfl) ?_ | refine q_rd (wanted_none rfl) rfl rfl (rd_move (v := .c _) rfl rfl) ?_
  refine seq_md (wanted_none rfl) (m_callH (i := 0) rfl (by kernel_rfl) rfl (gidxO_ac hc g l hlen p hp) (.cons (by first | exact se rfl (CEnt.refl _) | exact se rfl CEnt.nil | exact se rfl CEnt.nilB | exact se rfl (CEnt.osI rfl) | exact se rfl CEnt.opI | exact se_nilO rfl | exact se rfl (CEnt.agg2 (CEnt.refl _) (CEnt.refl _)) | exact se rfl (CEnt.agg3 (CEnt.refl _) (CEnt.refl _) (CEnt.refl _)) | exact se rfl (CEnt.agg4 (CEnt.refl _) (CEnt.refl _) (CEnt.refl _) (CEnt.refl _)) | exact se rfl (CEnt.agg5 (CEnt.refl _) (CEnt.refl _) (CEnt.refl _) (CEnt.refl _) (CEnt.refl _)) | exact se rfl (CEnt.agg6 (CEnt.refl _) (CEnt.refl _) (CEnt.refl _) (CEnt.refl _) (CEnt.refl _) (CEnt.refl _)) | exact se_frzB _ rfl rfl rfl (by simp) (fun _ _ => CEnt.refl _)) (.cons (by first | exact se rfl (CEnt.refl _) | exact se rfl CEnt.nil | exact se rfl CEnt.nilB | exact se rfl (CEnt.osI rfl) | exact se rfl CEnt.opI | exact se_nilO rfl | exact se rfl (CEnt.agg2 (CEnt.refl _) (CEnt.refl _)) | exact se rfl (CEnt.agg3 (CEnt.refl _) (CEnt.refl _) (CEnt.refl _)) | exact se rfl (CEnt.agg4 (CEnt.refl _) (CEnt.refl _) (CEnt.refl _) (CEnt.refl _)) | exact se rfl (CEnt.agg5 (CEnt.refl _) (CEnt.refl _) (CEnt.refl _) (CEnt.refl _) (CEnt.refl _)) | exact se rfl (CEnt.agg6 (CEnt.refl _) (CEnt.refl _) (CEnt.refl _) (CEnt.refl _) (CEnt.refl _) (CEnt.refl _)) | exact se_frzB _ rfl rfl rfl (by simp) (fun _ _ => CEnt.refl _)) .nil)) rfl rfl ?_)
  rintro _ _ ⟨rfl, rfl⟩
  refine ⟨_, _, rfl, CEnt.refl _, ?_⟩
  refine q_rd (wanted_none rfl) rfl rfl (rd_assign (v := .c _) rfl rfl) ?_
  refine seq_nil ?_
  refine then_norm ?_
  refine code_seq ?_
  refine code_seq ?_
  refine code_region ?_
  refine q_rd (wanted_none rfl) rfl rfl (rd_move (v := .c _) rfl rfl) ?_
  refine q_rd (wanted_none rfl) rfl rfl (rd_eqI rfl rfl rfl) ?_
  refine seq_nil ?_
  refine then_norm ?_
  first | refine code_condSD rfl rfl (fun h243 => ?_) (fun h243 => ?_) | refine code_condS rfl rfl (fun h243 => ?_) (fun h243 => ?_)
  · refine code_seq ?_
    refine code_region ?_
    first | refine q_rd (wanted_none rfl) rfl rfl (rd_move (v := .rs _ _ _) rfl rfl) ?_ | refine q_rd (wanted_none rfl) rfl rfl (rd_move (v := .os _ _ _ _ _) rfl rfl) ?_ | refine q_rd (wanted_none rfl) rfl rfl (rd_move (v := .c _) rfl rfl) ?_ | refine q_rd (wanted_none rfl) rfl rfl (rd_move (v := .pv _) rfl rfl) ?_ | refine q_rd (wanted_none rfl) rfl rfl (rd_move (v := .top) rfl rfl) ?_
    first | refine q_rd (wanted_none rfl) rfl rfl (rd_assign (v := .rs _ _ _) rfl rfl) ?_ | refine q_rd (wanted_none rfl) rfl rfl (rd_assign (v := .os _ _ _ _ _) rfl rfl) ?_ | refine q_rd (wanted_none rfl) rfl rfl (rd_assign (v := .c _) rfl rfl) ?_ | refine q_rd (wanted_none rfl) rfl rfl (rd_assign (v := .pv _) rfl rfl) ?_ | refine q_rd (wanted_none rfl) rfl rfl (rd_assign (v := .top) rfl rfl) ?_
    refine seq_nil ?_
    refine then_norm ?_
    refine code_ret ?_
    refine then_ret ?_
    have hd := gdel_none (show firstI p l = -1 by omega)
    rw [hd]
    exact end_O 0 (.inl rfl) (res_1 rfl (arv_tmp rfl)) rfl rfl (Nat.le_refl _) (fun _ => rfl) (fun j hj => CEnt.refl _)
  · refine code_skip ?_
    refine then_norm ?_
    refine code_seq ?_
    refine code_seq ?_
    obtain ⟨i0, hi0, hlt0, hD0⟩ := GDelI.init (show ¬ firstI p l = -1 by omega)
    refine code_knowG (know_osG 0 rfl) fun hgn => ?_
    refine code_region ?_
    refine q_rd (wanted_none rfl) rfl rfl (rd_move (v := .c _) rfl rfl) ?_
    refine q_rd (wanted_none rfl) rfl rfl (rd_add rfl rfl rfl (wrap_id (k := .i64) (by show _ ∧ _; (first | omega | decide | (dsimp only at *; omega))))) ?_
    refine q_rd (wanted_none rfl) rfl rfl (rd_assign (v := .c _) rfl rfl) ?_
    refine seq_nil ?_
    refine then_norm ?_
    refine code_block ?_
    refine l_loop (α := Nat × Nat × List G5) [5, 6, 7, 16, 17, 18, 19, 20, 21, 22, 23, 24, 25, 26, 27, 28, 29, 30, 31, 32, 33, 34, 35] (fun (i, j, X) => [(5, .c (.int .i64 (i : Nat))), (6, .c (.int .i64 (j : Nat)))]) (fun (i, j, X) => [(g, .blk (l.length * 5) (gtF X))]) (fun (i, j, X) => GDelI (fun r => !p r) l X i j) (fun (i, j, X) => l.length - j) ((i0, i0 + 1, l)) ?_ (fun _ => rfl) ?_ ?_ ?_
    · exact hD0
    · exact .cons (CEnt.int (by omega)) (.cons (CEnt.int (by omega)) .nil)
    · (repeat (first | exact HEnt.nil | refine HEnt.same ?_ | refine HEnt.blk rfl (fun j hj => by rcases j with _|_|_|_|_|_|_|_|j <;> first | exact CEnt.refl _ | exact CEnt.int (by omega) | omega) ?_))
    · rintro ⟨i, j, X⟩ (hD : GDelI (fun r => !p r) l X i j)
      have hDl := hD.len
      have hDt := hD.lt
      have hDe := hD.le
      refine code_seq ?_
      refine code_seq ?_
      obtain ⟨i0, hi0, hlt0, hD0⟩ := GDelI.init (show ¬ firstI p l = -1 by omega)
      refine code_knowG (know_osG 0 rfl) fun hgn => ?_
      refine code_region ?_
      refine q_rd (wanted_none rfl) rfl rfl (rd_move (v := .c _) rfl rfl) ?_
      first | refine q_rd (wanted_none rfl) rfl rfl (rd_move (v := .rs _ _ _) rfl rfl) ?_ | refine q_rd (wanted_none rfl) rfl rfl (rd_move (v := .os _ _ _ _ _) rfl rfl) ?_ | refine q_rd (wanted_none rfl) rfl rfl (rd_move (v := .c _) rfl rfl) ?_ | refine q_rd (wanted_none rfl) rfl rfl (rd_move (v := .pv _) rfl rfl) ?_ | refine q_rd (wanted_none rfl) rfl rfl (rd_move (v := .top) rfl rfl) ?_
      first | refine q_rd (wanted_none rfl) rfl rfl (rd_lenR rfl rfl Tryd.underlying29) ?_ | refine q_rd (wanted_none rfl) rfl rfl (rd_lenO rfl rfl Tryd.underlying29) ?_ | refine q_rd (wanted_none rfl) rfl rfl (rd_lenN rfl rfl Tryd.underlying29) ?_
      refine q_rd (wanted_none rfl) rfl rfl (rd_lt rfl rfl rfl) ?_
      refine seq_nil ?_
      refine then_norm ?_
      first | refine code_condSD rfl rfl (fun h247 => ?_) (fun h247 => ?_) | refine code_condS rfl rfl (fun h247 => ?_) (fun h247 => ?_)
      · refine code_skip ?_
        refine then_norm ?_
        refine code_seq ?_
        refine code_block ?_
        refine code_seq ?_
        have hil : i < X.length := by have := hD.lt; have := hD.len; omega
        refine code_region ?_
        first | refine q_rd (wanted_none rfl) rfl rfl (rd_move (v := .rs _ _ _) rfl rfl) ?_ | refine q_rd (wanted_none rfl) rfl rfl (rd_move (v := .os _ _ _ _ _) rfl rfl) ?_ | refine q_rd (wanted_none rfl) rfl rfl (rd_move (v := .c _) rfl rfl) ?_ | refine q_rd (wanted_none rfl) rfl rfl (rd_move (v := .pv _) rfl rfl) ?_ | refine q_rd (wanted_none rfl) rfl rfl (rd_move (v := .top) rfl rfl) ?_
        refine q_rd (wanted_none rfl) rfl rfl (rd_move (v := .c _) rfl rfl) ?_
        first | refine q_rd (wanted_none rfl) rfl rfl (rd_iaddrR rfl rfl rfl Tryd.underlying29 sz100 (show _ = ((j : Nat) : Int) by first | omega | (simp only [List.length_append, List.length_cons, List.length_nil]; omega)) (by (first | omega | decide | (dsimp only at *; omega))) (by decide)) ?_ | refine q_rd (wanted_none rfl) rfl rfl (rd_iaddrO1 rfl rfl rfl Tryd.underlying29 sz100 (show _ = ((j : Nat) : Int) by first | omega | (simp only [List.length_append, List.length_cons, List.length_nil]; omega)) (by (first | omega | decide | (dsimp only at *; omega)))) ?_ | refine q_rd (wanted_none rfl) rfl rfl (rd_iaddrO rfl rfl rfl Tryd.underlying29 sz100 (show _ = ((j : Nat) : Int) by first | omega | (simp only [List.length_append, List.length_cons, List.length_nil]; omega)) (by (first | omega | decide | (dsimp only at *; omega)))) ?_
        first | refine q_rdO (wanted_none rfl) rfl rfl (rd_loadOA rfl rfl (.inl rfl) Tryd.underlying100 ag100 sz100 (by first | decide | (first | omega | decide | (dsimp only at *; omega)))) ?_ | refine q_rd (wanted_none rfl) rfl rfl (rd_loadRA rfl rfl Tryd.underlying100 ag100 sz100 (by first | decide | (first | omega | decide | (dsimp only at *; omega)))) ?_ | refine q_rdO (wanted_none rfl) rfl rfl (rd_loadOA rfl rfl (.inr rfl) Tryd.underlying100 ag100 sz100 (by first | decide | (first | omega | decide | (dsimp only at *; omega)))) ?_
        refine seq_ent (weaken 25 (grC (X.getD j g0)) (grow_ent fun m hm => CEnt.of_eq (congrArg (gtF X) (by omega)))) ?_
        refine seq_ex (wanted_none rfl) (e_alloc (n := 5) rfl zr100 rfl rfl rfl (fun p2 => ?_))
        refine seq_md (wanted_none rfl) (m_store rfl rfl rfl rfl rfl sz100 rfl rfl (by first | decide | (first | omega | decide | (dsimp only at *; omega))) _ (fun _ _ => CEnt.refl _) rfl ?_)
        refine seq_nil ?_
        refine then_norm ?_
        refine code_seq ?_
        have hil : i < X.length := by have := hD.lt; have := hD.len; omega
        refine code_region ?_
        first | refine q_rd (wanted_none rfl) rfl rfl (rd_move (v := .fn _ _ _) rfl rfl) ?_ | refine q_rd (wanted_none rfl) rfl rfl (rd_move (v := .c _) rfl rfl) ?_
        first | refine q_rdO (wanted_none rfl) rfl rfl (rd_loadOA rfl rfl (.inl rfl) Tryd.underlying100 ag100 sz100 (by first | decide | (first | omega | decide | (dsimp only at *; omega)))) ?_ | refine q_rd (wanted_none rfl) rfl rfl (rd_loadRA rfl rfl Tryd.underlying100 ag100 sz100 (by first | decide | (first | omega | decide | (dsimp only at *; omega)))) ?_ | refine q_rdO (wanted_none rfl) rfl rfl (rd_loadOA rfl rfl (.inr rfl) Tryd.underlying100 ag100 sz100 (by first | decide | (first | omega | decide | (dsimp only at *; omega)))) ?_
        refine seq_ex (wanted_none rfl) (e_callV rfl rfl (by first | assumption | kernel_rfl) (hp (X.getD j g0)) (entL_fn (CEnt.agg rfl fun m hm => by rcases m with _ | _ | _ | _ | _ | m <;> first | exact CEnt.refl _ | omega) _) rfl rfl ?_)
        rintro _ _ ⟨rfl, rfl⟩
        first | refine q_rd (wanted_none rfl) rfl rfl (rd_notD rfl rfl) ?_ | refine q_rd (wanted_none rfl) rfl rfl (rd_not rfl rfl) ?_
        refine seq_nil ?_
        refine then_norm ?_
        first | refine code_condSD rfl rfl (fun h248 => ?_) (fun h248 => ?_) | refine code_condS rfl rfl (fun h248 => ?_) (fun h248 => ?_)
        · refine code_seq ?_
          refine code_region ?_
          first | refine q_rd (wanted_none rfl) rfl rfl (rd_move (v := .rs _ _ _) rfl rfl) ?_ | refine q_rd (wanted_none rfl) rfl rfl (rd_move (v := .os _ _ _ _ _) rfl rfl) ?_ | refine q_rd (wanted_none rfl) rfl rfl (rd_move (v := .c _) rfl rfl) ?_ | refine q_rd (wanted_none rfl) rfl rfl (rd_move (v := .pv _) rfl rfl) ?_ | refine q_rd (wanted_none rfl) rfl rfl (rd_move (v := .top) rfl rfl) ?_
          refine q_rd (wanted_none rfl) rfl rfl (rd_move (v := .c _) rfl rfl) ?_
          first | refine q_rdO (wanted_none rfl) rfl rfl (rd_loadOA rfl rfl (.inl rfl) Tryd.underlying100 ag100 sz100 (by first | decide | (first | omega | decide | (dsimp only at *; omega)))) ?_ | refine q_rd (wanted_none rfl) rfl rfl (rd_loadRA rfl rfl Tryd.underlying100 ag100 sz100 (by first | decide | (first | omega | decide | (dsimp only at *; omega)))) ?_ | refine q_rdO (wanted_none rfl) rfl rfl (rd_loadOA rfl rfl (.inr rfl) Tryd.underlying100 ag100 sz100 (by first | decide | (first | omega | decide | (dsimp only at *; omega)))) ?_
          first | refine q_rd (wanted_none rfl) rfl rfl (rd_iaddrR rfl rfl rfl Tryd.underlying29 sz100 (show _ = ((i : Nat) : Int) by first | omega | (simp only [List.length_append, List.length_cons, List.length_nil]; omega)) (by (first | omega | decide | (dsimp only at *; omega))) (by decide)) ?_ | refine q_rd (wanted_none rfl) rfl rfl (rd_iaddrO1 rfl rfl rfl Tryd.underlying29 sz100 (show _ = ((i : Nat) : Int) by first | omega | (simp only [List.length_append, List.length_cons, List.length_nil]; omega)) (by (first | omega | decide | (dsimp only at *; omega)))) ?_ | refine q_rd (wanted_none rfl) rfl rfl (rd_iaddrO rfl rfl rfl Tryd.underlying29 sz100 (show _ = ((i : Nat) : Int) by first | omega | (simp only [List.length_append, List.length_cons, List.length_nil]; omega)) (by (first | omega | decide | (dsimp only at *; omega)))) ?_
          refine seq_md (wanted_none rfl) (m_store rfl rfl rfl rfl rfl sz100 rfl rfl (by first | decide | (first | omega | decide | (dsimp only at *; omega))) (gtF (X.set i (X.getD j g0))) (fun j' hj' => gset_row (X.getD j g0) (by omega) hil rfl (fun m hm => by rcases m with _ | _ | _ | _ | _ | m <;> first | exact CEnt.refl _ | omega) j' (by rw [hD.len]; exact hj')) rfl ?_)
          refine seq_nil ?_
          refine then_norm ?_
          refine code_region ?_
          refine q_rd (wanted_none rfl) rfl rfl (rd_move (v := .c _) rfl rfl) ?_
          refine q_rd (wanted_none rfl) rfl rfl (rd_add rfl rfl rfl (wrap_id (k := .i64) (by show _ ∧ _; (first | omega | decide | (dsimp only at *; omega))))) ?_
          refine q_rd (wanted_none rfl) rfl rfl (rd_assign (v := .c _) rfl rfl) ?_
          refine seq_nil ?_
          refine block_norm ?_
          refine then_norm ?_
          obtain ⟨i0, hi0, hlt0, hD0⟩ := GDelI.init (show ¬ firstI p l = -1 by omega)
          refine code_knowG (know_osG 0 rfl) fun hgn => ?_
          refine code_region ?_
          refine q_rd (wanted_none rfl) rfl rfl (rd_move (v := .c _) rfl rfl) ?_
          refine q_rd (wanted_none rfl) rfl rfl (rd_add rfl rfl rfl (wrap_id (k := .i64) (by show _ ∧ _; (first | omega | decide | (dsimp only at *; omega))))) ?_
          refine q_rd (wanted_none rfl) rfl rfl (rd_assign (v := .c _) rfl rfl) ?_
          refine seq_nil ?_
          refine then_norm ?_
          refine ⟨(i + 1, j + 1, X.set i (X.getD j g0)), ?_, ?_, by first | exact .refl | exact .nest .refl rfl rfl | exact .nest (.nest .refl rfl rfl) rfl rfl | exact .nest (.nest (.nest .refl rfl rfl) rfl rfl) rfl rfl | (repeat (first | exact .refl | refine .nest ?_ rfl rfl | refine BLe.look2 ?_ rfl)), rfl, ?_, by exact Nat.le_of_ble_eq_true rfl, ?_⟩
          · exact hD.put (by omega) (by simpa using h248)
          · show l.length - (j + 1) < l.length - j; omega
          · exact .cons (CEnt.int (by omega)) (.cons (CEnt.int (by omega)) .nil)
          · (repeat (first | exact HEnt.nil | refine HEnt.same ?_ | refine HEnt.blk rfl (fun j hj => by rcases j with _|_|_|_|_|_|_|_|j <;> first | exact CEnt.refl _ | exact CEnt.int (by omega) | omega) ?_))
        · refine code_skip ?_
          refine block_norm ?_
          refine then_norm ?_
          obtain ⟨i0, hi0, hlt0, hD0⟩ := GDelI.init (show ¬ firstI p l = -1 by omega)
          refine code_knowG (know_osG 0 rfl) fun hgn => ?_
          refine code_region ?_
          refine q_rd (wanted_none rfl) rfl rfl (rd_move (v := .c _) rfl rfl) ?_
          refine q_rd (wanted_none rfl) rfl rfl (rd_add rfl rfl rfl (wrap_id (k := .i64) (by show _ ∧ _; (first | omega | decide | (dsimp only at *; omega))))) ?_
          refine q_rd (wanted_none rfl) rfl rfl (rd_assign (v := .c _) rfl rfl) ?_
          refine seq_nil ?_
          refine then_norm ?_
          refine ⟨(i, j + 1, X), ?_, ?_, by first | exact .refl | exact .nest .refl rfl rfl | exact .nest (.nest .refl rfl rfl) rfl rfl | exact .nest (.nest (.nest .refl rfl rfl) rfl rfl) rfl rfl | (repeat (first | exact .refl | refine .nest ?_ rfl rfl | refine BLe.look2 ?_ rfl)), rfl, ?_, by exact Nat.le_of_ble_eq_true rfl, ?_⟩
          · exact hD.skip (by omega) (by simpa using h248)
          · show l.length - (j + 1) < l.length - j; omega
          · exact .cons (CEnt.int (by omega)) (.cons (CEnt.int (by omega)) .nil)
          · (repeat (first | exact HEnt.nil | refine HEnt.same ?_ | refine HEnt.blk rfl (fun j hj => by rcases j with _|_|_|_|_|_|_|_|j <;> first | exact CEnt.refl _ | exact CEnt.int (by omega) | omega) ?_))
      · refine code_exit ?_
        refine then_exit ?_
        refine then_exit ?_
        refine block_exit rfl ?_
        refine then_norm ?_
        refine code_seq ?_
        have hfin := hD.fin (by omega)
        have hl2 := hD.len
        have hlt := hD.lt
        have hle := hD.le
        have hfl : i = (l.filter fun r => !p r).length := by rw [← hfin, List.length_take]; omega
        refine code_region ?_
        first | refine q_rd (wanted_none rfl) rfl rfl (rd_move (v := .rs _ _ _) rfl rfl) ?_ | refine q_rd (wanted_none rfl) rfl rfl (rd_move (v := .os _ _ _ _ _) rfl rfl) ?_ | refine q_rd (wanted_none rfl) rfl rfl (rd_move (v := .c _) rfl rfl) ?_ | refine q_rd (wanted_none rfl) rfl rfl (rd_move (v := .pv _) rfl rfl) ?_ | refine q_rd (wanted_none rfl) rfl rfl (rd_move (v := .top) rfl rfl) ?_
        refine q_rd (wanted_none rfl) rfl rfl (rd_move (v := .c _) rfl rfl) ?_
        first | refine q_rd (wanted_none rfl) rfl rfl (rd_sliceR rfl rfl Tryd.underlying29 sz100 (bd_some rfl (by first | exact rfl | exact natI (by omega))) (bd_none _ _) (by (first | omega | decide | (dsimp only at *; omega))) (by (first | omega | decide | (dsimp only at *; omega)))) ?_ | refine q_rd (wanted_none rfl) rfl rfl (rd_sliceO rfl rfl Tryd.underlying29 sz100 (bd_some rfl (by first | exact rfl | exact natI (by omega))) (bd_none _ _) (by (first | omega | decide | (dsimp only at *; omega))) (by (first | omega | decide | (dsimp only at *; omega))) (by (first | omega | decide | (dsimp only at *; omega)))) ?_
        refine seq_md (wanted_none rfl) (m_clear (M := i * 5) rfl rfl rfl Tryd.underlying29 sz100 zr100 rfl (by decide) (by first | rfl | (simp [Value.cells]; done) | (simp [Value.cells]; exact ⟨rfl, rfl, rfl⟩) | (simp [Value.cells, Value.oneCell']; done)) (by omega) (by omega) (fun hg => absurd (hgn hg) (by omega)) rfl ?_)
        refine seq_nil ?_
        refine then_norm ?_
        refine code_seq ?_
        refine code_region ?_
        first | refine q_rd (wanted_none rfl) rfl rfl (rd_move (v := .rs _ _ _) rfl rfl) ?_ | refine q_rd (wanted_none rfl) rfl rfl (rd_move (v := .os _ _ _ _ _) rfl rfl) ?_ | refine q_rd (wanted_none rfl) rfl rfl (rd_move (v := .c _) rfl rfl) ?_ | refine q_rd (wanted_none rfl) rfl rfl (rd_move (v := .pv _) rfl rfl) ?_ | refine q_rd (wanted_none rfl) rfl rfl (rd_move (v := .top) rfl rfl) ?_
        refine q_rd (wanted_none rfl) rfl rfl (rd_move (v := .c _) rfl rfl) ?_
        first | refine q_rd (wanted_none rfl) rfl rfl (rd_sliceR rfl rfl Tryd.underlying29 sz100 (bd_none _ _) (bd_some rfl (by first | exact rfl | exact natI (by omega))) (by (first | omega | decide | (dsimp only at *; omega))) (by (first | omega | decide | (dsimp only at *; omega)))) ?_ | refine q_rd (wanted_none rfl) rfl rfl (rd_sliceO rfl rfl Tryd.underlying29 sz100 (bd_none _ _) (bd_some rfl (by first | exact rfl | exact natI (by omega))) (by (first | omega | decide | (dsimp only at *; omega))) (by (first | omega | decide | (dsimp only at *; omega))) (by (first | omega | decide | (dsimp only at *; omega)))) ?_
        first | refine q_rd (wanted_none rfl) rfl rfl (rd_assign (v := .rs _ _ _) rfl rfl) ?_ | refine q_rd (wanted_none rfl) rfl rfl (rd_assign (v := .os _ _ _ _ _) rfl rfl) ?_ | refine q_rd (wanted_none rfl) rfl rfl (rd_assign (v := .c _) rfl rfl) ?_ | refine q_rd (wanted_none rfl) rfl rfl (rd_assign (v := .pv _) rfl rfl) ?_ | refine q_rd (wanted_none rfl) rfl rfl (rd_assign (v := .top) rfl rfl) ?_
        refine seq_nil ?_
        refine then_norm ?_
        refine code_ret ?_
        exact end_O 0 (.inl rfl) (res_1 rfl (arv_tmp rfl)) rfl hfl (by omega) (fun _ => by omega) (fun j hj => CEnt.of_eq (by rw [← hfin]; exact gtF_take (by omega) (by omega)))
end Am
end Go.Proofs.YtoliiompofonlaaDoor
