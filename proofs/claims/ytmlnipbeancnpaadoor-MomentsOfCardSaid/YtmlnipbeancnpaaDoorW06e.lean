/- Chapter 6: what all bodies are read as, by the program and by the reference. -/
import Derived.Test.YtmlnipbeancnpaaDoorW06d
import Derived.Test.YtmlnipbeancnpaaDoorAmA
namespace Go.Proofs.YtmlnipbeancnpaaDoor
set_option linter.unusedVariables false
namespace Am
open Go.RowKit Cal
set_option linter.unusedVariables false
set_option maxRecDepth 100000

/-- the program's pairs of figures, when i figures are read -/
def twoI (b : List UInt8) (i j : Nat) : Int := if 2 * j + 1 < i then two b j else if 2 * j < i then dg b (2 * j) else 0
theorem twoI_bd {b : List UInt8} {i : Nat} (h : ∀ k, k < i → isDg b k) (j : Nat) : 0 ≤ twoI b i j ∧ twoI b i j ≤ 99 := by
  unfold twoI
  split
  · have h1 := h (2 * j) (by omega)
    have h2 := h (2 * j + 1) (by omega)
    unfold isDg at h1 h2
    unfold two dg
    omega
  · split
    · have h1 := h (2 * j) (by omega)
      unfold isDg at h1
      unfold dg
      omega
    · omega
theorem twoI_succ {b : List UInt8} {i : Nat} (j : Nat) : twoI b (i + 1) j = if j = i / 2 then 10 * twoI b i j + dg b i else twoI b i j := by
  unfold twoI
  by_cases hj : j = i / 2
  · rw [if_pos hj]
    by_cases he : i % 2 = 0
    · have e : i = 2 * j := by omega
      subst e
      rw [if_neg (by omega), if_pos (by omega), if_neg (by omega), if_neg (by omega)]
      omega
    · have e : i = 2 * j + 1 := by omega
      rw [if_pos (by omega), if_neg (by omega), if_pos (by omega), e]
      rfl
  · rw [if_neg hj]
    by_cases h1 : 2 * j + 1 < i
    · rw [if_pos (by omega), if_pos h1]
    · rw [if_neg (by omega), if_neg h1, if_neg (by omega), if_neg (by omega)]
theorem twoI_14 {b : List UInt8} {j : Nat} (h : j < 7) : twoI b 14 j = two b j := by unfold twoI; rw [if_pos (by omega)]
theorem two_bd {b : List UInt8} (h : ∀ k, k < 14 → isDg b k) {j : Nat} (hj : j < 7) : 0 ≤ two b j ∧ two b j ≤ 99 := by rw [← twoI_14 hj]; exact twoI_bd h j
def twF (b : List UInt8) (i j : Nat) : CV := .c (.int .i64 (twoI b i j))

theorem mget_ac (b : List UInt8) : ACp gs Tryd.prog 50 [bsC b] (.tup 2 (fl [.c (.int .i64 (getV b)), .err (getE b)])) := by
  refine ac_of 65 Tryd.func50 rfl rfl rfl (fun al w0 F0 St0 => ?_)
  refine code_seq ?_
  refine code_region ?_
  refine q_rd (wanted_none rfl) rfl rfl (rd_assign (v := .c _) rfl rfl) ?_
  first | refine q_rd (wanted_none rfl) rfl rfl (rd_assign (v := .err _) rfl rfl) ?_ | refine q_rd (wanted_none rfl) rfl rfl (rd_assign (v := .c _) rfl rfl) ?_ | refine q_rd (wanted_none rfl) rfl rfl (rd_assign (v := .pv _) rfl rfl) ?_ | refine q_rd (wanted_none rfl) rfl rfl (rd_assign (v := .top) rfl rfl) ?_
  refine seq_nil ?_
  refine then_norm ?_
  refine code_seq ?_
  refine code_seq ?_
  refine code_region ?_
  first | refine q_rd (wanted_none rfl) rfl rfl (rd_move (v := bsC _) rfl rfl) ?_ | refine q_rd (wanted_none rfl) rfl rfl (rd_move (v := .rs _ _ _) rfl rfl) ?_ | refine q_rd (wanted_none rfl) rfl rfl (rd_move (v := .os _ _ _ _ _) rfl rfl) ?_ | refine q_rd (wanted_none rfl) rfl rfl (rd_move (v := .c _) rfl rfl) ?_ | refine q_rd (wanted_none rfl) rfl rfl (rd_move (v := .pv _) rfl rfl) ?_ | refine q_rd (wanted_none rfl) rfl rfl (rd_move (v := .top) rfl rfl) ?_
  first | refine q_rd (wanted_none rfl) rfl rfl (rd_lenR rfl rfl Tryd.underlying30) ?_ | refine q_rd (wanted_none rfl) rfl rfl (rd_lenO rfl rfl Tryd.underlying30) ?_ | refine q_rd (wanted_none rfl) rfl rfl (rd_lenN rfl rfl Tryd.underlying30) ?_
  refine q_rd (wanted_none rfl) rfl rfl (rd_neI rfl rfl rfl) ?_
  refine q_rd (wanted_none rfl) rfl rfl (rd_move (v := .c _) rfl rfl) ?_
  first | refine seq_splitD (d := 10) rfl rfl (fun g112 => ?_) (fun g112 => ?_) | refine seq_split (d := 10) rfl rfl (fun g112 => ?_) (fun g112 => ?_)
  · refine q_skip (wanted_is rfl rfl rfl rfl false rfl) rfl rfl ?_
    refine q_skip (wanted_is rfl rfl rfl rfl false rfl) rfl rfl ?_
    refine q_skip (wanted_is rfl rfl rfl rfl false rfl) rfl rfl ?_
    refine q_skip (wanted_is rfl rfl rfl rfl false rfl) rfl rfl ?_
    refine q_rd (wanted_none rfl) rfl rfl (rd_pickT (v := .c _) rfl rfl rfl) ?_
    refine seq_nil ?_
    refine then_norm ?_
    refine code_condT rfl ?_
    refine code_seq ?_
    refine code_draw (.rd 0 (.rd 1 (.rd 2 .done))) (by kernel_rfl) (by kernel_rfl) rfl (by kernel_rfl) (by kernel_rfl) ?_
    simp only [opsOfT, List.getElem?_toArray, List.getElem?_cons_zero, List.getElem?_cons_succ]
    refine y_rd (wanted_none rfl) rfl rfl (rd_loadE 3 rfl rfl Tryd.underlying26 ag26) ?_
    refine y_rd (wanted_none rfl) rfl rfl (rd_assign (v := .c _) rfl rfl) ?_
    first | refine y_rd (wanted_none rfl) rfl rfl (rd_assign (v := .err _) rfl rfl) ?_ | refine y_rd (wanted_none rfl) rfl rfl (rd_assign (v := .c _) rfl rfl) ?_ | refine y_rd (wanted_none rfl) rfl rfl (rd_assign (v := .pv _) rfl rfl) ?_ | refine y_rd (wanted_none rfl) rfl rfl (rd_assign (v := .top) rfl rfl) ?_
    refine x_done ?_
    refine then_norm ?_
    refine code_ret ?_
    refine then_ret ?_
    refine end_val (.inl rfl) (res_2 rfl (arv_tmp rfl) (arv_tmp rfl)) ?_
    have hn : ¬ formP b := fun h => by obtain ⟨h1, h2, h3⟩ := h; omega
    unfold getV getE
    rw [if_neg (fun h => hn h.1), if_neg hn]
    exact CEnt.refl _
  · first | refine q_rd (wanted_is rfl rfl rfl rfl true rfl) rfl rfl (rd_move (v := bsC _) rfl rfl) ?_ | refine q_rd (wanted_is rfl rfl rfl rfl true rfl) rfl rfl (rd_move (v := .rs _ _ _) rfl rfl) ?_ | refine q_rd (wanted_is rfl rfl rfl rfl true rfl) rfl rfl (rd_move (v := .os _ _ _ _ _) rfl rfl) ?_ | refine q_rd (wanted_is rfl rfl rfl rfl true rfl) rfl rfl (rd_move (v := .c _) rfl rfl) ?_ | refine q_rd (wanted_is rfl rfl rfl rfl true rfl) rfl rfl (rd_move (v := .pv _) rfl rfl) ?_ | refine q_rd (wanted_is rfl rfl rfl rfl true rfl) rfl rfl (rd_move (v := .top) rfl rfl) ?_
    first | refine q_rd (wanted_is rfl rfl rfl rfl true rfl) rfl rfl (rd_iaddrR rfl rfl rfl Tryd.underlying30 sz5 (show (14 : Int) = ((14 : Nat) : Int) from rfl) (by (first | omega | (dsimp only at *; omega))) (by decide)) ?_ | refine q_rd (wanted_is rfl rfl rfl rfl true rfl) rfl rfl (rd_iaddrO1 rfl rfl rfl Tryd.underlying30 sz5 (show (14 : Int) = ((14 : Nat) : Int) from rfl) (by (first | omega | (dsimp only at *; omega)))) ?_ | refine q_rd (wanted_is rfl rfl rfl rfl true rfl) rfl rfl (rd_iaddrO rfl rfl rfl Tryd.underlying30 sz5 (show (14 : Int) = ((14 : Nat) : Int) from rfl) (by (first | omega | (dsimp only at *; omega)))) ?_
    first | refine q_rdO (wanted_is rfl rfl rfl rfl true rfl) rfl rfl (rd_loadO (v := .c _) rfl rfl (.inl rfl) Tryd.underlying5 ag5 (by first | decide | (first | omega | (dsimp only at *; omega))) rfl) ?_ | refine q_rd (wanted_is rfl rfl rfl rfl true rfl) rfl rfl (rd_loadR (v := .c _) rfl rfl Tryd.underlying5 ag5 (by first | decide | (first | omega | (dsimp only at *; omega))) rfl) ?_ | refine q_rdO (wanted_is rfl rfl rfl rfl true rfl) rfl rfl (rd_loadO (v := .c _) rfl rfl (.inr rfl) Tryd.underlying5 ag5 (by first | decide | (first | omega | (dsimp only at *; omega))) rfl) ?_
    refine q_rd (wanted_is rfl rfl rfl rfl true rfl) rfl rfl (rd_neI rfl rfl rfl) ?_
    refine q_rd (wanted_none rfl) rfl rfl (rd_pickF (v := .c _) rfl rfl rfl) ?_
    refine seq_nil ?_
    refine then_norm ?_
    first | refine code_condSD rfl rfl (fun h112 => ?_) (fun h112 => ?_) | refine code_condS rfl rfl (fun h112 => ?_) (fun h112 => ?_)
    · refine code_seq ?_
      refine code_draw (.rd 0 (.rd 1 (.rd 2 .done))) (by kernel_rfl) (by kernel_rfl) rfl (by kernel_rfl) (by kernel_rfl) ?_
      simp only [opsOfT, List.getElem?_toArray, List.getElem?_cons_zero, List.getElem?_cons_succ]
      refine y_rd (wanted_none rfl) rfl rfl (rd_loadE 3 rfl rfl Tryd.underlying26 ag26) ?_
      refine y_rd (wanted_none rfl) rfl rfl (rd_assign (v := .c _) rfl rfl) ?_
      first | refine y_rd (wanted_none rfl) rfl rfl (rd_assign (v := .err _) rfl rfl) ?_ | refine y_rd (wanted_none rfl) rfl rfl (rd_assign (v := .c _) rfl rfl) ?_ | refine y_rd (wanted_none rfl) rfl rfl (rd_assign (v := .pv _) rfl rfl) ?_ | refine y_rd (wanted_none rfl) rfl rfl (rd_assign (v := .top) rfl rfl) ?_
      refine x_done ?_
      refine then_norm ?_
      refine code_ret ?_
      refine then_ret ?_
      refine end_val (.inl rfl) (res_2 rfl (arv_tmp rfl) (arv_tmp rfl)) ?_
      have hn : ¬ formP b := fun h => by obtain ⟨h1, h2, h3⟩ := h; omega
      unfold getV getE
      rw [if_neg (fun h => hn h.1), if_neg hn]
      exact CEnt.refl _
    · refine code_skip ?_
      refine then_norm ?_
      refine code_seq ?_
      refine code_region ?_
      refine seq_ex (wanted_none rfl) (e_alloc (n := 7) rfl zr101 rfl rfl rfl (fun p1 => ?_))
      refine seq_nil ?_
      refine then_norm ?_
      refine code_seq ?_
      refine code_seq ?_
      refine code_region ?_
      first | refine q_rd (wanted_none rfl) rfl rfl (rd_move (v := bsC _) rfl rfl) ?_ | refine q_rd (wanted_none rfl) rfl rfl (rd_move (v := .rs _ _ _) rfl rfl) ?_ | refine q_rd (wanted_none rfl) rfl rfl (rd_move (v := .os _ _ _ _ _) rfl rfl) ?_ | refine q_rd (wanted_none rfl) rfl rfl (rd_move (v := .c _) rfl rfl) ?_ | refine q_rd (wanted_none rfl) rfl rfl (rd_move (v := .pv _) rfl rfl) ?_ | refine q_rd (wanted_none rfl) rfl rfl (rd_move (v := .top) rfl rfl) ?_
      first | refine q_rd (wanted_none rfl) rfl rfl (rd_sliceB_to rfl rfl Tryd.underlying30 sz5 rfl (show (14 : Int) = ((14 : Nat) : Int) from rfl) (by (first | omega | (dsimp only at *; omega)))) ?_ | refine q_rd (wanted_none rfl) rfl rfl (rd_sliceR rfl rfl Tryd.underlying30 sz5 (bd_none _ _) (bd_some rfl (show (14 : Int) = ((14 : Nat) : Int) from rfl)) (by (first | omega | (dsimp only at *; omega))) (by (first | omega | (dsimp only at *; omega)))) ?_ | refine q_rd (wanted_none rfl) rfl rfl (rd_sliceO rfl rfl Tryd.underlying30 sz5 (bd_none _ _) (bd_some rfl (show (14 : Int) = ((14 : Nat) : Int) from rfl)) (by (first | omega | (dsimp only at *; omega))) (by (first | omega | (dsimp only at *; omega))) (by (first | omega | (dsimp only at *; omega)))) ?_
      first | refine q_rd (wanted_none rfl) rfl rfl (rd_lenR rfl rfl Tryd.underlying30) ?_ | refine q_rd (wanted_none rfl) rfl rfl (rd_lenO rfl rfl Tryd.underlying30) ?_ | refine q_rd (wanted_none rfl) rfl rfl (rd_lenN rfl rfl Tryd.underlying30) ?_
      refine q_rd (wanted_none rfl) rfl rfl (rd_move (v := .c _) rfl rfl) ?_
      refine seq_nil ?_
      refine then_norm ?_
      refine code_block ?_
      refine l_loop (α := Nat) [2, 3, 5, 6, 20, 21, 22, 23, 24, 25, 26, 27, 28, 29, 30, 31, 32, 33, 34, 35, 36, 37, 38, 39, 40, 41, 42, 43, 44] (fun i => [(20, .c (.int .i64 (i : Nat)))]) (fun i => [(p1, .blk 7 (twF b i))]) (fun i => i ≤ 14 ∧ ∀ k, k < i → isDg b k) (fun i => 14 - i) (0) ?_ (fun _ => rfl) ?_ ?_ ?_
      · exact ⟨by omega, fun k hk => by omega⟩
      · (repeat (first | exact EntE.nil | refine EntE.cons (CEnt.refl _) ?_ | refine EntE.cons (CEnt.int (by omega)) ?_))
      · exact .blk rfl (fun j hj => by rcases j with _|_|_|_|_|_|_|j <;> first | exact CEnt.refl _ | omega) .nil
      · rintro i ⟨hi, hd⟩
        refine code_seq ?_
        refine code_region ?_
        refine q_rd (wanted_none rfl) rfl rfl (rd_lt rfl rfl rfl) ?_
        refine seq_nil ?_
        refine then_norm ?_
        refine code_seq ?_
        first | refine code_condSD rfl rfl (fun h116 => ?_) (fun h116 => ?_) | refine code_condS rfl rfl (fun h116 => ?_) (fun h116 => ?_)
        · refine code_skip ?_
          refine then_norm ?_
          refine code_seq ?_
          refine code_block ?_
          refine code_seq ?_
          refine code_region ?_
          refine q_rd (wanted_none rfl) rfl rfl (rd_move (v := .c _) rfl rfl) ?_
          first | refine q_rd (wanted_none rfl) rfl rfl (rd_iaddrR rfl rfl rfl Tryd.underlying30 sz5 rfl (by (first | omega | (dsimp only at *; omega))) (by decide)) ?_ | refine q_rd (wanted_none rfl) rfl rfl (rd_iaddrO1 rfl rfl rfl Tryd.underlying30 sz5 rfl (by (first | omega | (dsimp only at *; omega)))) ?_ | refine q_rd (wanted_none rfl) rfl rfl (rd_iaddrO rfl rfl rfl Tryd.underlying30 sz5 rfl (by (first | omega | (dsimp only at *; omega)))) ?_ | refine q_rd (wanted_none rfl) rfl rfl (rd_iaddrR rfl rfl rfl Tryd.underlying30 sz5 (natI (by omega)) (by (first | omega | (dsimp only at *; omega))) (by decide)) ?_ | refine q_rd (wanted_none rfl) rfl rfl (rd_iaddrO1 rfl rfl rfl Tryd.underlying30 sz5 (natI (by omega)) (by (first | omega | (dsimp only at *; omega)))) ?_ | refine q_rd (wanted_none rfl) rfl rfl (rd_iaddrO rfl rfl rfl Tryd.underlying30 sz5 (natI (by omega)) (by (first | omega | (dsimp only at *; omega)))) ?_
          first | refine q_rdO (wanted_none rfl) rfl rfl (rd_loadO (v := .c _) rfl rfl (.inl rfl) Tryd.underlying5 ag5 (by first | decide | (first | omega | (dsimp only at *; omega))) rfl) ?_ | refine q_rd (wanted_none rfl) rfl rfl (rd_loadR (v := .c _) rfl rfl Tryd.underlying5 ag5 (by first | decide | (first | omega | (dsimp only at *; omega))) rfl) ?_ | refine q_rdO (wanted_none rfl) rfl rfl (rd_loadO (v := .c _) rfl rfl (.inr rfl) Tryd.underlying5 ag5 (by first | decide | (first | omega | (dsimp only at *; omega))) rfl) ?_
          refine q_rd (wanted_none rfl) rfl rfl (rd_assign (v := .c _) rfl rfl) ?_
          refine q_rd (wanted_none rfl) rfl rfl (rd_assign (v := .c _) rfl rfl) ?_
          refine seq_nil ?_
          refine then_norm ?_
          refine code_seq ?_
          refine code_seq ?_
          have ht : (b.take 14).length = 14 := by simp; omega
          have hg : (((b.take 14).getD i 0).toNat : Int) = ((b.getD i 0).toNat : Int) := by
            simp [List.getD, List.getElem?_take, show i < 14 by omega]
          refine code_region ?_
          refine q_rd (wanted_none rfl) rfl rfl (rd_move (v := .c _) rfl rfl) ?_
          refine q_rd (wanted_none rfl) rfl rfl (rd_lt rfl rfl rfl) ?_
          refine q_rd (wanted_none rfl) rfl rfl (rd_move (v := .c _) rfl rfl) ?_
          first | refine seq_splitD (d := 27) rfl rfl (fun g117 => ?_) (fun g117 => ?_) | refine seq_split (d := 27) rfl rfl (fun g117 => ?_) (fun g117 => ?_)
          · refine q_skip (wanted_is rfl rfl rfl rfl false rfl) rfl rfl ?_
            refine q_skip (wanted_is rfl rfl rfl rfl false rfl) rfl rfl ?_
            refine q_rd (wanted_none rfl) rfl rfl (rd_pickT (v := .c _) rfl rfl rfl) ?_
            refine seq_nil ?_
            refine then_norm ?_
            refine code_condT rfl ?_
            refine code_seq ?_
            refine code_draw (.rd 0 (.rd 1 (.rd 2 .done))) (by kernel_rfl) (by kernel_rfl) rfl (by kernel_rfl) (by kernel_rfl) ?_
            simp only [opsOfT, List.getElem?_toArray, List.getElem?_cons_zero, List.getElem?_cons_succ]
            refine y_rd (wanted_none rfl) rfl rfl (rd_loadE 3 rfl rfl Tryd.underlying26 ag26) ?_
            refine y_rd (wanted_none rfl) rfl rfl (rd_assign (v := .c _) rfl rfl) ?_
            first | refine y_rd (wanted_none rfl) rfl rfl (rd_assign (v := .err _) rfl rfl) ?_ | refine y_rd (wanted_none rfl) rfl rfl (rd_assign (v := .c _) rfl rfl) ?_ | refine y_rd (wanted_none rfl) rfl rfl (rd_assign (v := .pv _) rfl rfl) ?_ | refine y_rd (wanted_none rfl) rfl rfl (rd_assign (v := .top) rfl rfl) ?_
            refine x_done ?_
            refine then_norm ?_
            refine code_ret ?_
            refine then_ret ?_
            refine block_ret ?_
            refine then_ret ?_
            refine then_ret ?_
            refine block_ret ?_
            refine then_ret ?_
            refine end_val (.inl rfl) (res_2 rfl (arv_tmp rfl) (arv_tmp rfl)) ?_
            have hn : ¬ formP b := fun h => by
              obtain ⟨h1, h2, h3⟩ := h
              have := h3 i (by omega)
              unfold isDg at this
              omega
            unfold getV getE
            rw [if_neg (fun h => hn h.1), if_neg hn]
            exact CEnt.refl _
          · refine q_rd (wanted_is rfl rfl rfl rfl true rfl) rfl rfl (rd_move (v := .c _) rfl rfl) ?_
            refine q_rd (wanted_is rfl rfl rfl rfl true rfl) rfl rfl (rd_gt rfl rfl rfl) ?_
            refine q_rd (wanted_none rfl) rfl rfl (rd_pickF (v := .c _) rfl rfl rfl) ?_
            refine seq_nil ?_
            refine then_norm ?_
            first | refine code_condSD rfl rfl (fun h117 => ?_) (fun h117 => ?_) | refine code_condS rfl rfl (fun h117 => ?_) (fun h117 => ?_)
            · refine code_seq ?_
              refine code_draw (.rd 0 (.rd 1 (.rd 2 .done))) (by kernel_rfl) (by kernel_rfl) rfl (by kernel_rfl) (by kernel_rfl) ?_
              simp only [opsOfT, List.getElem?_toArray, List.getElem?_cons_zero, List.getElem?_cons_succ]
              refine y_rd (wanted_none rfl) rfl rfl (rd_loadE 3 rfl rfl Tryd.underlying26 ag26) ?_
              refine y_rd (wanted_none rfl) rfl rfl (rd_assign (v := .c _) rfl rfl) ?_
              first | refine y_rd (wanted_none rfl) rfl rfl (rd_assign (v := .err _) rfl rfl) ?_ | refine y_rd (wanted_none rfl) rfl rfl (rd_assign (v := .c _) rfl rfl) ?_ | refine y_rd (wanted_none rfl) rfl rfl (rd_assign (v := .pv _) rfl rfl) ?_ | refine y_rd (wanted_none rfl) rfl rfl (rd_assign (v := .top) rfl rfl) ?_
              refine x_done ?_
              refine then_norm ?_
              refine code_ret ?_
              refine then_ret ?_
              refine block_ret ?_
              refine then_ret ?_
              refine then_ret ?_
              refine block_ret ?_
              refine then_ret ?_
              refine end_val (.inl rfl) (res_2 rfl (arv_tmp rfl) (arv_tmp rfl)) ?_
              have hn : ¬ formP b := fun h => by
                obtain ⟨h1, h2, h3⟩ := h
                have := h3 i (by omega)
                unfold isDg at this
                omega
              unfold getV getE
              rw [if_neg (fun h => hn h.1), if_neg hn]
              exact CEnt.refl _
            · refine code_skip ?_
              refine then_norm ?_
              have hdi : isDg b i := by unfold isDg; omega
              have hdj := hdi
              unfold isDg at hdj
              have hb2 := twoI_bd hd (i / 2)
              refine code_region ?_
              refine q_rd (wanted_none rfl) rfl rfl (rd_move (v := .c _) rfl rfl) ?_
              first | refine q_rd (wanted_none rfl) rfl rfl (rd_quo rfl rfl rfl (by (first | omega | (dsimp only at *; omega))) (by (first | omega | (dsimp only at *; omega))) (wrap_id (k := .i64) (by show _ ∧ _; (first | omega | (dsimp only at *; omega))))) ?_ | refine q_rd (wanted_none rfl) rfl rfl (rd_quoT rfl rfl rfl (by (first | omega | (dsimp only at *; omega))) _ rfl) ?_
              refine q_rd (wanted_none rfl) rfl rfl (rd_move (v := .c _) rfl rfl) ?_
              first | refine q_rd (wanted_none rfl) rfl rfl (rd_quo rfl rfl rfl (by (first | omega | (dsimp only at *; omega))) (by (first | omega | (dsimp only at *; omega))) (wrap_id (k := .i64) (by show _ ∧ _; (first | omega | (dsimp only at *; omega))))) ?_ | refine q_rd (wanted_none rfl) rfl rfl (rd_quoT rfl rfl rfl (by (first | omega | (dsimp only at *; omega))) _ rfl) ?_
              first | refine q_rd (wanted_none rfl) rfl rfl (rd_iaddrA1 rfl rfl rfl Tryd.underlying101 sz3 (show _ = (((i / 2) : Nat) : Int) by omega) (by (first | omega | (dsimp only at *; omega)))) ?_ | refine q_rd (wanted_none rfl) rfl rfl (rd_iaddrA rfl rfl rfl Tryd.underlying101 sz3 (show _ = (((i / 2) : Nat) : Int) by omega) (by (first | omega | (dsimp only at *; omega)))) ?_ | refine q_rd (wanted_none rfl) rfl rfl (rd_iaddrAR rfl rfl rfl Tryd.underlying101 sz3 (show _ = (((i / 2) : Nat) : Int) by omega) (by (first | omega | (dsimp only at *; omega)))) ?_
              first | refine q_rdO (wanted_none rfl) rfl rfl (rd_loadO (v := .c _) rfl rfl (.inl rfl) Tryd.underlying3 ag3 (by first | decide | (first | omega | (dsimp only at *; omega))) rfl) ?_ | refine q_rd (wanted_none rfl) rfl rfl (rd_loadR (v := .c _) rfl rfl Tryd.underlying3 ag3 (by first | decide | (first | omega | (dsimp only at *; omega))) rfl) ?_ | refine q_rdO (wanted_none rfl) rfl rfl (rd_loadO (v := .c _) rfl rfl (.inr rfl) Tryd.underlying3 ag3 (by first | decide | (first | omega | (dsimp only at *; omega))) rfl) ?_
              refine q_rd (wanted_none rfl) rfl rfl (rd_mul rfl rfl rfl (wrap_id (k := .i64) (by show _ ∧ _; (first | omega | (dsimp only at *; omega))))) ?_
              refine q_rd (wanted_none rfl) rfl rfl (rd_move (v := .c _) rfl rfl) ?_
              refine q_rd (wanted_none rfl) rfl rfl (rd_sub rfl rfl rfl (wrap_id (k := .u8) (by show _ ∧ _; (first | omega | (dsimp only at *; omega))))) ?_
              first | refine q_rd (wanted_none rfl) rfl rfl (rd_convI rfl rfl Tryd.underlying5 Tryd.underlying3 _ (wrap_id (k := .i64) (by show _ ∧ _; (first | omega | (dsimp only at *; omega))))) ?_ | refine q_rd (wanted_none rfl) rfl rfl (rd_convI rfl rfl Tryd.underlying5 Tryd.underlying3 _ rfl) ?_
              refine q_rd (wanted_none rfl) rfl rfl (rd_add rfl rfl rfl (wrap_id (k := .i64) (by show _ ∧ _; (first | omega | (dsimp only at *; omega))))) ?_
              first | refine q_rd (wanted_none rfl) rfl rfl (rd_iaddrA1 rfl rfl rfl Tryd.underlying101 sz3 (show _ = (((i / 2) : Nat) : Int) by omega) (by (first | omega | (dsimp only at *; omega)))) ?_ | refine q_rd (wanted_none rfl) rfl rfl (rd_iaddrA rfl rfl rfl Tryd.underlying101 sz3 (show _ = (((i / 2) : Nat) : Int) by omega) (by (first | omega | (dsimp only at *; omega)))) ?_ | refine q_rd (wanted_none rfl) rfl rfl (rd_iaddrAR rfl rfl rfl Tryd.underlying101 sz3 (show _ = (((i / 2) : Nat) : Int) by omega) (by (first | omega | (dsimp only at *; omega)))) ?_
              refine seq_md (wanted_none rfl) (m_store rfl rfl rfl rfl rfl sz3 rfl rfl (by first | decide | (first | omega | (dsimp only at *; omega))) _ (fun _ _ => CEnt.refl _) rfl ?_)
              refine seq_nil ?_
              refine block_norm ?_
              refine then_norm ?_
              refine code_region ?_
              refine q_rd (wanted_none rfl) rfl rfl (rd_add rfl rfl rfl (wrap_id (k := .i64) (by show _ ∧ _; (first | omega | (dsimp only at *; omega))))) ?_
              refine q_rd (wanted_none rfl) rfl rfl (rd_move (v := .c _) rfl rfl) ?_
              refine seq_nil ?_
              refine then_norm ?_
              refine ⟨i + 1, ?_, ?_, rfl, rfl, ?_, by exact Nat.le_of_ble_eq_true rfl, ?_⟩
              · exact ⟨by omega, fun k hk => by
                  rcases Nat.lt_succ_iff_lt_or_eq.1 hk with h | h
                  · exact hd k h
                  · subst h; exact hdi⟩
              · omega
              · (repeat (first | exact EntE.nil | refine EntE.cons (CEnt.refl _) ?_ | refine EntE.cons (CEnt.int (by omega)) ?_))
              · exact .blk rfl (fun j hj => by
                  refine (CEnt.of_eq (updF_one _ _ _ j)).trans ?_
                  unfold twF
                  rw [twoI_succ]
                  by_cases hj2 : j = i / 2
                  · rw [if_pos hj2, if_pos hj2, hj2]
                    exact CEnt.int (by unfold dg; omega)
                  · rw [if_neg hj2, if_neg hj2]
                    exact CEnt.refl _) .nil
        · refine code_exit ?_
          refine then_exit ?_
          refine then_exit ?_
          refine block_exit rfl ?_
          refine then_norm ?_
          refine code_seq ?_
          have ht : (b.take 14).length = 14 := by simp; omega
          have hi14 : i = 14 := by omega
          have hd14 : ∀ k, k < 14 → isDg b k := fun k hk => hd k (by omega)
          have g0 := twoI_bd hd 0
          have g1 := twoI_bd hd 1
          have hf : formP b := ⟨by omega, by omega, hd14⟩
          refine code_region ?_
          first | refine q_rd (wanted_none rfl) rfl rfl (rd_iaddrA1 rfl rfl rfl Tryd.underlying101 sz3 (show (0 : Int) = ((0 : Nat) : Int) from rfl) (by (first | omega | (dsimp only at *; omega)))) ?_ | refine q_rd (wanted_none rfl) rfl rfl (rd_iaddrA rfl rfl rfl Tryd.underlying101 sz3 (show (0 : Int) = ((0 : Nat) : Int) from rfl) (by (first | omega | (dsimp only at *; omega)))) ?_ | refine q_rd (wanted_none rfl) rfl rfl (rd_iaddrAR rfl rfl rfl Tryd.underlying101 sz3 (show (0 : Int) = ((0 : Nat) : Int) from rfl) (by (first | omega | (dsimp only at *; omega)))) ?_
          first | refine q_rdO (wanted_none rfl) rfl rfl (rd_loadO (v := .c _) rfl rfl (.inl rfl) Tryd.underlying3 ag3 (by first | decide | (first | omega | (dsimp only at *; omega))) rfl) ?_ | refine q_rd (wanted_none rfl) rfl rfl (rd_loadR (v := .c _) rfl rfl Tryd.underlying3 ag3 (by first | decide | (first | omega | (dsimp only at *; omega))) rfl) ?_ | refine q_rdO (wanted_none rfl) rfl rfl (rd_loadO (v := .c _) rfl rfl (.inr rfl) Tryd.underlying3 ag3 (by first | decide | (first | omega | (dsimp only at *; omega))) rfl) ?_
          refine q_rd (wanted_none rfl) rfl rfl (rd_mul rfl rfl rfl (wrap_id (k := .i64) (by show _ ∧ _; (first | omega | (dsimp only at *; omega))))) ?_
          first | refine q_rd (wanted_none rfl) rfl rfl (rd_iaddrA1 rfl rfl rfl Tryd.underlying101 sz3 (show (1 : Int) = ((1 : Nat) : Int) from rfl) (by (first | omega | (dsimp only at *; omega)))) ?_ | refine q_rd (wanted_none rfl) rfl rfl (rd_iaddrA rfl rfl rfl Tryd.underlying101 sz3 (show (1 : Int) = ((1 : Nat) : Int) from rfl) (by (first | omega | (dsimp only at *; omega)))) ?_ | refine q_rd (wanted_none rfl) rfl rfl (rd_iaddrAR rfl rfl rfl Tryd.underlying101 sz3 (show (1 : Int) = ((1 : Nat) : Int) from rfl) (by (first | omega | (dsimp only at *; omega)))) ?_
          first | refine q_rdO (wanted_none rfl) rfl rfl (rd_loadO (v := .c _) rfl rfl (.inl rfl) Tryd.underlying3 ag3 (by first | decide | (first | omega | (dsimp only at *; omega))) rfl) ?_ | refine q_rd (wanted_none rfl) rfl rfl (rd_loadR (v := .c _) rfl rfl Tryd.underlying3 ag3 (by first | decide | (first | omega | (dsimp only at *; omega))) rfl) ?_ | refine q_rdO (wanted_none rfl) rfl rfl (rd_loadO (v := .c _) rfl rfl (.inr rfl) Tryd.underlying3 ag3 (by first | decide | (first | omega | (dsimp only at *; omega))) rfl) ?_
          refine q_rd (wanted_none rfl) rfl rfl (rd_add rfl rfl rfl (wrap_id (k := .i64) (by show _ ∧ _; (first | omega | (dsimp only at *; omega))))) ?_
          first | refine q_rd (wanted_none rfl) rfl rfl (rd_iaddrA1 rfl rfl rfl Tryd.underlying101 sz3 (show (2 : Int) = ((2 : Nat) : Int) from rfl) (by (first | omega | (dsimp only at *; omega)))) ?_ | refine q_rd (wanted_none rfl) rfl rfl (rd_iaddrA rfl rfl rfl Tryd.underlying101 sz3 (show (2 : Int) = ((2 : Nat) : Int) from rfl) (by (first | omega | (dsimp only at *; omega)))) ?_ | refine q_rd (wanted_none rfl) rfl rfl (rd_iaddrAR rfl rfl rfl Tryd.underlying101 sz3 (show (2 : Int) = ((2 : Nat) : Int) from rfl) (by (first | omega | (dsimp only at *; omega)))) ?_
          first | refine q_rdO (wanted_none rfl) rfl rfl (rd_loadO (v := .c _) rfl rfl (.inl rfl) Tryd.underlying3 ag3 (by first | decide | (first | omega | (dsimp only at *; omega))) rfl) ?_ | refine q_rd (wanted_none rfl) rfl rfl (rd_loadR (v := .c _) rfl rfl Tryd.underlying3 ag3 (by first | decide | (first | omega | (dsimp only at *; omega))) rfl) ?_ | refine q_rdO (wanted_none rfl) rfl rfl (rd_loadO (v := .c _) rfl rfl (.inr rfl) Tryd.underlying3 ag3 (by first | decide | (first | omega | (dsimp only at *; omega))) rfl) ?_
          first | refine q_rd (wanted_none rfl) rfl rfl (rd_iaddrA1 rfl rfl rfl Tryd.underlying101 sz3 (show (3 : Int) = ((3 : Nat) : Int) from rfl) (by (first | omega | (dsimp only at *; omega)))) ?_ | refine q_rd (wanted_none rfl) rfl rfl (rd_iaddrA rfl rfl rfl Tryd.underlying101 sz3 (show (3 : Int) = ((3 : Nat) : Int) from rfl) (by (first | omega | (dsimp only at *; omega)))) ?_ | refine q_rd (wanted_none rfl) rfl rfl (rd_iaddrAR rfl rfl rfl Tryd.underlying101 sz3 (show (3 : Int) = ((3 : Nat) : Int) from rfl) (by (first | omega | (dsimp only at *; omega)))) ?_
          first | refine q_rdO (wanted_none rfl) rfl rfl (rd_loadO (v := .c _) rfl rfl (.inl rfl) Tryd.underlying3 ag3 (by first | decide | (first | omega | (dsimp only at *; omega))) rfl) ?_ | refine q_rd (wanted_none rfl) rfl rfl (rd_loadR (v := .c _) rfl rfl Tryd.underlying3 ag3 (by first | decide | (first | omega | (dsimp only at *; omega))) rfl) ?_ | refine q_rdO (wanted_none rfl) rfl rfl (rd_loadO (v := .c _) rfl rfl (.inr rfl) Tryd.underlying3 ag3 (by first | decide | (first | omega | (dsimp only at *; omega))) rfl) ?_
          first | refine q_rd (wanted_none rfl) rfl rfl (rd_iaddrA1 rfl rfl rfl Tryd.underlying101 sz3 (show (4 : Int) = ((4 : Nat) : Int) from rfl) (by (first | omega | (dsimp only at *; omega)))) ?_ | refine q_rd (wanted_none rfl) rfl rfl (rd_iaddrA rfl rfl rfl Tryd.underlying101 sz3 (show (4 : Int) = ((4 : Nat) : Int) from rfl) (by (first | omega | (dsimp only at *; omega)))) ?_ | refine q_rd (wanted_none rfl) rfl rfl (rd_iaddrAR rfl rfl rfl Tryd.underlying101 sz3 (show (4 : Int) = ((4 : Nat) : Int) from rfl) (by (first | omega | (dsimp only at *; omega)))) ?_
          first | refine q_rdO (wanted_none rfl) rfl rfl (rd_loadO (v := .c _) rfl rfl (.inl rfl) Tryd.underlying3 ag3 (by first | decide | (first | omega | (dsimp only at *; omega))) rfl) ?_ | refine q_rd (wanted_none rfl) rfl rfl (rd_loadR (v := .c _) rfl rfl Tryd.underlying3 ag3 (by first | decide | (first | omega | (dsimp only at *; omega))) rfl) ?_ | refine q_rdO (wanted_none rfl) rfl rfl (rd_loadO (v := .c _) rfl rfl (.inr rfl) Tryd.underlying3 ag3 (by first | decide | (first | omega | (dsimp only at *; omega))) rfl) ?_
          first | refine q_rd (wanted_none rfl) rfl rfl (rd_iaddrA1 rfl rfl rfl Tryd.underlying101 sz3 (show (5 : Int) = ((5 : Nat) : Int) from rfl) (by (first | omega | (dsimp only at *; omega)))) ?_ | refine q_rd (wanted_none rfl) rfl rfl (rd_iaddrA rfl rfl rfl Tryd.underlying101 sz3 (show (5 : Int) = ((5 : Nat) : Int) from rfl) (by (first | omega | (dsimp only at *; omega)))) ?_ | refine q_rd (wanted_none rfl) rfl rfl (rd_iaddrAR rfl rfl rfl Tryd.underlying101 sz3 (show (5 : Int) = ((5 : Nat) : Int) from rfl) (by (first | omega | (dsimp only at *; omega)))) ?_
          first | refine q_rdO (wanted_none rfl) rfl rfl (rd_loadO (v := .c _) rfl rfl (.inl rfl) Tryd.underlying3 ag3 (by first | decide | (first | omega | (dsimp only at *; omega))) rfl) ?_ | refine q_rd (wanted_none rfl) rfl rfl (rd_loadR (v := .c _) rfl rfl Tryd.underlying3 ag3 (by first | decide | (first | omega | (dsimp only at *; omega))) rfl) ?_ | refine q_rdO (wanted_none rfl) rfl rfl (rd_loadO (v := .c _) rfl rfl (.inr rfl) Tryd.underlying3 ag3 (by first | decide | (first | omega | (dsimp only at *; omega))) rfl) ?_
          first | refine q_rd (wanted_none rfl) rfl rfl (rd_iaddrA1 rfl rfl rfl Tryd.underlying101 sz3 (show (6 : Int) = ((6 : Nat) : Int) from rfl) (by (first | omega | (dsimp only at *; omega)))) ?_ | refine q_rd (wanted_none rfl) rfl rfl (rd_iaddrA rfl rfl rfl Tryd.underlying101 sz3 (show (6 : Int) = ((6 : Nat) : Int) from rfl) (by (first | omega | (dsimp only at *; omega)))) ?_ | refine q_rd (wanted_none rfl) rfl rfl (rd_iaddrAR rfl rfl rfl Tryd.underlying101 sz3 (show (6 : Int) = ((6 : Nat) : Int) from rfl) (by (first | omega | (dsimp only at *; omega)))) ?_
          first | refine q_rdO (wanted_none rfl) rfl rfl (rd_loadO (v := .c _) rfl rfl (.inl rfl) Tryd.underlying3 ag3 (by first | decide | (first | omega | (dsimp only at *; omega))) rfl) ?_ | refine q_rd (wanted_none rfl) rfl rfl (rd_loadR (v := .c _) rfl rfl Tryd.underlying3 ag3 (by first | decide | (first | omega | (dsimp only at *; omega))) rfl) ?_ | refine q_rdO (wanted_none rfl) rfl rfl (rd_loadO (v := .c _) rfl rfl (.inr rfl) Tryd.underlying3 ag3 (by first | decide | (first | omega | (dsimp only at *; omega))) rfl) ?_
          refine q_rd (wanted_none rfl) rfl rfl (rd_build (n := 6) rfl zr35 pl35 rfl rfl) ?_
          refine seq_ex (wanted_none rfl) (e_callP rfl (by kernel_rfl) (secs_ac (getD6 b)) (.cons (se rfl (CEnt.agg6 (CEnt.int (by show 100 * twoI b i 0 + twoI b i 1 = _; rw [hi14, twoI_14 (by omega), twoI_14 (by omega)]; rfl)) (CEnt.int (by rw [hi14, twoI_14 (by omega)]; rfl)) (CEnt.int (by rw [hi14, twoI_14 (by omega)]; rfl)) (CEnt.int (by rw [hi14, twoI_14 (by omega)]; rfl)) (CEnt.int (by rw [hi14, twoI_14 (by omega)]; rfl)) (CEnt.int (by rw [hi14, twoI_14 (by omega)]; rfl)))) .nil) rfl rfl ?_)
          refine q_rd (wanted_none rfl) rfl rfl (rd_extract (v := .c _) rfl rfl rfl rfl) ?_
          first | refine q_rd (wanted_none rfl) rfl rfl (rd_extract (v := .err _) rfl rfl rfl rfl) ?_ | refine q_rd (wanted_none rfl) rfl rfl (rd_extract (v := .c _) rfl rfl rfl rfl) ?_ | refine q_rd (wanted_none rfl) rfl rfl (rd_extract (v := .pv _) rfl rfl rfl rfl) ?_ | refine q_rd (wanted_none rfl) rfl rfl (rd_extract (v := .top) rfl rfl rfl rfl) ?_
          refine q_rd (wanted_none rfl) rfl rfl (rd_assign (v := .c _) rfl rfl) ?_
          first | refine q_rd (wanted_none rfl) rfl rfl (rd_assign (v := .err _) rfl rfl) ?_ | refine q_rd (wanted_none rfl) rfl rfl (rd_assign (v := .c _) rfl rfl) ?_ | refine q_rd (wanted_none rfl) rfl rfl (rd_assign (v := .pv _) rfl rfl) ?_ | refine q_rd (wanted_none rfl) rfl rfl (rd_assign (v := .top) rfl rfl) ?_
          refine seq_nil ?_
          refine then_norm ?_
          refine code_ret ?_
          refine end_val (.inl rfl) (res_2 rfl (arv_tmp rfl) (arv_tmp rfl)) ?_
          unfold getV getE
          rw [if_pos hf]
          refine CEnt.tup2 (CEnt.int ?_) (CEnt.err rfl)
          by_cases hr : RightP (getD6 b)
          · rw [if_pos hr, if_pos ⟨hf, hr⟩]
          · rw [if_neg hr, if_neg (fun h => hr h.2)]

def twL (b : List UInt8) (i : Nat) : List Int := (List.range i).map (two b)
theorem twL_succ (b : List UInt8) (i : Nat) : twL b (i + 1) = twL b i ++ [two b i] := by simp [twL, List.range_succ]
theorem twL_len (b : List UInt8) (i : Nat) : (twL b i).length = i := by simp [twL]
theorem twL_get {b : List UInt8} {i j : Nat} (h : j < i) : (twL b i).getD j 0 = two b j := by simp [twL, List.getD, h]
theorem rget_ac (b : List UInt8) : ACp gs Tryd.prog 52 [bsC b] (.tup 2 (fl [.c (.int .i64 (getV b)), .c (.int .i64 (getE b))])) := by
  refine ac_of 96 Tryd.func52 rfl rfl rfl (fun al w0 F0 St0 => ?_)
  refine code_seq ?_
  refine code_region ?_
  refine q_rd (wanted_none rfl) rfl rfl (rd_assign (v := .c _) rfl rfl) ?_
  refine q_rd (wanted_none rfl) rfl rfl (rd_assign (v := .c _) rfl rfl) ?_
  refine seq_nil ?_
  refine then_norm ?_
  refine code_seq ?_
  refine code_seq ?_
  refine code_region ?_
  first | refine q_rd (wanted_none rfl) rfl rfl (rd_move (v := bsC _) rfl rfl) ?_ | refine q_rd (wanted_none rfl) rfl rfl (rd_move (v := .rs _ _ _) rfl rfl) ?_ | refine q_rd (wanted_none rfl) rfl rfl (rd_move (v := .os _ _ _ _ _) rfl rfl) ?_ | refine q_rd (wanted_none rfl) rfl rfl (rd_move (v := .c _) rfl rfl) ?_ | refine q_rd (wanted_none rfl) rfl rfl (rd_move (v := .pv _) rfl rfl) ?_ | refine q_rd (wanted_none rfl) rfl rfl (rd_move (v := .top) rfl rfl) ?_
  first | refine q_rd (wanted_none rfl) rfl rfl (rd_lenR rfl rfl Tryd.underlying30) ?_ | refine q_rd (wanted_none rfl) rfl rfl (rd_lenO rfl rfl Tryd.underlying30) ?_ | refine q_rd (wanted_none rfl) rfl rfl (rd_lenN rfl rfl Tryd.underlying30) ?_
  refine q_rd (wanted_none rfl) rfl rfl (rd_neI rfl rfl rfl) ?_
  refine q_rd (wanted_none rfl) rfl rfl (rd_move (v := .c _) rfl rfl) ?_
  first | refine seq_splitD (d := 10) rfl rfl (fun g90 => ?_) (fun g90 => ?_) | refine seq_split (d := 10) rfl rfl (fun g90 => ?_) (fun g90 => ?_)
  · refine q_skip (wanted_is rfl rfl rfl rfl false rfl) rfl rfl ?_
    refine q_skip (wanted_is rfl rfl rfl rfl false rfl) rfl rfl ?_
    refine q_skip (wanted_is rfl rfl rfl rfl false rfl) rfl rfl ?_
    refine q_skip (wanted_is rfl rfl rfl rfl false rfl) rfl rfl ?_
    refine q_rd (wanted_none rfl) rfl rfl (rd_pickT (v := .c _) rfl rfl rfl) ?_
    refine seq_nil ?_
    refine then_norm ?_
    refine code_condT rfl ?_
    refine code_seq ?_
    refine code_region ?_
    refine q_rd (wanted_none rfl) rfl rfl (rd_assign (v := .c _) rfl rfl) ?_
    refine q_rd (wanted_none rfl) rfl rfl (rd_assign (v := .c _) rfl rfl) ?_
    refine seq_nil ?_
    refine then_norm ?_
    refine code_ret ?_
    refine then_ret ?_
    refine end_val (.inl rfl) (res_2 rfl (arv_tmp rfl) (arv_tmp rfl)) ?_
    have hn : ¬ formP b := fun h => by obtain ⟨h1, h2, h3⟩ := h; omega
    unfold getV getE
    rw [if_neg (fun h => hn h.1), if_neg hn]
    exact CEnt.refl _
  · first | refine q_rd (wanted_is rfl rfl rfl rfl true rfl) rfl rfl (rd_move (v := bsC _) rfl rfl) ?_ | refine q_rd (wanted_is rfl rfl rfl rfl true rfl) rfl rfl (rd_move (v := .rs _ _ _) rfl rfl) ?_ | refine q_rd (wanted_is rfl rfl rfl rfl true rfl) rfl rfl (rd_move (v := .os _ _ _ _ _) rfl rfl) ?_ | refine q_rd (wanted_is rfl rfl rfl rfl true rfl) rfl rfl (rd_move (v := .c _) rfl rfl) ?_ | refine q_rd (wanted_is rfl rfl rfl rfl true rfl) rfl rfl (rd_move (v := .pv _) rfl rfl) ?_ | refine q_rd (wanted_is rfl rfl rfl rfl true rfl) rfl rfl (rd_move (v := .top) rfl rfl) ?_
    first | refine q_rd (wanted_is rfl rfl rfl rfl true rfl) rfl rfl (rd_iaddrR rfl rfl rfl Tryd.underlying30 sz5 (show (14 : Int) = ((14 : Nat) : Int) from rfl) (by (first | omega | (dsimp only at *; omega))) (by decide)) ?_ | refine q_rd (wanted_is rfl rfl rfl rfl true rfl) rfl rfl (rd_iaddrO1 rfl rfl rfl Tryd.underlying30 sz5 (show (14 : Int) = ((14 : Nat) : Int) from rfl) (by (first | omega | (dsimp only at *; omega)))) ?_ | refine q_rd (wanted_is rfl rfl rfl rfl true rfl) rfl rfl (rd_iaddrO rfl rfl rfl Tryd.underlying30 sz5 (show (14 : Int) = ((14 : Nat) : Int) from rfl) (by (first | omega | (dsimp only at *; omega)))) ?_
    first | refine q_rdO (wanted_is rfl rfl rfl rfl true rfl) rfl rfl (rd_loadO (v := .c _) rfl rfl (.inl rfl) Tryd.underlying5 ag5 (by first | decide | (first | omega | (dsimp only at *; omega))) rfl) ?_ | refine q_rd (wanted_is rfl rfl rfl rfl true rfl) rfl rfl (rd_loadR (v := .c _) rfl rfl Tryd.underlying5 ag5 (by first | decide | (first | omega | (dsimp only at *; omega))) rfl) ?_ | refine q_rdO (wanted_is rfl rfl rfl rfl true rfl) rfl rfl (rd_loadO (v := .c _) rfl rfl (.inr rfl) Tryd.underlying5 ag5 (by first | decide | (first | omega | (dsimp only at *; omega))) rfl) ?_
    refine q_rd (wanted_is rfl rfl rfl rfl true rfl) rfl rfl (rd_neI rfl rfl rfl) ?_
    refine q_rd (wanted_none rfl) rfl rfl (rd_pickF (v := .c _) rfl rfl rfl) ?_
    refine seq_nil ?_
    refine then_norm ?_
    first | refine code_condSD rfl rfl (fun h90 => ?_) (fun h90 => ?_) | refine code_condS rfl rfl (fun h90 => ?_) (fun h90 => ?_)
    · refine code_seq ?_
      refine code_region ?_
      refine q_rd (wanted_none rfl) rfl rfl (rd_assign (v := .c _) rfl rfl) ?_
      refine q_rd (wanted_none rfl) rfl rfl (rd_assign (v := .c _) rfl rfl) ?_
      refine seq_nil ?_
      refine then_norm ?_
      refine code_ret ?_
      refine then_ret ?_
      refine end_val (.inl rfl) (res_2 rfl (arv_tmp rfl) (arv_tmp rfl)) ?_
      have hn : ¬ formP b := fun h => by obtain ⟨h1, h2, h3⟩ := h; omega
      unfold getV getE
      rw [if_neg (fun h => hn h.1), if_neg hn]
      exact CEnt.refl _
    · refine code_skip ?_
      refine then_norm ?_
      refine code_seq ?_
      refine code_region ?_
      refine seq_ex (wanted_none rfl) (e_buildSlice (n := 0) rfl Tryd.underlying72 sz3 zr3 rfl rfl rfl rfl rfl rfl rfl (fun p1 => ?_))
      first | refine q_rd (wanted_none rfl) rfl rfl (rd_assign (v := .rs _ _ _) rfl rfl) ?_ | refine q_rd (wanted_none rfl) rfl rfl (rd_assign (v := .os _ _ _ _ _) rfl rfl) ?_ | refine q_rd (wanted_none rfl) rfl rfl (rd_assign (v := .c _) rfl rfl) ?_ | refine q_rd (wanted_none rfl) rfl rfl (rd_assign (v := .pv _) rfl rfl) ?_ | refine q_rd (wanted_none rfl) rfl rfl (rd_assign (v := .top) rfl rfl) ?_
      refine seq_nil ?_
      refine then_norm ?_
      refine code_seq ?_
      refine code_seq ?_
      refine code_region ?_
      refine q_rd (wanted_none rfl) rfl rfl (rd_assign (v := .c _) rfl rfl) ?_
      refine seq_nil ?_
      refine then_norm ?_
      refine code_block ?_
      refine l_loop (α := Nat × Option Nat) [2, 3, 4, 5, 17, 18, 19, 20, 21, 22, 23, 24, 25, 26, 27, 28, 29, 30, 31, 32, 33, 34, 35, 36, 37, 38, 39, 40, 41, 42, 43, 44, 45, 46, 47, 48, 49, 50, 51, 52, 53, 54, 55, 56, 57, 58, 59, 60, 61, 62, 63, 64, 65, 66] (fun (i, g) => [(4, .os 0 g 0 (twL b i).length 1), (5, .c (.int .i64 (2 * i : Nat)))]) (fun (i, g) => [(g, .blk (twL b i).length (inF (twL b i)))]) (fun i => i.1 ≤ 7 ∧ ∀ k, k < 2 * i.1 → isDg b k) (fun i => 7 - i.1) ((0, p1)) ?_ (fun _ => rfl) ?_ ?_ ?_
      · exact ⟨by omega, fun k hk => by omega⟩
      · (repeat (first | exact EntE.nil | refine EntE.cons (CEnt.refl _) ?_ | refine EntE.cons (CEnt.int (by omega)) ?_))
      · exact .blk rfl (fun j hj => absurd hj (by show ¬ j < 0; omega)) .nil
      · rintro ⟨i, g'⟩ ⟨hi, hd⟩
        refine code_seq ?_
        refine code_seq ?_
        refine code_region ?_
        refine q_rd (wanted_none rfl) rfl rfl (rd_move (v := .c _) rfl rfl) ?_
        refine q_rd (wanted_none rfl) rfl rfl (rd_lt rfl rfl rfl) ?_
        refine seq_nil ?_
        refine then_norm ?_
        first | refine code_condSD rfl rfl (fun h94 => ?_) (fun h94 => ?_) | refine code_condS rfl rfl (fun h94 => ?_) (fun h94 => ?_)
        · refine code_skip ?_
          refine then_norm ?_
          refine code_seq ?_
          refine code_block ?_
          refine code_seq ?_
          refine code_seq ?_
          refine code_region ?_
          first | refine q_rd (wanted_none rfl) rfl rfl (rd_move (v := bsC _) rfl rfl) ?_ | refine q_rd (wanted_none rfl) rfl rfl (rd_move (v := .rs _ _ _) rfl rfl) ?_ | refine q_rd (wanted_none rfl) rfl rfl (rd_move (v := .os _ _ _ _ _) rfl rfl) ?_ | refine q_rd (wanted_none rfl) rfl rfl (rd_move (v := .c _) rfl rfl) ?_ | refine q_rd (wanted_none rfl) rfl rfl (rd_move (v := .pv _) rfl rfl) ?_ | refine q_rd (wanted_none rfl) rfl rfl (rd_move (v := .top) rfl rfl) ?_
          refine q_rd (wanted_none rfl) rfl rfl (rd_move (v := .c _) rfl rfl) ?_
          first | refine q_rd (wanted_none rfl) rfl rfl (rd_iaddrR rfl rfl rfl Tryd.underlying30 sz5 rfl (by (first | omega | (dsimp only at *; omega))) (by decide)) ?_ | refine q_rd (wanted_none rfl) rfl rfl (rd_iaddrO1 rfl rfl rfl Tryd.underlying30 sz5 rfl (by (first | omega | (dsimp only at *; omega)))) ?_ | refine q_rd (wanted_none rfl) rfl rfl (rd_iaddrO rfl rfl rfl Tryd.underlying30 sz5 rfl (by (first | omega | (dsimp only at *; omega)))) ?_ | refine q_rd (wanted_none rfl) rfl rfl (rd_iaddrR rfl rfl rfl Tryd.underlying30 sz5 (natI (by omega)) (by (first | omega | (dsimp only at *; omega))) (by decide)) ?_ | refine q_rd (wanted_none rfl) rfl rfl (rd_iaddrO1 rfl rfl rfl Tryd.underlying30 sz5 (natI (by omega)) (by (first | omega | (dsimp only at *; omega)))) ?_ | refine q_rd (wanted_none rfl) rfl rfl (rd_iaddrO rfl rfl rfl Tryd.underlying30 sz5 (natI (by omega)) (by (first | omega | (dsimp only at *; omega)))) ?_
          first | refine q_rdO (wanted_none rfl) rfl rfl (rd_loadO (v := .c _) rfl rfl (.inl rfl) Tryd.underlying5 ag5 (by first | decide | (first | omega | (dsimp only at *; omega))) rfl) ?_ | refine q_rd (wanted_none rfl) rfl rfl (rd_loadR (v := .c _) rfl rfl Tryd.underlying5 ag5 (by first | decide | (first | omega | (dsimp only at *; omega))) rfl) ?_ | refine q_rdO (wanted_none rfl) rfl rfl (rd_loadO (v := .c _) rfl rfl (.inr rfl) Tryd.underlying5 ag5 (by first | decide | (first | omega | (dsimp only at *; omega))) rfl) ?_
          refine q_rd (wanted_none rfl) rfl rfl (rd_lt rfl rfl rfl) ?_
          refine q_rd (wanted_none rfl) rfl rfl (rd_move (v := .c _) rfl rfl) ?_
          first | refine seq_splitD (d := 26) rfl rfl (fun g95 => ?_) (fun g95 => ?_) | refine seq_split (d := 26) rfl rfl (fun g95 => ?_) (fun g95 => ?_)
          · refine q_skip (wanted_is rfl rfl rfl rfl false rfl) rfl rfl ?_
            refine q_skip (wanted_is rfl rfl rfl rfl false rfl) rfl rfl ?_
            refine q_skip (wanted_is rfl rfl rfl rfl false rfl) rfl rfl ?_
            refine q_skip (wanted_is rfl rfl rfl rfl false rfl) rfl rfl ?_
            refine q_skip (wanted_is rfl rfl rfl rfl false rfl) rfl rfl ?_
            refine q_rd (wanted_none rfl) rfl rfl (rd_pickT (v := .c _) rfl rfl rfl) ?_
            refine q_rd (wanted_none rfl) rfl rfl (rd_move (v := .c _) rfl rfl) ?_
            refine q_skip (wanted_is rfl rfl rfl rfl false rfl) rfl rfl ?_
            refine q_skip (wanted_is rfl rfl rfl rfl false rfl) rfl rfl ?_
            refine q_skip (wanted_is rfl rfl rfl rfl false rfl) rfl rfl ?_
            refine q_skip (wanted_is rfl rfl rfl rfl false rfl) rfl rfl ?_
            refine q_skip (wanted_is rfl rfl rfl rfl false rfl) rfl rfl ?_
            refine q_skip (wanted_is rfl rfl rfl rfl false rfl) rfl rfl ?_
            refine q_rd (wanted_none rfl) rfl rfl (rd_pickT (v := .c _) rfl rfl rfl) ?_
            refine q_rd (wanted_none rfl) rfl rfl (rd_move (v := .c _) rfl rfl) ?_
            refine q_skip (wanted_is rfl rfl rfl rfl false rfl) rfl rfl ?_
            refine q_skip (wanted_is rfl rfl rfl rfl false rfl) rfl rfl ?_
            refine q_skip (wanted_is rfl rfl rfl rfl false rfl) rfl rfl ?_
            refine q_skip (wanted_is rfl rfl rfl rfl false rfl) rfl rfl ?_
            refine q_skip (wanted_is rfl rfl rfl rfl false rfl) rfl rfl ?_
            refine q_skip (wanted_is rfl rfl rfl rfl false rfl) rfl rfl ?_
            refine q_rd (wanted_none rfl) rfl rfl (rd_pickT (v := .c _) rfl rfl rfl) ?_
            refine seq_nil ?_
            refine then_norm ?_
            refine code_condT rfl ?_
            refine code_seq ?_
            refine code_region ?_
            refine q_rd (wanted_none rfl) rfl rfl (rd_assign (v := .c _) rfl rfl) ?_
            refine q_rd (wanted_none rfl) rfl rfl (rd_assign (v := .c _) rfl rfl) ?_
            refine seq_nil ?_
            refine then_norm ?_
            refine code_ret ?_
            refine then_ret ?_
            refine block_ret ?_
            refine then_ret ?_
            refine then_ret ?_
            refine block_ret ?_
            refine then_ret ?_
            refine end_val (.inl rfl) (res_2 rfl (arv_tmp rfl) (arv_tmp rfl)) ?_
            have hn : ¬ formP b := fun h => by
              obtain ⟨h1, h2, h3⟩ := h
              have q1 := h3 (2 * i) (by omega)
              have q2 := h3 (2 * i + 1) (by omega)
              unfold isDg at q1 q2
              omega
            unfold getV getE
            rw [if_neg (fun h => hn h.1), if_neg hn]
            exact CEnt.refl _
          · first | refine q_rd (wanted_is rfl rfl rfl rfl true rfl) rfl rfl (rd_move (v := bsC _) rfl rfl) ?_ | refine q_rd (wanted_is rfl rfl rfl rfl true rfl) rfl rfl (rd_move (v := .rs _ _ _) rfl rfl) ?_ | refine q_rd (wanted_is rfl rfl rfl rfl true rfl) rfl rfl (rd_move (v := .os _ _ _ _ _) rfl rfl) ?_ | refine q_rd (wanted_is rfl rfl rfl rfl true rfl) rfl rfl (rd_move (v := .c _) rfl rfl) ?_ | refine q_rd (wanted_is rfl rfl rfl rfl true rfl) rfl rfl (rd_move (v := .pv _) rfl rfl) ?_ | refine q_rd (wanted_is rfl rfl rfl rfl true rfl) rfl rfl (rd_move (v := .top) rfl rfl) ?_
            refine q_rd (wanted_is rfl rfl rfl rfl true rfl) rfl rfl (rd_move (v := .c _) rfl rfl) ?_
            first | refine q_rd (wanted_is rfl rfl rfl rfl true rfl) rfl rfl (rd_iaddrR rfl rfl rfl Tryd.underlying30 sz5 rfl (by (first | omega | (dsimp only at *; omega))) (by decide)) ?_ | refine q_rd (wanted_is rfl rfl rfl rfl true rfl) rfl rfl (rd_iaddrO1 rfl rfl rfl Tryd.underlying30 sz5 rfl (by (first | omega | (dsimp only at *; omega)))) ?_ | refine q_rd (wanted_is rfl rfl rfl rfl true rfl) rfl rfl (rd_iaddrO rfl rfl rfl Tryd.underlying30 sz5 rfl (by (first | omega | (dsimp only at *; omega)))) ?_ | refine q_rd (wanted_is rfl rfl rfl rfl true rfl) rfl rfl (rd_iaddrR rfl rfl rfl Tryd.underlying30 sz5 (natI (by omega)) (by (first | omega | (dsimp only at *; omega))) (by decide)) ?_ | refine q_rd (wanted_is rfl rfl rfl rfl true rfl) rfl rfl (rd_iaddrO1 rfl rfl rfl Tryd.underlying30 sz5 (natI (by omega)) (by (first | omega | (dsimp only at *; omega)))) ?_ | refine q_rd (wanted_is rfl rfl rfl rfl true rfl) rfl rfl (rd_iaddrO rfl rfl rfl Tryd.underlying30 sz5 (natI (by omega)) (by (first | omega | (dsimp only at *; omega)))) ?_
            first | refine q_rdO (wanted_is rfl rfl rfl rfl true rfl) rfl rfl (rd_loadO (v := .c _) rfl rfl (.inl rfl) Tryd.underlying5 ag5 (by first | decide | (first | omega | (dsimp only at *; omega))) rfl) ?_ | refine q_rd (wanted_is rfl rfl rfl rfl true rfl) rfl rfl (rd_loadR (v := .c _) rfl rfl Tryd.underlying5 ag5 (by first | decide | (first | omega | (dsimp only at *; omega))) rfl) ?_ | refine q_rdO (wanted_is rfl rfl rfl rfl true rfl) rfl rfl (rd_loadO (v := .c _) rfl rfl (.inr rfl) Tryd.underlying5 ag5 (by first | decide | (first | omega | (dsimp only at *; omega))) rfl) ?_
            refine q_rd (wanted_is rfl rfl rfl rfl true rfl) rfl rfl (rd_gt rfl rfl rfl) ?_
            refine q_rd (wanted_none rfl) rfl rfl (rd_pickF (v := .c _) rfl rfl rfl) ?_
            refine q_rd (wanted_none rfl) rfl rfl (rd_move (v := .c _) rfl rfl) ?_
            first | refine seq_splitD (d := 33) rfl rfl (fun g95_2 => ?_) (fun g95_2 => ?_) | refine seq_split (d := 33) rfl rfl (fun g95_2 => ?_) (fun g95_2 => ?_)
            · refine q_skip (wanted_is rfl rfl rfl rfl false rfl) rfl rfl ?_
              refine q_skip (wanted_is rfl rfl rfl rfl false rfl) rfl rfl ?_
              refine q_skip (wanted_is rfl rfl rfl rfl false rfl) rfl rfl ?_
              refine q_skip (wanted_is rfl rfl rfl rfl false rfl) rfl rfl ?_
              refine q_skip (wanted_is rfl rfl rfl rfl false rfl) rfl rfl ?_
              refine q_skip (wanted_is rfl rfl rfl rfl false rfl) rfl rfl ?_
              refine q_rd (wanted_none rfl) rfl rfl (rd_pickT (v := .c _) rfl rfl rfl) ?_
              refine q_rd (wanted_none rfl) rfl rfl (rd_move (v := .c _) rfl rfl) ?_
              refine q_skip (wanted_is rfl rfl rfl rfl false rfl) rfl rfl ?_
              refine q_skip (wanted_is rfl rfl rfl rfl false rfl) rfl rfl ?_
              refine q_skip (wanted_is rfl rfl rfl rfl false rfl) rfl rfl ?_
              refine q_skip (wanted_is rfl rfl rfl rfl false rfl) rfl rfl ?_
              refine q_skip (wanted_is rfl rfl rfl rfl false rfl) rfl rfl ?_
              refine q_skip (wanted_is rfl rfl rfl rfl false rfl) rfl rfl ?_
              refine q_rd (wanted_none rfl) rfl rfl (rd_pickT (v := .c _) rfl rfl rfl) ?_
              refine seq_nil ?_
              refine then_norm ?_
              refine code_condT rfl ?_
              refine code_seq ?_
              refine code_region ?_
              refine q_rd (wanted_none rfl) rfl rfl (rd_assign (v := .c _) rfl rfl) ?_
              refine q_rd (wanted_none rfl) rfl rfl (rd_assign (v := .c _) rfl rfl) ?_
              refine seq_nil ?_
              refine then_norm ?_
              refine code_ret ?_
              refine then_ret ?_
              refine block_ret ?_
              refine then_ret ?_
              refine then_ret ?_
              refine block_ret ?_
              refine then_ret ?_
              refine end_val (.inl rfl) (res_2 rfl (arv_tmp rfl) (arv_tmp rfl)) ?_
              have hn : ¬ formP b := fun h => by
                obtain ⟨h1, h2, h3⟩ := h
                have q1 := h3 (2 * i) (by omega)
                have q2 := h3 (2 * i + 1) (by omega)
                unfold isDg at q1 q2
                omega
              unfold getV getE
              rw [if_neg (fun h => hn h.1), if_neg hn]
              exact CEnt.refl _
            · first | refine q_rd (wanted_is rfl rfl rfl rfl true rfl) rfl rfl (rd_move (v := bsC _) rfl rfl) ?_ | refine q_rd (wanted_is rfl rfl rfl rfl true rfl) rfl rfl (rd_move (v := .rs _ _ _) rfl rfl) ?_ | refine q_rd (wanted_is rfl rfl rfl rfl true rfl) rfl rfl (rd_move (v := .os _ _ _ _ _) rfl rfl) ?_ | refine q_rd (wanted_is rfl rfl rfl rfl true rfl) rfl rfl (rd_move (v := .c _) rfl rfl) ?_ | refine q_rd (wanted_is rfl rfl rfl rfl true rfl) rfl rfl (rd_move (v := .pv _) rfl rfl) ?_ | refine q_rd (wanted_is rfl rfl rfl rfl true rfl) rfl rfl (rd_move (v := .top) rfl rfl) ?_
              refine q_rd (wanted_is rfl rfl rfl rfl true rfl) rfl rfl (rd_move (v := .c _) rfl rfl) ?_
              refine q_rd (wanted_is rfl rfl rfl rfl true rfl) rfl rfl (rd_add rfl rfl rfl (wrap_id (k := .i64) (by show _ ∧ _; (first | omega | (dsimp only at *; omega))))) ?_
              first | refine q_rd (wanted_is rfl rfl rfl rfl true rfl) rfl rfl (rd_iaddrR rfl rfl rfl Tryd.underlying30 sz5 (show _ = (((2 * i + 1) : Nat) : Int) by omega) (by (first | omega | (dsimp only at *; omega))) (by decide)) ?_ | refine q_rd (wanted_is rfl rfl rfl rfl true rfl) rfl rfl (rd_iaddrO1 rfl rfl rfl Tryd.underlying30 sz5 (show _ = (((2 * i + 1) : Nat) : Int) by omega) (by (first | omega | (dsimp only at *; omega)))) ?_ | refine q_rd (wanted_is rfl rfl rfl rfl true rfl) rfl rfl (rd_iaddrO rfl rfl rfl Tryd.underlying30 sz5 (show _ = (((2 * i + 1) : Nat) : Int) by omega) (by (first | omega | (dsimp only at *; omega)))) ?_
              first | refine q_rdO (wanted_is rfl rfl rfl rfl true rfl) rfl rfl (rd_loadO (v := .c _) rfl rfl (.inl rfl) Tryd.underlying5 ag5 (by first | decide | (first | omega | (dsimp only at *; omega))) rfl) ?_ | refine q_rd (wanted_is rfl rfl rfl rfl true rfl) rfl rfl (rd_loadR (v := .c _) rfl rfl Tryd.underlying5 ag5 (by first | decide | (first | omega | (dsimp only at *; omega))) rfl) ?_ | refine q_rdO (wanted_is rfl rfl rfl rfl true rfl) rfl rfl (rd_loadO (v := .c _) rfl rfl (.inr rfl) Tryd.underlying5 ag5 (by first | decide | (first | omega | (dsimp only at *; omega))) rfl) ?_
              refine q_rd (wanted_is rfl rfl rfl rfl true rfl) rfl rfl (rd_lt rfl rfl rfl) ?_
              refine q_rd (wanted_none rfl) rfl rfl (rd_pickF (v := .c _) rfl rfl rfl) ?_
              refine q_rd (wanted_none rfl) rfl rfl (rd_move (v := .c _) rfl rfl) ?_
              first | refine seq_splitD (d := 41) rfl rfl (fun g95_3 => ?_) (fun g95_3 => ?_) | refine seq_split (d := 41) rfl rfl (fun g95_3 => ?_) (fun g95_3 => ?_)
              · refine q_skip (wanted_is rfl rfl rfl rfl false rfl) rfl rfl ?_
                refine q_skip (wanted_is rfl rfl rfl rfl false rfl) rfl rfl ?_
                refine q_skip (wanted_is rfl rfl rfl rfl false rfl) rfl rfl ?_
                refine q_skip (wanted_is rfl rfl rfl rfl false rfl) rfl rfl ?_
                refine q_skip (wanted_is rfl rfl rfl rfl false rfl) rfl rfl ?_
                refine q_skip (wanted_is rfl rfl rfl rfl false rfl) rfl rfl ?_
                refine q_rd (wanted_none rfl) rfl rfl (rd_pickT (v := .c _) rfl rfl rfl) ?_
                refine seq_nil ?_
                refine then_norm ?_
                refine code_condT rfl ?_
                refine code_seq ?_
                refine code_region ?_
                refine q_rd (wanted_none rfl) rfl rfl (rd_assign (v := .c _) rfl rfl) ?_
                refine q_rd (wanted_none rfl) rfl rfl (rd_assign (v := .c _) rfl rfl) ?_
                refine seq_nil ?_
                refine then_norm ?_
                refine code_ret ?_
                refine then_ret ?_
                refine block_ret ?_
                refine then_ret ?_
                refine then_ret ?_
                refine block_ret ?_
                refine then_ret ?_
                refine end_val (.inl rfl) (res_2 rfl (arv_tmp rfl) (arv_tmp rfl)) ?_
                have hn : ¬ formP b := fun h => by
                  obtain ⟨h1, h2, h3⟩ := h
                  have q1 := h3 (2 * i) (by omega)
                  have q2 := h3 (2 * i + 1) (by omega)
                  unfold isDg at q1 q2
                  omega
                unfold getV getE
                rw [if_neg (fun h => hn h.1), if_neg hn]
                exact CEnt.refl _
              · first | refine q_rd (wanted_is rfl rfl rfl rfl true rfl) rfl rfl (rd_move (v := bsC _) rfl rfl) ?_ | refine q_rd (wanted_is rfl rfl rfl rfl true rfl) rfl rfl (rd_move (v := .rs _ _ _) rfl rfl) ?_ | refine q_rd (wanted_is rfl rfl rfl rfl true rfl) rfl rfl (rd_move (v := .os _ _ _ _ _) rfl rfl) ?_ | refine q_rd (wanted_is rfl rfl rfl rfl true rfl) rfl rfl (rd_move (v := .c _) rfl rfl) ?_ | refine q_rd (wanted_is rfl rfl rfl rfl true rfl) rfl rfl (rd_move (v := .pv _) rfl rfl) ?_ | refine q_rd (wanted_is rfl rfl rfl rfl true rfl) rfl rfl (rd_move (v := .top) rfl rfl) ?_
                refine q_rd (wanted_is rfl rfl rfl rfl true rfl) rfl rfl (rd_move (v := .c _) rfl rfl) ?_
                refine q_rd (wanted_is rfl rfl rfl rfl true rfl) rfl rfl (rd_add rfl rfl rfl (wrap_id (k := .i64) (by show _ ∧ _; (first | omega | (dsimp only at *; omega))))) ?_
                first | refine q_rd (wanted_is rfl rfl rfl rfl true rfl) rfl rfl (rd_iaddrR rfl rfl rfl Tryd.underlying30 sz5 (show _ = (((2 * i + 1) : Nat) : Int) by omega) (by (first | omega | (dsimp only at *; omega))) (by decide)) ?_ | refine q_rd (wanted_is rfl rfl rfl rfl true rfl) rfl rfl (rd_iaddrO1 rfl rfl rfl Tryd.underlying30 sz5 (show _ = (((2 * i + 1) : Nat) : Int) by omega) (by (first | omega | (dsimp only at *; omega)))) ?_ | refine q_rd (wanted_is rfl rfl rfl rfl true rfl) rfl rfl (rd_iaddrO rfl rfl rfl Tryd.underlying30 sz5 (show _ = (((2 * i + 1) : Nat) : Int) by omega) (by (first | omega | (dsimp only at *; omega)))) ?_
                first | refine q_rdO (wanted_is rfl rfl rfl rfl true rfl) rfl rfl (rd_loadO (v := .c _) rfl rfl (.inl rfl) Tryd.underlying5 ag5 (by first | decide | (first | omega | (dsimp only at *; omega))) rfl) ?_ | refine q_rd (wanted_is rfl rfl rfl rfl true rfl) rfl rfl (rd_loadR (v := .c _) rfl rfl Tryd.underlying5 ag5 (by first | decide | (first | omega | (dsimp only at *; omega))) rfl) ?_ | refine q_rdO (wanted_is rfl rfl rfl rfl true rfl) rfl rfl (rd_loadO (v := .c _) rfl rfl (.inr rfl) Tryd.underlying5 ag5 (by first | decide | (first | omega | (dsimp only at *; omega))) rfl) ?_
                refine q_rd (wanted_is rfl rfl rfl rfl true rfl) rfl rfl (rd_gt rfl rfl rfl) ?_
                refine q_rd (wanted_none rfl) rfl rfl (rd_pickF (v := .c _) rfl rfl rfl) ?_
                refine seq_nil ?_
                refine then_norm ?_
                first | refine code_condSD rfl rfl (fun h95 => ?_) (fun h95 => ?_) | refine code_condS rfl rfl (fun h95 => ?_) (fun h95 => ?_)
                · refine code_seq ?_
                  refine code_region ?_
                  refine q_rd (wanted_none rfl) rfl rfl (rd_assign (v := .c _) rfl rfl) ?_
                  refine q_rd (wanted_none rfl) rfl rfl (rd_assign (v := .c _) rfl rfl) ?_
                  refine seq_nil ?_
                  refine then_norm ?_
                  refine code_ret ?_
                  refine then_ret ?_
                  refine block_ret ?_
                  refine then_ret ?_
                  refine then_ret ?_
                  refine block_ret ?_
                  refine then_ret ?_
                  refine end_val (.inl rfl) (res_2 rfl (arv_tmp rfl) (arv_tmp rfl)) ?_
                  have hn : ¬ formP b := fun h => by
                    obtain ⟨h1, h2, h3⟩ := h
                    have q1 := h3 (2 * i) (by omega)
                    have q2 := h3 (2 * i + 1) (by omega)
                    unfold isDg at q1 q2
                    omega
                  unfold getV getE
                  rw [if_neg (fun h => hn h.1), if_neg hn]
                  exact CEnt.refl _
                · refine code_skip ?_
                  refine then_norm ?_
                  have hd1 : isDg b (2 * i) := by unfold isDg; omega
                  have hd2 : isDg b (2 * i + 1) := by unfold isDg; omega
                  have hdj := hd1
                  have hdk := hd2
                  unfold isDg at hdj hdk
                  have hl := twL_len b i
                  refine code_drawB 17 (.rd 0 (.rd 1 (.rd 2 (.rd 3 (.rd 4 (.rd 5 (.rd 6 (.rd 7 (.rd 8 (.rd 9 (.rd 10 (.rd 11 (.rd 12 (.rd 13 (.rd 14 (.rd 15 (.one 16 .done))))))))))))))))) (by kernel_rfl) (by kernel_rfl) rfl rfl (by kernel_rfl) (by kernel_rfl) (by kernel_rfl) (by kernel_rfl) ?_
                  simp only [opsOfT, List.getElem?_toArray, List.getElem?_cons_zero, List.getElem?_cons_succ]
                  first | refine y_rd (wanted_none rfl) rfl rfl (rd_move (v := .rs _ _ _) rfl rfl) ?_ | refine y_rd (wanted_none rfl) rfl rfl (rd_move (v := .os _ _ _ _ _) rfl rfl) ?_ | refine y_rd (wanted_none rfl) rfl rfl (rd_move (v := .c _) rfl rfl) ?_ | refine y_rd (wanted_none rfl) rfl rfl (rd_move (v := .pv _) rfl rfl) ?_ | refine y_rd (wanted_none rfl) rfl rfl (rd_move (v := .top) rfl rfl) ?_
                  first | refine y_rd (wanted_none rfl) rfl rfl (rd_move (v := bsC _) rfl rfl) ?_ | refine y_rd (wanted_none rfl) rfl rfl (rd_move (v := .rs _ _ _) rfl rfl) ?_ | refine y_rd (wanted_none rfl) rfl rfl (rd_move (v := .os _ _ _ _ _) rfl rfl) ?_ | refine y_rd (wanted_none rfl) rfl rfl (rd_move (v := .c _) rfl rfl) ?_ | refine y_rd (wanted_none rfl) rfl rfl (rd_move (v := .pv _) rfl rfl) ?_ | refine y_rd (wanted_none rfl) rfl rfl (rd_move (v := .top) rfl rfl) ?_
                  refine y_rd (wanted_none rfl) rfl rfl (rd_move (v := .c _) rfl rfl) ?_
                  first | refine y_rd (wanted_none rfl) rfl rfl (rd_iaddrR rfl rfl rfl Tryd.underlying30 sz5 rfl (by (first | omega | (dsimp only at *; omega))) (by decide)) ?_ | refine y_rd (wanted_none rfl) rfl rfl (rd_iaddrO1 rfl rfl rfl Tryd.underlying30 sz5 rfl (by (first | omega | (dsimp only at *; omega)))) ?_ | refine y_rd (wanted_none rfl) rfl rfl (rd_iaddrO rfl rfl rfl Tryd.underlying30 sz5 rfl (by (first | omega | (dsimp only at *; omega)))) ?_ | refine y_rd (wanted_none rfl) rfl rfl (rd_iaddrR rfl rfl rfl Tryd.underlying30 sz5 (natI (by omega)) (by (first | omega | (dsimp only at *; omega))) (by decide)) ?_ | refine y_rd (wanted_none rfl) rfl rfl (rd_iaddrO1 rfl rfl rfl Tryd.underlying30 sz5 (natI (by omega)) (by (first | omega | (dsimp only at *; omega)))) ?_ | refine y_rd (wanted_none rfl) rfl rfl (rd_iaddrO rfl rfl rfl Tryd.underlying30 sz5 (natI (by omega)) (by (first | omega | (dsimp only at *; omega)))) ?_
                  first | refine y_rdO (wanted_none rfl) rfl rfl (rd_loadO (v := .c _) rfl rfl (.inl rfl) Tryd.underlying5 ag5 (by first | decide | (first | omega | (dsimp only at *; omega))) rfl) ?_ | refine y_rd (wanted_none rfl) rfl rfl (rd_loadR (v := .c _) rfl rfl Tryd.underlying5 ag5 (by first | decide | (first | omega | (dsimp only at *; omega))) rfl) ?_ | refine y_rdO (wanted_none rfl) rfl rfl (rd_loadO (v := .c _) rfl rfl (.inr rfl) Tryd.underlying5 ag5 (by first | decide | (first | omega | (dsimp only at *; omega))) rfl) ?_
                  refine y_rd (wanted_none rfl) rfl rfl (rd_sub rfl rfl rfl (wrap_id (k := .u8) (by show _ ∧ _; (first | omega | (dsimp only at *; omega))))) ?_
                  first | refine y_rd (wanted_none rfl) rfl rfl (rd_convI rfl rfl Tryd.underlying5 Tryd.underlying3 _ (wrap_id (k := .i64) (by show _ ∧ _; (first | omega | (dsimp only at *; omega))))) ?_ | refine y_rd (wanted_none rfl) rfl rfl (rd_convI rfl rfl Tryd.underlying5 Tryd.underlying3 _ rfl) ?_
                  refine y_rd (wanted_none rfl) rfl rfl (rd_mul rfl rfl rfl (wrap_id (k := .i64) (by show _ ∧ _; (first | omega | (dsimp only at *; omega))))) ?_
                  first | refine y_rd (wanted_none rfl) rfl rfl (rd_move (v := bsC _) rfl rfl) ?_ | refine y_rd (wanted_none rfl) rfl rfl (rd_move (v := .rs _ _ _) rfl rfl) ?_ | refine y_rd (wanted_none rfl) rfl rfl (rd_move (v := .os _ _ _ _ _) rfl rfl) ?_ | refine y_rd (wanted_none rfl) rfl rfl (rd_move (v := .c _) rfl rfl) ?_ | refine y_rd (wanted_none rfl) rfl rfl (rd_move (v := .pv _) rfl rfl) ?_ | refine y_rd (wanted_none rfl) rfl rfl (rd_move (v := .top) rfl rfl) ?_
                  refine y_rd (wanted_none rfl) rfl rfl (rd_move (v := .c _) rfl rfl) ?_
                  refine y_rd (wanted_none rfl) rfl rfl (rd_add rfl rfl rfl (wrap_id (k := .i64) (by show _ ∧ _; (first | omega | (dsimp only at *; omega))))) ?_
                  first | refine y_rd (wanted_none rfl) rfl rfl (rd_iaddrR rfl rfl rfl Tryd.underlying30 sz5 (show _ = (((2 * i + 1) : Nat) : Int) by omega) (by (first | omega | (dsimp only at *; omega))) (by decide)) ?_ | refine y_rd (wanted_none rfl) rfl rfl (rd_iaddrO1 rfl rfl rfl Tryd.underlying30 sz5 (show _ = (((2 * i + 1) : Nat) : Int) by omega) (by (first | omega | (dsimp only at *; omega)))) ?_ | refine y_rd (wanted_none rfl) rfl rfl (rd_iaddrO rfl rfl rfl Tryd.underlying30 sz5 (show _ = (((2 * i + 1) : Nat) : Int) by omega) (by (first | omega | (dsimp only at *; omega)))) ?_
                  first | refine y_rdO (wanted_none rfl) rfl rfl (rd_loadO (v := .c _) rfl rfl (.inl rfl) Tryd.underlying5 ag5 (by first | decide | (first | omega | (dsimp only at *; omega))) rfl) ?_ | refine y_rd (wanted_none rfl) rfl rfl (rd_loadR (v := .c _) rfl rfl Tryd.underlying5 ag5 (by first | decide | (first | omega | (dsimp only at *; omega))) rfl) ?_ | refine y_rdO (wanted_none rfl) rfl rfl (rd_loadO (v := .c _) rfl rfl (.inr rfl) Tryd.underlying5 ag5 (by first | decide | (first | omega | (dsimp only at *; omega))) rfl) ?_
                  refine y_rd (wanted_none rfl) rfl rfl (rd_sub rfl rfl rfl (wrap_id (k := .u8) (by show _ ∧ _; (first | omega | (dsimp only at *; omega))))) ?_
                  first | refine y_rd (wanted_none rfl) rfl rfl (rd_convI rfl rfl Tryd.underlying5 Tryd.underlying3 _ (wrap_id (k := .i64) (by show _ ∧ _; (first | omega | (dsimp only at *; omega))))) ?_ | refine y_rd (wanted_none rfl) rfl rfl (rd_convI rfl rfl Tryd.underlying5 Tryd.underlying3 _ rfl) ?_
                  refine y_rd (wanted_none rfl) rfl rfl (rd_add rfl rfl rfl (wrap_id (k := .i64) (by show _ ∧ _; (first | omega | (dsimp only at *; omega))))) ?_
                  refine x_one (wanted_none rfl) (e_buildSlice (n := 1) rfl Tryd.underlying72 sz3 zr3 rfl rfl rfl rfl rfl rfl rfl (fun p2 => ?_))
                  refine x_done ?_
                  show ASeq _ _ _ _ _ _
                  refine seq_md (wanted_none rfl) (m_appendC rowC_in (l2 := [two b i]) rfl rfl rfl rfl (by first | exact Nat.le_of_eq (Nat.mul_one _) | omega) (fun _ _ => CEnt.refl _) (src_os rfl (.inl rfl) (by decide)) rfl (hh_ints (.cons (CEnt.int ((by unfold two dg; omega))) .nil)) Tryd.underlying72 nu72 sz3 zr3 by3 rfl (by first | omega | (simp; omega) | (simp at *; omega)) (by first | omega | (simp; omega) | (simp at *; omega)) (leaf_flk rfl rfl) rfl rfl (Nat.mul_one _) (fun p3 => ?_))
                  first | refine q_rd (wanted_none rfl) rfl rfl (rd_assign (v := .rs _ _ _) rfl rfl) ?_ | refine q_rd (wanted_none rfl) rfl rfl (rd_assign (v := .os _ _ _ _ _) rfl rfl) ?_ | refine q_rd (wanted_none rfl) rfl rfl (rd_assign (v := .c _) rfl rfl) ?_ | refine q_rd (wanted_none rfl) rfl rfl (rd_assign (v := .pv _) rfl rfl) ?_ | refine q_rd (wanted_none rfl) rfl rfl (rd_assign (v := .top) rfl rfl) ?_
                  refine seq_nil ?_
                  refine block_norm ?_
                  refine then_norm ?_
                  refine code_region ?_
                  refine q_rd (wanted_none rfl) rfl rfl (rd_move (v := .c _) rfl rfl) ?_
                  refine q_rd (wanted_none rfl) rfl rfl (rd_add rfl rfl rfl (wrap_id (k := .i64) (by show _ ∧ _; (first | omega | (dsimp only at *; omega))))) ?_
                  refine q_rd (wanted_none rfl) rfl rfl (rd_assign (v := .c _) rfl rfl) ?_
                  refine seq_nil ?_
                  refine then_norm ?_
                  refine ⟨(i + 1, p3), ?_, ?_, rfl, rfl, ?_, by exact Nat.le_of_ble_eq_true rfl, ?_⟩
                  · exact ⟨by omega, fun k hk => by
                      by_cases h1 : k < 2 * i
                      · exact hd k h1
                      · by_cases h2 : k = 2 * i
                        · subst h2; exact hd1
                        · have h3 : k = 2 * i + 1 := by omega
                          subst h3; exact hd2⟩
                  · omega
                  · simp only [twL_succ]
                    (repeat (first | exact EntE.nil | refine EntE.cons (CEnt.refl _) ?_ | refine EntE.cons (CEnt.int (by omega)) ?_))
                  · simp only [twL_succ]
                    (repeat (first | exact HEnt.nil | refine HEnt.same ?_ | refine HEnt.blk rfl (fun j hj => by rcases j with _|_|_|_|_|_|_|_|j <;> first | exact CEnt.refl _ | exact CEnt.int (by omega) | omega) ?_))
        · refine code_exit ?_
          refine then_exit ?_
          refine then_exit ?_
          refine block_exit rfl ?_
          refine then_norm ?_
          refine code_seq ?_
          have hi7 : i = 7 := by omega
          subst hi7
          have hf : formP b := ⟨by omega, by omega, fun k hk => hd k (by omega)⟩
          have hl := twL_len b 7
          have g0 := two_bd hf.2.2 (j := 0) (by omega)
          have g1 := two_bd hf.2.2 (j := 1) (by omega)
          have t0 : (twL b 7).getD 0 0 = two b 0 := twL_get (by omega)
          have t1 : (twL b 7).getD 1 0 = two b 1 := twL_get (by omega)
          have t2 : (twL b 7).getD 2 0 = two b 2 := twL_get (by omega)
          have t3 : (twL b 7).getD 3 0 = two b 3 := twL_get (by omega)
          have t4 : (twL b 7).getD 4 0 = two b 4 := twL_get (by omega)
          have t5 : (twL b 7).getD 5 0 = two b 5 := twL_get (by omega)
          have t6 : (twL b 7).getD 6 0 = two b 6 := twL_get (by omega)
          refine code_drawB 25 (.rd 0 (.rd 1 (.rd 2 (.rd 3 (.rd 4 (.rd 5 (.rd 6 (.rd 7 (.rd 8 (.rd 9 (.rd 10 (.rd 11 (.rd 12 (.rd 13 (.rd 14 (.rd 15 (.rd 16 (.rd 17 (.rd 18 (.rd 19 (.rd 20 (.rd 21 (.rd 22 (.rd 23 (.one 24 .done))))))))))))))))))))))))) (by kernel_rfl) (by kernel_rfl) rfl rfl (by kernel_rfl) (by kernel_rfl) (by kernel_rfl) (by kernel_rfl) ?_
          simp only [opsOfT, List.getElem?_toArray, List.getElem?_cons_zero, List.getElem?_cons_succ]
          first | refine y_rd (wanted_none rfl) rfl rfl (rd_move (v := .rs _ _ _) rfl rfl) ?_ | refine y_rd (wanted_none rfl) rfl rfl (rd_move (v := .os _ _ _ _ _) rfl rfl) ?_ | refine y_rd (wanted_none rfl) rfl rfl (rd_move (v := .c _) rfl rfl) ?_ | refine y_rd (wanted_none rfl) rfl rfl (rd_move (v := .pv _) rfl rfl) ?_ | refine y_rd (wanted_none rfl) rfl rfl (rd_move (v := .top) rfl rfl) ?_
          first | refine y_rd (wanted_none rfl) rfl rfl (rd_iaddrR rfl rfl rfl Tryd.underlying72 sz3 (show (0 : Int) = ((0 : Nat) : Int) from rfl) (by (first | omega | (dsimp only at *; omega))) (by decide)) ?_ | refine y_rd (wanted_none rfl) rfl rfl (rd_iaddrO1 rfl rfl rfl Tryd.underlying72 sz3 (show (0 : Int) = ((0 : Nat) : Int) from rfl) (by (first | omega | (dsimp only at *; omega)))) ?_ | refine y_rd (wanted_none rfl) rfl rfl (rd_iaddrO rfl rfl rfl Tryd.underlying72 sz3 (show (0 : Int) = ((0 : Nat) : Int) from rfl) (by (first | omega | (dsimp only at *; omega)))) ?_
          first | refine y_rdO (wanted_none rfl) rfl rfl (rd_loadO (v := .c _) rfl rfl (.inl rfl) Tryd.underlying3 ag3 (by first | decide | (first | omega | (dsimp only at *; omega))) rfl) ?_ | refine y_rd (wanted_none rfl) rfl rfl (rd_loadR (v := .c _) rfl rfl Tryd.underlying3 ag3 (by first | decide | (first | omega | (dsimp only at *; omega))) rfl) ?_ | refine y_rdO (wanted_none rfl) rfl rfl (rd_loadO (v := .c _) rfl rfl (.inr rfl) Tryd.underlying3 ag3 (by first | decide | (first | omega | (dsimp only at *; omega))) rfl) ?_
          refine y_rd (wanted_none rfl) rfl rfl (rd_mul rfl rfl rfl (wrap_id (k := .i64) (by show _ ∧ _; (first | omega | (dsimp only at *; omega))))) ?_
          first | refine y_rd (wanted_none rfl) rfl rfl (rd_move (v := .rs _ _ _) rfl rfl) ?_ | refine y_rd (wanted_none rfl) rfl rfl (rd_move (v := .os _ _ _ _ _) rfl rfl) ?_ | refine y_rd (wanted_none rfl) rfl rfl (rd_move (v := .c _) rfl rfl) ?_ | refine y_rd (wanted_none rfl) rfl rfl (rd_move (v := .pv _) rfl rfl) ?_ | refine y_rd (wanted_none rfl) rfl rfl (rd_move (v := .top) rfl rfl) ?_
          first | refine y_rd (wanted_none rfl) rfl rfl (rd_iaddrR rfl rfl rfl Tryd.underlying72 sz3 (show (1 : Int) = ((1 : Nat) : Int) from rfl) (by (first | omega | (dsimp only at *; omega))) (by decide)) ?_ | refine y_rd (wanted_none rfl) rfl rfl (rd_iaddrO1 rfl rfl rfl Tryd.underlying72 sz3 (show (1 : Int) = ((1 : Nat) : Int) from rfl) (by (first | omega | (dsimp only at *; omega)))) ?_ | refine y_rd (wanted_none rfl) rfl rfl (rd_iaddrO rfl rfl rfl Tryd.underlying72 sz3 (show (1 : Int) = ((1 : Nat) : Int) from rfl) (by (first | omega | (dsimp only at *; omega)))) ?_
          first | refine y_rdO (wanted_none rfl) rfl rfl (rd_loadO (v := .c _) rfl rfl (.inl rfl) Tryd.underlying3 ag3 (by first | decide | (first | omega | (dsimp only at *; omega))) rfl) ?_ | refine y_rd (wanted_none rfl) rfl rfl (rd_loadR (v := .c _) rfl rfl Tryd.underlying3 ag3 (by first | decide | (first | omega | (dsimp only at *; omega))) rfl) ?_ | refine y_rdO (wanted_none rfl) rfl rfl (rd_loadO (v := .c _) rfl rfl (.inr rfl) Tryd.underlying3 ag3 (by first | decide | (first | omega | (dsimp only at *; omega))) rfl) ?_
          refine y_rd (wanted_none rfl) rfl rfl (rd_add rfl rfl rfl (wrap_id (k := .i64) (by show _ ∧ _; (first | omega | (dsimp only at *; omega))))) ?_
          first | refine y_rd (wanted_none rfl) rfl rfl (rd_move (v := .rs _ _ _) rfl rfl) ?_ | refine y_rd (wanted_none rfl) rfl rfl (rd_move (v := .os _ _ _ _ _) rfl rfl) ?_ | refine y_rd (wanted_none rfl) rfl rfl (rd_move (v := .c _) rfl rfl) ?_ | refine y_rd (wanted_none rfl) rfl rfl (rd_move (v := .pv _) rfl rfl) ?_ | refine y_rd (wanted_none rfl) rfl rfl (rd_move (v := .top) rfl rfl) ?_
          first | refine y_rd (wanted_none rfl) rfl rfl (rd_iaddrR rfl rfl rfl Tryd.underlying72 sz3 (show (2 : Int) = ((2 : Nat) : Int) from rfl) (by (first | omega | (dsimp only at *; omega))) (by decide)) ?_ | refine y_rd (wanted_none rfl) rfl rfl (rd_iaddrO1 rfl rfl rfl Tryd.underlying72 sz3 (show (2 : Int) = ((2 : Nat) : Int) from rfl) (by (first | omega | (dsimp only at *; omega)))) ?_ | refine y_rd (wanted_none rfl) rfl rfl (rd_iaddrO rfl rfl rfl Tryd.underlying72 sz3 (show (2 : Int) = ((2 : Nat) : Int) from rfl) (by (first | omega | (dsimp only at *; omega)))) ?_
          first | refine y_rdO (wanted_none rfl) rfl rfl (rd_loadO (v := .c _) rfl rfl (.inl rfl) Tryd.underlying3 ag3 (by first | decide | (first | omega | (dsimp only at *; omega))) rfl) ?_ | refine y_rd (wanted_none rfl) rfl rfl (rd_loadR (v := .c _) rfl rfl Tryd.underlying3 ag3 (by first | decide | (first | omega | (dsimp only at *; omega))) rfl) ?_ | refine y_rdO (wanted_none rfl) rfl rfl (rd_loadO (v := .c _) rfl rfl (.inr rfl) Tryd.underlying3 ag3 (by first | decide | (first | omega | (dsimp only at *; omega))) rfl) ?_
          first | refine y_rd (wanted_none rfl) rfl rfl (rd_move (v := .rs _ _ _) rfl rfl) ?_ | refine y_rd (wanted_none rfl) rfl rfl (rd_move (v := .os _ _ _ _ _) rfl rfl) ?_ | refine y_rd (wanted_none rfl) rfl rfl (rd_move (v := .c _) rfl rfl) ?_ | refine y_rd (wanted_none rfl) rfl rfl (rd_move (v := .pv _) rfl rfl) ?_ | refine y_rd (wanted_none rfl) rfl rfl (rd_move (v := .top) rfl rfl) ?_
          first | refine y_rd (wanted_none rfl) rfl rfl (rd_iaddrR rfl rfl rfl Tryd.underlying72 sz3 (show (3 : Int) = ((3 : Nat) : Int) from rfl) (by (first | omega | (dsimp only at *; omega))) (by decide)) ?_ | refine y_rd (wanted_none rfl) rfl rfl (rd_iaddrO1 rfl rfl rfl Tryd.underlying72 sz3 (show (3 : Int) = ((3 : Nat) : Int) from rfl) (by (first | omega | (dsimp only at *; omega)))) ?_ | refine y_rd (wanted_none rfl) rfl rfl (rd_iaddrO rfl rfl rfl Tryd.underlying72 sz3 (show (3 : Int) = ((3 : Nat) : Int) from rfl) (by (first | omega | (dsimp only at *; omega)))) ?_
          first | refine y_rdO (wanted_none rfl) rfl rfl (rd_loadO (v := .c _) rfl rfl (.inl rfl) Tryd.underlying3 ag3 (by first | decide | (first | omega | (dsimp only at *; omega))) rfl) ?_ | refine y_rd (wanted_none rfl) rfl rfl (rd_loadR (v := .c _) rfl rfl Tryd.underlying3 ag3 (by first | decide | (first | omega | (dsimp only at *; omega))) rfl) ?_ | refine y_rdO (wanted_none rfl) rfl rfl (rd_loadO (v := .c _) rfl rfl (.inr rfl) Tryd.underlying3 ag3 (by first | decide | (first | omega | (dsimp only at *; omega))) rfl) ?_
          first | refine y_rd (wanted_none rfl) rfl rfl (rd_move (v := .rs _ _ _) rfl rfl) ?_ | refine y_rd (wanted_none rfl) rfl rfl (rd_move (v := .os _ _ _ _ _) rfl rfl) ?_ | refine y_rd (wanted_none rfl) rfl rfl (rd_move (v := .c _) rfl rfl) ?_ | refine y_rd (wanted_none rfl) rfl rfl (rd_move (v := .pv _) rfl rfl) ?_ | refine y_rd (wanted_none rfl) rfl rfl (rd_move (v := .top) rfl rfl) ?_
          first | refine y_rd (wanted_none rfl) rfl rfl (rd_iaddrR rfl rfl rfl Tryd.underlying72 sz3 (show (4 : Int) = ((4 : Nat) : Int) from rfl) (by (first | omega | (dsimp only at *; omega))) (by decide)) ?_ | refine y_rd (wanted_none rfl) rfl rfl (rd_iaddrO1 rfl rfl rfl Tryd.underlying72 sz3 (show (4 : Int) = ((4 : Nat) : Int) from rfl) (by (first | omega | (dsimp only at *; omega)))) ?_ | refine y_rd (wanted_none rfl) rfl rfl (rd_iaddrO rfl rfl rfl Tryd.underlying72 sz3 (show (4 : Int) = ((4 : Nat) : Int) from rfl) (by (first | omega | (dsimp only at *; omega)))) ?_
          first | refine y_rdO (wanted_none rfl) rfl rfl (rd_loadO (v := .c _) rfl rfl (.inl rfl) Tryd.underlying3 ag3 (by first | decide | (first | omega | (dsimp only at *; omega))) rfl) ?_ | refine y_rd (wanted_none rfl) rfl rfl (rd_loadR (v := .c _) rfl rfl Tryd.underlying3 ag3 (by first | decide | (first | omega | (dsimp only at *; omega))) rfl) ?_ | refine y_rdO (wanted_none rfl) rfl rfl (rd_loadO (v := .c _) rfl rfl (.inr rfl) Tryd.underlying3 ag3 (by first | decide | (first | omega | (dsimp only at *; omega))) rfl) ?_
          first | refine y_rd (wanted_none rfl) rfl rfl (rd_move (v := .rs _ _ _) rfl rfl) ?_ | refine y_rd (wanted_none rfl) rfl rfl (rd_move (v := .os _ _ _ _ _) rfl rfl) ?_ | refine y_rd (wanted_none rfl) rfl rfl (rd_move (v := .c _) rfl rfl) ?_ | refine y_rd (wanted_none rfl) rfl rfl (rd_move (v := .pv _) rfl rfl) ?_ | refine y_rd (wanted_none rfl) rfl rfl (rd_move (v := .top) rfl rfl) ?_
          first | refine y_rd (wanted_none rfl) rfl rfl (rd_iaddrR rfl rfl rfl Tryd.underlying72 sz3 (show (5 : Int) = ((5 : Nat) : Int) from rfl) (by (first | omega | (dsimp only at *; omega))) (by decide)) ?_ | refine y_rd (wanted_none rfl) rfl rfl (rd_iaddrO1 rfl rfl rfl Tryd.underlying72 sz3 (show (5 : Int) = ((5 : Nat) : Int) from rfl) (by (first | omega | (dsimp only at *; omega)))) ?_ | refine y_rd (wanted_none rfl) rfl rfl (rd_iaddrO rfl rfl rfl Tryd.underlying72 sz3 (show (5 : Int) = ((5 : Nat) : Int) from rfl) (by (first | omega | (dsimp only at *; omega)))) ?_
          first | refine y_rdO (wanted_none rfl) rfl rfl (rd_loadO (v := .c _) rfl rfl (.inl rfl) Tryd.underlying3 ag3 (by first | decide | (first | omega | (dsimp only at *; omega))) rfl) ?_ | refine y_rd (wanted_none rfl) rfl rfl (rd_loadR (v := .c _) rfl rfl Tryd.underlying3 ag3 (by first | decide | (first | omega | (dsimp only at *; omega))) rfl) ?_ | refine y_rdO (wanted_none rfl) rfl rfl (rd_loadO (v := .c _) rfl rfl (.inr rfl) Tryd.underlying3 ag3 (by first | decide | (first | omega | (dsimp only at *; omega))) rfl) ?_
          first | refine y_rd (wanted_none rfl) rfl rfl (rd_move (v := .rs _ _ _) rfl rfl) ?_ | refine y_rd (wanted_none rfl) rfl rfl (rd_move (v := .os _ _ _ _ _) rfl rfl) ?_ | refine y_rd (wanted_none rfl) rfl rfl (rd_move (v := .c _) rfl rfl) ?_ | refine y_rd (wanted_none rfl) rfl rfl (rd_move (v := .pv _) rfl rfl) ?_ | refine y_rd (wanted_none rfl) rfl rfl (rd_move (v := .top) rfl rfl) ?_
          first | refine y_rd (wanted_none rfl) rfl rfl (rd_iaddrR rfl rfl rfl Tryd.underlying72 sz3 (show (6 : Int) = ((6 : Nat) : Int) from rfl) (by (first | omega | (dsimp only at *; omega))) (by decide)) ?_ | refine y_rd (wanted_none rfl) rfl rfl (rd_iaddrO1 rfl rfl rfl Tryd.underlying72 sz3 (show (6 : Int) = ((6 : Nat) : Int) from rfl) (by (first | omega | (dsimp only at *; omega)))) ?_ | refine y_rd (wanted_none rfl) rfl rfl (rd_iaddrO rfl rfl rfl Tryd.underlying72 sz3 (show (6 : Int) = ((6 : Nat) : Int) from rfl) (by (first | omega | (dsimp only at *; omega)))) ?_
          first | refine y_rdO (wanted_none rfl) rfl rfl (rd_loadO (v := .c _) rfl rfl (.inl rfl) Tryd.underlying3 ag3 (by first | decide | (first | omega | (dsimp only at *; omega))) rfl) ?_ | refine y_rd (wanted_none rfl) rfl rfl (rd_loadR (v := .c _) rfl rfl Tryd.underlying3 ag3 (by first | decide | (first | omega | (dsimp only at *; omega))) rfl) ?_ | refine y_rdO (wanted_none rfl) rfl rfl (rd_loadO (v := .c _) rfl rfl (.inr rfl) Tryd.underlying3 ag3 (by first | decide | (first | omega | (dsimp only at *; omega))) rfl) ?_
          refine y_rd (wanted_none rfl) rfl rfl (rd_build (n := 6) rfl zr37 pl37 rfl rfl) ?_
          refine x_one (wanted_none rfl) (e_alloc (n := 6) rfl zr37 rfl rfl rfl (fun p2 => ?_))
          refine x_done ?_
          show ASeq _ _ _ _ _ _
          refine seq_md (wanted_none rfl) (m_store rfl rfl rfl rfl rfl sz37 rfl rfl (by first | decide | (first | omega | (dsimp only at *; omega))) _ (fun _ _ => CEnt.refl _) rfl ?_)
          refine seq_nil ?_
          refine then_norm ?_
          refine code_seq ?_
          refine code_seq ?_
          refine code_region ?_
          first | refine q_rdO (wanted_none rfl) rfl rfl (rd_loadOA rfl rfl (.inl rfl) Tryd.underlying37 ag37 sz37 (by first | decide | (first | omega | (dsimp only at *; omega)))) ?_ | refine q_rd (wanted_none rfl) rfl rfl (rd_loadRA rfl rfl Tryd.underlying37 ag37 sz37 (by first | decide | (first | omega | (dsimp only at *; omega)))) ?_ | refine q_rdO (wanted_none rfl) rfl rfl (rd_loadOA rfl rfl (.inr rfl) Tryd.underlying37 ag37 sz37 (by first | decide | (first | omega | (dsimp only at *; omega)))) ?_
          refine seq_ex (wanted_none rfl) (e_callP rfl (by kernel_rfl) (rright_ac (getD6 b)) (.cons (se rfl (CEnt.agg6 (CEnt.int (by show (twL b 7).getD 0 0 * 100 + (twL b 7).getD 1 0 = 100 * two b 0 + two b 1; rw [t0, t1]; omega)) (CEnt.int t2) (CEnt.int t3) (CEnt.int t4) (CEnt.int t5) (CEnt.int t6))) .nil) rfl rfl ?_)
          first | refine q_rd (wanted_none rfl) rfl rfl (rd_notD rfl rfl) ?_ | refine q_rd (wanted_none rfl) rfl rfl (rd_not rfl rfl) ?_
          refine seq_nil ?_
          refine then_norm ?_
          first | refine code_condSD rfl rfl (fun h101 => ?_) (fun h101 => ?_) | refine code_condS rfl rfl (fun h101 => ?_) (fun h101 => ?_)
          · refine code_seq ?_
            refine code_region ?_
            refine q_rd (wanted_none rfl) rfl rfl (rd_assign (v := .c _) rfl rfl) ?_
            refine q_rd (wanted_none rfl) rfl rfl (rd_assign (v := .c _) rfl rfl) ?_
            refine seq_nil ?_
            refine then_norm ?_
            refine code_ret ?_
            refine then_ret ?_
            refine end_val (.inl rfl) (res_2 rfl (arv_tmp rfl) (arv_tmp rfl)) ?_
            unfold getV getE
            rw [if_neg (fun h => h101 h.2), if_pos hf, if_neg h101]
            exact CEnt.refl _
          · refine code_skip ?_
            refine then_norm ?_
            refine code_seq ?_
            have hr : RightP (getD6 b) := Decidable.not_not.1 h101
            refine code_region ?_
            first | refine q_rdO (wanted_none rfl) rfl rfl (rd_loadOA rfl rfl (.inl rfl) Tryd.underlying37 ag37 sz37 (by first | decide | (first | omega | (dsimp only at *; omega)))) ?_ | refine q_rd (wanted_none rfl) rfl rfl (rd_loadRA rfl rfl Tryd.underlying37 ag37 sz37 (by first | decide | (first | omega | (dsimp only at *; omega)))) ?_ | refine q_rdO (wanted_none rfl) rfl rfl (rd_loadOA rfl rfl (.inr rfl) Tryd.underlying37 ag37 sz37 (by first | decide | (first | omega | (dsimp only at *; omega)))) ?_
            refine seq_ex (wanted_none rfl) (e_callP rfl (by kernel_rfl) (rsecs_ac (getD6 b) hr) (.cons (se rfl (CEnt.agg6 (CEnt.int (by show (twL b 7).getD 0 0 * 100 + (twL b 7).getD 1 0 = 100 * two b 0 + two b 1; rw [t0, t1]; omega)) (CEnt.int t2) (CEnt.int t3) (CEnt.int t4) (CEnt.int t5) (CEnt.int t6))) .nil) rfl rfl ?_)
            refine q_rd (wanted_none rfl) rfl rfl (rd_assign (v := .c _) rfl rfl) ?_
            refine q_rd (wanted_none rfl) rfl rfl (rd_assign (v := .c _) rfl rfl) ?_
            refine seq_nil ?_
            refine then_norm ?_
            refine code_ret ?_
            refine end_val (.inl rfl) (res_2 rfl (arv_tmp rfl) (arv_tmp rfl)) ?_
            unfold getV getE
            rw [if_pos ⟨hf, hr⟩, if_pos hf, if_pos hr]
            exact CEnt.refl _
end Am
end Go.Proofs.YtmlnipbeancnpaaDoor
