
/- Chapter 23: keys' numbers; rows of texts in order; requests. -/
import Derived.Test.YtoliiompofonlaaDoorW23d
import Derived.Test.YtoliiompofonlaaDoorSlC
namespace Go.Proofs.YtoliiompofonlaaDoor
set_option linter.unusedVariables false
namespace Am
variable {gs : List Nat} [OkG gs]
open Go.RowKit
set_option maxRecDepth 100000

/-! ### keys' numbers -/
def hexL : List UInt8 := [48, 49, 50, 51, 52, 53, 54, 55, 56, 57, 97, 98, 99, 100, 101, 102]
def hexOk (l : List UInt8) : Bool := decide (l.length = 32) && l.all fun c => decide (0 ≤ Lib.indexByte hexL c)
theorem hex_bad {l : List UInt8} {i : Nat} (hi : i < l.length) (h : Lib.indexByte hexL (l.getD i 0) < 0) : hexOk l = false := by
  cases e : hexOk l with
  | false => rfl
  | true =>
    simp only [hexOk, Bool.and_eq_true, List.all_eq_true, decide_eq_true_eq] at e
    have := e.2 (l.getD i 0) (by simp [List.getD, hi])
    omega
theorem hexB_bd (c : UInt8) : Lib.indexByte hexL c < 16 := by
  unfold Lib.indexByte hexL
  simp only [Lib.indexByte]
  repeat (first | omega | split)
def shl4 (c : UInt8) : Int := IntKind.u8.wrap (((c.toNat : Nat) : Int) * 2 ^ (4 : Int).toNat)
def orB (a b : Int) : Int := IntKind.u8.wrap (BitVec.ofInt (IntKind.bits .u8) a ||| BitVec.ofInt (IntKind.bits .u8) b).toNat
def mixB (c : UInt8) (n : Int) : UInt8 := UInt8.ofNat (orB (shl4 c) n).toNat
theorem mixB_int (c : UInt8) (n : Int) : orB (shl4 c) n = ((mixB c n).toNat : Nat) := by
  have h : 0 ≤ orB (shl4 c) n ∧ orB (shl4 c) n < 256 := by unfold orB; rw [IntKind.wrap_u8]; omega
  unfold mixB
  rw [UInt8.toNat_ofNat']
  omega
theorem zero_cell (j : Nat) : (Value.int .u8 0).cells[j % (Value.int .u8 0).cells.size]! = .int .u8 0 := by
  have : j % (Value.int .u8 0).cells.size = 0 := Nat.mod_one j
  rw [this]; rfl
theorem zero16 (j : Nat) : CEnt (.c (.int .u8 0)) (byF (List.replicate 16 0) j) := CEnt.of_eq (by
  have : (List.replicate 16 (0 : UInt8)).getD j 0 = 0 := by rw [List.getD_eq_getElem?_getD, List.getElem?_replicate]; split <;> rfl
  unfold byF
  rw [this]; rfl)
theorem upd_byte {X : List UInt8} {o : Nat} {c : UInt8} {z : Int} (hz : z = (c.toNat : Nat)) (ho : o < X.length) (j : Nat) : CEnt (updF (byF X) o (List.map CV.c (Value.int .u8 z).cells.toList) j) (byF (X.set o c) j) := by
  rw [updF_get, show (List.map CV.c (Value.int .u8 z).cells.toList).length = 1 from rfl]
  by_cases e : j = o
  · subst e
    rw [if_pos (by omega), Nat.sub_self]
    have : (X.set j c).getD j 0 = c := by simp [List.getD, ho]
    unfold byF
    rw [this, ← hz]
    exact CEnt.refl _
  · rw [if_neg (by omega)]
    refine CEnt.of_eq ?_
    unfold byF
    simp [List.getD, List.getElem?_set, Ne.symm e]
set_option maxHeartbeats 1000000 in
theorem mbytes_ac (l : List UInt8) : ACp gs Tryd.prog 112 [strC l] (.tup 2 (fl [.top, .err (if hexOk l = true then 0 else 4)])) := by
  refine ac_of 39 Tryd.func112 rfl rfl rfl (fun al w0 F0 St0 => ?_)
  refine code_seq ?_
  refine code_region ?_
  first | refine q_rd (wanted_none rfl) rfl rfl (rd_assign (v := bsC _) rfl rfl) ?_ | refine q_rd (wanted_none rfl) rfl rfl (rd_assign (v := .rs _ _ _) rfl rfl) ?_ | refine q_rd (wanted_none rfl) rfl rfl (rd_assign (v := .os _ _ _ _ _) rfl rfl) ?_ | refine q_rd (wanted_none rfl) rfl rfl (rd_assign (v := .c _) rfl rfl) ?_ | refine q_rd (wanted_none rfl) rfl rfl (rd_assign (v := .pv _) rfl rfl) ?_ | refine q_rd (wanted_none rfl) rfl rfl (rd_assign (v := .top) rfl rfl) ?_
  first | refine q_rd (wanted_none rfl) rfl rfl (rd_assign (v := .err _) rfl rfl) ?_ | refine q_rd (wanted_none rfl) rfl rfl (rd_assign (v := .c _) rfl rfl) ?_ | refine q_rd (wanted_none rfl) rfl rfl (rd_assign (v := .pv _) rfl rfl) ?_ | refine q_rd (wanted_none rfl) rfl rfl (rd_assign (v := .top) rfl rfl) ?_
  refine seq_nil ?_
  refine then_norm ?_
  refine code_seq ?_
  refine code_seq ?_
  refine code_region ?_
  refine q_rd (wanted_none rfl) rfl rfl (rd_move (v := .c _) rfl rfl) ?_
  refine q_rd (wanted_none rfl) rfl rfl (rd_lenL rfl rfl Tryd.underlying9) ?_
  refine q_rd (wanted_none rfl) rfl rfl (rd_neI rfl rfl rfl) ?_
  refine seq_nil ?_
  refine then_norm ?_
  first | refine code_condSD rfl rfl (fun h99 => ?_) (fun h99 => ?_) | refine code_condS rfl rfl (fun h99 => ?_) (fun h99 => ?_)
  · refine code_seq ?_
    refine code_draw (.rd 0 (.rd 1 (.rd 2 .done))) (by kernel_rfl) (by kernel_rfl) rfl (by kernel_rfl) (by kernel_rfl) ?_
    simp only [opsOfT, List.getElem?_toArray, List.getElem?_cons_zero, List.getElem?_cons_succ]
    refine y_rd (wanted_none rfl) rfl rfl (rd_loadE 3 rfl rfl Tryd.underlying32 ag32) ?_
    first | refine y_rd (wanted_none rfl) rfl rfl (rd_assign (v := bsC _) rfl rfl) ?_ | refine y_rd (wanted_none rfl) rfl rfl (rd_assign (v := .rs _ _ _) rfl rfl) ?_ | refine y_rd (wanted_none rfl) rfl rfl (rd_assign (v := .os _ _ _ _ _) rfl rfl) ?_ | refine y_rd (wanted_none rfl) rfl rfl (rd_assign (v := .c _) rfl rfl) ?_ | refine y_rd (wanted_none rfl) rfl rfl (rd_assign (v := .pv _) rfl rfl) ?_ | refine y_rd (wanted_none rfl) rfl rfl (rd_assign (v := .top) rfl rfl) ?_
    first | refine y_rd (wanted_none rfl) rfl rfl (rd_assign (v := .err _) rfl rfl) ?_ | refine y_rd (wanted_none rfl) rfl rfl (rd_assign (v := .c _) rfl rfl) ?_ | refine y_rd (wanted_none rfl) rfl rfl (rd_assign (v := .pv _) rfl rfl) ?_ | refine y_rd (wanted_none rfl) rfl rfl (rd_assign (v := .top) rfl rfl) ?_
    refine x_done ?_
    refine then_norm ?_
    refine code_ret ?_
    refine then_ret ?_
    refine end_val (.inl rfl) (res_2 rfl (arv_tmp rfl) (arv_tmp rfl)) ?_
    refine CEnt.tup2 (CEnt.top _) (CEnt.errN ?_)
    rw [if_neg (by simp [hexOk]; omega)]
  · refine code_skip ?_
    refine then_norm ?_
    refine code_seq ?_
    refine code_region ?_
    refine seq_ex (wanted_none rfl) (e_make (F := byF (List.replicate 16 0)) rfl rfl rfl (show (16 : Int) = ((16 : Nat) : Int) from rfl) (show (16 : Int) = ((16 : Nat) : Int) from rfl) (by (first | omega | decide | (dsimp only at *; omega))) Tryd.underlying63 sz5 zr5 by5 (by (first | omega | decide | (dsimp only at *; omega))) (by (first | omega | decide | (dsimp only at *; omega))) (fun j hj => by rw [zero_cell j]; exact zero16 j) rfl rfl (fun p1 => ?_))
    first | refine q_rd (wanted_none rfl) rfl rfl (rd_assign (v := bsC _) rfl rfl) ?_ | refine q_rd (wanted_none rfl) rfl rfl (rd_assign (v := .rs _ _ _) rfl rfl) ?_ | refine q_rd (wanted_none rfl) rfl rfl (rd_assign (v := .os _ _ _ _ _) rfl rfl) ?_ | refine q_rd (wanted_none rfl) rfl rfl (rd_assign (v := .c _) rfl rfl) ?_ | refine q_rd (wanted_none rfl) rfl rfl (rd_assign (v := .pv _) rfl rfl) ?_ | refine q_rd (wanted_none rfl) rfl rfl (rd_assign (v := .top) rfl rfl) ?_
    refine seq_nil ?_
    refine then_norm ?_
    refine code_seq ?_
    refine code_seq ?_
    refine code_region ?_
    refine q_rd (wanted_none rfl) rfl rfl (rd_move (v := .c _) rfl rfl) ?_
    refine q_rd (wanted_none rfl) rfl rfl (rd_lenL rfl rfl Tryd.underlying9) ?_
    refine q_rd (wanted_none rfl) rfl rfl (rd_move (v := .c _) rfl rfl) ?_
    refine seq_nil ?_
    refine then_norm ?_
    refine code_block ?_
    refine l_loop (α := Nat × List UInt8) [2, 3, 5, 6, 14, 15, 16, 17, 18, 19, 20, 21, 22, 23, 24, 25, 26, 27, 28, 29, 30, 31, 32, 33, 34, 35, 36, 37] (fun (i, X) => [(14, .c (.int .i64 (i : Nat)))]) (fun (i, X) => [(p1, .blk 16 (byF X))]) (fun (i, X) => i ≤ l.length ∧ X.length = 16 ∧ ∀ j, j < i → 0 ≤ Lib.indexByte hexL (l.getD j 0)) (fun (i, X) => l.length - i) ((0, List.replicate 16 0)) ?_ (fun _ => rfl) ?_ ?_ ?_
    · exact ⟨Nat.zero_le _, rfl, fun j hj => absurd hj (Nat.not_lt_zero j)⟩
    · exact .cons (CEnt.refl _) .nil
    · exact .same .nil
    · rintro ⟨i, X⟩ ⟨(hi : i ≤ l.length), (hXl : X.length = 16), he⟩
      have hhx := hexB_bd (l.getD i 0)
      refine code_seq ?_
      refine code_region ?_
      refine q_rd (wanted_none rfl) rfl rfl (rd_lt rfl rfl rfl) ?_
      refine seq_nil ?_
      refine then_norm ?_
      refine code_seq ?_
      first | refine code_condSD rfl rfl (fun h103 => ?_) (fun h103 => ?_) | refine code_condS rfl rfl (fun h103 => ?_) (fun h103 => ?_)
      · refine code_skip ?_
        refine then_norm ?_
        refine code_seq ?_
        refine code_block ?_
        refine code_seq ?_
        refine code_region ?_
        refine q_rd (wanted_none rfl) rfl rfl (rd_move (v := .c _) rfl rfl) ?_
        refine q_rd (wanted_none rfl) rfl rfl (rd_assign (v := .c _) rfl rfl) ?_
        refine seq_nil ?_
        refine then_norm ?_
        refine code_seq ?_
        refine code_region ?_
        refine q_rd (wanted_none rfl) rfl rfl (rd_move (v := .c _) rfl rfl) ?_
        refine q_rd (wanted_none rfl) rfl rfl (rd_move (v := .c _) rfl rfl) ?_
        first | refine q_rd (wanted_none rfl) rfl rfl (rd_indexL rfl rfl rfl Tryd.underlying9 rfl (by (first | omega | decide | (dsimp only at *; omega)))) ?_ | refine q_rd (wanted_none rfl) rfl rfl (rd_indexL rfl rfl rfl Tryd.underlying9 (natI (by omega)) (by (first | omega | decide | (dsimp only at *; omega)))) ?_
        refine seq_ex (wanted_none rfl) (e_callP rfl (by kernel_rfl) (idxB_ac hexL (l.getD i 0)) (.cons (by first | exact se rfl (CEnt.refl _) | exact se rfl CEnt.nil | exact se rfl CEnt.nilB | exact se rfl (CEnt.osI rfl) | exact se rfl CEnt.opI | exact se_nilO rfl | exact se rfl (CEnt.agg2 (CEnt.refl _) (CEnt.refl _)) | exact se rfl (CEnt.agg3 (CEnt.refl _) (CEnt.refl _) (CEnt.refl _)) | exact se rfl (CEnt.agg4 (CEnt.refl _) (CEnt.refl _) (CEnt.refl _) (CEnt.refl _)) | exact se rfl (CEnt.agg5 (CEnt.refl _) (CEnt.refl _) (CEnt.refl _) (CEnt.refl _) (CEnt.refl _)) | exact se rfl (CEnt.agg6 (CEnt.refl _) (CEnt.refl _) (CEnt.refl _) (CEnt.refl _) (CEnt.refl _) (CEnt.refl _)) | exact se_frzB _ rfl rfl rfl (by simp) (fun _ _ => CEnt.refl _)) (.cons (by first | exact se rfl (CEnt.refl _) | exact se rfl CEnt.nil | exact se rfl CEnt.nilB | exact se rfl (CEnt.osI rfl) | exact se rfl CEnt.opI | exact se_nilO rfl | exact se rfl (CEnt.agg2 (CEnt.refl _) (CEnt.refl _)) | exact se rfl (CEnt.agg3 (CEnt.refl _) (CEnt.refl _) (CEnt.refl _)) | exact se rfl (CEnt.agg4 (CEnt.refl _) (CEnt.refl _) (CEnt.refl _) (CEnt.refl _)) | exact se rfl (CEnt.agg5 (CEnt.refl _) (CEnt.refl _) (CEnt.refl _) (CEnt.refl _) (CEnt.refl _)) | exact se rfl (CEnt.agg6 (CEnt.refl _) (CEnt.refl _) (CEnt.refl _) (CEnt.refl _) (CEnt.refl _) (CEnt.refl _)) | exact se_frzB _ rfl rfl rfl (by simp) (fun _ _ => CEnt.refl _)) .nil)) rfl rfl ?_)
        refine q_rd (wanted_none rfl) rfl rfl (rd_assign (v := .c _) rfl rfl) ?_
        refine seq_nil ?_
        refine then_norm ?_
        refine code_seq ?_
        refine code_seq ?_
        refine code_region ?_
        refine q_rd (wanted_none rfl) rfl rfl (rd_move (v := .c _) rfl rfl) ?_
        refine q_rd (wanted_none rfl) rfl rfl (rd_lt rfl rfl rfl) ?_
        refine seq_nil ?_
        refine then_norm ?_
        first | refine code_condSD rfl rfl (fun h105 => ?_) (fun h105 => ?_) | refine code_condS rfl rfl (fun h105 => ?_) (fun h105 => ?_)
        · refine code_seq ?_
          refine code_draw (.rd 0 (.rd 1 (.rd 2 .done))) (by kernel_rfl) (by kernel_rfl) rfl (by kernel_rfl) (by kernel_rfl) ?_
          simp only [opsOfT, List.getElem?_toArray, List.getElem?_cons_zero, List.getElem?_cons_succ]
          refine y_rd (wanted_none rfl) rfl rfl (rd_loadE 3 rfl rfl Tryd.underlying32 ag32) ?_
          first | refine y_rd (wanted_none rfl) rfl rfl (rd_assign (v := bsC _) rfl rfl) ?_ | refine y_rd (wanted_none rfl) rfl rfl (rd_assign (v := .rs _ _ _) rfl rfl) ?_ | refine y_rd (wanted_none rfl) rfl rfl (rd_assign (v := .os _ _ _ _ _) rfl rfl) ?_ | refine y_rd (wanted_none rfl) rfl rfl (rd_assign (v := .c _) rfl rfl) ?_ | refine y_rd (wanted_none rfl) rfl rfl (rd_assign (v := .pv _) rfl rfl) ?_ | refine y_rd (wanted_none rfl) rfl rfl (rd_assign (v := .top) rfl rfl) ?_
          first | refine y_rd (wanted_none rfl) rfl rfl (rd_assign (v := .err _) rfl rfl) ?_ | refine y_rd (wanted_none rfl) rfl rfl (rd_assign (v := .c _) rfl rfl) ?_ | refine y_rd (wanted_none rfl) rfl rfl (rd_assign (v := .pv _) rfl rfl) ?_ | refine y_rd (wanted_none rfl) rfl rfl (rd_assign (v := .top) rfl rfl) ?_
          refine x_done ?_
          refine then_norm ?_
          refine code_ret ?_
          refine then_ret ?_
          refine block_ret ?_
          refine then_ret ?_
          refine then_ret ?_
          refine block_ret ?_
          refine then_ret ?_
          refine end_val (.inl rfl) (res_2 rfl (arv_tmp rfl) (arv_tmp rfl)) ?_
          refine CEnt.tup2 (CEnt.top _) (CEnt.errN ?_)
          rw [if_neg (by rw [hex_bad (i := i) (by omega) (by omega)]; simp)]
        · refine code_skip ?_
          refine then_norm ?_
          refine code_region ?_
          first | refine q_rd (wanted_none rfl) rfl rfl (rd_move (v := bsC _) rfl rfl) ?_ | refine q_rd (wanted_none rfl) rfl rfl (rd_move (v := .rs _ _ _) rfl rfl) ?_ | refine q_rd (wanted_none rfl) rfl rfl (rd_move (v := .os _ _ _ _ _) rfl rfl) ?_ | refine q_rd (wanted_none rfl) rfl rfl (rd_move (v := .c _) rfl rfl) ?_ | refine q_rd (wanted_none rfl) rfl rfl (rd_move (v := .pv _) rfl rfl) ?_ | refine q_rd (wanted_none rfl) rfl rfl (rd_move (v := .top) rfl rfl) ?_
          refine q_rd (wanted_none rfl) rfl rfl (rd_move (v := .c _) rfl rfl) ?_
          first | refine q_rd (wanted_none rfl) rfl rfl (rd_quo rfl rfl rfl (by (first | omega | decide | (dsimp only at *; omega))) (by (first | omega | decide | (dsimp only at *; omega))) (wrap_id (k := .i64) (by show _ ∧ _; (first | omega | decide | (dsimp only at *; omega))))) ?_ | refine q_rd (wanted_none rfl) rfl rfl (rd_quoT rfl rfl rfl (by (first | omega | decide | (dsimp only at *; omega))) _ rfl) ?_
          first | refine q_rd (wanted_none rfl) rfl rfl (rd_move (v := bsC _) rfl rfl) ?_ | refine q_rd (wanted_none rfl) rfl rfl (rd_move (v := .rs _ _ _) rfl rfl) ?_ | refine q_rd (wanted_none rfl) rfl rfl (rd_move (v := .os _ _ _ _ _) rfl rfl) ?_ | refine q_rd (wanted_none rfl) rfl rfl (rd_move (v := .c _) rfl rfl) ?_ | refine q_rd (wanted_none rfl) rfl rfl (rd_move (v := .pv _) rfl rfl) ?_ | refine q_rd (wanted_none rfl) rfl rfl (rd_move (v := .top) rfl rfl) ?_
          refine q_rd (wanted_none rfl) rfl rfl (rd_move (v := .c _) rfl rfl) ?_
          first | refine q_rd (wanted_none rfl) rfl rfl (rd_quo rfl rfl rfl (by (first | omega | decide | (dsimp only at *; omega))) (by (first | omega | decide | (dsimp only at *; omega))) (wrap_id (k := .i64) (by show _ ∧ _; (first | omega | decide | (dsimp only at *; omega))))) ?_ | refine q_rd (wanted_none rfl) rfl rfl (rd_quoT rfl rfl rfl (by (first | omega | decide | (dsimp only at *; omega))) _ rfl) ?_
          first | refine q_rd (wanted_none rfl) rfl rfl (rd_iaddrR rfl rfl rfl Tryd.underlying63 sz5 (show _ = (((i / 2) : Nat) : Int) by first | omega | (simp only [List.length_append, List.length_cons, List.length_nil]; omega)) (by (first | omega | decide | (dsimp only at *; omega))) (by decide)) ?_ | refine q_rd (wanted_none rfl) rfl rfl (rd_iaddrO1 rfl rfl rfl Tryd.underlying63 sz5 (show _ = (((i / 2) : Nat) : Int) by first | omega | (simp only [List.length_append, List.length_cons, List.length_nil]; omega)) (by (first | omega | decide | (dsimp only at *; omega)))) ?_ | refine q_rd (wanted_none rfl) rfl rfl (rd_iaddrO rfl rfl rfl Tryd.underlying63 sz5 (show _ = (((i / 2) : Nat) : Int) by first | omega | (simp only [List.length_append, List.length_cons, List.length_nil]; omega)) (by (first | omega | decide | (dsimp only at *; omega)))) ?_
          first | refine q_rdO (wanted_none rfl) rfl rfl (rd_loadO (v := .c _) rfl rfl (.inl rfl) Tryd.underlying5 ag5 (by first | decide | (first | omega | decide | (dsimp only at *; omega))) rfl) ?_ | refine q_rd (wanted_none rfl) rfl rfl (rd_loadR (v := .c _) rfl rfl Tryd.underlying5 ag5 (by first | decide | (first | omega | decide | (dsimp only at *; omega))) rfl) ?_ | refine q_rdO (wanted_none rfl) rfl rfl (rd_loadO (v := .c _) rfl rfl (.inr rfl) Tryd.underlying5 ag5 (by first | decide | (first | omega | decide | (dsimp only at *; omega))) rfl) ?_
          refine q_rd (wanted_none rfl) rfl rfl (rd_shl rfl rfl rfl (by (first | omega | decide | (dsimp only at *; omega))) ((shl4 (X.getD (i / 2) 0))) (rfl)) ?_
          refine q_rd (wanted_none rfl) rfl rfl (rd_move (v := .c _) rfl rfl) ?_
          first | refine q_rd (wanted_none rfl) rfl rfl (rd_convI rfl rfl Tryd.underlying3 Tryd.underlying5 _ (wrap_id (k := .u8) (by show _ ∧ _; (first | omega | decide | (dsimp only at *; omega))))) ?_ | refine q_rd (wanted_none rfl) rfl rfl (rd_convI rfl rfl Tryd.underlying3 Tryd.underlying5 _ rfl) ?_
          refine q_rd (wanted_none rfl) rfl rfl (rd_or rfl rfl rfl ((orB (shl4 (X.getD (i / 2) 0)) (Lib.indexByte hexL (l.getD i 0)))) (rfl)) ?_
          first | refine q_rd (wanted_none rfl) rfl rfl (rd_iaddrR rfl rfl rfl Tryd.underlying63 sz5 (show _ = (((i / 2) : Nat) : Int) by first | omega | (simp only [List.length_append, List.length_cons, List.length_nil]; omega)) (by (first | omega | decide | (dsimp only at *; omega))) (by decide)) ?_ | refine q_rd (wanted_none rfl) rfl rfl (rd_iaddrO1 rfl rfl rfl Tryd.underlying63 sz5 (show _ = (((i / 2) : Nat) : Int) by first | omega | (simp only [List.length_append, List.length_cons, List.length_nil]; omega)) (by (first | omega | decide | (dsimp only at *; omega)))) ?_ | refine q_rd (wanted_none rfl) rfl rfl (rd_iaddrO rfl rfl rfl Tryd.underlying63 sz5 (show _ = (((i / 2) : Nat) : Int) by first | omega | (simp only [List.length_append, List.length_cons, List.length_nil]; omega)) (by (first | omega | decide | (dsimp only at *; omega)))) ?_
          refine seq_md (wanted_none rfl) (m_store rfl rfl rfl rfl rfl sz5 rfl rfl (by first | decide | (first | omega | decide | (dsimp only at *; omega))) (byF (X.set (i / 2) (mixB (X.getD (i / 2) 0) (Lib.indexByte hexL (l.getD i 0))))) (fun j hj => upd_byte (mixB_int _ _) (by omega) j) rfl ?_)
          refine seq_nil ?_
          refine block_norm ?_
          refine then_norm ?_
          refine code_region ?_
          refine q_rd (wanted_none rfl) rfl rfl (rd_add rfl rfl rfl (wrap_id (k := .i64) (by show _ ∧ _; (first | omega | decide | (dsimp only at *; omega))))) ?_
          refine q_rd (wanted_none rfl) rfl rfl (rd_move (v := .c _) rfl rfl) ?_
          refine seq_nil ?_
          refine then_norm ?_
          refine ⟨(i + 1, X.set (i / 2) (mixB (X.getD (i / 2) 0) (Lib.indexByte hexL (l.getD i 0)))), ?_, ?_, by first | exact .refl | exact .nest .refl rfl rfl | exact .nest (.nest .refl rfl rfl) rfl rfl | exact .nest (.nest (.nest .refl rfl rfl) rfl rfl) rfl rfl | (repeat (first | exact .refl | refine .nest ?_ rfl rfl | refine BLe.look2 ?_ rfl)), rfl, ?_, by exact Nat.le_of_ble_eq_true rfl, ?_⟩
          · exact ⟨by omega, by simp [hXl], fun j hj => by
              by_cases e : j = i
              · subst e; omega
              · exact he j (by omega)⟩
          · show l.length - (i + 1) < l.length - i; omega
          · exact .cons (CEnt.int (by omega)) .nil
          · exact .same .nil
      · refine code_exit ?_
        refine then_exit ?_
        refine then_exit ?_
        refine block_exit rfl ?_
        refine then_norm ?_
        refine code_seq ?_
        refine code_region ?_
        first | refine q_rd (wanted_none rfl) rfl rfl (rd_move (v := bsC _) rfl rfl) ?_ | refine q_rd (wanted_none rfl) rfl rfl (rd_move (v := .rs _ _ _) rfl rfl) ?_ | refine q_rd (wanted_none rfl) rfl rfl (rd_move (v := .os _ _ _ _ _) rfl rfl) ?_ | refine q_rd (wanted_none rfl) rfl rfl (rd_move (v := .c _) rfl rfl) ?_ | refine q_rd (wanted_none rfl) rfl rfl (rd_move (v := .pv _) rfl rfl) ?_ | refine q_rd (wanted_none rfl) rfl rfl (rd_move (v := .top) rfl rfl) ?_
        first | refine q_rd (wanted_none rfl) rfl rfl (rd_assign (v := bsC _) rfl rfl) ?_ | refine q_rd (wanted_none rfl) rfl rfl (rd_assign (v := .rs _ _ _) rfl rfl) ?_ | refine q_rd (wanted_none rfl) rfl rfl (rd_assign (v := .os _ _ _ _ _) rfl rfl) ?_ | refine q_rd (wanted_none rfl) rfl rfl (rd_assign (v := .c _) rfl rfl) ?_ | refine q_rd (wanted_none rfl) rfl rfl (rd_assign (v := .pv _) rfl rfl) ?_ | refine q_rd (wanted_none rfl) rfl rfl (rd_assign (v := .top) rfl rfl) ?_
        first | refine q_rd (wanted_none rfl) rfl rfl (rd_assign (v := .err _) rfl rfl) ?_ | refine q_rd (wanted_none rfl) rfl rfl (rd_assign (v := .c _) rfl rfl) ?_ | refine q_rd (wanted_none rfl) rfl rfl (rd_assign (v := .pv _) rfl rfl) ?_ | refine q_rd (wanted_none rfl) rfl rfl (rd_assign (v := .top) rfl rfl) ?_
        refine seq_nil ?_
        refine then_norm ?_
        refine code_ret ?_
        refine end_val (.inl rfl) (res_2 rfl (arv_tmp rfl) (arv_tmp rfl)) ?_
        refine CEnt.tup2 (CEnt.top _) (CEnt.nilE ?_)
        have hall : hexOk l = true := by
          simp only [hexOk, Bool.and_eq_true, List.all_eq_true, decide_eq_true_eq]
          refine ⟨by omega, fun c hc => ?_⟩
          obtain ⟨j, hj, rfl⟩ := List.getElem_of_mem hc
          have := he j (by omega)
          simpa [List.getD, hj] using this
        rw [if_pos hall]
end Am
end Go.Proofs.YtoliiompofonlaaDoor
