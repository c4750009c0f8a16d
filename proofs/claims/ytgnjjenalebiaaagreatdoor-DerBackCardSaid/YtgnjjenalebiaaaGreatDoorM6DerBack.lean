/- What the law leans on, part 6: L08f, Open, Open2 -/
import Derived.Test.YtgnjjenalebiaaaGreatDoorM5DerBack
import Derived.ChangeArms
import Derived.ChangeOld
import Derived.OpenShut

/- Chapter 8: the law of values that are written and read back. -/
namespace Go.Proofs.YtgnjjenalebiaaaGreatDoor
set_option linter.unusedVariables false
namespace Am
variable {gs : List Nat} [Ok9 gs] [OkT gs]
open Go.RowKit Cal
set_option maxRecDepth 100000

def wB (vs : List VV) : W8 := ⟨[(48, rowsW vs)], [], 0⟩
set_option maxHeartbeats 4000000 in
theorem derBack_ac (vs : List VV) (hn : ∀ v ∈ vs, -9223372036854775808 ≤ v.n ∧ v.n ≤ 9223372036854775807) : ACp gs Tryz.prog 7 [vsC vs] (.c (.bool true)) := by
  refine ac_of 121 Tryz.func7 rfl rfl rfl (fun al w0 F0 St0 => ?_)
  refine jcr ?_
  refine jq jrm ?_
  refine seq_nil ?_
  refine jcs ?_
  refine jcr ?_
  refine jqe (jecP alive08_ac ?_)
  refine jq jrn ?_
  refine seq_nil ?_
  refine jcc (fun h154 => ?_) fun h154 => ?_
  · exfalso; simp at h154
  refine code_skip (jtn ?_)
  refine jcs ?_
  refine jcr ?_
  refine jq jrm ?_
  refine jqe (jecP (long08_ac vs) ?_)
  refine seq_nil ?_
  refine jcc (fun h157 => ?_) fun h157 => ?_
  · refine jcr ?_
    refine jq jrm ?_
    refine seq_nil ?_
    refine code_ret (jtr (jrt (hv := CEnt.refl _)))
  refine code_skip (jtn ?_)
  have hlg := long_not (vs := vs) (by simpa using h157)
  have hsm : ∀ v ∈ vs, SmallV v := fun v hv => ⟨hn _ hv, (hlg.2 _ hv).1, (hlg.2 _ hv).2⟩
  have hrl := rows_len hsm
  refine jcr ?_
  refine jq (rd_build (n := 3) rfl zr30 pl30 rfl rfl) ?_
  refine jqe (jebx 3 fun p1 => ?_)
  refine jq jrm ?_
  refine seq_nil ?_
  refine code_knowG (know_op 21 rfl) fun hnw => ?_
  obtain ⟨nw, rfl⟩ := hnw
  refine code_ent (newW nw 0 rfl (CEnt.refl _) (CEnt.refl _) CEnt.nil) ?_
  dsimp only [List.set_cons_zero, List.set_cons_succ, List.cons_append, List.nil_append, List.length_cons, List.length_nil, Nat.zero_add, Nat.reduceAdd]
  refine jcr ?_
  refine jq jrm ?_
  refine jqm (jmcH 0 (openW_ac nw w0W 48 ok0) ?_)
  rintro _ _ ⟨rfl, rfl⟩
  refine ⟨_, _, rfl, CEnt.refl _, ?_⟩
  refine seq_nil ?_
  refine jcr ?_
  refine jqe (jebl 0 5 zr43 fun p3 => ?_)
  refine jq jrm ?_
  refine seq_nil ?_
  refine jcs ?_
  refine jcr ?_
  refine jq jrm ?_
  refine jq jrl ?_
  refine jq jrm ?_
  refine seq_nil ?_
  refine code_block ?_
  refine l_loop (α := Nat × Option Nat) [4, 6, 7, 8, 9, 27, 28, 29, 30, 31, 32, 33, 34, 35, 36, 37, 38, 39, 40, 41, 42, 43, 44, 45, 46, 47, 48, 49, 50, 51, 52, 53, 54, 55, 56, 57, 58] (fun (i, g) => [(27, .c (.int .i64 (i : Nat))), (4, .os 1 g 0 ((vs.take i).filter goodV).length 5)]) (fun (i, g) => [wrO nw (wB (vs.take i)), (g, .blk (((vs.take i).filter goodV).length * 5) (rowF 5 valF VV.none ((vs.take i).filter goodV)))]) (fun p => p.1 ≤ vs.length) (fun p => vs.length - p.1) ((0, p3)) ?_ (fun _ => rfl) ?_ ?_ ?_
  · exact Nat.zero_le _
  · exact .cons (CEnt.refl _) (.cons (CEnt.refl _) .nil)
  · exact .same (.blk rfl (fun j hj => absurd hj (Nat.not_lt_zero j)) .nil)
  · rintro ⟨i, g⟩ (hi : i ≤ vs.length)
    show ACode _ _ _ ⟨[(27, .c (.int .i64 (i : Nat))), (4, .os 1 g 0 ((vs.take i).filter goodV).length 5)], _, [wrO nw (wB (vs.take i)), (g, .blk (((vs.take i).filter goodV).length * 5) (rowF 5 valF VV.none ((vs.take i).filter goodV)))]⟩ _
    have hfl : ((vs.take i).filter goodV).length ≤ 60 := by
      have h1 := List.length_filter_le goodV (vs.take i)
      rw [List.length_take] at h1
      omega
    refine jcr ?_
    refine jq jrc ?_
    refine seq_nil ?_
    refine jcs ?_
    refine jcc (fun h163 => ?_) fun h163 => ?_
    · refine code_skip (jtn ?_)
      refine jcs ?_
      refine code_block ?_
      refine jcr ?_
      refine jq jri ?_
      refine jq (jrdrA 5) ?_
      refine jqe (jeal (n := 5) zr43 rfl fun p4 => ?_)
      refine jqm (jmstF 5 (valF (vs.getD i VV.none)) ?_ ?_)
      · exact (fun j hj => by rcases j with _ | _ | _ | _ | _ | j <;> first | exact CEnt.refl _ | omega)
      refine seq_nil ?_
      refine jcs ?_
      have hF := filter_snoc (vs := vs) (i := i) (by omega)
      have hT := rows_take (vs := vs) (i := i) (by omega)
      have hmem : vs.getD i VV.none ∈ vs := by
        rw [List.getD_eq_getElem?_getD, List.getElem?_eq_getElem (by omega)]
        exact List.getElem_mem _
      have hsv := hsm _ hmem
      have hI1 := inv_do inv_zero hsv
      refine code_ent (freeze 2 rfl) ?_
      refine code_ent (thawP 6 (m := 5) rfl rfl (by decide)) ?_
      refine jcr ?_
      refine jq (jrfa 0 1 false) ?_
      refine jq jrdr ?_
      refine jq jrc ?_
      refine jq jrm ?_
      refine jqsp 34 (fun g164 => ?_) fun g164 => ?_
      · refine jqs ?_
        refine jqs ?_
        refine jqs ?_
        refine jq jrpT ?_
        refine seq_nil ?_
        refine jcT ?_
        refine code_exit (jte (jbx (jtn ?_)))
        refine jcg ?_
        refine jq jra ?_
        refine jq jrm ?_
        refine seq_nil ?_
        refine jtn ?_
        refine jlend ((i + 1, g)) ?_ ?_ (h5 := ?_) (h7 := ?_)
        · show i + 1 ≤ vs.length; omega
        · show vs.length - (i + 1) < vs.length - i; omega
        · first
          | exact .cons (CEnt.int (by omega)) (.cons (CEnt.osI (by show _ = ((vs.take (i + 1)).filter goodV).length; rw [hF, if_pos hgd] <;> simp)) .nil)
          | exact .cons (CEnt.int (by omega)) (.cons (CEnt.osI (by show _ = ((vs.take (i + 1)).filter goodV).length; rw [hF, if_neg (by rw [goodV_iff]; omega)])) .nil)
        · first
          | (show HEnt _ [wrO nw (wB (vs.take (i + 1))), (_, .blk (((vs.take (i + 1)).filter goodV).length * 5) (rowF 5 valF VV.none ((vs.take (i + 1)).filter goodV)))]; unfold wB; rw [hF, hT, if_pos hgd, if_pos hgd]; exact HEnt.refl _)
          | (show HEnt _ [wrO nw (wB (vs.take (i + 1))), (_, .blk (((vs.take (i + 1)).filter goodV).length * 5) (rowF 5 valF VV.none ((vs.take (i + 1)).filter goodV)))]; unfold wB; rw [hF, hT, if_neg (by rw [goodV_iff]; omega), if_neg (by rw [goodV_iff]; omega)]; exact HEnt.refl _)
      refine jq (jrfa 0 1 false) ?_
      refine jq jrdr ?_
      refine jq jrc ?_
      refine jq jrpF ?_
      refine seq_nil ?_
      refine jcc (fun h164 => ?_) fun h164 => ?_
      · refine code_exit (jte (jbx (jtn ?_)))
        refine jcg ?_
        refine jq jra ?_
        refine jq jrm ?_
        refine seq_nil ?_
        refine jtn ?_
        refine jlend ((i + 1, g)) ?_ ?_ (h5 := ?_) (h7 := ?_)
        · show i + 1 ≤ vs.length; omega
        · show vs.length - (i + 1) < vs.length - i; omega
        · first
          | exact .cons (CEnt.int (by omega)) (.cons (CEnt.osI (by show _ = ((vs.take (i + 1)).filter goodV).length; rw [hF, if_pos hgd] <;> simp)) .nil)
          | exact .cons (CEnt.int (by omega)) (.cons (CEnt.osI (by show _ = ((vs.take (i + 1)).filter goodV).length; rw [hF, if_neg (by rw [goodV_iff]; omega)])) .nil)
        · first
          | (show HEnt _ [wrO nw (wB (vs.take (i + 1))), (_, .blk (((vs.take (i + 1)).filter goodV).length * 5) (rowF 5 valF VV.none ((vs.take (i + 1)).filter goodV)))]; unfold wB; rw [hF, hT, if_pos hgd, if_pos hgd]; exact HEnt.refl _)
          | (show HEnt _ [wrO nw (wB (vs.take (i + 1))), (_, .blk (((vs.take (i + 1)).filter goodV).length * 5) (rowF 5 valF VV.none ((vs.take (i + 1)).filter goodV)))]; unfold wB; rw [hF, hT, if_neg (by rw [goodV_iff]; omega), if_neg (by rw [goodV_iff]; omega)]; exact HEnt.refl _)
      refine code_skip (jtn ?_)
      refine jcr ?_
      refine jq (rd_build (n := 3) rfl zr30 pl30 rfl rfl) ?_
      refine jqe (jebx 3 fun p5 => ?_)
      refine jq jrm ?_
      refine seq_nil ?_
      have hk1 : 3 ≤ (vs.getD i VV.none).kind ∧ (vs.getD i VV.none).kind ≤ 10 := by omega
      have hone := one_done hsv hk1
      refine code_knowG (know_op 40 rfl) fun hnn => ?_
      obtain ⟨nn, rfl⟩ := hnn
      refine code_ent (newW nn 3 rfl (CEnt.refl _) (CEnt.refl _) CEnt.nil) ?_
      show ACode _ _ _ ⟨_, _, [wrO nw (wB (vs.take i)), (g, .blk (((vs.take i).filter goodV).length * 5) (rowF 5 valF VV.none ((vs.take i).filter goodV))), (p4, .frz 5 (valF (vs.getD i VV.none))), wrO nn w0W]⟩ _
      refine jcr ?_
      refine jq jrm ?_
      refine jq (jrdrA 5) ?_
      refine jqm (jmcH 3 (put08_ac nn w0W (vs.getD i VV.none) ok0 hsv.ok) ?_)
      rintro _ _ ⟨rfl, rfl⟩
      refine ⟨_, _, rfl, CEnt.refl _, ?_⟩
      refine seq_nil ?_
      refine jcr ?_
      refine jq jrm ?_
      refine jqm (jmcH 3 (doneW_ac nn (doW (vs.getD i VV.none) w0W) (inv_okW hI1 (by decide))) ?_)
      rintro _ _ ⟨rfl, rfl⟩
      refine ⟨_, _, rfl, CEnt.refl _, ?_⟩
      refine jq jrm ?_
      refine jq jrx ?_
      refine jq jrx ?_
      refine jq jrm ?_
      refine jq jrm ?_
      refine seq_nil ?_
      refine jcr ?_
      refine jq jrm ?_
      refine jq jre ?_
      refine seq_nil ?_
      refine jcc (fun h169 => ?_) fun h169 => ?_
      rotate_left
      · refine code_skip (jbn (jtn ?_))
        refine jcg ?_
        refine jq jra ?_
        refine jq jrm ?_
        refine seq_nil ?_
        refine jtn ?_
        refine jlend ((i + 1, g)) ?_ ?_ (h5 := ?_) (h7 := ?_)
        · show i + 1 ≤ vs.length; omega
        · show vs.length - (i + 1) < vs.length - i; omega
        · first
          | exact .cons (CEnt.int (by omega)) (.cons (CEnt.osI (by show _ = ((vs.take (i + 1)).filter goodV).length; rw [hF, if_pos hgd] <;> simp)) .nil)
          | exact .cons (CEnt.int (by omega)) (.cons (CEnt.osI (by show _ = ((vs.take (i + 1)).filter goodV).length; rw [hF, if_neg (by rw [goodV_iff]; omega)])) .nil)
        · first
          | (show HEnt _ [wrO nw (wB (vs.take (i + 1))), (_, .blk (((vs.take (i + 1)).filter goodV).length * 5) (rowF 5 valF VV.none ((vs.take (i + 1)).filter goodV)))]; unfold wB; rw [hF, hT, if_pos hgd, if_pos hgd]; exact HEnt.refl _)
          | (show HEnt _ [wrO nw (wB (vs.take (i + 1))), (_, .blk (((vs.take (i + 1)).filter goodV).length * 5) (rowF 5 valF VV.none ((vs.take (i + 1)).filter goodV)))]; unfold wB; rw [hF, hT, if_neg (by rw [goodV_iff]; omega), if_neg (by rw [goodV_iff]; omega)]; exact HEnt.refl _)
      have hgd : goodV (vs.getD i VV.none) = true := goodV_iff.2 ⟨hk1, by omega⟩
      have hput := one_put hsv hgd (rowsW (vs.take i))
      refine jcr ?_
      refine jq jrm ?_
      refine jq (jrdrA 5) ?_
      refine jqm (jmcH 0 ((by have h := put08_ac (gs := gs) nw (wB (vs.take i)) (vs.getD i VV.none) (ok_rows hsm hlg.1 i) hsv.ok; unfold wB at h; rw [hput] at h; exact h)) ?_)
      rintro _ _ ⟨rfl, rfl⟩
      refine ⟨_, _, rfl, CEnt.refl _, ?_⟩
      refine seq_nil ?_
      refine jcg ?_
      refine jq jrm ?_
      refine jq (jrdrA 5) ?_
      refine jqe (jebl 5 5 zr43 fun p9 => ?_)
      refine jqm (m_appendC (rowC_row 5 valF VV.none) (l2 := [vs.getD i VV.none]) rfl rfl rfl rfl (by exact Nat.le_refl _) (fun _ _ => CEnt.refl _) (src_os rfl (.inl rfl) (by decide)) rfl (fun j hj => by rcases j with _|_|_|_|_|j <;> first | exact CEnt.refl _ | exact CEnt.int (by omega) | (exfalso; simp at hj <;> omega)) Tryz.underlying61 nu61 sz43 zr43 by43 rfl (by (simp; omega)) (by (simp; omega)) (leaf_flk rfl rfl) rfl rfl rfl (fun p10 => ?_))
      refine jq jrm ?_
      refine seq_nil ?_
      refine jbn (jtn ?_)
      refine jcg ?_
      refine jq jra ?_
      refine jq jrm ?_
      refine seq_nil ?_
      refine jtn ?_
      refine jlend ((i + 1, p10)) ?_ ?_ (h5 := ?_) (h7 := ?_)
      · show i + 1 ≤ vs.length; omega
      · show vs.length - (i + 1) < vs.length - i; omega
      · first
        | exact .cons (CEnt.int (by omega)) (.cons (CEnt.osI (by show _ = ((vs.take (i + 1)).filter goodV).length; rw [hF, if_pos hgd] <;> simp)) .nil)
        | exact .cons (CEnt.int (by omega)) (.cons (CEnt.osI (by show _ = ((vs.take (i + 1)).filter goodV).length; rw [hF, if_neg (by rw [goodV_iff]; omega)])) .nil)
      · first
        | (show HEnt _ [wrO nw (wB (vs.take (i + 1))), (_, .blk (((vs.take (i + 1)).filter goodV).length * 5) (rowF 5 valF VV.none ((vs.take (i + 1)).filter goodV)))]; unfold wB; rw [hF, hT, if_pos hgd, if_pos hgd]; exact HEnt.refl _)
        | (show HEnt _ [wrO nw (wB (vs.take (i + 1))), (_, .blk (((vs.take (i + 1)).filter goodV).length * 5) (rowF 5 valF VV.none ((vs.take (i + 1)).filter goodV)))]; unfold wB; rw [hF, hT, if_neg (by rw [goodV_iff]; omega), if_neg (by rw [goodV_iff]; omega)]; exact HEnt.refl _)
    refine code_exit (jte (jte (jbx (jtn ?_))))
    have hie : i = vs.length := by omega
    subst hie
    simp only [List.take_length]
    simp only [List.take_length] at hfl
    refine jcr ?_
    refine jq jrm ?_
    refine jqm (jmcH 0 ((by have h := closeW_ac (gs := gs) nw (wB vs) (by have h := ok_rows hsm hlg.1 vs.length; rw [List.take_length] at h; exact h); unfold wB at h; rw [(list_done hsm hlg.1).1] at h; exact h)) ?_)
    rintro _ _ ⟨rfl, rfl⟩
    refine ⟨_, _, rfl, CEnt.refl _, ?_⟩
    refine seq_nil ?_
    refine jcr ?_
    refine jq jrm ?_
    refine jqm (jmcH 0 ((by have h := doneW_ac (gs := gs) nw ⟨[], listB vs, 0⟩ ⟨by simp, fun _ h => (by cases h), by have := list_len hsm hlg.1; dsimp only; omega⟩; have e : doneB ⟨[], listB vs, 0⟩ = listB vs := (by unfold doneB; rw [if_pos (list_done hsm hlg.1).2]); rw [(list_done hsm hlg.1).2, e] at h; exact h)) ?_)
    rintro _ _ ⟨rfl, rfl⟩
    refine ⟨_, _, rfl, CEnt.refl _, ?_⟩
    refine jq jrm ?_
    refine jq jrx ?_
    refine jq jrx ?_
    refine jq jrm ?_
    refine jq jrm ?_
    refine seq_nil ?_
    refine jcs ?_
    refine jcr ?_
    refine jq jrm ?_
    refine jq jre ?_
    refine seq_nil ?_
    refine jcc (fun h176 => ?_) fun h176 => ?_
    · refine jcr ?_
      refine jq jrm ?_
      refine seq_nil ?_
      refine code_ret (jtr (jrt (hv := ?_)))
      exfalso
      omega
    refine code_skip (jtn ?_)
    have hll := list_len hsm hlg.1
    refine code_ent (freeze 1 rfl) ?_
    refine code_ent (thaw 4 (fun a b => valF ((vs.filter goodV).getD a VV.none) b) rfl rfl (by omega) (fun a b ha hb => CEnt.of_eq (by rw [Nat.zero_add, rowF_at hb]))) ?_
    obtain ⟨e1, e2, e3⟩ := back_enter hsm hlg.1
    have hgood : ∀ v ∈ vs.filter goodV, SmallV v ∧ goodV v = true := fun v hv => ⟨hsm _ (List.mem_filter.1 hv).1, (List.mem_filter.1 hv).2⟩
    generalize vs.filter goodV = ws at *
    have hwl := left_len (fun v hv => (hgood v hv).1) hfl
    refine jcr ?_
    refine jq jrm ?_
    refine jqe (jecS ((by have h := read08_ac (gs := gs) (listB vs) (by omega); rw [list_depth hsm hlg.1] at h; exact h)) ?_)
    rintro _ _ ⟨n3, rfl, rfl⟩
    refine jq jrm ?_
    refine seq_nil ?_
    refine jcs ?_
    refine jcr ?_
    refine jq jrm ?_
    refine jqm (jmcH 2 ((by have h := enter_ac (gs := gs) n3 [listB vs] 0 48 (by simp) (by show (listB vs).length ≤ _; omega); rw [e1, e2, e3] at h; exact h)) ?_)
    rintro _ _ ⟨rfl, rfl⟩
    refine ⟨_, _, rfl, CEnt.refl _, ?_⟩
    refine jq jrn ?_
    refine seq_nil ?_
    refine jcc (fun h180 => ?_) fun h180 => ?_
    · refine jcr ?_
      refine jq jrm ?_
      refine seq_nil ?_
      refine code_ret (jtr (jrt (hv := ?_)))
      exfalso
      simp_all
    refine code_skip (jtn ?_)
    refine jcs ?_
    refine jcr ?_
    refine jq jrm ?_
    refine jq jrl ?_
    refine jq jrm ?_
    refine seq_nil ?_
    refine code_block ?_
    refine l_loop (α := Nat) [2, 14, 15, 75, 76, 77, 78, 79, 80, 81, 82, 83, 84, 85, 86, 87, 88, 89, 90, 91, 92, 93, 94, 95, 96, 97, 98, 99, 100, 101, 102, 103, 104, 105, 106, 107, 108, 109, 110, 111, 112, 113, 114, 115] (fun j => [(75, .c (.int .i64 (j : Nat)))]) (fun j => [wrO nw ⟨[], listB vs, 0⟩, (g, .frz (ws.length * 5) (rowF 5 valF VV.none ws)), rdO n3 [[], leftB ws j] 0]) (fun j => j ≤ ws.length) (fun j => ws.length - j) (0) ?_ (fun _ => rfl) ?_ ?_ ?_
    · exact Nat.zero_le _
    · exact .cons (CEnt.refl _) .nil
    · exact HEnt.refl _
    · rintro j (hj : j ≤ ws.length)
      refine jcr ?_
      refine jq jrc ?_
      refine seq_nil ?_
      refine jcs ?_
      refine jcc (fun h183 => ?_) fun h183 => ?_
      rotate_left
      · refine code_exit (jte (jte (jbx (jtn ?_))))
        have hje : j = ws.length := by omega
        subst hje
        rw [left_end]
        refine jcr ?_
        refine jq jrm ?_
        refine jqm (jmcH 2 (leave_ac n3 [[], []] 0 (by simp)) ?_)
        rintro _ _ ⟨rfl, rfl⟩
        refine ⟨_, _, rfl, CEnt.refl _, ?_⟩
        refine seq_nil ?_
        rw [back_end.1, back_end.2.1]
        refine jcr ?_
        refine jq jrm ?_
        refine jqm (jmcH 2 (end08_ac n3 [[]] 0 (by simp)) ?_)
        rintro _ _ ⟨rfl, rfl⟩
        refine ⟨_, _, rfl, CEnt.refl _, ?_⟩
        refine jq jre ?_
        refine jq jrm ?_
        refine seq_nil ?_
        refine code_ret (jrt (hv := CEnt.bool (by rw [back_end.2.2]; rfl)))
      refine code_skip (jtn ?_)
      refine jcs ?_
      refine code_block ?_
      refine jcr ?_
      refine jq jri ?_
      refine jq (jrdrA 5) ?_
      refine jqe (jeal (n := 5) zr43 rfl fun p7 => ?_)
      refine jqm (jmstF 5 (valF (ws.getD j VV.none)) ?_ ?_)
      · exact (fun q hq => by rcases q with _ | _ | _ | _ | _ | q <;> first | exact CEnt.refl _ | omega)
      refine seq_nil ?_
      have hwm : ws.getD j VV.none ∈ ws := by
        rw [List.getD_eq_getElem?_getD, List.getElem?_eq_getElem (by omega)]
        exact List.getElem_mem _
      obtain ⟨hws, hwg⟩ := hgood _ hwm
      have hst := back_step hws hwg (leftB ws (j + 1))
      rw [← left_step (show j < ws.length by omega)] at hst
      obtain ⟨hs1, hs2, hs3⟩ := said_same hws hwg
      have hlj := hwl j
      generalize hx : (saidM (askV (ws.getD j VV.none)) (bodyV (ws.getD j VV.none)).2.1).1 = x at *
      refine code_ent (freeze 3 rfl) ?_
      refine code_ent (thawP 14 (m := 5) rfl rfl (by decide)) ?_
      refine jcr ?_
      refine jq jrm ?_
      refine jq (jrfa 0 1 false) ?_
      refine jq jrdr ?_
      refine jq (rd_build (n := 4) rfl zr54 pl54 rfl rfl) ?_
      refine jqm (jmcH 2 ((by have h := get08_ac (gs := gs) n3 [[], leftB ws j] 0 (askV (ws.getD j VV.none)) (by simp) (by show (leftB ws j).length ≤ _; omega); rw [hst] at h; exact h)) ?_)
      rintro _ _ ⟨rfl, rfl⟩
      refine ⟨_, _, rfl, CEnt.refl _, ?_⟩
      refine jqe (jeal (n := 5) zr43 rfl fun p9 => ?_)
      refine jqm (jmstF 5 (valF x) ?_ ?_)
      · exact (fun q hq => by rcases q with _ | _ | _ | _ | _ | q <;> first | exact CEnt.refl _ | omega)
      refine seq_nil ?_
      refine code_ent (freeze 4 rfl) ?_
      refine code_ent (thawP 15 (m := 5) rfl rfl (by decide)) ?_
      refine jcr ?_
      refine jq (jrfa 0 1 false) ?_
      refine jq jrdr ?_
      refine seq_nil ?_
      refine code_block ?_
      refine jcr ?_
      refine jq jrc ?_
      refine jq jrm ?_
      refine seq_nil ?_
      refine jcc (fun h186 => ?_) fun h186 => ?_
      · refine jcr ?_
        refine jq (jrfa 2 1 false) ?_
        refine jq jrdr ?_
        refine jq (jrfa 2 1 false) ?_
        refine jq jrdr ?_
        refine jq jrcb ?_
        refine seq_nil ?_
        refine jcc (fun h187 => ?_) fun h187 => ?_
        · refine jcr ?_
          refine jq jrm ?_
          refine seq_nil ?_
          refine code_ret (jbr (jbr (jtr (jtr (jbr (jtr (jrt (hv := ?_))))))))
          exfalso
          (have := hs3.1 (by omega); simp_all; done)
        refine code_skip (jbn (jbn (jtn ?_)))
        refine jcg ?_
        refine jq jra ?_
        refine jq jrm ?_
        refine seq_nil ?_
        refine jtn ?_
        refine jlend (j + 1) ?_ ?_ (h5 := ?_) (h7 := ?_)
        · show j + 1 ≤ ws.length; omega
        · show ws.length - (j + 1) < ws.length - j; omega
        · exact .cons (CEnt.int (by omega)) .nil
        · exact HEnt.refl _
      refine jcr ?_
      refine jq jrc ?_
      refine jq jrm ?_
      refine seq_nil ?_
      refine jcc (fun h190 => ?_) fun h190 => ?_
      · refine jcr ?_
        refine jq (jrfa 3 1 false) ?_
        refine jq jrdr ?_
        refine jq jrbs ?_
        refine jq (jrfa 3 1 false) ?_
        refine jq jrdr ?_
        refine jq jrbs ?_
        refine jq jrcs ?_
        refine seq_nil ?_
        refine jcc (fun h191 => ?_) fun h191 => ?_
        · refine jcr ?_
          refine jq jrm ?_
          refine seq_nil ?_
          refine code_ret (jbr (jbr (jtr (jtr (jbr (jtr (jrt (hv := ?_))))))))
          exfalso
          (have := hs3.2.1 (by omega); simp_all; done)
        refine code_skip (jbn (jbn (jtn ?_)))
        refine jcg ?_
        refine jq jra ?_
        refine jq jrm ?_
        refine seq_nil ?_
        refine jtn ?_
        refine jlend (j + 1) ?_ ?_ (h5 := ?_) (h7 := ?_)
        · show j + 1 ≤ ws.length; omega
        · show ws.length - (j + 1) < ws.length - j; omega
        · exact .cons (CEnt.int (by omega)) .nil
        · exact HEnt.refl _
      refine jcs ?_
      refine jcr ?_
      refine jq jrc ?_
      refine jq jrm ?_
      refine seq_nil ?_
      refine jcc (fun h194 => ?_) fun h194 => ?_
      · refine code_skip (jtn ?_)
        refine jcT ?_
        refine jcr ?_
        refine jq (jrfa 4 1 false) ?_
        refine jq jrdr ?_
        refine jq (jrfa 4 1 false) ?_
        refine jq jrdr ?_
        refine jq jrcs ?_
        refine seq_nil ?_
        refine jcc (fun h195 => ?_) fun h195 => ?_
        · refine jcr ?_
          refine jq jrm ?_
          refine seq_nil ?_
          refine code_ret (jbr (jbr (jtr (jtr (jbr (jtr (jrt (hv := ?_))))))))
          exfalso
          (have := hs3.2.2.1 (by omega); simp_all; done)
        refine code_skip (jbn (jbn (jtn ?_)))
        refine jcg ?_
        refine jq jra ?_
        refine jq jrm ?_
        refine seq_nil ?_
        refine jtn ?_
        refine jlend (j + 1) ?_ ?_ (h5 := ?_) (h7 := ?_)
        · show j + 1 ≤ ws.length; omega
        · show ws.length - (j + 1) < ws.length - j; omega
        · exact .cons (CEnt.int (by omega)) .nil
        · exact HEnt.refl _
      refine jcg ?_
      refine jq jrc ?_
      refine jq jrm ?_
      refine seq_nil ?_
      refine jtn ?_
      refine jcc (fun h194_2 => ?_) fun h194_2 => ?_
      · refine jcr ?_
        refine jq (jrfa 4 1 false) ?_
        refine jq jrdr ?_
        refine jq (jrfa 4 1 false) ?_
        refine jq jrdr ?_
        refine jq jrcs ?_
        refine seq_nil ?_
        refine jcc (fun h195 => ?_) fun h195 => ?_
        · refine jcr ?_
          refine jq jrm ?_
          refine seq_nil ?_
          refine code_ret (jbr (jbr (jtr (jtr (jbr (jtr (jrt (hv := ?_))))))))
          exfalso
          (have := hs3.2.2.1 (by omega); simp_all; done)
        refine code_skip (jbn (jbn (jtn ?_)))
        refine jcg ?_
        refine jq jra ?_
        refine jq jrm ?_
        refine seq_nil ?_
        refine jtn ?_
        refine jlend (j + 1) ?_ ?_ (h5 := ?_) (h7 := ?_)
        · show j + 1 ≤ ws.length; omega
        · show ws.length - (j + 1) < ws.length - j; omega
        · exact .cons (CEnt.int (by omega)) .nil
        · exact HEnt.refl _
      refine jcr ?_
      refine jq (jrfa 1 1 false) ?_
      refine jq jrdr ?_
      refine jq (jrfa 1 1 false) ?_
      refine jq jrdr ?_
      refine jq jrc ?_
      refine seq_nil ?_
      refine jcc (fun h199 => ?_) fun h199 => ?_
      · refine jcr ?_
        refine jq jrm ?_
        refine seq_nil ?_
        refine code_ret (jbr (jbr (jtr (jtr (jbr (jtr (jrt (hv := ?_))))))))
        exfalso
        (have := hs3.2.2.2 (by have := (goodV_iff.1 hwg).1; omega); simp_all; done)
      refine code_skip (jbn (jbn (jtn ?_)))
      refine jcg ?_
      refine jq jra ?_
      refine jq jrm ?_
      refine seq_nil ?_
      refine jtn ?_
      refine jlend (j + 1) ?_ ?_ (h5 := ?_) (h7 := ?_)
      · show j + 1 ≤ ws.length; omega
      · show ws.length - (j + 1) < ws.length - j; omega
      · exact .cons (CEnt.int (by omega)) .nil
      · exact HEnt.refl _
end Am
end Go.Proofs.YtgnjjenalebiaaaGreatDoor

/- Arguments that come in, by their types: from 'trod' to plain words. -/
namespace Go.Proofs.YtgnjjenalebiaaaGreatDoor
set_option linter.unusedVariables false
open Go.RowKit Go.ChangeShapes
namespace Am
/-- values of type t lie in k cells and read as E x for an x with φ -/
def Opens (P : Program) (t : TypeId) (k : Nat) (D : Type) (φ : D → Prop) (E : D → Nat → CV) : Prop :=
  ∀ (H : Type) (enc : TypeId × Value → H) (W : World) (fuel : Nat) (cs : List Value) (y : DataW H × List MemPlace), DataW.trod enc P W 0 (fun _ => true) true fuel t cs = some y →
    cs.length = k ∧ ∃ x : D, φ x ∧ ∀ al j, j < k → RepC al (fun b => b < W.heap.size) W (E x j) (cs.getD j undef)
section
variable {P : Program} {t : TypeId}
theorem one_cell {al : List Addr} {W : World} {St : Nat → Prop} {c : Nat → CV} {v : Value} (h : RepC al St W (c 0) v) : ∀ j, j < 1 → RepC al St W (c j) ([v].getD j undef) := fun j hj => by
  obtain rfl : j = 0 := by omega
  exact h
theorem opens_i64 (hu : P.underlying t = some (.int .i64)) : Opens P t 1 Int (fun z => -9223372036854775808 ≤ z ∧ z ≤ 9223372036854775807) (fun z _ => .c (.int .i64 z)) := fun H enc W fuel cs y h => by
  obtain ⟨n, rfl, _, hw⟩ := DataW.trod_int hu h
  exact ⟨rfl, n, bounds_i64 hw, fun al => one_cell rfl⟩
theorem opens_u8 (hu : P.underlying t = some (.int .u8)) : Opens P t 1 UInt8 (fun _ => True) (fun z _ => .c (.int .u8 (z.toNat : Nat))) := fun H enc W fuel cs y h => by
  obtain ⟨n, rfl, _, hw⟩ := DataW.trod_int hu h
  have hb := bounds_u8 hw
  refine ⟨rfl, UInt8.ofNat n.toNat, trivial, fun al => one_cell ?_⟩
  show Value.int .u8 n = .int .u8 ((UInt8.ofNat n.toNat).toNat : Nat)
  rw [UInt8.toNat_ofNat']
  congr 1
  omega
theorem opens_bool (hu : P.underlying t = some .bool) : Opens P t 1 Bool (fun _ => True) (fun z _ => .c (.bool z)) := fun H enc W fuel cs y h => by
  obtain ⟨n, rfl, _⟩ := DataW.trod_bool hu h
  exact ⟨rfl, n, trivial, fun al => one_cell rfl⟩
theorem opens_slice {e : TypeId} {k : Nat} {D : Type} {φ : D → Prop} {E : D → Nat → CV} (d0 : D) (ho : Opens P e k D φ E) (hu : P.underlying t = some (.slice e)) (hk : P.cellsOf e = k) (hk0 : 0 < k) :
    Opens P t 1 (List D) (fun l => l.length ≤ maxLen ∧ ∀ x ∈ l, φ x) (fun l _ => .rs k l.length fun i j => E (l.getD i d0) j) := fun H enc W fuel cs y h => by
  rcases DataW.trod_slice hu h with ⟨rfl, _⟩ | ⟨a, len, cap, elems, rest, n, _, rfl, _, _, hle, hm, hl, hel, _⟩
  · exact ⟨rfl, [], ⟨by simp, by simp⟩, fun al => one_cell ⟨none, 0, rfl, Nat.le_refl _, by decide, fun _ => rfl, fun _ h => by cases h⟩⟩
  · refine ⟨rfl, ?_⟩
    subst hk
    have key : ∀ i, ∃ x : D, i < len → φ x ∧ ∀ al j, j < P.cellsOf e → ∃ v, W.cell? (a.add (i * P.cellsOf e + j)) = some v ∧ RepC al (fun b => b < W.heap.size) W (E x j) v := fun i => by
      by_cases hi : i < len
      · have h1 := hel i hi
        rw [List.getElem?_eq_getElem (by omega)] at h1
        obtain ⟨cs, h2, h3⟩ := Option.bind_eq_some_iff.1 h1
        obtain ⟨_, h4, h5⟩ := World.cells?_some h2
        obtain ⟨_, x, hx, hr⟩ := ho H enc W n cs _ h3
        refine ⟨x, fun _ => ⟨hx, fun al j hj => ⟨cs.getD j undef, ?_, hr al j hj⟩⟩⟩
        have := h5 j hj
        rw [Addr.add_add] at this
        rw [this]
        simp [h4, hj]
      · exact ⟨d0, fun h => absurd h hi⟩
    obtain ⟨F, hF⟩ : ∃ F : Nat → D, ∀ i, i < len → φ (F i) ∧ ∀ al j, j < P.cellsOf e → ∃ v, W.cell? (a.add (i * P.cellsOf e + j)) = some v ∧ RepC al (fun b => b < W.heap.size) W (E (F i) j) v :=
      ⟨fun i => (key i).choose, fun i hi => (key i).choose_spec hi⟩
    have hm' : cap ≤ 9223372036854775807 := by unfold maxLen at hm; omega
    refine ⟨(List.range len).map F, ⟨by simp; omega, by simp only [List.mem_map, List.mem_range]; rintro x ⟨i, hi, rfl⟩; exact (hF i hi).1⟩, fun al => one_cell ?_⟩
    refine ⟨some a, cap, by simp, by simpa using hle, hm', by simp, fun b hb hn => ?_⟩
    cases hb
    simp at hn
    obtain ⟨v0, hv0, _⟩ := (hF 0 hn).2 al 0 hk0
    have hsp : a.spot = none := by
      have := World.cell?_spot hv0
      obtain ⟨b, o, sp⟩ := a
      simpa [Addr.add] using this
    refine ⟨hsp, ?_, fun i j hi hj => ?_⟩
    · have := World.block_lt_of_cell? W _ hv0
      obtain ⟨b, o, sp⟩ := a
      simpa [Addr.add] using this
    · simp at hi
      obtain ⟨v, hv, hr⟩ := (hF i hi).2 al j hj
      refine ⟨v, ?_, by simpa [List.getD, hi] using hr⟩
      obtain ⟨b, o, sp⟩ := a
      simp only at hsp
      subst hsp
      rwa [Addr.add_lit] at hv
/-- fields, one behind the other -/
def OpensF (P : Program) (fs : List Field) (D : Type) (φ : D → Prop) (E : D → Nat → CV) (C : Nat → Bool) : Prop :=
  ∀ (H : Type) (enc : TypeId × Value → H) (W : World) (cs : List Value), (∀ f ∈ fs, ∃ n y, DataW.trod enc P W 0 (fun _ => true) true n f.type ((cs.drop f.offset).take (P.cellsOf f.type)) = some y) →
    ∃ x : D, φ x ∧ ∀ al j, C j = true → RepC al (fun b => b < W.heap.size) W (E x j) (cs.getD j undef)
theorem opensF_nil : OpensF P [] Unit (fun _ => True) (fun _ _ => .top) (fun _ => false) := fun H enc W cs _ => ⟨(), trivial, fun al j h => by cases h⟩
theorem opensF_cons {f : Field} {fs : List Field} {k : Nat} {D1 D2 : Type} {φ1 : D1 → Prop} {φ2 : D2 → Prop} {E1 : D1 → Nat → CV} {E2 : D2 → Nat → CV} {C2 : Nat → Bool} (h1 : Opens P f.type k D1 φ1 E1) (h2 : OpensF P fs D2 φ2 E2 C2) :
    OpensF P (f :: fs) (D1 × D2) (fun x => φ1 x.1 ∧ φ2 x.2) (fun x j => match Nat.ble f.offset j && Nat.blt j (f.offset + k) with | true => E1 x.1 (j - f.offset) | false => E2 x.2 j) (fun j => (Nat.ble f.offset j && Nat.blt j (f.offset + k)) || C2 j) := fun H enc W cs h => by
  obtain ⟨n, y, hy⟩ := h f (List.mem_cons_self ..)
  obtain ⟨hl, x1, p1, r1⟩ := h1 H enc W n _ y hy
  obtain ⟨x2, p2, r2⟩ := h2 H enc W cs fun g hg => h g (List.mem_cons_of_mem _ hg)
  refine ⟨(x1, x2), ⟨p1, p2⟩, fun al j hj => ?_⟩
  cases hb : Nat.ble f.offset j && Nat.blt j (f.offset + k) with
  | true =>
    have hb0 := hb
    simp only [Bool.and_eq_true] at hb
    have b1 : f.offset ≤ j := Nat.le_of_ble_eq_true hb.1
    have b2 : j < f.offset + k := Nat.le_of_ble_eq_true hb.2
    have := r1 al (j - f.offset) (by omega)
    simp only [List.length_take, List.length_drop] at hl
    rw [List.getD_eq_getElem?_getD, List.getElem?_take, if_pos (by omega), List.getElem?_drop, show f.offset + (j - f.offset) = j by omega, ← List.getD_eq_getElem?_getD] at this
    simp only [hb0]
    exact this
  | false =>
    simp only [hb, Bool.false_or] at hj
    simp only [hb]
    exact r2 al j hj
theorem opens_struct {fs : Array Field} {n : Nat} {D : Type} {φ : D → Prop} {E : D → Nat → CV} {C : Nat → Bool} (hu : P.underlying t = some (.struct fs)) (hn : P.cellsOf t = n) (ho : OpensF P fs.toList D φ E C) (hC : (List.range n).all C = true) : Opens P t n D φ E := fun H enc W fuel cs y h => by
  obtain ⟨xs, m, _, _, hl, hlen, hf⟩ := DataW.trod_struct hu h
  obtain ⟨x, hx, hr⟩ := ho H enc W cs fun f hf' => by
    obtain ⟨i, hi⟩ := List.mem_iff_getElem?.1 hf'
    rw [Array.getElem?_toList] at hi
    have := hf i f hi
    have hlt : i < xs.length := by rw [hlen]; exact (Array.getElem?_eq_some_iff.1 hi).1
    rw [List.getElem?_eq_getElem hlt] at this
    exact ⟨m, _, this⟩
  exact ⟨hl.trans hn, x, hx, fun al j hj => hr al j (List.all_eq_true.1 hC j (List.mem_range.2 hj))⟩
theorem arg_one {D : Type} {φ : D → Prop} {E : D → Nat → CV} (ho : Opens P t 1 D φ E) {H : Type} {enc : TypeId × Value → H} {W : World} {v : Value} {d : DataW H} {p : List MemPlace} (hv : v.cells = #[v]) (h : DataW.Trod enc P W 0 (fun _ => true) true t v d p) :
    ∃ x : D, φ x ∧ ∀ al, RepC al (fun b => b < W.heap.size) W (E x 0) v := by
  obtain ⟨fuel, hf⟩ := h
  obtain ⟨_, x, hx, hr⟩ := ho H enc W fuel _ _ hf
  refine ⟨x, hx, fun al => ?_⟩
  have := hr al 0 (by decide)
  rw [hv] at this
  exact this
end
end Am
end Go.Proofs.YtgnjjenalebiaaaGreatDoor

/- Arguments that come in: texts as lists; lists in other words. -/
namespace Go.Proofs.YtgnjjenalebiaaaGreatDoor
set_option linter.unusedVariables false
open Go.RowKit Go.ChangeShapes
namespace Am
theorem opens_strL {P : Program} {t : TypeId} (hu : P.underlying t = some .string) : Opens P t 1 (List UInt8) (fun s => s.length ≤ maxLen) (fun z _ => strC z) := fun H enc W fuel cs y h => by
  obtain ⟨n, rfl, _, hs⟩ := DataW.trod_string hu h
  obtain ⟨l, rfl⟩ := ba_list n
  exact ⟨rfl, l, hs, fun al => one_cell rfl⟩
theorem map_getD {α β : Type} (f : α → β) (l : List α) {i : Nat} (d0 : α) (d1 : β) (h : i < l.length) : (l.map f).getD i d1 = f (l.getD i d0) := by simp [List.getD, h]
end Am
end Go.Proofs.YtgnjjenalebiaaaGreatDoor
