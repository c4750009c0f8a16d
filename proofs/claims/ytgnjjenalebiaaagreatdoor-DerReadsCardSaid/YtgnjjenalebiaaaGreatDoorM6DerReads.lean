/- What the law leans on, part 6: W08q, W08r, W08s, W08t, W08z, W08za, L08r, W05i, W08sb, W05r, L08e, Open, Open2 -/
import Derived.Test.YtgnjjenalebiaaaGreatDoorM5DerReads
import Derived.ChangeArms
import Derived.ChangeOld
import Derived.OpenShut

/- Chapter 8: the reference's reader. -/
namespace Go.Proofs.YtgnjjenalebiaaaGreatDoor
set_option linter.unusedVariables false
namespace Am
variable {gs : List Nat} [OkG gs]
open Go.RowKit Cal
set_option maxRecDepth 100000

/-- the reference's reader -/
def rqF (l : List (List UInt8)) (k : Nat) : Nat → CV := fl [lbC l, .c (.int .i64 (k : Nat))]
def rqE (n : Nat) (l : List (List UInt8)) (k : Nat) : Option Nat × Res := (some n, .blk 2 (rqF l k))
theorem rread08_ac {gs : List Nat} (b : List UInt8) (hb : b.length ≤ 1000000) : AC gs Tryz.prog 17 [] [bsC b] (fun r H' => ∃ n, r = .op 0 (some n) 0 ∧ H' = [rqE n [b] (depthM b).2]) := by
  refine ac_of 15 Tryz.func17 rfl rfl rfl (fun al w0 F0 St0 => ?_)
  refine jcr ?_
  refine jq jrm ?_
  refine seq_nil ?_
  refine jcr ?_
  refine jq jrm ?_
  refine jqe (jecP (rcheck_ac b hb) ?_)
  refine jq jrm ?_
  refine jq jrx ?_
  refine jq jrx ?_
  refine jq jrm ?_
  refine jq jrm ?_
  refine seq_nil ?_
  refine jcr ?_
  refine jq jrm ?_
  refine jqe (jebl 1 1 zr26 fun p1 => ?_)
  refine jq jrm ?_
  refine jq (rd_build (n := 2) rfl zr58 pl58 rfl rfl) ?_
  refine jqe (jebx 2 fun p2 => ?_)
  refine jq jrm ?_
  refine seq_nil ?_
  refine code_knowG (know_op 2 rfl) fun hn => ?_
  obtain ⟨n, rfl⟩ := hn
  refine code_ent (freeze 0 rfl) ?_
  refine code_ent (thawC 1 0 0 (rqF [b] (depthM b).2) (fun i _ => bsC ([b].getD i [])) rfl rfl (CEnt.refl _) (CEnt.refl _) (fun j hj h0 => by rcases j with _ | _ | j <;> first | omega | exact CEnt.refl _) (by simp) (fun a c ha hc => by obtain rfl : a = 0 := (by simpa using ha); obtain rfl : c = 0 := (by omega); exact CEnt.refl _)) ?_
  refine code_ret ?_
  exact end_ownV (.inl rfl) [1] (by decide) rfl (res_1 rfl (arv_tmp rfl)) (CEnt.opI (j := 0)) ⟨n, rfl, rfl⟩
theorem rmore08_ac {gs : List Nat} (n : Nat) (l : List (List UInt8)) (k : Nat) (hl : 0 < l.length ∧ l.length ≤ 1000000) : AC gs Tryz.prog 21 [rqE n l k] [.op 0 (some n) 0] (fun r H' => r = .c (.bool (moreM l k)) ∧ H' = [rqE n l k]) := by
  refine ac_of 24 Tryz.func21 rfl rfl rfl (fun al w0 F0 St0 => ?_)
  refine jcr ?_
  refine jq jrm ?_
  refine seq_nil ?_
  refine jcs ?_
  refine jcd (.rd 0 (.rd 1 (.rd 2 (.rd 3 (.rd 4 (.rd 5 (.rd 6 (.rd 7 (.rd 8 (.rd 9 (.rd 10 (.rd 11 (.rd 12 (.rd 13 (.rd 14 (.rd 15 (.rd 16 (.rd 17 (.rd 18 (.rd 19 (.rd 20 (.rd 21 .done)))))))))))))))))))))) ?_
  refine jyq jrm ?_
  refine jyq jrnc ?_
  refine jyq (jrfa 1 1 false) ?_
  refine jyo jrdo ?_
  refine jyq jrc ?_
  refine jyq jrm ?_
  refine jysp 8 (fun g182 => ?_) fun g182 => ?_
  · refine jyq jrm ?_
    refine jyq jrnc ?_
    refine jyq (jrfa 0 1 false) ?_
    refine jyo jrdo ?_
    refine jyq jrm ?_
    refine jyq jrnc ?_
    refine jyq (jrfa 0 1 false) ?_
    refine jyo jrdo ?_
    refine jyq jrl ?_
    refine jyq jra ?_
    refine jyq (jri (i := (l.length - 1)) (hz := by omega)) ?_
    refine jyq jrdr ?_
    refine jyq jrl ?_
    refine jyq jrc ?_
    refine jyq jrpT ?_
    refine jyq jrm ?_
    refine jyd ?_
    refine jtn ?_
    refine code_ret ?_
    exact end_H (.inl rfl) rfl (res_1 rfl (arv_tmp rfl)) (CEnt.bool (by unfold moreM nowL; (simp [g182]; omega)))
  refine jys ?_
  refine jys ?_
  refine jys ?_
  refine jys ?_
  refine jys ?_
  refine jys ?_
  refine jys ?_
  refine jys ?_
  refine jys ?_
  refine jys ?_
  refine jys ?_
  refine jys ?_
  refine jys ?_
  refine jys ?_
  refine jyq jrpF ?_
  refine jyq jrm ?_
  refine jyd ?_
  refine jtn ?_
  refine code_ret ?_
  exact end_H (.inl rfl) rfl (res_1 rfl (arv_tmp rfl)) (CEnt.bool (by unfold moreM nowL; (simp [g182]; omega)))
theorem rpeek08_ac {gs : List Nat} (n : Nat) (l : List (List UInt8)) (k : Nat) (hl : 0 < l.length ∧ l.length ≤ 1000000) : AC gs Tryz.prog 32 [rqE n l k] [.op 0 (some n) 0] (fun r H' => r = .c (.int .i64 (if moreM l k = true then ((nowL l).getD 0 0).toNat else 0 : Nat)) ∧ H' = [rqE n l k]) := by
  refine ac_of 21 Tryz.func32 rfl rfl rfl (fun al w0 F0 St0 => ?_)
  refine jcr ?_
  refine jq jrm ?_
  refine seq_nil ?_
  refine jcs ?_
  refine jcr ?_
  refine jq jrm ?_
  refine jqm (jmcH 0 (rmore08_ac n l k hl) ?_)
  rintro _ _ ⟨rfl, rfl⟩
  refine ⟨_, _, rfl, CEnt.refl _, ?_⟩
  refine jq jrn ?_
  refine seq_nil ?_
  refine jcc (fun h185 => ?_) fun h185 => ?_
  · refine jcr ?_
    refine jq jrm ?_
    refine seq_nil ?_
    refine code_ret (jtr ?_)
    rw [if_neg (by simpa using h185)]
    exact end_H (.inl rfl) rfl (res_1 rfl (arv_tmp rfl)) (CEnt.refl _)
  refine code_skip (jtn ?_)
  refine jcs ?_
  obtain ⟨hk, hp⟩ := more_pos (l := l) (k := k) (by simpa using h185)
  unfold nowL at hp
  refine jcd (.rd 0 (.rd 1 (.rd 2 (.rd 3 (.rd 4 (.rd 5 (.rd 6 (.rd 7 (.rd 8 (.rd 9 (.rd 10 (.rd 11 (.rd 12 (.rd 13 (.rd 14 (.rd 15 .done)))))))))))))))) ?_
  refine jyq jrm ?_
  refine jyq jrnc ?_
  refine jyq (jrfa 0 1 false) ?_
  refine jyo jrdo ?_
  refine jyq jrm ?_
  refine jyq jrnc ?_
  refine jyq (jrfa 0 1 false) ?_
  refine jyo jrdo ?_
  refine jyq jrl ?_
  refine jyq jra ?_
  refine jyq (jri (i := (l.length - 1)) (hz := by omega)) ?_
  refine jyq jrdr ?_
  refine jyq (jri (i := 0)) ?_
  refine jyq jrdr ?_
  refine jyq (jrv8 .i64) ?_
  refine jyq jrm ?_
  refine jyd ?_
  refine jtn ?_
  refine code_ret ?_
  rw [if_pos (by simpa using h185)]
  exact end_H (.inl rfl) rfl (res_1 rfl (arv_tmp rfl)) (CEnt.refl _)
theorem rend08_ac {gs : List Nat} (n : Nat) (l : List (List UInt8)) (k : Nat) (hl : 0 < l.length ∧ l.length ≤ 1000000) : AC gs Tryz.prog 34 [rqE n l k] [.op 0 (some n) 0] (fun r H' => r = .c (.int .i64 (endK l k : Nat)) ∧ H' = [rqE n l k]) := by
  refine ac_of 26 Tryz.func34 rfl rfl rfl (fun al w0 F0 St0 => ?_)
  refine jcr ?_
  refine jq jrm ?_
  refine seq_nil ?_
  refine jcs ?_
  refine jcr ?_
  refine jq jrm ?_
  refine jq jrnc ?_
  refine jq (jrfa 1 1 false) ?_
  refine jqo jrdo ?_
  refine jq jrc ?_
  refine seq_nil ?_
  refine jcc (fun h286 => ?_) fun h286 => ?_
  · refine jcr ?_
    refine jq jrm ?_
    refine jq jrnc ?_
    refine jq (jrfa 1 1 false) ?_
    refine jqo jrdo ?_
    refine jq jrm ?_
    refine seq_nil ?_
    refine code_ret (jtr ?_)
    exact end_H (.inl rfl) rfl (res_1 rfl (arv_tmp rfl)) (CEnt.int (by unfold endK; rw [if_pos (by omega)]))
  refine code_skip (jtn ?_)
  refine jcs ?_
  refine jcr ?_
  refine jq jrm ?_
  refine jq jrnc ?_
  refine jq (jrfa 0 1 false) ?_
  refine jqo jrdo ?_
  refine jq jrl ?_
  refine jq jrc ?_
  refine seq_nil ?_
  refine jcc (fun h289 => ?_) fun h289 => ?_
  · refine jcr ?_
    refine jq jrm ?_
    refine seq_nil ?_
    refine code_ret (jtr ?_)
    exact end_H (.inl rfl) rfl (res_1 rfl (arv_tmp rfl)) (CEnt.int (by unfold endK; rw [if_neg (by omega), if_pos (by omega)]; rfl))
  refine code_skip (jtn ?_)
  refine jcs ?_
  refine jcr ?_
  refine jq jrm ?_
  refine jq jrnc ?_
  refine jq (jrfa 0 1 false) ?_
  refine jqo jrdo ?_
  refine jq (jri (i := 0)) ?_
  refine jq jrdr ?_
  refine jq jrl ?_
  refine jq jrc ?_
  refine seq_nil ?_
  refine jcc (fun h292 => ?_) fun h292 => ?_
  · refine jcr ?_
    refine jq jrm ?_
    refine seq_nil ?_
    refine code_ret (jtr ?_)
    exact end_H (.inl rfl) rfl (res_1 rfl (arv_tmp rfl)) (CEnt.int (by unfold endK; rw [if_neg (by omega), if_neg (by omega), if_pos (by omega)]; rfl))
  refine code_skip (jtn ?_)
  refine jcr ?_
  refine jq jrm ?_
  refine seq_nil ?_
  refine code_ret ?_
  exact end_H (.inl rfl) rfl (res_1 rfl (arv_tmp rfl)) (CEnt.int (by unfold endK; rw [if_neg (by omega), if_neg (by omega), if_neg (by omega)]; rfl))
end Am
end Go.Proofs.YtgnjjenalebiaaaGreatDoor

/- Chapter 8: the reference's reader: next. -/
namespace Go.Proofs.YtgnjjenalebiaaaGreatDoor
set_option linter.unusedVariables false
namespace Am
variable {gs : List Nat} [OkG gs]
open Go.RowKit Cal
set_option maxRecDepth 100000

theorem lb_take8 {l : List (List UInt8)} {m j : Nat} (h : j < (l.take m).length) : bsC (l.getD (0 + j / 1) []) = lbF (l.take m) j := by
  rw [Nat.zero_add, Nat.div_one]
  rw [List.length_take] at h
  simp [lbF, List.getD_eq_getElem?_getD, List.getElem?_take, show j < m by omega]
theorem lset {l : List (List UInt8)} (h : 0 < l.length) (x : List UInt8) : l.set (l.length - 1) x = l.take (l.length - 1) ++ [x] := by
  apply List.ext_getElem?
  intro i
  rw [List.getElem?_set, List.getElem?_append, List.length_take]
  by_cases h1 : l.length - 1 = i
  · subst h1
    rw [if_pos rfl, if_pos (by omega), if_neg (by omega)]
    simp
  · rw [if_neg h1]
    by_cases h2 : i < l.length - 1
    · rw [if_pos (by omega), List.getElem?_take, if_pos h2]
    · rw [if_neg (by omega), List.getElem?_eq_none (by omega), List.getElem?_eq_none (by simp; omega)]
theorem rnext08_ac {gs : List Nat} (n : Nat) (l : List (List UInt8)) (k : Nat) (tag : Int) (hl : 0 < l.length ∧ l.length ≤ 1000000) (hb : (nowL l).length ≤ 1000000) : AC gs Tryz.prog 53 [rqE n l k] [.op 0 (some n) 0, .c (.int .i64 tag)]
    (fun r H' => r = .tup 3 (fl [bsC (nextR tag l k).body, bsC (nextR tag l k).raw, .c (.bool (nextR tag l k).is)]) ∧ H' = [rqE n (nextR tag l k).l (nextR tag l k).k]) := by
  have hnb := nextM_bd (nowL l)
  refine ac_of 81 Tryz.func53 rfl rfl rfl (fun al w0 F0 St0 => ?_)
  refine jcr ?_
  refine jq jrm ?_
  refine jq jrm ?_
  refine jq jrm ?_
  refine seq_nil ?_
  refine jcs ?_
  refine jcr ?_
  refine jq jrm ?_
  refine jq jrnc ?_
  refine jq (jrfa 1 1 false) ?_
  refine jqo jrdo ?_
  refine jq jrc ?_
  refine seq_nil ?_
  refine jcc (fun h165 => ?_) fun h165 => ?_
  · refine jcr ?_
    refine jq jrm ?_
    refine jq jrm ?_
    refine jq jrm ?_
    refine seq_nil ?_
    refine code_ret (jtr ?_)
    have hN : nextR tag l k = ⟨l, k, 0, [], [], false⟩ := by unfold nextR; rw [if_pos (by omega)]
    rw [hN]
    exact end_H (.inl rfl) rfl (res_3 rfl javt javt javt) (CEnt.tup3 CEnt.nilB CEnt.nilB (CEnt.refl _))
  refine code_skip (jtn ?_)
  refine jcs ?_
  refine jcd (.rd 0 (.rd 1 (.rd 2 (.rd 3 (.rd 4 (.rd 5 (.rd 6 (.rd 7 (.rd 8 (.rd 9 (.rd 10 (.rd 11 (.rd 12 .done))))))))))))) ?_
  refine jyq jrm ?_
  refine jyq jrnc ?_
  refine jyq (jrfa 0 1 false) ?_
  refine jyo jrdo ?_
  refine jyq jrm ?_
  refine jyq jrnc ?_
  refine jyq (jrfa 0 1 false) ?_
  refine jyo jrdo ?_
  refine jyq jrl ?_
  refine jyq jra ?_
  refine jyq (jri (i := (l.length - 1)) (hz := by omega)) ?_
  refine jyq jrdr ?_
  refine jyq jrm ?_
  refine jyd ?_
  refine jtn ?_
  obtain rfl : k = 0 := by omega
  refine code_ent (weaken 7 (bsC (nowL l)) (CEnt.refl _)) ?_
  refine jcr ?_
  refine jq jrm ?_
  refine jqe (jecP (rnext_ac (nowL l) (by omega)) ?_)
  refine jq jrm ?_
  refine jq jrx ?_
  refine jq jrx ?_
  refine jq jrx ?_
  refine jq jrx ?_
  refine jq jrm ?_
  refine jq jrm ?_
  refine jq jrm ?_
  refine jq jrm ?_
  refine seq_nil ?_
  refine jcs ?_
  refine jcr ?_
  refine jq jrm ?_
  refine jq jrc ?_
  refine jq jrm ?_
  refine jqsp 38 (fun g170 => ?_) fun g170 => ?_
  rotate_left
  · refine jqs ?_
    refine jqs ?_
    refine jq jrpF ?_
    refine jq jrm ?_
    refine jqs ?_
    refine jqs ?_
    refine jqs ?_
    refine jq jrpF ?_
    refine seq_nil ?_
    refine jcF ?_
    refine code_skip (jtn ?_)
    refine jcs ?_
    refine jcr ?_
    refine jq jrm ?_
    refine jq jrc ?_
    refine seq_nil ?_
    refine jcc (fun h173 => ?_) fun h173 => ?_
    · first
        | (have hN : nextR tag l 0 = ⟨l, (nextM (nowL l)).e, 0, [], [], false⟩ := by unfold nextR; rw [if_neg (by omega), if_pos (by omega)])
        | (have hN : nextR tag l 0 = ⟨l, 5, 0, [], [], false⟩ := by unfold nextR; rw [if_neg (by omega), if_neg (by omega), if_pos (by omega)])
      refine jcr ?_
      refine jq jrm ?_
      refine jq jrm ?_
      refine jq jrnc ?_
      refine jq (jrfa 1 1 false) ?_
      refine jqm (jmstF 1 (rqF l (nextR tag l 0).k) ?_ ?_)
      · exact (fun j hj => by rcases j with _ | _ | j <;> first | exact CEnt.refl _ | exact CEnt.int (by rw [hN]; rfl) | exact CEnt.int (by rw [hN]) | omega)
      refine seq_nil ?_
      refine jcr ?_
      refine jq jrm ?_
      refine jq jrm ?_
      refine jq jrm ?_
      refine seq_nil ?_
      refine code_ret (jtr ?_)
      rw [hN]
      exact end_H (.inl rfl) rfl (res_3 rfl javt javt javt) (CEnt.tup3 CEnt.nilB CEnt.nilB (CEnt.refl _))
    refine code_skip (jtn ?_)
    refine jcs ?_
    have hc := nextM_cut (b := nowL l) (by omega)
    have hN : nextR tag l 0 = ⟨l.set (l.length - 1) (nextM (nowL l)).rest, 0, (nextM (nowL l)).tag, (nextM (nowL l)).body, (nowL l).take ((nowL l).length - (nextM (nowL l)).rest.length), true⟩ := by unfold nextR; rw [if_neg (by omega), if_neg (by omega), if_neg (by omega)]
    have hN : nextR tag l 0 = ⟨[] ++ l.take (l.length - 1) ++ [(nextM (nowL l)).rest], 0, (nextM (nowL l)).tag, (nextM (nowL l)).body, (nowL l).take ((nowL l).length - (nextM (nowL l)).rest.length), true⟩ := by rw [hN, lset hl.1]; rfl
    refine jcdZ (.rd 0 (.rd 2 (.rd 3 (.rd 4 (.rd 5 (.rd 6 (.rd 7 (.rd 8 (.rd 9 (.rd 10 (.rd 11 (.rd 12 (.rd 14 (.rd 15 (.rd 16 (.two 1 (.two 13 (.one 17 (.one 18 (.rd 19 (.rd 20 (.one 21 .done))))) 17 (.one 13 (.one 18 (.rd 19 (.rd 20 (.one 21 .done)))))) 17 (.one 1 (.one 13 (.one 18 (.rd 19 (.rd 20 (.one 21 .done)))))))))))))))))))))) ?_
    refine jzq jrm ?_
    refine jzq jrm ?_
    refine jzq jrnc ?_
    refine jzq (jrfa 0 1 false) ?_
    refine jzo jrdo ?_
    refine jzq jrm ?_
    refine jzq jrnc ?_
    refine jzq (jrfa 0 1 false) ?_
    refine jzo jrdo ?_
    refine jzq jrl ?_
    refine jzq jra ?_
    refine jzq (jrsr (hl := (bd_none _ _)) (hu := (bd_some rfl (show _ = (((l.length - 1) : Nat) : Int) by omega)))) ?_
    refine jzq jrm ?_
    refine jzq jrm ?_
    refine jzq (jrsf (hz1 := (show _ = (((toM (nowL l)) : Nat) : Int) by omega))) ?_
    refine jztwo ?_ ?_
    · refine jze (jebl 0 1 zr26 fun p1 => ?_)
      refine jztwo ?_ ?_
      · refine jzm (m_appendC rowC_lb (l := []) (l2 := l.take (l.length - 1)) rfl rfl rfl rfl (Nat.le_of_eq (Nat.zero_mul _)) (fun j hj => absurd hj (by simp)) (src_rs rfl) (by rw [List.length_take]; omega) (fun j hj => CEnt.of_eq (lb_take8 (by omega))) Tryz.underlying56 nu56 sz26 zr26 by26 rfl (by simp; omega) (by simp; omega) (fun j hj => rfl) rfl rfl (Nat.mul_one _) (fun p2 => ?_))
        refine z_ent (weaken 69 (bsC (nextM (nowL l)).rest) (CEnt.bs hc.2.1.symm)) ?_
        refine jze (jebl 1 1 zr26 fun p3 => ?_)
        refine jzm (m_appendC (rowC_lb) (l2 := [(nextM (nowL l)).rest]) rfl rfl rfl rfl (by omega) (fun _ _ => CEnt.refl _) (src_os rfl (.inl rfl) (by decide)) rfl (fun j hj => by rcases j with _|j <;> first | exact CEnt.refl _ | exact CEnt.int (by omega) | (exfalso; simp at hj <;> omega)) Tryz.underlying56 nu56 sz26 zr26 by26 rfl (by omega) (by omega) (leaf_flk rfl rfl) rfl rfl rfl (fun p4 => ?_))
        refine jzq jrnc ?_
        refine jzq (jrfa 0 1 false) ?_
        refine jzm (jmst 1 ?_)
        refine jzd ?_
        refine jtn ?_
        refine jcs ?_
        first
          | (refine code_ent (freeze 1 rfl) ?_; refine code_ent (thawC 0 0 1 (rqF ([] ++ l.take (l.length - 1) ++ [(nextM (nowL l)).rest]) 0) (fun i _ => bsC (([] ++ l.take (l.length - 1) ++ [(nextM (nowL l)).rest]).getD i [])) rfl rfl (CEnt.refl _) (CEnt.refl _) (fun j hj h0 => by rcases j with _ | _ | j <;> omega) (by simp) (fun a c ha hc => by obtain rfl : c = 0 := (by omega); rw [Nat.zero_add, Nat.mul_one, Nat.add_zero]; exact CEnt.refl _)) ?_; dsimp only [List.set_cons_zero, List.set_cons_succ, List.cons_append, List.nil_append, List.length_cons, List.length_nil, Nat.zero_add, Nat.reduceAdd])
          | (refine code_ent (freeze 2 rfl) ?_; refine code_ent (thawC 0 0 2 (rqF ([] ++ l.take (l.length - 1) ++ [(nextM (nowL l)).rest]) 0) (fun i _ => bsC (([] ++ l.take (l.length - 1) ++ [(nextM (nowL l)).rest]).getD i [])) rfl rfl (CEnt.refl _) (CEnt.refl _) (fun j hj h0 => by rcases j with _ | _ | j <;> first | omega | exact CEnt.refl _) (by simp) (fun a c ha hc => by obtain rfl : c = 0 := (by omega); rw [Nat.zero_add, Nat.mul_one, Nat.add_zero]; exact CEnt.refl _)) ?_; dsimp only [List.set_cons_zero, List.set_cons_succ, List.cons_append, List.nil_append, List.length_cons, List.length_nil, Nat.zero_add, Nat.reduceAdd])
        refine jcd (.rd 0 (.rd 1 (.rd 2 (.rd 3 (.rd 4 (.rd 5 (.rd 6 (.rd 7 (.rd 8 (.rd 9 .done)))))))))) ?_
        refine jyq jrm ?_
        refine jyq jrm ?_
        refine jyq jrm ?_
        refine jyq (jrsb (hz1 := (show _ = (((fromM (nowL l)) : Nat) : Int) by omega)) (hz2 := (show _ = (((toM (nowL l)) : Nat) : Int) by omega))) ?_
        refine jyq jrm ?_
        refine jyq jrm ?_
        refine jyq (jrst (hz2 := (show _ = (((toM (nowL l)) : Nat) : Int) by omega))) ?_
        refine jyq jrm ?_
        refine jyq jrm ?_
        refine jyq jrm ?_
        refine jyd ?_
        refine jtn ?_
        refine code_ret ?_
        rw [hN]
        refine end_H (.inl rfl) rfl (res_3 rfl javt javt javt) (CEnt.tup3 (CEnt.bs ?_) (CEnt.bs ?_) (CEnt.refl _))
        · exact hc.1.symm
        · rw [take_toM (by omega)]
      · refine z_ent (weaken 69 (bsC (nextM (nowL l)).rest) (CEnt.bs hc.2.1.symm)) ?_
        refine jze (jebl 1 1 zr26 fun p2 => ?_)
        refine jzm (m_appendC rowC_lb (l := []) (l2 := l.take (l.length - 1)) rfl rfl rfl rfl (Nat.le_of_eq (Nat.zero_mul _)) (fun j hj => absurd hj (by simp)) (src_rs rfl) (by rw [List.length_take]; omega) (fun j hj => CEnt.of_eq (lb_take8 (by omega))) Tryz.underlying56 nu56 sz26 zr26 by26 rfl (by simp; omega) (by simp; omega) (fun j hj => rfl) rfl rfl (Nat.mul_one _) (fun p3 => ?_))
        refine jzm (m_appendC (rowC_lb) (l2 := [(nextM (nowL l)).rest]) rfl rfl rfl rfl (by omega) (fun _ _ => CEnt.refl _) (src_os rfl (.inl rfl) (by decide)) rfl (fun j hj => by rcases j with _|j <;> first | exact CEnt.refl _ | exact CEnt.int (by omega) | (exfalso; simp at hj <;> omega)) Tryz.underlying56 nu56 sz26 zr26 by26 rfl (by omega) (by omega) (leaf_flk rfl rfl) rfl rfl rfl (fun p4 => ?_))
        refine jzq jrnc ?_
        refine jzq (jrfa 0 1 false) ?_
        refine jzm (jmst 1 ?_)
        refine jzd ?_
        refine jtn ?_
        refine jcs ?_
        first
          | (refine code_ent (freeze 1 rfl) ?_; refine code_ent (thawC 0 0 1 (rqF ([] ++ l.take (l.length - 1) ++ [(nextM (nowL l)).rest]) 0) (fun i _ => bsC (([] ++ l.take (l.length - 1) ++ [(nextM (nowL l)).rest]).getD i [])) rfl rfl (CEnt.refl _) (CEnt.refl _) (fun j hj h0 => by rcases j with _ | _ | j <;> omega) (by simp) (fun a c ha hc => by obtain rfl : c = 0 := (by omega); rw [Nat.zero_add, Nat.mul_one, Nat.add_zero]; exact CEnt.refl _)) ?_; dsimp only [List.set_cons_zero, List.set_cons_succ, List.cons_append, List.nil_append, List.length_cons, List.length_nil, Nat.zero_add, Nat.reduceAdd])
          | (refine code_ent (freeze 2 rfl) ?_; refine code_ent (thawC 0 0 2 (rqF ([] ++ l.take (l.length - 1) ++ [(nextM (nowL l)).rest]) 0) (fun i _ => bsC (([] ++ l.take (l.length - 1) ++ [(nextM (nowL l)).rest]).getD i [])) rfl rfl (CEnt.refl _) (CEnt.refl _) (fun j hj h0 => by rcases j with _ | _ | j <;> first | omega | exact CEnt.refl _) (by simp) (fun a c ha hc => by obtain rfl : c = 0 := (by omega); rw [Nat.zero_add, Nat.mul_one, Nat.add_zero]; exact CEnt.refl _)) ?_; dsimp only [List.set_cons_zero, List.set_cons_succ, List.cons_append, List.nil_append, List.length_cons, List.length_nil, Nat.zero_add, Nat.reduceAdd])
        refine jcd (.rd 0 (.rd 1 (.rd 2 (.rd 3 (.rd 4 (.rd 5 (.rd 6 (.rd 7 (.rd 8 (.rd 9 .done)))))))))) ?_
        refine jyq jrm ?_
        refine jyq jrm ?_
        refine jyq jrm ?_
        refine jyq (jrsb (hz1 := (show _ = (((fromM (nowL l)) : Nat) : Int) by omega)) (hz2 := (show _ = (((toM (nowL l)) : Nat) : Int) by omega))) ?_
        refine jyq jrm ?_
        refine jyq jrm ?_
        refine jyq (jrst (hz2 := (show _ = (((toM (nowL l)) : Nat) : Int) by omega))) ?_
        refine jyq jrm ?_
        refine jyq jrm ?_
        refine jyq jrm ?_
        refine jyd ?_
        refine jtn ?_
        refine code_ret ?_
        rw [hN]
        refine end_H (.inl rfl) rfl (res_3 rfl javt javt javt) (CEnt.tup3 (CEnt.bs ?_) (CEnt.bs ?_) (CEnt.refl _))
        · exact hc.1.symm
        · rw [take_toM (by omega)]
    · refine z_ent (weaken 69 (bsC (nextM (nowL l)).rest) (CEnt.bs hc.2.1.symm)) ?_
      refine jze (jebl 1 1 zr26 fun p1 => ?_)
      refine jze (jebl 0 1 zr26 fun p2 => ?_)
      refine jzm (m_appendC rowC_lb (l := []) (l2 := l.take (l.length - 1)) rfl rfl rfl rfl (Nat.le_of_eq (Nat.zero_mul _)) (fun j hj => absurd hj (by simp)) (src_rs rfl) (by rw [List.length_take]; omega) (fun j hj => CEnt.of_eq (lb_take8 (by omega))) Tryz.underlying56 nu56 sz26 zr26 by26 rfl (by simp; omega) (by simp; omega) (fun j hj => rfl) rfl rfl (Nat.mul_one _) (fun p3 => ?_))
      refine jzm (m_appendC (rowC_lb) (l2 := [(nextM (nowL l)).rest]) rfl rfl rfl rfl (by omega) (fun _ _ => CEnt.refl _) (src_os rfl (.inl rfl) (by decide)) rfl (fun j hj => by rcases j with _|j <;> first | exact CEnt.refl _ | exact CEnt.int (by omega) | (exfalso; simp at hj <;> omega)) Tryz.underlying56 nu56 sz26 zr26 by26 rfl (by omega) (by omega) (leaf_flk rfl rfl) rfl rfl rfl (fun p4 => ?_))
      refine jzq jrnc ?_
      refine jzq (jrfa 0 1 false) ?_
      refine jzm (jmst 1 ?_)
      refine jzd ?_
      refine jtn ?_
      refine jcs ?_
      first
        | (refine code_ent (freeze 1 rfl) ?_; refine code_ent (thawC 0 0 1 (rqF ([] ++ l.take (l.length - 1) ++ [(nextM (nowL l)).rest]) 0) (fun i _ => bsC (([] ++ l.take (l.length - 1) ++ [(nextM (nowL l)).rest]).getD i [])) rfl rfl (CEnt.refl _) (CEnt.refl _) (fun j hj h0 => by rcases j with _ | _ | j <;> omega) (by simp) (fun a c ha hc => by obtain rfl : c = 0 := (by omega); rw [Nat.zero_add, Nat.mul_one, Nat.add_zero]; exact CEnt.refl _)) ?_; dsimp only [List.set_cons_zero, List.set_cons_succ, List.cons_append, List.nil_append, List.length_cons, List.length_nil, Nat.zero_add, Nat.reduceAdd])
        | (refine code_ent (freeze 2 rfl) ?_; refine code_ent (thawC 0 0 2 (rqF ([] ++ l.take (l.length - 1) ++ [(nextM (nowL l)).rest]) 0) (fun i _ => bsC (([] ++ l.take (l.length - 1) ++ [(nextM (nowL l)).rest]).getD i [])) rfl rfl (CEnt.refl _) (CEnt.refl _) (fun j hj h0 => by rcases j with _ | _ | j <;> omega) (by simp) (fun a c ha hc => by obtain rfl : c = 0 := (by omega); rw [Nat.zero_add, Nat.mul_one, Nat.add_zero]; exact CEnt.refl _)) ?_; dsimp only [List.set_cons_zero, List.set_cons_succ, List.cons_append, List.nil_append, List.length_cons, List.length_nil, Nat.zero_add, Nat.reduceAdd])
      refine jcd (.rd 0 (.rd 1 (.rd 2 (.rd 3 (.rd 4 (.rd 5 (.rd 6 (.rd 7 (.rd 8 (.rd 9 .done)))))))))) ?_
      refine jyq jrm ?_
      refine jyq jrm ?_
      refine jyq jrm ?_
      refine jyq (jrsb (hz1 := (show _ = (((fromM (nowL l)) : Nat) : Int) by omega)) (hz2 := (show _ = (((toM (nowL l)) : Nat) : Int) by omega))) ?_
      refine jyq jrm ?_
      refine jyq jrm ?_
      refine jyq (jrst (hz2 := (show _ = (((toM (nowL l)) : Nat) : Int) by omega))) ?_
      refine jyq jrm ?_
      refine jyq jrm ?_
      refine jyq jrm ?_
      refine jyd ?_
      refine jtn ?_
      refine code_ret ?_
      rw [hN]
      refine end_H (.inl rfl) rfl (res_3 rfl javt javt javt) (CEnt.tup3 (CEnt.bs ?_) (CEnt.bs ?_) (CEnt.refl _))
      · exact hc.1.symm
      · rw [take_toM (by omega)]
  refine jq jrm ?_
  refine jq jrc ?_
  refine jq jrpT ?_
  refine jq jrm ?_
  refine jqsp 42 (fun g170_2 => ?_) fun g170_2 => ?_
  rotate_left
  · refine jqs ?_
    refine jqs ?_
    refine jqs ?_
    refine jq jrpF ?_
    refine seq_nil ?_
    refine jcF ?_
    refine code_skip (jtn ?_)
    refine jcs ?_
    refine jcr ?_
    refine jq jrm ?_
    refine jq jrc ?_
    refine seq_nil ?_
    refine jcc (fun h173 => ?_) fun h173 => ?_
    · first
        | (have hN : nextR tag l 0 = ⟨l, (nextM (nowL l)).e, 0, [], [], false⟩ := by unfold nextR; rw [if_neg (by omega), if_pos (by omega)])
        | (have hN : nextR tag l 0 = ⟨l, 5, 0, [], [], false⟩ := by unfold nextR; rw [if_neg (by omega), if_neg (by omega), if_pos (by omega)])
      refine jcr ?_
      refine jq jrm ?_
      refine jq jrm ?_
      refine jq jrnc ?_
      refine jq (jrfa 1 1 false) ?_
      refine jqm (jmstF 1 (rqF l (nextR tag l 0).k) ?_ ?_)
      · exact (fun j hj => by rcases j with _ | _ | j <;> first | exact CEnt.refl _ | exact CEnt.int (by rw [hN]; rfl) | exact CEnt.int (by rw [hN]) | omega)
      refine seq_nil ?_
      refine jcr ?_
      refine jq jrm ?_
      refine jq jrm ?_
      refine jq jrm ?_
      refine seq_nil ?_
      refine code_ret (jtr ?_)
      rw [hN]
      exact end_H (.inl rfl) rfl (res_3 rfl javt javt javt) (CEnt.tup3 CEnt.nilB CEnt.nilB (CEnt.refl _))
    refine code_skip (jtn ?_)
    refine jcs ?_
    have hc := nextM_cut (b := nowL l) (by omega)
    have hN : nextR tag l 0 = ⟨l.set (l.length - 1) (nextM (nowL l)).rest, 0, (nextM (nowL l)).tag, (nextM (nowL l)).body, (nowL l).take ((nowL l).length - (nextM (nowL l)).rest.length), true⟩ := by unfold nextR; rw [if_neg (by omega), if_neg (by omega), if_neg (by omega)]
    have hN : nextR tag l 0 = ⟨[] ++ l.take (l.length - 1) ++ [(nextM (nowL l)).rest], 0, (nextM (nowL l)).tag, (nextM (nowL l)).body, (nowL l).take ((nowL l).length - (nextM (nowL l)).rest.length), true⟩ := by rw [hN, lset hl.1]; rfl
    refine jcdZ (.rd 0 (.rd 2 (.rd 3 (.rd 4 (.rd 5 (.rd 6 (.rd 7 (.rd 8 (.rd 9 (.rd 10 (.rd 11 (.rd 12 (.rd 14 (.rd 15 (.rd 16 (.two 1 (.two 13 (.one 17 (.one 18 (.rd 19 (.rd 20 (.one 21 .done))))) 17 (.one 13 (.one 18 (.rd 19 (.rd 20 (.one 21 .done)))))) 17 (.one 1 (.one 13 (.one 18 (.rd 19 (.rd 20 (.one 21 .done)))))))))))))))))))))) ?_
    refine jzq jrm ?_
    refine jzq jrm ?_
    refine jzq jrnc ?_
    refine jzq (jrfa 0 1 false) ?_
    refine jzo jrdo ?_
    refine jzq jrm ?_
    refine jzq jrnc ?_
    refine jzq (jrfa 0 1 false) ?_
    refine jzo jrdo ?_
    refine jzq jrl ?_
    refine jzq jra ?_
    refine jzq (jrsr (hl := (bd_none _ _)) (hu := (bd_some rfl (show _ = (((l.length - 1) : Nat) : Int) by omega)))) ?_
    refine jzq jrm ?_
    refine jzq jrm ?_
    refine jzq (jrsf (hz1 := (show _ = (((toM (nowL l)) : Nat) : Int) by omega))) ?_
    refine jztwo ?_ ?_
    · refine jze (jebl 0 1 zr26 fun p1 => ?_)
      refine jztwo ?_ ?_
      · refine jzm (m_appendC rowC_lb (l := []) (l2 := l.take (l.length - 1)) rfl rfl rfl rfl (Nat.le_of_eq (Nat.zero_mul _)) (fun j hj => absurd hj (by simp)) (src_rs rfl) (by rw [List.length_take]; omega) (fun j hj => CEnt.of_eq (lb_take8 (by omega))) Tryz.underlying56 nu56 sz26 zr26 by26 rfl (by simp; omega) (by simp; omega) (fun j hj => rfl) rfl rfl (Nat.mul_one _) (fun p2 => ?_))
        refine z_ent (weaken 69 (bsC (nextM (nowL l)).rest) (CEnt.bs hc.2.1.symm)) ?_
        refine jze (jebl 1 1 zr26 fun p3 => ?_)
        refine jzm (m_appendC (rowC_lb) (l2 := [(nextM (nowL l)).rest]) rfl rfl rfl rfl (by omega) (fun _ _ => CEnt.refl _) (src_os rfl (.inl rfl) (by decide)) rfl (fun j hj => by rcases j with _|j <;> first | exact CEnt.refl _ | exact CEnt.int (by omega) | (exfalso; simp at hj <;> omega)) Tryz.underlying56 nu56 sz26 zr26 by26 rfl (by (simp; omega)) (by (simp; omega)) (leaf_flk rfl rfl) rfl rfl rfl (fun p4 => ?_))
        refine jzq jrnc ?_
        refine jzq (jrfa 0 1 false) ?_
        refine jzm (jmst 1 ?_)
        refine jzd ?_
        refine jtn ?_
        refine jcs ?_
        first
          | (refine code_ent (freeze 1 rfl) ?_; refine code_ent (thawC 0 0 1 (rqF ([] ++ l.take (l.length - 1) ++ [(nextM (nowL l)).rest]) 0) (fun i _ => bsC (([] ++ l.take (l.length - 1) ++ [(nextM (nowL l)).rest]).getD i [])) rfl rfl (CEnt.refl _) (CEnt.refl _) (fun j hj h0 => by rcases j with _ | _ | j <;> first | omega | exact CEnt.refl _) (by simp) (fun a c ha hc => by obtain rfl : c = 0 := (by omega); rw [Nat.zero_add, Nat.mul_one, Nat.add_zero]; exact CEnt.refl _)) ?_; dsimp only [List.set_cons_zero, List.set_cons_succ, List.cons_append, List.nil_append, List.length_cons, List.length_nil, Nat.zero_add, Nat.reduceAdd])
          | (refine code_ent (freeze 2 rfl) ?_; refine code_ent (thawC 0 0 2 (rqF ([] ++ l.take (l.length - 1) ++ [(nextM (nowL l)).rest]) 0) (fun i _ => bsC (([] ++ l.take (l.length - 1) ++ [(nextM (nowL l)).rest]).getD i [])) rfl rfl (CEnt.refl _) (CEnt.refl _) (fun j hj h0 => by rcases j with _ | _ | j <;> first | omega | exact CEnt.refl _) (by simp) (fun a c ha hc => by obtain rfl : c = 0 := (by omega); rw [Nat.zero_add, Nat.mul_one, Nat.add_zero]; exact CEnt.refl _)) ?_; dsimp only [List.set_cons_zero, List.set_cons_succ, List.cons_append, List.nil_append, List.length_cons, List.length_nil, Nat.zero_add, Nat.reduceAdd])
        refine jcd (.rd 0 (.rd 1 (.rd 2 (.rd 3 (.rd 4 (.rd 5 (.rd 6 (.rd 7 (.rd 8 (.rd 9 .done)))))))))) ?_
        refine jyq jrm ?_
        refine jyq jrm ?_
        refine jyq jrm ?_
        refine jyq (jrsb (hz1 := (show _ = (((fromM (nowL l)) : Nat) : Int) by omega)) (hz2 := (show _ = (((toM (nowL l)) : Nat) : Int) by omega))) ?_
        refine jyq jrm ?_
        refine jyq jrm ?_
        refine jyq (jrst (hz2 := (show _ = (((toM (nowL l)) : Nat) : Int) by omega))) ?_
        refine jyq jrm ?_
        refine jyq jrm ?_
        refine jyq jrm ?_
        refine jyd ?_
        refine jtn ?_
        refine code_ret ?_
        rw [hN]
        refine end_H (.inl rfl) rfl (res_3 rfl javt javt javt) (CEnt.tup3 (CEnt.bs ?_) (CEnt.bs ?_) (CEnt.refl _))
        · exact hc.1.symm
        · rw [take_toM (by omega)]
      · refine z_ent (weaken 69 (bsC (nextM (nowL l)).rest) (CEnt.bs hc.2.1.symm)) ?_
        refine jze (jebl 1 1 zr26 fun p2 => ?_)
        refine jzm (m_appendC rowC_lb (l := []) (l2 := l.take (l.length - 1)) rfl rfl rfl rfl (Nat.le_of_eq (Nat.zero_mul _)) (fun j hj => absurd hj (by simp)) (src_rs rfl) (by rw [List.length_take]; omega) (fun j hj => CEnt.of_eq (lb_take8 (by omega))) Tryz.underlying56 nu56 sz26 zr26 by26 rfl (by simp; omega) (by simp; omega) (fun j hj => rfl) rfl rfl (Nat.mul_one _) (fun p3 => ?_))
        refine jzm (m_appendC (rowC_lb) (l2 := [(nextM (nowL l)).rest]) rfl rfl rfl rfl (by omega) (fun _ _ => CEnt.refl _) (src_os rfl (.inl rfl) (by decide)) rfl (fun j hj => by rcases j with _|j <;> first | exact CEnt.refl _ | exact CEnt.int (by omega) | (exfalso; simp at hj <;> omega)) Tryz.underlying56 nu56 sz26 zr26 by26 rfl (by (simp; omega)) (by (simp; omega)) (leaf_flk rfl rfl) rfl rfl rfl (fun p4 => ?_))
        refine jzq jrnc ?_
        refine jzq (jrfa 0 1 false) ?_
        refine jzm (jmst 1 ?_)
        refine jzd ?_
        refine jtn ?_
        refine jcs ?_
        first
          | (refine code_ent (freeze 1 rfl) ?_; refine code_ent (thawC 0 0 1 (rqF ([] ++ l.take (l.length - 1) ++ [(nextM (nowL l)).rest]) 0) (fun i _ => bsC (([] ++ l.take (l.length - 1) ++ [(nextM (nowL l)).rest]).getD i [])) rfl rfl (CEnt.refl _) (CEnt.refl _) (fun j hj h0 => by rcases j with _ | _ | j <;> first | omega | exact CEnt.refl _) (by simp) (fun a c ha hc => by obtain rfl : c = 0 := (by omega); rw [Nat.zero_add, Nat.mul_one, Nat.add_zero]; exact CEnt.refl _)) ?_; dsimp only [List.set_cons_zero, List.set_cons_succ, List.cons_append, List.nil_append, List.length_cons, List.length_nil, Nat.zero_add, Nat.reduceAdd])
          | (refine code_ent (freeze 2 rfl) ?_; refine code_ent (thawC 0 0 2 (rqF ([] ++ l.take (l.length - 1) ++ [(nextM (nowL l)).rest]) 0) (fun i _ => bsC (([] ++ l.take (l.length - 1) ++ [(nextM (nowL l)).rest]).getD i [])) rfl rfl (CEnt.refl _) (CEnt.refl _) (fun j hj h0 => by rcases j with _ | _ | j <;> first | omega | exact CEnt.refl _) (by simp) (fun a c ha hc => by obtain rfl : c = 0 := (by omega); rw [Nat.zero_add, Nat.mul_one, Nat.add_zero]; exact CEnt.refl _)) ?_; dsimp only [List.set_cons_zero, List.set_cons_succ, List.cons_append, List.nil_append, List.length_cons, List.length_nil, Nat.zero_add, Nat.reduceAdd])
        refine jcd (.rd 0 (.rd 1 (.rd 2 (.rd 3 (.rd 4 (.rd 5 (.rd 6 (.rd 7 (.rd 8 (.rd 9 .done)))))))))) ?_
        refine jyq jrm ?_
        refine jyq jrm ?_
        refine jyq jrm ?_
        refine jyq (jrsb (hz1 := (show _ = (((fromM (nowL l)) : Nat) : Int) by omega)) (hz2 := (show _ = (((toM (nowL l)) : Nat) : Int) by omega))) ?_
        refine jyq jrm ?_
        refine jyq jrm ?_
        refine jyq (jrst (hz2 := (show _ = (((toM (nowL l)) : Nat) : Int) by omega))) ?_
        refine jyq jrm ?_
        refine jyq jrm ?_
        refine jyq jrm ?_
        refine jyd ?_
        refine jtn ?_
        refine code_ret ?_
        rw [hN]
        refine end_H (.inl rfl) rfl (res_3 rfl javt javt javt) (CEnt.tup3 (CEnt.bs ?_) (CEnt.bs ?_) (CEnt.refl _))
        · exact hc.1.symm
        · rw [take_toM (by omega)]
    · refine z_ent (weaken 69 (bsC (nextM (nowL l)).rest) (CEnt.bs hc.2.1.symm)) ?_
      refine jze (jebl 1 1 zr26 fun p1 => ?_)
      refine jze (jebl 0 1 zr26 fun p2 => ?_)
      refine jzm (m_appendC rowC_lb (l := []) (l2 := l.take (l.length - 1)) rfl rfl rfl rfl (Nat.le_of_eq (Nat.zero_mul _)) (fun j hj => absurd hj (by simp)) (src_rs rfl) (by rw [List.length_take]; omega) (fun j hj => CEnt.of_eq (lb_take8 (by omega))) Tryz.underlying56 nu56 sz26 zr26 by26 rfl (by simp; omega) (by simp; omega) (fun j hj => rfl) rfl rfl (Nat.mul_one _) (fun p3 => ?_))
      refine jzm (m_appendC (rowC_lb) (l2 := [(nextM (nowL l)).rest]) rfl rfl rfl rfl (by omega) (fun _ _ => CEnt.refl _) (src_os rfl (.inl rfl) (by decide)) rfl (fun j hj => by rcases j with _|j <;> first | exact CEnt.refl _ | exact CEnt.int (by omega) | (exfalso; simp at hj <;> omega)) Tryz.underlying56 nu56 sz26 zr26 by26 rfl (by (simp; omega)) (by (simp; omega)) (leaf_flk rfl rfl) rfl rfl rfl (fun p4 => ?_))
      refine jzq jrnc ?_
      refine jzq (jrfa 0 1 false) ?_
      refine jzm (jmst 1 ?_)
      refine jzd ?_
      refine jtn ?_
      refine jcs ?_
      first
        | (refine code_ent (freeze 1 rfl) ?_; refine code_ent (thawC 0 0 1 (rqF ([] ++ l.take (l.length - 1) ++ [(nextM (nowL l)).rest]) 0) (fun i _ => bsC (([] ++ l.take (l.length - 1) ++ [(nextM (nowL l)).rest]).getD i [])) rfl rfl (CEnt.refl _) (CEnt.refl _) (fun j hj h0 => by rcases j with _ | _ | j <;> first | omega | exact CEnt.refl _) (by simp) (fun a c ha hc => by obtain rfl : c = 0 := (by omega); rw [Nat.zero_add, Nat.mul_one, Nat.add_zero]; exact CEnt.refl _)) ?_; dsimp only [List.set_cons_zero, List.set_cons_succ, List.cons_append, List.nil_append, List.length_cons, List.length_nil, Nat.zero_add, Nat.reduceAdd])
        | (refine code_ent (freeze 2 rfl) ?_; refine code_ent (thawC 0 0 2 (rqF ([] ++ l.take (l.length - 1) ++ [(nextM (nowL l)).rest]) 0) (fun i _ => bsC (([] ++ l.take (l.length - 1) ++ [(nextM (nowL l)).rest]).getD i [])) rfl rfl (CEnt.refl _) (CEnt.refl _) (fun j hj h0 => by rcases j with _ | _ | j <;> first | omega | exact CEnt.refl _) (by simp) (fun a c ha hc => by obtain rfl : c = 0 := (by omega); rw [Nat.zero_add, Nat.mul_one, Nat.add_zero]; exact CEnt.refl _)) ?_; dsimp only [List.set_cons_zero, List.set_cons_succ, List.cons_append, List.nil_append, List.length_cons, List.length_nil, Nat.zero_add, Nat.reduceAdd])
      refine jcd (.rd 0 (.rd 1 (.rd 2 (.rd 3 (.rd 4 (.rd 5 (.rd 6 (.rd 7 (.rd 8 (.rd 9 .done)))))))))) ?_
      refine jyq jrm ?_
      refine jyq jrm ?_
      refine jyq jrm ?_
      refine jyq (jrsb (hz1 := (show _ = (((fromM (nowL l)) : Nat) : Int) by omega)) (hz2 := (show _ = (((toM (nowL l)) : Nat) : Int) by omega))) ?_
      refine jyq jrm ?_
      refine jyq jrm ?_
      refine jyq (jrst (hz2 := (show _ = (((toM (nowL l)) : Nat) : Int) by omega))) ?_
      refine jyq jrm ?_
      refine jyq jrm ?_
      refine jyq jrm ?_
      refine jyd ?_
      refine jtn ?_
      refine code_ret ?_
      rw [hN]
      refine end_H (.inl rfl) rfl (res_3 rfl javt javt javt) (CEnt.tup3 (CEnt.bs ?_) (CEnt.bs ?_) (CEnt.refl _))
      · exact hc.1.symm
      · rw [take_toM (by omega)]
  refine jq jrm ?_
  refine jq jrm ?_
  refine jq jrc ?_
  refine jq jrpT ?_
  refine seq_nil ?_
  refine jcc (fun h170 => ?_) fun h170 => ?_
  rotate_left
  · refine code_skip (jtn ?_)
    refine jcs ?_
    refine jcr ?_
    refine jq jrm ?_
    refine jq jrc ?_
    refine seq_nil ?_
    refine jcc (fun h173 => ?_) fun h173 => ?_
    · first
        | (have hN : nextR tag l 0 = ⟨l, (nextM (nowL l)).e, 0, [], [], false⟩ := by unfold nextR; rw [if_neg (by omega), if_pos (by omega)])
        | (have hN : nextR tag l 0 = ⟨l, 5, 0, [], [], false⟩ := by unfold nextR; rw [if_neg (by omega), if_neg (by omega), if_pos (by omega)])
      refine jcr ?_
      refine jq jrm ?_
      refine jq jrm ?_
      refine jq jrnc ?_
      refine jq (jrfa 1 1 false) ?_
      refine jqm (jmstF 1 (rqF l (nextR tag l 0).k) ?_ ?_)
      · exact (fun j hj => by rcases j with _ | _ | j <;> first | exact CEnt.refl _ | exact CEnt.int (by rw [hN]; rfl) | exact CEnt.int (by rw [hN]) | omega)
      refine seq_nil ?_
      refine jcr ?_
      refine jq jrm ?_
      refine jq jrm ?_
      refine jq jrm ?_
      refine seq_nil ?_
      refine code_ret (jtr ?_)
      rw [hN]
      exact end_H (.inl rfl) rfl (res_3 rfl javt javt javt) (CEnt.tup3 CEnt.nilB CEnt.nilB (CEnt.refl _))
    refine code_skip (jtn ?_)
    refine jcs ?_
    have hc := nextM_cut (b := nowL l) (by omega)
    have hN : nextR tag l 0 = ⟨l.set (l.length - 1) (nextM (nowL l)).rest, 0, (nextM (nowL l)).tag, (nextM (nowL l)).body, (nowL l).take ((nowL l).length - (nextM (nowL l)).rest.length), true⟩ := by unfold nextR; rw [if_neg (by omega), if_neg (by omega), if_neg (by omega)]
    have hN : nextR tag l 0 = ⟨[] ++ l.take (l.length - 1) ++ [(nextM (nowL l)).rest], 0, (nextM (nowL l)).tag, (nextM (nowL l)).body, (nowL l).take ((nowL l).length - (nextM (nowL l)).rest.length), true⟩ := by rw [hN, lset hl.1]; rfl
    refine jcdZ (.rd 0 (.rd 2 (.rd 3 (.rd 4 (.rd 5 (.rd 6 (.rd 7 (.rd 8 (.rd 9 (.rd 10 (.rd 11 (.rd 12 (.rd 14 (.rd 15 (.rd 16 (.two 1 (.two 13 (.one 17 (.one 18 (.rd 19 (.rd 20 (.one 21 .done))))) 17 (.one 13 (.one 18 (.rd 19 (.rd 20 (.one 21 .done)))))) 17 (.one 1 (.one 13 (.one 18 (.rd 19 (.rd 20 (.one 21 .done)))))))))))))))))))))) ?_
    refine jzq jrm ?_
    refine jzq jrm ?_
    refine jzq jrnc ?_
    refine jzq (jrfa 0 1 false) ?_
    refine jzo jrdo ?_
    refine jzq jrm ?_
    refine jzq jrnc ?_
    refine jzq (jrfa 0 1 false) ?_
    refine jzo jrdo ?_
    refine jzq jrl ?_
    refine jzq jra ?_
    refine jzq (jrsr (hl := (bd_none _ _)) (hu := (bd_some rfl (show _ = (((l.length - 1) : Nat) : Int) by omega)))) ?_
    refine jzq jrm ?_
    refine jzq jrm ?_
    refine jzq (jrsf (hz1 := (show _ = (((toM (nowL l)) : Nat) : Int) by omega))) ?_
    refine jztwo ?_ ?_
    · refine jze (jebl 0 1 zr26 fun p1 => ?_)
      refine jztwo ?_ ?_
      · refine jzm (m_appendC rowC_lb (l := []) (l2 := l.take (l.length - 1)) rfl rfl rfl rfl (Nat.le_of_eq (Nat.zero_mul _)) (fun j hj => absurd hj (by simp)) (src_rs rfl) (by rw [List.length_take]; omega) (fun j hj => CEnt.of_eq (lb_take8 (by omega))) Tryz.underlying56 nu56 sz26 zr26 by26 rfl (by simp; omega) (by simp; omega) (fun j hj => rfl) rfl rfl (Nat.mul_one _) (fun p2 => ?_))
        refine z_ent (weaken 69 (bsC (nextM (nowL l)).rest) (CEnt.bs hc.2.1.symm)) ?_
        refine jze (jebl 1 1 zr26 fun p3 => ?_)
        refine jzm (m_appendC (rowC_lb) (l2 := [(nextM (nowL l)).rest]) rfl rfl rfl rfl (by omega) (fun _ _ => CEnt.refl _) (src_os rfl (.inl rfl) (by decide)) rfl (fun j hj => by rcases j with _|j <;> first | exact CEnt.refl _ | exact CEnt.int (by omega) | (exfalso; simp at hj <;> omega)) Tryz.underlying56 nu56 sz26 zr26 by26 rfl (by (simp; omega)) (by (simp; omega)) (leaf_flk rfl rfl) rfl rfl rfl (fun p4 => ?_))
        refine jzq jrnc ?_
        refine jzq (jrfa 0 1 false) ?_
        refine jzm (jmst 1 ?_)
        refine jzd ?_
        refine jtn ?_
        refine jcs ?_
        first
          | (refine code_ent (freeze 1 rfl) ?_; refine code_ent (thawC 0 0 1 (rqF ([] ++ l.take (l.length - 1) ++ [(nextM (nowL l)).rest]) 0) (fun i _ => bsC (([] ++ l.take (l.length - 1) ++ [(nextM (nowL l)).rest]).getD i [])) rfl rfl (CEnt.refl _) (CEnt.refl _) (fun j hj h0 => by rcases j with _ | _ | j <;> first | omega | exact CEnt.refl _) (by simp) (fun a c ha hc => by obtain rfl : c = 0 := (by omega); rw [Nat.zero_add, Nat.mul_one, Nat.add_zero]; exact CEnt.refl _)) ?_; dsimp only [List.set_cons_zero, List.set_cons_succ, List.cons_append, List.nil_append, List.length_cons, List.length_nil, Nat.zero_add, Nat.reduceAdd])
          | (refine code_ent (freeze 2 rfl) ?_; refine code_ent (thawC 0 0 2 (rqF ([] ++ l.take (l.length - 1) ++ [(nextM (nowL l)).rest]) 0) (fun i _ => bsC (([] ++ l.take (l.length - 1) ++ [(nextM (nowL l)).rest]).getD i [])) rfl rfl (CEnt.refl _) (CEnt.refl _) (fun j hj h0 => by rcases j with _ | _ | j <;> first | omega | exact CEnt.refl _) (by simp) (fun a c ha hc => by obtain rfl : c = 0 := (by omega); rw [Nat.zero_add, Nat.mul_one, Nat.add_zero]; exact CEnt.refl _)) ?_; dsimp only [List.set_cons_zero, List.set_cons_succ, List.cons_append, List.nil_append, List.length_cons, List.length_nil, Nat.zero_add, Nat.reduceAdd])
        refine jcd (.rd 0 (.rd 1 (.rd 2 (.rd 3 (.rd 4 (.rd 5 (.rd 6 (.rd 7 (.rd 8 (.rd 9 .done)))))))))) ?_
        refine jyq jrm ?_
        refine jyq jrm ?_
        refine jyq jrm ?_
        refine jyq (jrsb (hz1 := (show _ = (((fromM (nowL l)) : Nat) : Int) by omega)) (hz2 := (show _ = (((toM (nowL l)) : Nat) : Int) by omega))) ?_
        refine jyq jrm ?_
        refine jyq jrm ?_
        refine jyq (jrst (hz2 := (show _ = (((toM (nowL l)) : Nat) : Int) by omega))) ?_
        refine jyq jrm ?_
        refine jyq jrm ?_
        refine jyq jrm ?_
        refine jyd ?_
        refine jtn ?_
        refine code_ret ?_
        rw [hN]
        refine end_H (.inl rfl) rfl (res_3 rfl javt javt javt) (CEnt.tup3 (CEnt.bs ?_) (CEnt.bs ?_) (CEnt.refl _))
        · exact hc.1.symm
        · rw [take_toM (by omega)]
      · refine z_ent (weaken 69 (bsC (nextM (nowL l)).rest) (CEnt.bs hc.2.1.symm)) ?_
        refine jze (jebl 1 1 zr26 fun p2 => ?_)
        refine jzm (m_appendC rowC_lb (l := []) (l2 := l.take (l.length - 1)) rfl rfl rfl rfl (Nat.le_of_eq (Nat.zero_mul _)) (fun j hj => absurd hj (by simp)) (src_rs rfl) (by rw [List.length_take]; omega) (fun j hj => CEnt.of_eq (lb_take8 (by omega))) Tryz.underlying56 nu56 sz26 zr26 by26 rfl (by simp; omega) (by simp; omega) (fun j hj => rfl) rfl rfl (Nat.mul_one _) (fun p3 => ?_))
        refine jzm (m_appendC (rowC_lb) (l2 := [(nextM (nowL l)).rest]) rfl rfl rfl rfl (by omega) (fun _ _ => CEnt.refl _) (src_os rfl (.inl rfl) (by decide)) rfl (fun j hj => by rcases j with _|j <;> first | exact CEnt.refl _ | exact CEnt.int (by omega) | (exfalso; simp at hj <;> omega)) Tryz.underlying56 nu56 sz26 zr26 by26 rfl (by (simp; omega)) (by (simp; omega)) (leaf_flk rfl rfl) rfl rfl rfl (fun p4 => ?_))
        refine jzq jrnc ?_
        refine jzq (jrfa 0 1 false) ?_
        refine jzm (jmst 1 ?_)
        refine jzd ?_
        refine jtn ?_
        refine jcs ?_
        first
          | (refine code_ent (freeze 1 rfl) ?_; refine code_ent (thawC 0 0 1 (rqF ([] ++ l.take (l.length - 1) ++ [(nextM (nowL l)).rest]) 0) (fun i _ => bsC (([] ++ l.take (l.length - 1) ++ [(nextM (nowL l)).rest]).getD i [])) rfl rfl (CEnt.refl _) (CEnt.refl _) (fun j hj h0 => by rcases j with _ | _ | j <;> first | omega | exact CEnt.refl _) (by simp) (fun a c ha hc => by obtain rfl : c = 0 := (by omega); rw [Nat.zero_add, Nat.mul_one, Nat.add_zero]; exact CEnt.refl _)) ?_; dsimp only [List.set_cons_zero, List.set_cons_succ, List.cons_append, List.nil_append, List.length_cons, List.length_nil, Nat.zero_add, Nat.reduceAdd])
          | (refine code_ent (freeze 2 rfl) ?_; refine code_ent (thawC 0 0 2 (rqF ([] ++ l.take (l.length - 1) ++ [(nextM (nowL l)).rest]) 0) (fun i _ => bsC (([] ++ l.take (l.length - 1) ++ [(nextM (nowL l)).rest]).getD i [])) rfl rfl (CEnt.refl _) (CEnt.refl _) (fun j hj h0 => by rcases j with _ | _ | j <;> first | omega | exact CEnt.refl _) (by simp) (fun a c ha hc => by obtain rfl : c = 0 := (by omega); rw [Nat.zero_add, Nat.mul_one, Nat.add_zero]; exact CEnt.refl _)) ?_; dsimp only [List.set_cons_zero, List.set_cons_succ, List.cons_append, List.nil_append, List.length_cons, List.length_nil, Nat.zero_add, Nat.reduceAdd])
        refine jcd (.rd 0 (.rd 1 (.rd 2 (.rd 3 (.rd 4 (.rd 5 (.rd 6 (.rd 7 (.rd 8 (.rd 9 .done)))))))))) ?_
        refine jyq jrm ?_
        refine jyq jrm ?_
        refine jyq jrm ?_
        refine jyq (jrsb (hz1 := (show _ = (((fromM (nowL l)) : Nat) : Int) by omega)) (hz2 := (show _ = (((toM (nowL l)) : Nat) : Int) by omega))) ?_
        refine jyq jrm ?_
        refine jyq jrm ?_
        refine jyq (jrst (hz2 := (show _ = (((toM (nowL l)) : Nat) : Int) by omega))) ?_
        refine jyq jrm ?_
        refine jyq jrm ?_
        refine jyq jrm ?_
        refine jyd ?_
        refine jtn ?_
        refine code_ret ?_
        rw [hN]
        refine end_H (.inl rfl) rfl (res_3 rfl javt javt javt) (CEnt.tup3 (CEnt.bs ?_) (CEnt.bs ?_) (CEnt.refl _))
        · exact hc.1.symm
        · rw [take_toM (by omega)]
    · refine z_ent (weaken 69 (bsC (nextM (nowL l)).rest) (CEnt.bs hc.2.1.symm)) ?_
      refine jze (jebl 1 1 zr26 fun p1 => ?_)
      refine jze (jebl 0 1 zr26 fun p2 => ?_)
      refine jzm (m_appendC rowC_lb (l := []) (l2 := l.take (l.length - 1)) rfl rfl rfl rfl (Nat.le_of_eq (Nat.zero_mul _)) (fun j hj => absurd hj (by simp)) (src_rs rfl) (by rw [List.length_take]; omega) (fun j hj => CEnt.of_eq (lb_take8 (by omega))) Tryz.underlying56 nu56 sz26 zr26 by26 rfl (by simp; omega) (by simp; omega) (fun j hj => rfl) rfl rfl (Nat.mul_one _) (fun p3 => ?_))
      refine jzm (m_appendC (rowC_lb) (l2 := [(nextM (nowL l)).rest]) rfl rfl rfl rfl (by omega) (fun _ _ => CEnt.refl _) (src_os rfl (.inl rfl) (by decide)) rfl (fun j hj => by rcases j with _|j <;> first | exact CEnt.refl _ | exact CEnt.int (by omega) | (exfalso; simp at hj <;> omega)) Tryz.underlying56 nu56 sz26 zr26 by26 rfl (by (simp; omega)) (by (simp; omega)) (leaf_flk rfl rfl) rfl rfl rfl (fun p4 => ?_))
      refine jzq jrnc ?_
      refine jzq (jrfa 0 1 false) ?_
      refine jzm (jmst 1 ?_)
      refine jzd ?_
      refine jtn ?_
      refine jcs ?_
      first
        | (refine code_ent (freeze 1 rfl) ?_; refine code_ent (thawC 0 0 1 (rqF ([] ++ l.take (l.length - 1) ++ [(nextM (nowL l)).rest]) 0) (fun i _ => bsC (([] ++ l.take (l.length - 1) ++ [(nextM (nowL l)).rest]).getD i [])) rfl rfl (CEnt.refl _) (CEnt.refl _) (fun j hj h0 => by rcases j with _ | _ | j <;> first | omega | exact CEnt.refl _) (by simp) (fun a c ha hc => by obtain rfl : c = 0 := (by omega); rw [Nat.zero_add, Nat.mul_one, Nat.add_zero]; exact CEnt.refl _)) ?_; dsimp only [List.set_cons_zero, List.set_cons_succ, List.cons_append, List.nil_append, List.length_cons, List.length_nil, Nat.zero_add, Nat.reduceAdd])
        | (refine code_ent (freeze 2 rfl) ?_; refine code_ent (thawC 0 0 2 (rqF ([] ++ l.take (l.length - 1) ++ [(nextM (nowL l)).rest]) 0) (fun i _ => bsC (([] ++ l.take (l.length - 1) ++ [(nextM (nowL l)).rest]).getD i [])) rfl rfl (CEnt.refl _) (CEnt.refl _) (fun j hj h0 => by rcases j with _ | _ | j <;> first | omega | exact CEnt.refl _) (by simp) (fun a c ha hc => by obtain rfl : c = 0 := (by omega); rw [Nat.zero_add, Nat.mul_one, Nat.add_zero]; exact CEnt.refl _)) ?_; dsimp only [List.set_cons_zero, List.set_cons_succ, List.cons_append, List.nil_append, List.length_cons, List.length_nil, Nat.zero_add, Nat.reduceAdd])
      refine jcd (.rd 0 (.rd 1 (.rd 2 (.rd 3 (.rd 4 (.rd 5 (.rd 6 (.rd 7 (.rd 8 (.rd 9 .done)))))))))) ?_
      refine jyq jrm ?_
      refine jyq jrm ?_
      refine jyq jrm ?_
      refine jyq (jrsb (hz1 := (show _ = (((fromM (nowL l)) : Nat) : Int) by omega)) (hz2 := (show _ = (((toM (nowL l)) : Nat) : Int) by omega))) ?_
      refine jyq jrm ?_
      refine jyq jrm ?_
      refine jyq (jrst (hz2 := (show _ = (((toM (nowL l)) : Nat) : Int) by omega))) ?_
      refine jyq jrm ?_
      refine jyq jrm ?_
      refine jyq jrm ?_
      refine jyd ?_
      refine jtn ?_
      refine code_ret ?_
      rw [hN]
      refine end_H (.inl rfl) rfl (res_3 rfl javt javt javt) (CEnt.tup3 (CEnt.bs ?_) (CEnt.bs ?_) (CEnt.refl _))
      · exact hc.1.symm
      · rw [take_toM (by omega)]
  refine jcg ?_
  refine jq jrm ?_
  refine seq_nil ?_
  refine jtn ?_
  refine jcs ?_
  refine jcr ?_
  refine jq jrm ?_
  refine jq jrc ?_
  refine seq_nil ?_
  refine jcc (fun h173 => ?_) fun h173 => ?_
  · first
      | (have hN : nextR tag l 0 = ⟨l, (nextM (nowL l)).e, 0, [], [], false⟩ := by unfold nextR; rw [if_neg (by omega), if_pos (by omega)])
      | (have hN : nextR tag l 0 = ⟨l, 5, 0, [], [], false⟩ := by unfold nextR; rw [if_neg (by omega), if_neg (by omega), if_pos (by omega)])
    refine jcr ?_
    refine jq jrm ?_
    refine jq jrm ?_
    refine jq jrnc ?_
    refine jq (jrfa 1 1 false) ?_
    refine jqm (jmstF 1 (rqF l (nextR tag l 0).k) ?_ ?_)
    · exact (fun j hj => by rcases j with _ | _ | j <;> first | exact CEnt.refl _ | exact CEnt.int (by rw [hN]; rfl) | exact CEnt.int (by rw [hN]) | omega)
    refine seq_nil ?_
    refine jcr ?_
    refine jq jrm ?_
    refine jq jrm ?_
    refine jq jrm ?_
    refine seq_nil ?_
    refine code_ret (jtr ?_)
    rw [hN]
    exact end_H (.inl rfl) rfl (res_3 rfl javt javt javt) (CEnt.tup3 CEnt.nilB CEnt.nilB (CEnt.refl _))
  refine code_skip (jtn ?_)
  refine jcs ?_
  have hc := nextM_cut (b := nowL l) (by omega)
  have hN : nextR tag l 0 = ⟨l.set (l.length - 1) (nextM (nowL l)).rest, 0, (nextM (nowL l)).tag, (nextM (nowL l)).body, (nowL l).take ((nowL l).length - (nextM (nowL l)).rest.length), true⟩ := by unfold nextR; rw [if_neg (by omega), if_neg (by omega), if_neg (by omega)]
  have hN : nextR tag l 0 = ⟨[] ++ l.take (l.length - 1) ++ [(nextM (nowL l)).rest], 0, (nextM (nowL l)).tag, (nextM (nowL l)).body, (nowL l).take ((nowL l).length - (nextM (nowL l)).rest.length), true⟩ := by rw [hN, lset hl.1]; rfl
  refine jcdZ (.rd 0 (.rd 2 (.rd 3 (.rd 4 (.rd 5 (.rd 6 (.rd 7 (.rd 8 (.rd 9 (.rd 10 (.rd 11 (.rd 12 (.rd 14 (.rd 15 (.rd 16 (.two 1 (.two 13 (.one 17 (.one 18 (.rd 19 (.rd 20 (.one 21 .done))))) 17 (.one 13 (.one 18 (.rd 19 (.rd 20 (.one 21 .done)))))) 17 (.one 1 (.one 13 (.one 18 (.rd 19 (.rd 20 (.one 21 .done)))))))))))))))))))))) ?_
  refine jzq jrm ?_
  refine jzq jrm ?_
  refine jzq jrnc ?_
  refine jzq (jrfa 0 1 false) ?_
  refine jzo jrdo ?_
  refine jzq jrm ?_
  refine jzq jrnc ?_
  refine jzq (jrfa 0 1 false) ?_
  refine jzo jrdo ?_
  refine jzq jrl ?_
  refine jzq jra ?_
  refine jzq (jrsr (hl := (bd_none _ _)) (hu := (bd_some rfl (show _ = (((l.length - 1) : Nat) : Int) by omega)))) ?_
  refine jzq jrm ?_
  refine jzq jrm ?_
  refine jzq (jrsf (hz1 := (show _ = (((toM (nowL l)) : Nat) : Int) by omega))) ?_
  refine jztwo ?_ ?_
  · refine jze (jebl 0 1 zr26 fun p1 => ?_)
    refine jztwo ?_ ?_
    · refine jzm (m_appendC rowC_lb (l := []) (l2 := l.take (l.length - 1)) rfl rfl rfl rfl (Nat.le_of_eq (Nat.zero_mul _)) (fun j hj => absurd hj (by simp)) (src_rs rfl) (by rw [List.length_take]; omega) (fun j hj => CEnt.of_eq (lb_take8 (by omega))) Tryz.underlying56 nu56 sz26 zr26 by26 rfl (by simp; omega) (by simp; omega) (fun j hj => rfl) rfl rfl (Nat.mul_one _) (fun p2 => ?_))
      refine z_ent (weaken 69 (bsC (nextM (nowL l)).rest) (CEnt.bs hc.2.1.symm)) ?_
      refine jze (jebl 1 1 zr26 fun p3 => ?_)
      refine jzm (m_appendC (rowC_lb) (l2 := [(nextM (nowL l)).rest]) rfl rfl rfl rfl (by omega) (fun _ _ => CEnt.refl _) (src_os rfl (.inl rfl) (by decide)) rfl (fun j hj => by rcases j with _|j <;> first | exact CEnt.refl _ | exact CEnt.int (by omega) | (exfalso; simp at hj <;> omega)) Tryz.underlying56 nu56 sz26 zr26 by26 rfl (by omega) (by omega) (leaf_flk rfl rfl) rfl rfl rfl (fun p4 => ?_))
      refine jzq jrnc ?_
      refine jzq (jrfa 0 1 false) ?_
      refine jzm (jmst 1 ?_)
      refine jzd ?_
      refine jtn ?_
      refine jcs ?_
      first
        | (refine code_ent (freeze 1 rfl) ?_; refine code_ent (thawC 0 0 1 (rqF ([] ++ l.take (l.length - 1) ++ [(nextM (nowL l)).rest]) 0) (fun i _ => bsC (([] ++ l.take (l.length - 1) ++ [(nextM (nowL l)).rest]).getD i [])) rfl rfl (CEnt.refl _) (CEnt.refl _) (fun j hj h0 => by rcases j with _ | _ | j <;> omega) (by simp) (fun a c ha hc => by obtain rfl : c = 0 := (by omega); rw [Nat.zero_add, Nat.mul_one, Nat.add_zero]; exact CEnt.refl _)) ?_; dsimp only [List.set_cons_zero, List.set_cons_succ, List.cons_append, List.nil_append, List.length_cons, List.length_nil, Nat.zero_add, Nat.reduceAdd])
        | (refine code_ent (freeze 2 rfl) ?_; refine code_ent (thawC 0 0 2 (rqF ([] ++ l.take (l.length - 1) ++ [(nextM (nowL l)).rest]) 0) (fun i _ => bsC (([] ++ l.take (l.length - 1) ++ [(nextM (nowL l)).rest]).getD i [])) rfl rfl (CEnt.refl _) (CEnt.refl _) (fun j hj h0 => by rcases j with _ | _ | j <;> first | omega | exact CEnt.refl _) (by simp) (fun a c ha hc => by obtain rfl : c = 0 := (by omega); rw [Nat.zero_add, Nat.mul_one, Nat.add_zero]; exact CEnt.refl _)) ?_; dsimp only [List.set_cons_zero, List.set_cons_succ, List.cons_append, List.nil_append, List.length_cons, List.length_nil, Nat.zero_add, Nat.reduceAdd])
      refine jcd (.rd 0 (.rd 1 (.rd 2 (.rd 3 (.rd 4 (.rd 5 (.rd 6 (.rd 7 (.rd 8 (.rd 9 .done)))))))))) ?_
      refine jyq jrm ?_
      refine jyq jrm ?_
      refine jyq jrm ?_
      refine jyq (jrsb (hz1 := (show _ = (((fromM (nowL l)) : Nat) : Int) by omega)) (hz2 := (show _ = (((toM (nowL l)) : Nat) : Int) by omega))) ?_
      refine jyq jrm ?_
      refine jyq jrm ?_
      refine jyq (jrst (hz2 := (show _ = (((toM (nowL l)) : Nat) : Int) by omega))) ?_
      refine jyq jrm ?_
      refine jyq jrm ?_
      refine jyq jrm ?_
      refine jyd ?_
      refine jtn ?_
      refine code_ret ?_
      rw [hN]
      refine end_H (.inl rfl) rfl (res_3 rfl javt javt javt) (CEnt.tup3 (CEnt.bs ?_) (CEnt.bs ?_) (CEnt.refl _))
      · exact hc.1.symm
      · rw [take_toM (by omega)]
    · refine z_ent (weaken 69 (bsC (nextM (nowL l)).rest) (CEnt.bs hc.2.1.symm)) ?_
      refine jze (jebl 1 1 zr26 fun p2 => ?_)
      refine jzm (m_appendC rowC_lb (l := []) (l2 := l.take (l.length - 1)) rfl rfl rfl rfl (Nat.le_of_eq (Nat.zero_mul _)) (fun j hj => absurd hj (by simp)) (src_rs rfl) (by rw [List.length_take]; omega) (fun j hj => CEnt.of_eq (lb_take8 (by omega))) Tryz.underlying56 nu56 sz26 zr26 by26 rfl (by simp; omega) (by simp; omega) (fun j hj => rfl) rfl rfl (Nat.mul_one _) (fun p3 => ?_))
      refine jzm (m_appendC (rowC_lb) (l2 := [(nextM (nowL l)).rest]) rfl rfl rfl rfl (by omega) (fun _ _ => CEnt.refl _) (src_os rfl (.inl rfl) (by decide)) rfl (fun j hj => by rcases j with _|j <;> first | exact CEnt.refl _ | exact CEnt.int (by omega) | (exfalso; simp at hj <;> omega)) Tryz.underlying56 nu56 sz26 zr26 by26 rfl (by omega) (by omega) (leaf_flk rfl rfl) rfl rfl rfl (fun p4 => ?_))
      refine jzq jrnc ?_
      refine jzq (jrfa 0 1 false) ?_
      refine jzm (jmst 1 ?_)
      refine jzd ?_
      refine jtn ?_
      refine jcs ?_
      first
        | (refine code_ent (freeze 1 rfl) ?_; refine code_ent (thawC 0 0 1 (rqF ([] ++ l.take (l.length - 1) ++ [(nextM (nowL l)).rest]) 0) (fun i _ => bsC (([] ++ l.take (l.length - 1) ++ [(nextM (nowL l)).rest]).getD i [])) rfl rfl (CEnt.refl _) (CEnt.refl _) (fun j hj h0 => by rcases j with _ | _ | j <;> omega) (by simp) (fun a c ha hc => by obtain rfl : c = 0 := (by omega); rw [Nat.zero_add, Nat.mul_one, Nat.add_zero]; exact CEnt.refl _)) ?_; dsimp only [List.set_cons_zero, List.set_cons_succ, List.cons_append, List.nil_append, List.length_cons, List.length_nil, Nat.zero_add, Nat.reduceAdd])
        | (refine code_ent (freeze 2 rfl) ?_; refine code_ent (thawC 0 0 2 (rqF ([] ++ l.take (l.length - 1) ++ [(nextM (nowL l)).rest]) 0) (fun i _ => bsC (([] ++ l.take (l.length - 1) ++ [(nextM (nowL l)).rest]).getD i [])) rfl rfl (CEnt.refl _) (CEnt.refl _) (fun j hj h0 => by rcases j with _ | _ | j <;> first | omega | exact CEnt.refl _) (by simp) (fun a c ha hc => by obtain rfl : c = 0 := (by omega); rw [Nat.zero_add, Nat.mul_one, Nat.add_zero]; exact CEnt.refl _)) ?_; dsimp only [List.set_cons_zero, List.set_cons_succ, List.cons_append, List.nil_append, List.length_cons, List.length_nil, Nat.zero_add, Nat.reduceAdd])
      refine jcd (.rd 0 (.rd 1 (.rd 2 (.rd 3 (.rd 4 (.rd 5 (.rd 6 (.rd 7 (.rd 8 (.rd 9 .done)))))))))) ?_
      refine jyq jrm ?_
      refine jyq jrm ?_
      refine jyq jrm ?_
      refine jyq (jrsb (hz1 := (show _ = (((fromM (nowL l)) : Nat) : Int) by omega)) (hz2 := (show _ = (((toM (nowL l)) : Nat) : Int) by omega))) ?_
      refine jyq jrm ?_
      refine jyq jrm ?_
      refine jyq (jrst (hz2 := (show _ = (((toM (nowL l)) : Nat) : Int) by omega))) ?_
      refine jyq jrm ?_
      refine jyq jrm ?_
      refine jyq jrm ?_
      refine jyd ?_
      refine jtn ?_
      refine code_ret ?_
      rw [hN]
      refine end_H (.inl rfl) rfl (res_3 rfl javt javt javt) (CEnt.tup3 (CEnt.bs ?_) (CEnt.bs ?_) (CEnt.refl _))
      · exact hc.1.symm
      · rw [take_toM (by omega)]
  · refine z_ent (weaken 69 (bsC (nextM (nowL l)).rest) (CEnt.bs hc.2.1.symm)) ?_
    refine jze (jebl 1 1 zr26 fun p1 => ?_)
    refine jze (jebl 0 1 zr26 fun p2 => ?_)
    refine jzm (m_appendC rowC_lb (l := []) (l2 := l.take (l.length - 1)) rfl rfl rfl rfl (Nat.le_of_eq (Nat.zero_mul _)) (fun j hj => absurd hj (by simp)) (src_rs rfl) (by rw [List.length_take]; omega) (fun j hj => CEnt.of_eq (lb_take8 (by omega))) Tryz.underlying56 nu56 sz26 zr26 by26 rfl (by simp; omega) (by simp; omega) (fun j hj => rfl) rfl rfl (Nat.mul_one _) (fun p3 => ?_))
    refine jzm (m_appendC (rowC_lb) (l2 := [(nextM (nowL l)).rest]) rfl rfl rfl rfl (by omega) (fun _ _ => CEnt.refl _) (src_os rfl (.inl rfl) (by decide)) rfl (fun j hj => by rcases j with _|j <;> first | exact CEnt.refl _ | exact CEnt.int (by omega) | (exfalso; simp at hj <;> omega)) Tryz.underlying56 nu56 sz26 zr26 by26 rfl (by omega) (by omega) (leaf_flk rfl rfl) rfl rfl rfl (fun p4 => ?_))
    refine jzq jrnc ?_
    refine jzq (jrfa 0 1 false) ?_
    refine jzm (jmst 1 ?_)
    refine jzd ?_
    refine jtn ?_
    refine jcs ?_
    first
      | (refine code_ent (freeze 1 rfl) ?_; refine code_ent (thawC 0 0 1 (rqF ([] ++ l.take (l.length - 1) ++ [(nextM (nowL l)).rest]) 0) (fun i _ => bsC (([] ++ l.take (l.length - 1) ++ [(nextM (nowL l)).rest]).getD i [])) rfl rfl (CEnt.refl _) (CEnt.refl _) (fun j hj h0 => by rcases j with _ | _ | j <;> omega) (by simp) (fun a c ha hc => by obtain rfl : c = 0 := (by omega); rw [Nat.zero_add, Nat.mul_one, Nat.add_zero]; exact CEnt.refl _)) ?_; dsimp only [List.set_cons_zero, List.set_cons_succ, List.cons_append, List.nil_append, List.length_cons, List.length_nil, Nat.zero_add, Nat.reduceAdd])
      | (refine code_ent (freeze 2 rfl) ?_; refine code_ent (thawC 0 0 2 (rqF ([] ++ l.take (l.length - 1) ++ [(nextM (nowL l)).rest]) 0) (fun i _ => bsC (([] ++ l.take (l.length - 1) ++ [(nextM (nowL l)).rest]).getD i [])) rfl rfl (CEnt.refl _) (CEnt.refl _) (fun j hj h0 => by rcases j with _ | _ | j <;> omega) (by simp) (fun a c ha hc => by obtain rfl : c = 0 := (by omega); rw [Nat.zero_add, Nat.mul_one, Nat.add_zero]; exact CEnt.refl _)) ?_; dsimp only [List.set_cons_zero, List.set_cons_succ, List.cons_append, List.nil_append, List.length_cons, List.length_nil, Nat.zero_add, Nat.reduceAdd])
    refine jcd (.rd 0 (.rd 1 (.rd 2 (.rd 3 (.rd 4 (.rd 5 (.rd 6 (.rd 7 (.rd 8 (.rd 9 .done)))))))))) ?_
    refine jyq jrm ?_
    refine jyq jrm ?_
    refine jyq jrm ?_
    refine jyq (jrsb (hz1 := (show _ = (((fromM (nowL l)) : Nat) : Int) by omega)) (hz2 := (show _ = (((toM (nowL l)) : Nat) : Int) by omega))) ?_
    refine jyq jrm ?_
    refine jyq jrm ?_
    refine jyq (jrst (hz2 := (show _ = (((toM (nowL l)) : Nat) : Int) by omega))) ?_
    refine jyq jrm ?_
    refine jyq jrm ?_
    refine jyq jrm ?_
    refine jyd ?_
    refine jtn ?_
    refine code_ret ?_
    rw [hN]
    refine end_H (.inl rfl) rfl (res_3 rfl javt javt javt) (CEnt.tup3 (CEnt.bs ?_) (CEnt.bs ?_) (CEnt.refl _))
    · exact hc.1.symm
    · rw [take_toM (by omega)]
end Am
end Go.Proofs.YtgnjjenalebiaaaGreatDoor

/- Chapter 8: the reference's reader: said, Do. -/
namespace Go.Proofs.YtgnjjenalebiaaaGreatDoor
set_option linter.unusedVariables false
namespace Am
variable {gs : List Nat} [OkG gs]
open Go.RowKit Cal
set_option maxRecDepth 100000

theorem range_ok {b : List UInt8} {x y : Int} (h : (rangeM b x y).2 = 0) : (rangeM b x y).1 = (getM b).1 := by
  unfold rangeM at h ⊢
  split
  · rename_i h1; rw [if_pos h1] at h; exact absurd h h1
  · split
    · rename_i h1 h2; rw [if_neg h1, if_pos h2] at h; exact absurd h (by decide)
    · rfl
theorem said_34 {a : AA} (h : a.kind = 3 ∨ a.kind = 4) (b : List UInt8) : saidM a b = (vN (rangeM b a.least a.most).1, (rangeM b a.least a.most).2) := by
  unfold saidM
  rcases h with h | h
  · rw [if_pos h]
  · rw [if_neg (by omega), if_pos h]
theorem get_right {b : List UInt8} (h : (getA b).2 = 0) : rightA (getA b).1 = true := by
  unfold getA at h ⊢
  split at h
  · cases h
  · rename_i h1
    rw [if_neg h1]
    split at h
    · rename_i h2; exact absurd h h2
    · rename_i h2
      rw [if_neg h2]
      split at h
      · cases h
      · rename_i h3
        rw [if_neg h3]
        simpa using h3
def SaidQ (a : AA) (b : List UInt8) : CV → List (Option Nat × Res) → Prop := fun r H' => (∃ v, r = .tup 2 (fl [valC v, .c (.int .i64 ((saidM a b).2 : Nat))]) ∧ ((saidM a b).2 = 0 → v = (saidM a b).1)) ∧ H' = []
def GetC (gs : List Nat) (P : Program) (f : FuncId) : Prop := ∀ b : List UInt8, b.length ≤ 1000000 → ACp gs P f [bsC b] (.tup 2 (fl [isC (getA b).1, .c (.int .i64 ((getA b).2 : Nat))]))
end Am
end Go.Proofs.YtgnjjenalebiaaaGreatDoor

/- Chapter 8: the reference's reader: Do. -/
namespace Go.Proofs.YtgnjjenalebiaaaGreatDoor
set_option linter.unusedVariables false
namespace Am
variable {gs : List Nat} [OkG gs]
open Go.RowKit Cal
set_option maxRecDepth 100000

theorem nextR_err {tag : Int} {l : List (List UInt8)} {k : Nat} (h : k ≠ 0) : nextR tag l k = ⟨l, k, 0, [], [], false⟩ := by unfold nextR; rw [if_pos h]
theorem readR_err {a : AA} {l : List (List UInt8)} {k : Nat} (h : k ≠ 0) : readR a l k = ⟨l, k, VV.none⟩ := by
  have hm : moreM l k = false := by unfold moreM; simp [h]
  have he : enterR a.tag l k = ⟨l, k, 0, [], [], false⟩ := by unfold enterR; rw [hm, if_neg (by simp)]; exact nextR_err h
  unfold readR
  split
  · unfold enterL; rw [he]; rfl
  · split
    · have : leaveK l k = k := by unfold leaveK; rw [if_pos h]
      unfold leaveL
      rw [this, if_neg h]
    · split
      · rw [nextR_err h]; rfl
      · unfold readV valK
        rw [nextR_err h]
        simp
theorem tag_at {a : AA} (h1 : 3 ≤ a.kind) (h2 : a.kind ≤ 9) : fl [CV.c (.int .i64 2), .c (.int .i64 10), .c (.int .i64 1), .c (.int .i64 4), .c (.int .i64 12), .c (.int .i64 6), .c (.int .i64 24)] ((a.kind - 3).toNat) = .c (.int .i64 (tagA a)) := by
  obtain h | h | h | h | h | h | h : a.kind = 3 ∨ a.kind = 4 ∨ a.kind = 5 ∨ a.kind = 6 ∨ a.kind = 7 ∨ a.kind = 8 ∨ a.kind = 9 := by omega
  all_goals (unfold tagA; rw [h]; rfl)
theorem lb_takeD {l : List (List UInt8)} {m i : Nat} (h : i < m) : bsC (l.getD (0 + i) []) = bsC ((l.take m).getD i []) := by
  simp [List.getD_eq_getElem?_getD, List.getElem?_take, h]
theorem readR_enter {a : AA} {l : List (List UInt8)} (h : a.kind = 1) (h0 : ¬(moreM l 0 = true ∧ madeM a.tag = false)) : readR a l 0 = ⟨if (nextR a.tag l 0).is = true then (nextR a.tag l 0).l ++ [(nextR a.tag l 0).body] else (nextR a.tag l 0).l, (nextR a.tag l 0).k, vI (nextR a.tag l 0).is⟩ := by
  have hE : enterR a.tag l 0 = nextR a.tag l 0 := by unfold enterR; rw [if_neg h0]
  unfold readR enterL
  rw [if_pos h, hE]
theorem readR_bad {a : AA} {l : List (List UInt8)} (h : a.kind = 1) (h0 : moreM l 0 = true ∧ madeM a.tag = false) : readR a l 0 = ⟨l, 5, vI false⟩ := by
  have hE : enterR a.tag l 0 = ⟨l, 5, 0, [], [], false⟩ := by unfold enterR; rw [if_pos h0]; exact nextR_err (by decide)
  unfold readR enterL
  rw [if_pos h, hE]
  rfl
theorem readR_leave {a : AA} {l : List (List UInt8)} (h : a.kind = 2) {e : Nat} (he : leaveK l 0 = e) : readR a l 0 = ⟨if e = 0 then l.take (l.length - 1) else l, e, VV.none⟩ := by
  unfold readR leaveL
  rw [if_neg (by omega), if_pos h, he]
theorem readR_val {a : AA} {l : List (List UInt8)} (h1 : a.kind ≠ 1) (h2 : a.kind ≠ 2) (h3 : a.kind ≠ 11) : readR a l 0 = readV (tagA a) (saidM a) l 0 := by
  unfold readR
  rw [if_neg h1, if_neg h2, if_neg h3]
set_option maxHeartbeats 2000000 in
theorem rdo08_ac {gs : List Nat} (n : Nat) (l : List (List UInt8)) (k : Nat) (a : AA) (hl : 0 < l.length ∧ l.length ≤ 1000000) (hb : (nowL l).length ≤ 1000) (hS : a.kind ≠ 1 → a.kind ≠ 2 → a.kind ≠ 11 → ∀ b : List UInt8, b.length ≤ 1000 → AC gs Tryz.prog 54 [] [askC a, bsC b] (SaidQ a b)) : AC gs Tryz.prog 20 [rqE n l k] [.op 0 (some n) 0, askC a] (fun r H' => r = valC (readR a l k).v ∧ H' = [rqE n (readR a l k).l (readR a l k).k]) := by
  have hbd := nextM_bd (nowL l)
  have hn1 : (nextR a.tag l 0).l.length = l.length := nextR_len
  have hbb : (nextR (tagA a) l 0).body.length ≤ 1000 := by
    unfold nextR
    repeat' split
    all_goals (simp only [List.length_nil]; omega)
  refine ac_of 160 Tryz.func20 rfl rfl rfl (fun al w0 F0 St0 => ?_)
  refine jcr ?_
  refine jqe (jebx 4 fun p1 => ?_)
  refine jqe (jeal (n := 5) zr43 rfl fun p2 => ?_)
  refine seq_nil ?_
  refine jcr ?_
  refine jq (rd_build (n := 5) rfl zr43 pl43 rfl rfl) ?_
  refine jqe (jeal (n := 5) zr43 rfl fun p3 => ?_)
  refine jqm (jmst 5 ?_)
  refine seq_nil ?_
  refine jcs ?_
  refine jcr ?_
  refine jq jrm ?_
  refine jq jrnc ?_
  refine jq (jrfa 1 1 false) ?_
  refine jqo jrdo ?_
  refine jq jrc ?_
  refine seq_nil ?_
  refine jcc (fun h199 => ?_) fun h199 => ?_
  · refine jcr ?_
    refine jqo (jrdoA 5) ?_
    refine jqm (jmst 5 ?_)
    refine seq_nil ?_
    refine code_ret (jtr ?_)
    rw [readR_err (by omega)]
    exact end_H (.inl rfl) rfl (res_1 rfl (javA 5)) (CEnt.agg rfl (fun j hj => by rcases j with _ | _ | _ | _ | _ | j <;> first | exact CEnt.refl _ | exact CEnt.nilB | omega))
  refine code_skip (jtn ?_)
  refine jcs ?_
  obtain rfl : k = 0 := by omega
  refine code_ent (freeze 1 rfl) ?_
  refine code_ent (thawP 3 (m := 4) rfl rfl (by decide)) ?_
  dsimp only [List.set_cons_zero, List.set_cons_succ, List.cons_append, List.nil_append, List.length_cons, List.length_nil, Nat.zero_add, Nat.reduceAdd]
  refine jcr ?_
  refine jq (jrfa 0 1 false) ?_
  refine jq jrdr ?_
  refine seq_nil ?_
  refine code_block ?_
  refine jcr ?_
  refine jq jrc ?_
  refine jq jrm ?_
  refine seq_nil ?_
  refine jcc (fun h203 => ?_) fun h203 => ?_
  · refine jcs ?_
    refine jcs ?_
    refine jcd (.rd 0 (.rd 1 (.rd 2 (.rd 3 (.rd 4 (.rd 5 (.rd 6 (.rd 7 (.rd 8 (.rd 9 (.rd 10 (.rd 11 (.rd 12 (.rd 13 (.rd 14 (.rd 15 (.rd 16 (.one 17 (.rd 18 (.rd 19 .done)))))))))))))))))))) ?_
    refine jyq jrm ?_
    refine jyq jrnc ?_
    refine jyq (jrfa 0 1 false) ?_
    refine jyo jrdo ?_
    refine jyq jrm ?_
    refine jyq jrnc ?_
    refine jyq (jrfa 0 1 false) ?_
    refine jyo jrdo ?_
    refine jyq jrl ?_
    refine jyq jra ?_
    refine jyq (jri (i := (l.length - 1)) (hz := by omega)) ?_
    refine jyq jrdr ?_
    refine jyq jrl ?_
    refine jyq jrc ?_
    refine jyq jrm ?_
    refine jysp 44 (fun g204 => ?_) fun g204 => ?_
    rotate_left
    · refine jys ?_
      refine jys ?_
      refine jys1 ?_
      refine jys ?_
      refine jyq jrpF ?_
      refine jyd ?_
      refine jtn ?_
      refine jcF ?_
      refine code_skip (jtn ?_)
      have hR := readR_enter (a := a) (l := l) (by omega) (by simp_all [moreM, madeM, nowL])
      refine jcr ?_
      refine jq jrm ?_
      refine jq (jrfa 1 1 false) ?_
      refine jq jrdr ?_
      refine jqm (jmcH 0 (rnext08_ac n l 0 a.tag hl (by omega)) ?_)
      rintro _ _ ⟨rfl, rfl⟩
      refine ⟨_, _, rfl, CEnt.refl _, ?_⟩
      refine jq jrm ?_
      refine jq jrx ?_
      refine jq jrx ?_
      refine jq jrx ?_
      refine jq jrm ?_
      refine jq jrm ?_
      refine jq jrm ?_
      refine seq_nil ?_
      refine jcs ?_
      refine jcr ?_
      refine jq jrm ?_
      refine seq_nil ?_
      refine jcc (fun h209 => ?_) fun h209 => ?_
      rotate_left
      · refine code_skip (jtn ?_)
        first
          | (refine code_ent (freeze 4 rfl) ?_; refine code_ent (thawC 0 0 4 (rqF ([] ++ (nextR a.tag l 0).l ++ [(nextR a.tag l 0).body]) (nextR a.tag l 0).k) (fun i _ => bsC (([] ++ (nextR a.tag l 0).l ++ [(nextR a.tag l 0).body]).getD i [])) rfl rfl (CEnt.refl _) (CEnt.refl _) (fun j hj h0 => by rcases j with _ | _ | j <;> first | omega | exact CEnt.refl _) (by simp) (fun a c ha hc => by obtain rfl : c = 0 := (by omega); rw [Nat.zero_add, Nat.mul_one, Nat.add_zero]; exact CEnt.refl _)) ?_; dsimp only [List.set_cons_zero, List.set_cons_succ, List.cons_append, List.nil_append, List.length_cons, List.length_nil, Nat.zero_add, Nat.reduceAdd]; have hL : (if (nextR a.tag l 0).is = true then (nextR a.tag l 0).l ++ [(nextR a.tag l 0).body] else (nextR a.tag l 0).l) = [] ++ (nextR a.tag l 0).l ++ [(nextR a.tag l 0).body] := by rw [if_pos (by simpa using h209)]; rfl)
          | (have hL : (if (nextR a.tag l 0).is = true then (nextR a.tag l 0).l ++ [(nextR a.tag l 0).body] else (nextR a.tag l 0).l) = (nextR a.tag l 0).l := by rw [if_neg (by simpa using h209)])
        refine jcr ?_
        refine jq jrm ?_
        refine jq (rd_build (n := 5) rfl zr43 pl43 rfl rfl) ?_
        refine jqm (jmst 5 ?_)
        refine seq_nil ?_
        refine code_ret (jbr (jtr ?_))
        rw [hR, hL]
        exact end_H (.inl rfl) rfl (res_1 rfl (javA 5)) (CEnt.agg rfl (fun j hj => by rcases j with _ | _ | _ | _ | _ | j <;> first | exact CEnt.refl _ | exact CEnt.nilB | omega))
      refine jcg ?_
      refine jq jrm ?_
      refine jqe (jebl 0 1 zr26 fun p5 => ?_)
      refine jq jrm ?_
      refine jq jrnc ?_
      refine jq (jrfa 0 1 false) ?_
      refine jqo jrdo ?_
      refine jqm (m_appendC (l := []) ( rowC_lb) rfl rfl rfl rfl (Nat.le_of_eq (Nat.zero_mul _)) (fun j hj => absurd hj (by simp)) (src_rs rfl) rfl (fun j hj => by (simp only [Nat.div_one]; exact CEnt.refl _)) Tryz.underlying56 nu56 sz26 zr26 by26 rfl (by (simp; omega)) (by (simp; omega)) (fun j hj => rfl) rfl rfl rfl (fun p6 => ?_))
      refine jq jrm ?_
      refine jqe (jebl 1 1 zr26 fun p7 => ?_)
      refine jqm (m_appendC (rowC_lb) (l2 := [(nextR a.tag l 0).body]) rfl rfl rfl rfl (by exact Nat.le_refl _) (fun _ _ => CEnt.refl _) (src_os rfl (.inl rfl) (by decide)) rfl (fun j hj => by rcases j with _|j <;> first | exact CEnt.refl _ | exact CEnt.int (by omega) | (exfalso; simp at hj <;> omega)) Tryz.underlying56 nu56 sz26 zr26 by26 rfl (by (simp; omega)) (by (simp; omega)) (leaf_flk rfl rfl) rfl rfl rfl (fun p8 => ?_))
      refine jq jrnc ?_
      refine jq (jrfa 0 1 false) ?_
      refine jqm (jmst 1 ?_)
      refine seq_nil ?_
      refine jtn ?_
      first
        | (refine code_ent (freeze 4 rfl) ?_; refine code_ent (thawC 0 0 4 (rqF ([] ++ (nextR a.tag l 0).l ++ [(nextR a.tag l 0).body]) (nextR a.tag l 0).k) (fun i _ => bsC (([] ++ (nextR a.tag l 0).l ++ [(nextR a.tag l 0).body]).getD i [])) rfl rfl (CEnt.refl _) (CEnt.refl _) (fun j hj h0 => by rcases j with _ | _ | j <;> first | omega | exact CEnt.refl _) (by simp) (fun a c ha hc => by obtain rfl : c = 0 := (by omega); rw [Nat.zero_add, Nat.mul_one, Nat.add_zero]; exact CEnt.refl _)) ?_; dsimp only [List.set_cons_zero, List.set_cons_succ, List.cons_append, List.nil_append, List.length_cons, List.length_nil, Nat.zero_add, Nat.reduceAdd]; have hL : (if (nextR a.tag l 0).is = true then (nextR a.tag l 0).l ++ [(nextR a.tag l 0).body] else (nextR a.tag l 0).l) = [] ++ (nextR a.tag l 0).l ++ [(nextR a.tag l 0).body] := by rw [if_pos (by simpa using h209)]; rfl)
        | (have hL : (if (nextR a.tag l 0).is = true then (nextR a.tag l 0).l ++ [(nextR a.tag l 0).body] else (nextR a.tag l 0).l) = (nextR a.tag l 0).l := by rw [if_neg (by simpa using h209)])
      refine jcr ?_
      refine jq jrm ?_
      refine jq (rd_build (n := 5) rfl zr43 pl43 rfl rfl) ?_
      refine jqm (jmst 5 ?_)
      refine seq_nil ?_
      refine code_ret (jbr (jtr ?_))
      rw [hR, hL]
      exact end_H (.inl rfl) rfl (res_1 rfl (javA 5)) (CEnt.agg rfl (fun j hj => by rcases j with _ | _ | _ | _ | _ | j <;> first | exact CEnt.refl _ | exact CEnt.nilB | omega))
    refine jyq (jrfa 1 1 false) ?_
    refine jyq jrdr ?_
    refine jye (jecP (rmade_ac a.tag) ?_)
    refine jyq jrn ?_
    refine jyq jrpT ?_
    refine jyd ?_
    refine jtn ?_
    refine jcc (fun h204 => ?_) fun h204 => ?_
    · refine jcr ?_
      refine jq jrm ?_
      refine jq jrnc ?_
      refine jq (jrfa 1 1 false) ?_
      refine jqm (jmstF 1 (rqF l 5) ?_ ?_)
      · exact (fun j hj => by rcases j with _ | _ | j <;> exact CEnt.refl _)
      refine seq_nil ?_
      refine jcr ?_
      refine jqo (jrdoA 5) ?_
      refine jqm (jmst 5 ?_)
      refine seq_nil ?_
      refine code_ret (jtr (jbr (jtr ?_)))
      rw [readR_bad (by omega) (by simp_all [moreM, madeM, nowL])]
      exact end_H (.inl rfl) rfl (res_1 rfl (javA 5)) (CEnt.agg rfl (fun j hj => by rcases j with _ | _ | _ | _ | _ | j <;> first | exact CEnt.refl _ | exact CEnt.nilB | omega))
    refine code_skip (jtn ?_)
    have hR := readR_enter (a := a) (l := l) (by omega) (by simp_all [moreM, madeM, nowL])
    refine jcr ?_
    refine jq jrm ?_
    refine jq (jrfa 1 1 false) ?_
    refine jq jrdr ?_
    refine jqm (jmcH 0 (rnext08_ac n l 0 a.tag hl (by omega)) ?_)
    rintro _ _ ⟨rfl, rfl⟩
    refine ⟨_, _, rfl, CEnt.refl _, ?_⟩
    refine jq jrm ?_
    refine jq jrx ?_
    refine jq jrx ?_
    refine jq jrx ?_
    refine jq jrm ?_
    refine jq jrm ?_
    refine jq jrm ?_
    refine seq_nil ?_
    refine jcs ?_
    refine jcr ?_
    refine jq jrm ?_
    refine seq_nil ?_
    refine jcc (fun h209 => ?_) fun h209 => ?_
    rotate_left
    · refine code_skip (jtn ?_)
      first
        | (refine code_ent (freeze 4 rfl) ?_; refine code_ent (thawC 0 0 4 (rqF ([] ++ (nextR a.tag l 0).l ++ [(nextR a.tag l 0).body]) (nextR a.tag l 0).k) (fun i _ => bsC (([] ++ (nextR a.tag l 0).l ++ [(nextR a.tag l 0).body]).getD i [])) rfl rfl (CEnt.refl _) (CEnt.refl _) (fun j hj h0 => by rcases j with _ | _ | j <;> first | omega | exact CEnt.refl _) (by simp) (fun a c ha hc => by obtain rfl : c = 0 := (by omega); rw [Nat.zero_add, Nat.mul_one, Nat.add_zero]; exact CEnt.refl _)) ?_; dsimp only [List.set_cons_zero, List.set_cons_succ, List.cons_append, List.nil_append, List.length_cons, List.length_nil, Nat.zero_add, Nat.reduceAdd]; have hL : (if (nextR a.tag l 0).is = true then (nextR a.tag l 0).l ++ [(nextR a.tag l 0).body] else (nextR a.tag l 0).l) = [] ++ (nextR a.tag l 0).l ++ [(nextR a.tag l 0).body] := by rw [if_pos (by simpa using h209)]; rfl)
        | (have hL : (if (nextR a.tag l 0).is = true then (nextR a.tag l 0).l ++ [(nextR a.tag l 0).body] else (nextR a.tag l 0).l) = (nextR a.tag l 0).l := by rw [if_neg (by simpa using h209)])
      refine jcr ?_
      refine jq jrm ?_
      refine jq (rd_build (n := 5) rfl zr43 pl43 rfl rfl) ?_
      refine jqm (jmst 5 ?_)
      refine seq_nil ?_
      refine code_ret (jbr (jtr ?_))
      rw [hR, hL]
      exact end_H (.inl rfl) rfl (res_1 rfl (javA 5)) (CEnt.agg rfl (fun j hj => by rcases j with _ | _ | _ | _ | _ | j <;> first | exact CEnt.refl _ | exact CEnt.nilB | omega))
    refine jcg ?_
    refine jq jrm ?_
    refine jqe (jebl 0 1 zr26 fun p5 => ?_)
    refine jq jrm ?_
    refine jq jrnc ?_
    refine jq (jrfa 0 1 false) ?_
    refine jqo jrdo ?_
    refine jqm (m_appendC (l := []) ( rowC_lb) rfl rfl rfl rfl (Nat.le_of_eq (Nat.zero_mul _)) (fun j hj => absurd hj (by simp)) (src_rs rfl) rfl (fun j hj => by (simp only [Nat.div_one]; exact CEnt.refl _)) Tryz.underlying56 nu56 sz26 zr26 by26 rfl (by (simp; omega)) (by (simp; omega)) (fun j hj => rfl) rfl rfl rfl (fun p6 => ?_))
    refine jq jrm ?_
    refine jqe (jebl 1 1 zr26 fun p7 => ?_)
    refine jqm (m_appendC (rowC_lb) (l2 := [(nextR a.tag l 0).body]) rfl rfl rfl rfl (by exact Nat.le_refl _) (fun _ _ => CEnt.refl _) (src_os rfl (.inl rfl) (by decide)) rfl (fun j hj => by rcases j with _|j <;> first | exact CEnt.refl _ | exact CEnt.int (by omega) | (exfalso; simp at hj <;> omega)) Tryz.underlying56 nu56 sz26 zr26 by26 rfl (by (simp; omega)) (by (simp; omega)) (leaf_flk rfl rfl) rfl rfl rfl (fun p8 => ?_))
    refine jq jrnc ?_
    refine jq (jrfa 0 1 false) ?_
    refine jqm (jmst 1 ?_)
    refine seq_nil ?_
    refine jtn ?_
    first
      | (refine code_ent (freeze 4 rfl) ?_; refine code_ent (thawC 0 0 4 (rqF ([] ++ (nextR a.tag l 0).l ++ [(nextR a.tag l 0).body]) (nextR a.tag l 0).k) (fun i _ => bsC (([] ++ (nextR a.tag l 0).l ++ [(nextR a.tag l 0).body]).getD i [])) rfl rfl (CEnt.refl _) (CEnt.refl _) (fun j hj h0 => by rcases j with _ | _ | j <;> first | omega | exact CEnt.refl _) (by simp) (fun a c ha hc => by obtain rfl : c = 0 := (by omega); rw [Nat.zero_add, Nat.mul_one, Nat.add_zero]; exact CEnt.refl _)) ?_; dsimp only [List.set_cons_zero, List.set_cons_succ, List.cons_append, List.nil_append, List.length_cons, List.length_nil, Nat.zero_add, Nat.reduceAdd]; have hL : (if (nextR a.tag l 0).is = true then (nextR a.tag l 0).l ++ [(nextR a.tag l 0).body] else (nextR a.tag l 0).l) = [] ++ (nextR a.tag l 0).l ++ [(nextR a.tag l 0).body] := by rw [if_pos (by simpa using h209)]; rfl)
      | (have hL : (if (nextR a.tag l 0).is = true then (nextR a.tag l 0).l ++ [(nextR a.tag l 0).body] else (nextR a.tag l 0).l) = (nextR a.tag l 0).l := by rw [if_neg (by simpa using h209)])
    refine jcr ?_
    refine jq jrm ?_
    refine jq (rd_build (n := 5) rfl zr43 pl43 rfl rfl) ?_
    refine jqm (jmst 5 ?_)
    refine seq_nil ?_
    refine code_ret (jbr (jtr ?_))
    rw [hR, hL]
    exact end_H (.inl rfl) rfl (res_1 rfl (javA 5)) (CEnt.agg rfl (fun j hj => by rcases j with _ | _ | _ | _ | _ | j <;> first | exact CEnt.refl _ | exact CEnt.nilB | omega))
  refine jcr ?_
  refine jq jrc ?_
  refine jq jrm ?_
  refine seq_nil ?_
  refine jcc (fun h213 => ?_) fun h213 => ?_
  · refine jcr ?_
    refine jq jrm ?_
    refine jq jrnc ?_
    refine jq (jrfa 0 1 false) ?_
    refine jqo jrdo ?_
    refine jq jrl ?_
    refine jq jra ?_
    refine jq jrm ?_
    refine seq_nil ?_
    refine jcs ?_
    refine jcr ?_
    refine jq jrm ?_
    refine jq jrc ?_
    refine seq_nil ?_
    refine jcc (fun h215 => ?_) fun h215 => ?_
    · refine jcg ?_
      refine jq jrm ?_
      refine jq jrnc ?_
      refine jq (jrfa 1 1 false) ?_
      refine jqm (jmstF 1 (rqF l 24) ?_ ?_)
      · exact (fun j hj => by rcases j with _ | _ | j <;> exact CEnt.refl _)
      refine seq_nil ?_
      refine jtn ?_
      refine jcr ?_
      refine jqo (jrdoA 5) ?_
      refine jqm (jmst 5 ?_)
      refine seq_nil ?_
      refine code_ret (jbr (jtr ?_))
      first
        | rw [readR_leave (e := 24) (by omega) (by unfold leaveK; rw [if_neg (by decide), if_pos (by omega)]), if_neg (by decide)]
        | rw [readR_leave (e := 4) (by omega) (by unfold leaveK nowL; rw [if_neg (by decide), if_neg (by omega), if_pos (by omega)]), if_neg (by decide)]
        | rw [readR_leave (e := 0) (by omega) (by unfold leaveK nowL; rw [if_neg (by decide), if_neg (by omega), if_neg (by omega)]), if_pos rfl]
      exact end_H (.inl rfl) rfl (res_1 rfl (javA 5)) (CEnt.agg rfl (fun j hj => by rcases j with _ | _ | _ | _ | _ | j <;> first | exact CEnt.refl _ | exact CEnt.nilB | omega))
    refine jcr ?_
    refine jq jrm ?_
    refine jq jrnc ?_
    refine jq (jrfa 0 1 false) ?_
    refine jqo jrdo ?_
    refine jq jrm ?_
    refine jq (jri (i := (l.length - 1)) (hz := by omega)) ?_
    refine jq jrdr ?_
    refine jq jrl ?_
    refine jq jrc ?_
    refine seq_nil ?_
    refine jcc (fun h217 => ?_) fun h217 => ?_
    · refine jcg ?_
      refine jq jrm ?_
      refine jq jrnc ?_
      refine jq (jrfa 1 1 false) ?_
      refine jqm (jmstF 1 (rqF l 4) ?_ ?_)
      · exact (fun j hj => by rcases j with _ | _ | j <;> exact CEnt.refl _)
      refine seq_nil ?_
      refine jtn ?_
      refine jcr ?_
      refine jqo (jrdoA 5) ?_
      refine jqm (jmst 5 ?_)
      refine seq_nil ?_
      refine code_ret (jbr (jtr ?_))
      first
        | rw [readR_leave (e := 24) (by omega) (by unfold leaveK; rw [if_neg (by decide), if_pos (by omega)]), if_neg (by decide)]
        | rw [readR_leave (e := 4) (by omega) (by unfold leaveK nowL; rw [if_neg (by decide), if_neg (by omega), if_pos (by omega)]), if_neg (by decide)]
        | rw [readR_leave (e := 0) (by omega) (by unfold leaveK nowL; rw [if_neg (by decide), if_neg (by omega), if_neg (by omega)]), if_pos rfl]
      exact end_H (.inl rfl) rfl (res_1 rfl (javA 5)) (CEnt.agg rfl (fun j hj => by rcases j with _ | _ | _ | _ | _ | j <;> first | exact CEnt.refl _ | exact CEnt.nilB | omega))
    refine jcg ?_
    refine jq jrm ?_
    refine jq jrm ?_
    refine jq jrnc ?_
    refine jq (jrfa 0 1 false) ?_
    refine jqo jrdo ?_
    refine jq jrm ?_
    refine jq (jrsr (hl := (bd_none _ _)) (hu := (bd_some rfl (show _ = (((l.length - 1) : Nat) : Int) by omega)))) ?_
    refine jq jrnc ?_
    refine jq (jrfa 0 1 false) ?_
    refine jqm (jmstF 1 (rqF (l.take (l.length - 1)) 0) ?_ ?_)
    · exact (fun j hj => by rcases j with _ | _ | j <;> first | exact CEnt.rs (by rw [List.length_take]; omega) (fun i q hi hq => CEnt.of_eq (lb_takeD hi)) | exact CEnt.refl _ | omega)
    refine seq_nil ?_
    refine jtn ?_
    refine jcr ?_
    refine jqo (jrdoA 5) ?_
    refine jqm (jmst 5 ?_)
    refine seq_nil ?_
    refine code_ret (jbr (jtr ?_))
    first
      | rw [readR_leave (e := 24) (by omega) (by unfold leaveK; rw [if_neg (by decide), if_pos (by omega)]), if_neg (by decide)]
      | rw [readR_leave (e := 4) (by omega) (by unfold leaveK nowL; rw [if_neg (by decide), if_neg (by omega), if_pos (by omega)]), if_neg (by decide)]
      | rw [readR_leave (e := 0) (by omega) (by unfold leaveK nowL; rw [if_neg (by decide), if_neg (by omega), if_neg (by omega)]), if_pos rfl]
    exact end_H (.inl rfl) rfl (res_1 rfl (javA 5)) (CEnt.agg rfl (fun j hj => by rcases j with _ | _ | _ | _ | _ | j <;> first | exact CEnt.refl _ | exact CEnt.nilB | omega))
  refine jcr ?_
  refine jq jrc ?_
  refine jq jrm ?_
  refine seq_nil ?_
  refine jcc (fun h223 => ?_) fun h223 => ?_
  · refine jcr ?_
    refine jq jrm ?_
    refine jqm (jmcH 0 (rnext08_ac n l 0 0 hl (by omega)) ?_)
    rintro _ _ ⟨rfl, rfl⟩
    refine ⟨_, _, rfl, CEnt.refl _, ?_⟩
    refine jq jrm ?_
    refine jq jrx ?_
    refine jq jrx ?_
    refine jq jrx ?_
    refine jq jrm ?_
    refine jq jrm ?_
    refine jq jrm ?_
    refine seq_nil ?_
    refine jcr ?_
    refine jq jrm ?_
    refine jq (rd_build (n := 5) rfl zr43 pl43 rfl rfl) ?_
    refine jqm (jmst 5 ?_)
    refine seq_nil ?_
    refine code_ret (jbr (jtr ?_))
    rw [show readR a l 0 = ⟨(nextR 0 l 0).l, (nextR 0 l 0).k, vB (nextR 0 l 0).raw⟩ by unfold readR; rw [if_neg (by omega), if_neg (by omega), if_pos (by omega)]]
    exact end_H (.inl rfl) rfl (res_1 rfl (javA 5)) (CEnt.agg rfl (fun j hj => by rcases j with _ | _ | _ | _ | _ | j <;> first | exact CEnt.refl _ | exact CEnt.nilB | omega))
  refine code_skip (jbn (jtn ?_))
  refine jcr ?_
  refine jq jrm ?_
  refine seq_nil ?_
  refine jcs ?_
  refine jcr ?_
  refine jq (jrfa 0 1 false) ?_
  refine jq jrdr ?_
  refine jq jrc ?_
  refine jq jrm ?_
  refine jqsp 125 (fun g228 => ?_) fun g228 => ?_
  rotate_left
  · refine jqs ?_
    refine jqs ?_
    refine jqs ?_
    refine jq jrpF ?_
    refine seq_nil ?_
    refine jcF ?_
    refine code_skip (jtn ?_)
    first
      | refine code_ent (weaken 13 (.c (.int .i64 (tagA a))) (CEnt.refl _)) ?_
      | refine code_ent (weaken 13 (.c (.int .i64 (tagA a))) (CEnt.int (by unfold tagA; rw [if_neg (by omega), if_neg (by omega), if_neg (by omega), if_neg (by omega), if_neg (by omega), if_neg (by omega), if_neg (by omega)]))) ?_
    refine jcr ?_
    refine jq jrm ?_
    refine jq jrm ?_
    refine jqm (jmcH 0 (rnext08_ac n l 0 (tagA a) hl (by omega)) ?_)
    rintro _ _ ⟨rfl, rfl⟩
    refine ⟨_, _, rfl, CEnt.refl _, ?_⟩
    refine jq jrm ?_
    refine jq jrx ?_
    refine jq jrx ?_
    refine jq jrx ?_
    refine jq jrm ?_
    refine jq jrm ?_
    refine jq jrm ?_
    refine seq_nil ?_
    refine jcs ?_
    refine jcr ?_
    refine jq jrm ?_
    refine jq jrn ?_
    refine seq_nil ?_
    refine jcc (fun h232 => ?_) fun h232 => ?_
    · refine jcr ?_
      refine jqo (jrdoA 5) ?_
      refine jqm (jmst 5 ?_)
      refine seq_nil ?_
      refine code_ret (jtr ?_)
      rw [readR_val (by omega) (by omega) (by omega), show readV (tagA a) (saidM a) l 0 = ⟨(nextR (tagA a) l 0).l, (nextR (tagA a) l 0).k, VV.none⟩ by unfold readV valK; rw [if_neg (by simp_all), if_neg (by simp_all)]]
      exact end_H (.inl rfl) rfl (res_1 rfl (javA 5)) (CEnt.agg rfl (fun j hj => by rcases j with _ | _ | _ | _ | _ | j <;> first | exact CEnt.refl _ | exact CEnt.nilB | omega))
    refine code_skip (jtn ?_)
    have his := nextR_is (tag := tagA a) (l := l) (k := 0) (by simpa using h232)
    have hit : (nextR (tagA a) l 0).is = true := by simpa using h232
    refine jcr ?_
    refine jq (jrdrA 4) ?_
    refine jq jrm ?_
    refine jqe (jecS (hS (by omega) (by omega) (by omega) (nextR (tagA a) l 0).body hbb) ?_)
    rintro _ _ ⟨⟨v, rfl, hv⟩, rfl⟩
    refine jq jrm ?_
    refine jq jrx ?_
    refine jq jrx ?_
    refine jqe (jeal (n := 5) zr43 rfl fun p5 => ?_)
    refine jqm (jmst 5 ?_)
    refine jq jrm ?_
    refine seq_nil ?_
    refine jcs ?_
    refine jcr ?_
    refine jq jrm ?_
    refine jq jrc ?_
    refine seq_nil ?_
    refine jcc (fun h236 => ?_) fun h236 => ?_
    rotate_left
    · refine code_skip (jtn ?_)
      refine jcr ?_
      refine jqo (jrdoA 5) ?_
      refine jqm (jmst 5 ?_)
      refine seq_nil ?_
      refine code_ret ?_
      have he0 : (saidM a (nextR (tagA a) l 0).body).2 = 0 := by omega
      rw [readR_val (by omega) (by omega) (by omega), show readV (tagA a) (saidM a) l 0 = ⟨(nextR (tagA a) l 0).l, (nextR (tagA a) l 0).k, v⟩ by unfold readV valK; rw [if_pos hit, if_pos ⟨hit, he0⟩, hv he0]; show R8R.mk _ (saidM a (nextR (tagA a) l 0).body).2 _ = _; rw [he0, his.1]]
      exact end_H (.inl rfl) rfl (res_1 rfl (javA 5)) (CEnt.agg rfl (fun j hj => by rcases j with _ | _ | _ | _ | _ | j <;> first | exact CEnt.refl _ | exact CEnt.nilB | omega))
    refine jcr ?_
    refine jq jrm ?_
    refine jq jrm ?_
    refine jq jrnc ?_
    refine jq (jrfa 1 1 false) ?_
    refine jqm (jmstF 1 (rqF (nextR (tagA a) l 0).l (saidM a (nextR (tagA a) l 0).body).2) ?_ ?_)
    · exact (fun j hj => by rcases j with _ | _ | j <;> exact CEnt.refl _)
    refine seq_nil ?_
    refine jcr ?_
    refine jqo (jrdoA 5) ?_
    refine jqm (jmst 5 ?_)
    refine seq_nil ?_
    refine code_ret (jtr ?_)
    rw [readR_val (by omega) (by omega) (by omega), show readV (tagA a) (saidM a) l 0 = ⟨(nextR (tagA a) l 0).l, (saidM a (nextR (tagA a) l 0).body).2, VV.none⟩ by unfold readV valK; rw [if_pos hit, if_neg (by intro h; omega)]]
    exact end_H (.inl rfl) rfl (res_1 rfl (javA 5)) (CEnt.agg rfl (fun j hj => by rcases j with _ | _ | _ | _ | _ | j <;> first | exact CEnt.refl _ | exact CEnt.nilB | omega))
  refine jq (jrfa 0 1 false) ?_
  refine jq jrdr ?_
  refine jq jrc ?_
  refine jq jrpT ?_
  refine seq_nil ?_
  refine jcc (fun h228 => ?_) fun h228 => ?_
  rotate_left
  · refine code_skip (jtn ?_)
    first
      | refine code_ent (weaken 13 (.c (.int .i64 (tagA a))) (CEnt.refl _)) ?_
      | refine code_ent (weaken 13 (.c (.int .i64 (tagA a))) (CEnt.int (by unfold tagA; rw [if_neg (by omega), if_neg (by omega), if_neg (by omega), if_neg (by omega), if_neg (by omega), if_neg (by omega), if_neg (by omega)]))) ?_
    refine jcr ?_
    refine jq jrm ?_
    refine jq jrm ?_
    refine jqm (jmcH 0 (rnext08_ac n l 0 (tagA a) hl (by omega)) ?_)
    rintro _ _ ⟨rfl, rfl⟩
    refine ⟨_, _, rfl, CEnt.refl _, ?_⟩
    refine jq jrm ?_
    refine jq jrx ?_
    refine jq jrx ?_
    refine jq jrx ?_
    refine jq jrm ?_
    refine jq jrm ?_
    refine jq jrm ?_
    refine seq_nil ?_
    refine jcs ?_
    refine jcr ?_
    refine jq jrm ?_
    refine jq jrn ?_
    refine seq_nil ?_
    refine jcc (fun h232 => ?_) fun h232 => ?_
    · refine jcr ?_
      refine jqo (jrdoA 5) ?_
      refine jqm (jmst 5 ?_)
      refine seq_nil ?_
      refine code_ret (jtr ?_)
      rw [readR_val (by omega) (by omega) (by omega), show readV (tagA a) (saidM a) l 0 = ⟨(nextR (tagA a) l 0).l, (nextR (tagA a) l 0).k, VV.none⟩ by unfold readV valK; rw [if_neg (by simp_all), if_neg (by simp_all)]]
      exact end_H (.inl rfl) rfl (res_1 rfl (javA 5)) (CEnt.agg rfl (fun j hj => by rcases j with _ | _ | _ | _ | _ | j <;> first | exact CEnt.refl _ | exact CEnt.nilB | omega))
    refine code_skip (jtn ?_)
    have his := nextR_is (tag := tagA a) (l := l) (k := 0) (by simpa using h232)
    have hit : (nextR (tagA a) l 0).is = true := by simpa using h232
    refine jcr ?_
    refine jq (jrdrA 4) ?_
    refine jq jrm ?_
    refine jqe (jecS (hS (by omega) (by omega) (by omega) (nextR (tagA a) l 0).body hbb) ?_)
    rintro _ _ ⟨⟨v, rfl, hv⟩, rfl⟩
    refine jq jrm ?_
    refine jq jrx ?_
    refine jq jrx ?_
    refine jqe (jeal (n := 5) zr43 rfl fun p5 => ?_)
    refine jqm (jmst 5 ?_)
    refine jq jrm ?_
    refine seq_nil ?_
    refine jcs ?_
    refine jcr ?_
    refine jq jrm ?_
    refine jq jrc ?_
    refine seq_nil ?_
    refine jcc (fun h236 => ?_) fun h236 => ?_
    rotate_left
    · refine code_skip (jtn ?_)
      refine jcr ?_
      refine jqo (jrdoA 5) ?_
      refine jqm (jmst 5 ?_)
      refine seq_nil ?_
      refine code_ret ?_
      have he0 : (saidM a (nextR (tagA a) l 0).body).2 = 0 := by omega
      rw [readR_val (by omega) (by omega) (by omega), show readV (tagA a) (saidM a) l 0 = ⟨(nextR (tagA a) l 0).l, (nextR (tagA a) l 0).k, v⟩ by unfold readV valK; rw [if_pos hit, if_pos ⟨hit, he0⟩, hv he0]; show R8R.mk _ (saidM a (nextR (tagA a) l 0).body).2 _ = _; rw [he0, his.1]]
      exact end_H (.inl rfl) rfl (res_1 rfl (javA 5)) (CEnt.agg rfl (fun j hj => by rcases j with _ | _ | _ | _ | _ | j <;> first | exact CEnt.refl _ | exact CEnt.nilB | omega))
    refine jcr ?_
    refine jq jrm ?_
    refine jq jrm ?_
    refine jq jrnc ?_
    refine jq (jrfa 1 1 false) ?_
    refine jqm (jmstF 1 (rqF (nextR (tagA a) l 0).l (saidM a (nextR (tagA a) l 0).body).2) ?_ ?_)
    · exact (fun j hj => by rcases j with _ | _ | j <;> exact CEnt.refl _)
    refine seq_nil ?_
    refine jcr ?_
    refine jqo (jrdoA 5) ?_
    refine jqm (jmst 5 ?_)
    refine seq_nil ?_
    refine code_ret (jtr ?_)
    rw [readR_val (by omega) (by omega) (by omega), show readV (tagA a) (saidM a) l 0 = ⟨(nextR (tagA a) l 0).l, (saidM a (nextR (tagA a) l 0).body).2, VV.none⟩ by unfold readV valK; rw [if_pos hit, if_neg (by intro h; omega)]]
    exact end_H (.inl rfl) rfl (res_1 rfl (javA 5)) (CEnt.agg rfl (fun j hj => by rcases j with _ | _ | _ | _ | _ | j <;> first | exact CEnt.refl _ | exact CEnt.nilB | omega))
  refine jcg ?_
  refine jqe (jebl 7 1 zr3 fun p4 => ?_)
  refine jq (jrfa 0 1 false) ?_
  refine jq jrdr ?_
  refine jq jra ?_
  refine jq (jri (i := (a.kind - 3).toNat) (hz := by omega)) ?_
  refine jqo (jrdo (hv := tag_at (by omega) (by omega))) ?_
  refine jq jrm ?_
  refine seq_nil ?_
  refine jtn ?_
  first
    | refine code_ent (weaken 13 (.c (.int .i64 (tagA a))) (CEnt.refl _)) ?_
    | refine code_ent (weaken 13 (.c (.int .i64 (tagA a))) (CEnt.int (by unfold tagA; rw [if_neg (by omega), if_neg (by omega), if_neg (by omega), if_neg (by omega), if_neg (by omega), if_neg (by omega), if_neg (by omega)]))) ?_
  refine jcr ?_
  refine jq jrm ?_
  refine jq jrm ?_
  refine jqm (jmcH 0 (rnext08_ac n l 0 (tagA a) hl (by omega)) ?_)
  rintro _ _ ⟨rfl, rfl⟩
  refine ⟨_, _, rfl, CEnt.refl _, ?_⟩
  refine jq jrm ?_
  refine jq jrx ?_
  refine jq jrx ?_
  refine jq jrx ?_
  refine jq jrm ?_
  refine jq jrm ?_
  refine jq jrm ?_
  refine seq_nil ?_
  refine jcs ?_
  refine jcr ?_
  refine jq jrm ?_
  refine jq jrn ?_
  refine seq_nil ?_
  refine jcc (fun h232 => ?_) fun h232 => ?_
  · refine jcr ?_
    refine jqo (jrdoA 5) ?_
    refine jqm (jmst 5 ?_)
    refine seq_nil ?_
    refine code_ret (jtr ?_)
    rw [readR_val (by omega) (by omega) (by omega), show readV (tagA a) (saidM a) l 0 = ⟨(nextR (tagA a) l 0).l, (nextR (tagA a) l 0).k, VV.none⟩ by unfold readV valK; rw [if_neg (by simp_all), if_neg (by simp_all)]]
    exact end_H (.inl rfl) rfl (res_1 rfl (javA 5)) (CEnt.agg rfl (fun j hj => by rcases j with _ | _ | _ | _ | _ | j <;> first | exact CEnt.refl _ | exact CEnt.nilB | omega))
  refine code_skip (jtn ?_)
  have his := nextR_is (tag := tagA a) (l := l) (k := 0) (by simpa using h232)
  have hit : (nextR (tagA a) l 0).is = true := by simpa using h232
  refine jcr ?_
  refine jq (jrdrA 4) ?_
  refine jq jrm ?_
  refine jqe (jecS (hS (by omega) (by omega) (by omega) (nextR (tagA a) l 0).body hbb) ?_)
  rintro _ _ ⟨⟨v, rfl, hv⟩, rfl⟩
  refine jq jrm ?_
  refine jq jrx ?_
  refine jq jrx ?_
  refine jqe (jeal (n := 5) zr43 rfl fun p6 => ?_)
  refine jqm (jmst 5 ?_)
  refine jq jrm ?_
  refine seq_nil ?_
  refine jcs ?_
  refine jcr ?_
  refine jq jrm ?_
  refine jq jrc ?_
  refine seq_nil ?_
  refine jcc (fun h236 => ?_) fun h236 => ?_
  rotate_left
  · refine code_skip (jtn ?_)
    refine jcr ?_
    refine jqo (jrdoA 5) ?_
    refine jqm (jmst 5 ?_)
    refine seq_nil ?_
    refine code_ret ?_
    have he0 : (saidM a (nextR (tagA a) l 0).body).2 = 0 := by omega
    rw [readR_val (by omega) (by omega) (by omega), show readV (tagA a) (saidM a) l 0 = ⟨(nextR (tagA a) l 0).l, (nextR (tagA a) l 0).k, v⟩ by unfold readV valK; rw [if_pos hit, if_pos ⟨hit, he0⟩, hv he0]; show R8R.mk _ (saidM a (nextR (tagA a) l 0).body).2 _ = _; rw [he0, his.1]]
    exact end_H (.inl rfl) rfl (res_1 rfl (javA 5)) (CEnt.agg rfl (fun j hj => by rcases j with _ | _ | _ | _ | _ | j <;> first | exact CEnt.refl _ | exact CEnt.nilB | omega))
  refine jcr ?_
  refine jq jrm ?_
  refine jq jrm ?_
  refine jq jrnc ?_
  refine jq (jrfa 1 1 false) ?_
  refine jqm (jmstF 1 (rqF (nextR (tagA a) l 0).l (saidM a (nextR (tagA a) l 0).body).2) ?_ ?_)
  · exact (fun j hj => by rcases j with _ | _ | j <;> exact CEnt.refl _)
  refine seq_nil ?_
  refine jcr ?_
  refine jqo (jrdoA 5) ?_
  refine jqm (jmst 5 ?_)
  refine seq_nil ?_
  refine code_ret (jtr ?_)
  rw [readR_val (by omega) (by omega) (by omega), show readV (tagA a) (saidM a) l 0 = ⟨(nextR (tagA a) l 0).l, (saidM a (nextR (tagA a) l 0).body).2, VV.none⟩ by unfold readV valK; rw [if_pos hit, if_neg (by intro h; omega)]]
  exact end_H (.inl rfl) rfl (res_1 rfl (javA 5)) (CEnt.agg rfl (fun j hj => by rcases j with _ | _ | _ | _ | _ | j <;> first | exact CEnt.refl _ | exact CEnt.nilB | omega))
end Am
end Go.Proofs.YtgnjjenalebiaaaGreatDoor

/- Chapter 8: rows of numbers: der.Rows, der.Row. -/
namespace Go.Proofs.YtgnjjenalebiaaaGreatDoor
set_option linter.unusedVariables false
namespace Am
variable {gs : List Nat} [OkG gs]
open Go.RowKit Cal
set_option maxRecDepth 100000

def v1 (tag : Int) : VV := ⟨1, tag, false, [], []⟩
def v2 : VV := ⟨2, 0, false, [], []⟩
def v3 (z : Int) : VV := ⟨3, z, false, [], []⟩
def sRow (tag : Int) (l : List Int) (i : Nat) : W8 := (l.take i).foldl (fun s z => doW (v3 z) s) (doW (v1 tag) w0W)
def rRow (tag : Int) (l : List Int) (i : Nat) : R8 := (l.take i).foldl (fun s z => rdoS (v3 z) s) (rdoS (v1 tag) r0W)
end Am
end Go.Proofs.YtgnjjenalebiaaaGreatDoor

/- Chapter 8: rows of numbers: der.Row. -/
namespace Go.Proofs.YtgnjjenalebiaaaGreatDoor
set_option linter.unusedVariables false
namespace Am
variable {gs : List Nat} [OkG gs]
open Go.RowKit Cal
set_option maxRecDepth 100000

def a3 : AA := ⟨3, 0, 0, 1000⟩
/-- what is read of a row: what is left, the error, the numbers, behind j values -/
def stR (l0 : List (List UInt8)) (k0 : Nat) : Nat → List (List UInt8) × Nat × List Int
  | 0 => (l0, k0, [])
  | j + 1 => ((readR a3 (stR l0 k0 j).1 (stR l0 k0 j).2.1).l, (readR a3 (stR l0 k0 j).1 (stR l0 k0 j).2.1).k, (stR l0 k0 j).2.2 ++ [(readR a3 (stR l0 k0 j).1 (stR l0 k0 j).2.1).v.n])
def goR (l0 : List (List UInt8)) (k0 : Nat) (most : Int) (j : Nat) : Prop := moreM (stR l0 k0 j).1 (stR l0 k0 j).2.1 = true ∧ (j : Int) < most
/-- the first place where a row ends -/
def StopR (l0 : List (List UInt8)) (k0 : Nat) (most : Int) (J : Nat) : Prop := (∀ j, j < J → goR l0 k0 most j) ∧ ¬ goR l0 k0 most J
theorem next_now {t : Int} {l : List (List UInt8)} {k : Nat} : (nowL (nextR t l k).l).length ≤ (nowL l).length ∧ ((nextR t l k).is = true → 0 < l.length → (nowL (nextR t l k).l).length < (nowL l).length) ∧ ((nextR t l k).is = false → (nextR t l k).l = l ∧ (nextR t l k).k ≠ 0) := by
  have hb := nextM_bd (nowL l)
  unfold nextR
  split
  · rename_i h; exact ⟨Nat.le_refl _, fun h => by simp at h, fun _ => ⟨rfl, h⟩⟩
  · split
    · rename_i h; exact ⟨Nat.le_refl _, fun h => by simp at h, fun _ => ⟨rfl, h⟩⟩
    · split
      · exact ⟨Nat.le_refl _, fun h => by simp at h, fun _ => ⟨rfl, (show (5 : Nat) ≠ 0 by decide)⟩⟩
      · rename_i h1 h2
        have hlt := hb.2.2.2.2.2 (by omega)
        by_cases hl : 0 < l.length
        · have e : nowL (l.set (l.length - 1) (nextM (nowL l)).rest) = (nextM (nowL l)).rest := by
            unfold nowL
            rw [List.length_set, List.getD_eq_getElem?_getD, List.getElem?_set, if_pos rfl, if_pos (by omega)]
            rfl
          simp only [e]
          exact ⟨by omega, fun _ _ => hlt, fun h => by simp at h⟩
        · have e : l = [] := List.eq_nil_of_length_eq_zero (by omega)
          subst e
          exact ⟨Nat.le_refl _, fun _ h => absurd h hl, fun h => by simp at h⟩
def muR (l : List (List UInt8)) (k : Nat) : Nat := (nowL l).length + if k = 0 then 1 else 0
def rowEnd (l0 : List (List UInt8)) (k0 J : Nat) : List (List UInt8) × Nat :=
  if moreM (stR l0 k0 J).1 (stR l0 k0 J).2.1 = true then ((stR l0 k0 J).1, 3) else (leaveL (stR l0 k0 J).1 (stR l0 k0 J).2.1, leaveK (stR l0 k0 J).1 (stR l0 k0 J).2.1)
end Am
end Go.Proofs.YtgnjjenalebiaaaGreatDoor

/- Chapter 8: the law of rows of numbers. -/
namespace Go.Proofs.YtgnjjenalebiaaaGreatDoor
set_option linter.unusedVariables false
namespace Am
variable {gs : List Nat} [OkG gs]
open Go.RowKit Cal
set_option maxRecDepth 100000

theorem nextR_k {t : Int} {l : List (List UInt8)} {k : Nat} (h : k ≤ 28) : (nextR t l k).k ≤ 28 := by
  have hb := nextM_bd (nowL l)
  unfold nextR
  repeat' split
  all_goals (dsimp only; omega)
theorem getM_e (b : List UInt8) : (getM b).2 ≤ 28 := by
  unfold getM
  repeat' split
  all_goals (dsimp only; omega)
theorem range_e (b : List UInt8) (x y : Int) : (rangeM b x y).2 ≤ 28 := by
  have := getM_e b
  unfold rangeM
  repeat' split
  all_goals (dsimp only; omega)
theorem leave_k {l : List (List UInt8)} {k : Nat} (h : k ≤ 28) : leaveK l k ≤ 28 := by
  unfold leaveK
  repeat' split
  all_goals omega
theorem enter_bd {tag : Int} {l : List (List UInt8)} {k : Nat} : (nowL (enterL tag l k)).length ≤ (nowL l).length ∧ l.length ≤ (enterL tag l k).length ∧ (enterL tag l k).length ≤ l.length + 1 := by
  have hn := next_now (t := tag) (l := l) (k := if moreM l k = true ∧ madeM tag = false then 5 else k)
  have hnl : (enterR tag l k).l.length = l.length := nextR_len
  have hbody : (enterR tag l k).body.length ≤ (nowL l).length := by
    have hb := nextM_bd (nowL l)
    unfold enterR
    generalize (if moreM l k = true ∧ madeM tag = false then 5 else k) = k'
    unfold nextR
    repeat' split
    all_goals (simp only [List.length_nil]; omega)
  unfold enterL
  split
  · refine ⟨?_, by rw [List.length_append, hnl]; omega, by rw [List.length_append, hnl]; simp⟩
    have e : nowL ((enterR tag l k).l ++ [(enterR tag l k).body]) = (enterR tag l k).body := by
      unfold nowL
      simp [List.getD_eq_getElem?_getD]
    rw [e]
    exact hbody
  · exact ⟨hn.1, by omega, by omega⟩
end Am
end Go.Proofs.YtgnjjenalebiaaaGreatDoor

/- Chapter 5: the reference's septets, Put, Text. -/
namespace Go.Proofs.YtgnjjenalebiaaaGreatDoor
set_option linter.unusedVariables false
namespace Am
variable {gs : List Nat}
open Go.RowKit
set_option maxRecDepth 100000

def preS (N k : Nat) : List UInt8 := if k = 0 then sepL N else sepHi (N / 128 ^ k)
/-- the byte at place i of a number's bytes: of the seven bits q -/
def sepD (q i : Nat) : UInt8 := if i = 0 then UInt8.ofNat (q % 128) else UInt8.ofNat (q % 128 + 128)
/-! ### Text -/
theorem text_snoc {c : UInt8} (x : List UInt8) : ∀ l : List (List UInt8), l ≠ [] → joinC c (l ++ [x]) = joinC c l ++ c :: x
  | [], h => absurd rfl h
  | [p], _ => rfl
  | p :: q :: r, _ => by
    have ih := text_snoc (c := c) x (q :: r) (by simp)
    rw [List.cons_append, List.cons_append, joinC, ← List.cons_append, ih, joinC, List.append_assoc]; rfl
theorem text_one {l : List Int} {i : Nat} (h : i < l.length) : textL (l.take (i + 1)) = if 0 < i then textL (l.take i) ++ [46] ++ dec (l.getD i 0).toNat else dec (l.getD i 0).toNat := by
  unfold textL
  rw [ser_take h]
  split
  · rename_i h0
    rw [text_snoc _ _ (by intro e; have := congrArg List.length e; rw [List.length_map, List.length_take, List.length_nil] at this; omega)]
    simp
  · rename_i h0
    obtain rfl : i = 0 := by omega
    rfl
theorem rtextO_ac (l : List Int) (hr : rightA l = true) : ACp gs Tryz.prog 99 [isC l] (strC (textL l)) := by
  obtain ⟨hl2, hl16, hall, ha, hb⟩ := right_at hr
  refine ac_of 23 Tryz.func99 rfl rfl rfl (fun al w0 F0 St0 => ?_)
  refine jcr ?_
  refine jq jrm ?_
  refine seq_nil ?_
  refine jcr ?_
  refine jq jrm ?_
  refine seq_nil ?_
  refine jcs ?_
  refine jcr ?_
  refine jq jrm ?_
  refine jq jrl ?_
  refine jq jrm ?_
  refine seq_nil ?_
  refine code_block ?_
  refine l_loop (α := Nat) [3, 4, 5, 8, 9, 10, 11, 12, 13, 14, 15, 16, 17, 18, 19, 20, 21] (fun i => [(8, .c (.int .i64 (i : Nat))), (3, strC (textL (l.take i)))]) (fun _ => []) (fun i => i ≤ l.length) (fun i => l.length - i) (0) ?_ (fun _ => rfl) ?_ ?_ ?_
  · exact Nat.zero_le _
  · (repeat (first | exact EntE.nil | refine EntE.cons (CEnt.refl _) ?_ | refine EntE.cons (CEnt.int (by omega)) ?_))
  · (repeat (first | exact HEnt.nil | refine HEnt.same ?_ | refine HEnt.blk rfl (fun j hj => by rcases j with _|_|_|_|_|_|_|_|j <;> first | exact CEnt.refl _ | exact CEnt.int (by omega) | omega) ?_))
  · rintro i (hi : i ≤ l.length)
    have hj := join_len (c := 46) (m := 10) (ls := (l.take i).map fun n => dec n.toNat) (fun p hp => by
      obtain ⟨n, hn, rfl⟩ := List.mem_map.1 hp
      exact dec_len 9 n.toNat (by have := hall n (List.mem_of_mem_take hn); omega))
    have hj2 : (textL (l.take i)).length ≤ 11 * 16 := by
      rw [List.length_map, List.length_take] at hj
      unfold textL; omega
    refine jcr ?_
    refine jq jrc ?_
    refine seq_nil ?_
    refine jcs ?_
    refine jcc (fun h53 => ?_) fun h53 => ?_
    rotate_left
    · refine code_exit (jte (jte (jbx (jtn ?_))))
      refine jcr ?_
      refine jq jrm ?_
      refine jq jrm ?_
      refine seq_nil ?_
      refine code_ret (jrt (hv := CEnt.strL (by rw [show i = l.length by omega, List.take_length])))
    refine code_skip (jtn ?_)
    refine jcs ?_
    refine code_block ?_
    refine jcr ?_
    refine jq jrm ?_
    refine jq jri ?_
    refine jq jrdr ?_
    refine jq jrm ?_
    refine jq jrm ?_
    refine seq_nil ?_
    refine jcs ?_
    refine jcr ?_
    refine jq jrm ?_
    refine jq jrc ?_
    refine seq_nil ?_
    refine jcc (fun h54 => ?_) fun h54 => ?_
    rotate_left
    · refine code_skip (jtn ?_)
      have hn := hall _ (getD_mem' (l := l) (k := i) 0 (by omega))
      have hd := dec_len 9 (l.getD i 0).toNat (by omega)
      refine jcg ?_
      refine jq jrm ?_
      refine jq jrm ?_
      refine jqe (jecP (rser_ac (l.getD i 0).toNat (by omega)) ?_ (ho := rfl) (he := (.cons (se rfl (CEnt.int (by omega))) .nil)))
      refine jq (jras (hS := by (omega))) ?_
      refine jq jrm ?_
      refine seq_nil ?_
      refine jbn (jtn ?_)
      refine jcg ?_
      refine jq jra ?_
      refine jq jrm ?_
      refine seq_nil ?_
      refine jtn ?_
      refine jlend (i + 1) ?_ ?_ (h5 := ?_)
      · show i + 1 ≤ l.length; omega
      · show l.length - (i + 1) < l.length - i; omega
      · exact .cons (CEnt.int (by omega)) (.cons (CEnt.strL (by rw [text_one (by omega)]; (rw [if_neg (by omega)]; obtain rfl : i = 0 := (by omega); rfl))) .nil)
    refine jcg ?_
    refine jq jrm ?_
    refine jq (jras (hS := by ((simp only [List.length_cons, List.length_nil]; omega)))) ?_
    refine jq jrm ?_
    refine seq_nil ?_
    refine jtn ?_
    have hn := hall _ (getD_mem' (l := l) (k := i) 0 (by omega))
    have hd := dec_len 9 (l.getD i 0).toNat (by omega)
    refine jcg ?_
    refine jq jrm ?_
    refine jq jrm ?_
    refine jqe (jecP (rser_ac (l.getD i 0).toNat (by omega)) ?_ (ho := rfl) (he := (.cons (se rfl (CEnt.int (by omega))) .nil)))
    refine jq (jras (hS := by ((simp only [List.length_append, List.length_cons, List.length_nil]; omega)))) ?_
    refine jq jrm ?_
    refine seq_nil ?_
    refine jbn (jtn ?_)
    refine jcg ?_
    refine jq jra ?_
    refine jq jrm ?_
    refine seq_nil ?_
    refine jtn ?_
    refine jlend (i + 1) ?_ ?_ (h5 := ?_)
    · show i + 1 ≤ l.length; omega
    · show l.length - (i + 1) < l.length - i; omega
    · exact .cons (CEnt.int (by omega)) (.cons (CEnt.strL (by rw [text_one (by omega)]; rw [if_pos (by omega)])) .nil)
end Am
end Go.Proofs.YtgnjjenalebiaaaGreatDoor

/- Chapter 8: the reference's reader: said, of all kinds. -/
namespace Go.Proofs.YtgnjjenalebiaaaGreatDoor
set_option linter.unusedVariables false
namespace Am
variable {gs : List Nat} [OkG gs]
open Go.RowKit Cal
set_option maxRecDepth 100000

set_option maxHeartbeats 1000000 in
theorem rsaid08_ac {gs : List Nat} (a : AA) (b : List UInt8) (hb : b.length ≤ 1000) (hG : a.kind = 8 → GetC gs Tryz.prog 98) : AC gs Tryz.prog 54 [] [askC a, bsC b] (SaidQ a b) := by
  refine ac_of 126 Tryz.func54 rfl rfl rfl (fun al w0 F0 St0 => ?_)
  refine jcr ?_
  refine jqe (jebx 4 fun p1 => ?_)
  refine jqe (jeal (n := 5) zr43 rfl fun p2 => ?_)
  refine jq jrm ?_
  refine seq_nil ?_
  refine jcs ?_
  refine jcr ?_
  refine jq (jrfa 0 1 false) ?_
  refine jqo jrdo ?_
  refine seq_nil ?_
  refine code_block ?_
  refine jcs ?_
  refine jcr ?_
  refine jq jrc ?_
  refine jq jrm ?_
  refine seq_nil ?_
  refine jcc (fun h246 => ?_) fun h246 => ?_
  · refine code_skip (jtn ?_)
    refine jcT ?_
    refine jcr ?_
    refine jq jrm ?_
    refine jqe (jecP (rget04_ac b) ?_)
    refine jq jrm ?_
    refine jq jrx ?_
    refine jq jrx ?_
    refine jq jrm ?_
    refine jq jrm ?_
    refine seq_nil ?_
    refine jcs ?_
    refine jcr ?_
    refine jq jrm ?_
    refine jq jrc ?_
    refine jq jrm ?_
    refine jqsp 26 (fun g248 => ?_) fun g248 => ?_
    rotate_left
    · refine jqs ?_
      refine jqs ?_
      refine jqs ?_
      refine jqs ?_
      refine jqs ?_
      refine jqs ?_
      refine jqs ?_
      refine jqs ?_
      refine jqs ?_
      refine jqs ?_
      refine jq jrpF ?_
      refine seq_nil ?_
      refine jcF ?_
      refine code_skip (jtn ?_)
      refine jcr ?_
      refine jq jrm ?_
      refine jq (rd_build (n := 5) rfl zr43 pl43 rfl rfl) ?_
      refine jq jrm ?_
      refine jqm (jmst 5 ?_)
      refine jq jrm ?_
      refine seq_nil ?_
      refine code_ret (jbr (jtr ?_))
      have hs := said_34 (a := a) (by omega) b
      have hq : SaidQ a b (.tup 2 (fl [valC (vN (getM b).1), .c (.int .i64 ((rangeM b a.least a.most).2 : Nat))])) [] := ⟨⟨_, by rw [hs], fun h0 => by rw [hs] at h0 ⊢; simp only; rw [range_ok h0]⟩, rfl⟩
      exact end_ownV (.inl rfl) [] (by decide) rfl (res_2 rfl (javA 5) javt) (CEnt.tup2 (CEnt.agg rfl (fun j hj => by rcases j with _ | _ | _ | _ | _ | j <;> first | exact CEnt.refl _ | exact CEnt.nilB | omega)) (CEnt.int (by unfold rangeM; (rw [if_pos (by omega)]; done)))) hq
    refine jq jrm ?_
    refine jq (jrfa 2 1 false) ?_
    refine jqo jrdo ?_
    refine jq jrc ?_
    refine jq jrm ?_
    refine jqsp 31 (fun g248_2 => ?_) fun g248_2 => ?_
    · refine jqs ?_
      refine jqs ?_
      refine jqs ?_
      refine jqs ?_
      refine jq jrpT ?_
      refine jq jrpT ?_
      refine seq_nil ?_
      refine jcT ?_
      refine jcg ?_
      refine jq jrm ?_
      refine seq_nil ?_
      refine jtn ?_
      refine jcr ?_
      refine jq jrm ?_
      refine jq (rd_build (n := 5) rfl zr43 pl43 rfl rfl) ?_
      refine jq jrm ?_
      refine jqm (jmst 5 ?_)
      refine jq jrm ?_
      refine seq_nil ?_
      refine code_ret (jbr (jtr ?_))
      have hs := said_34 (a := a) (by omega) b
      have hq : SaidQ a b (.tup 2 (fl [valC (vN (getM b).1), .c (.int .i64 ((rangeM b a.least a.most).2 : Nat))])) [] := ⟨⟨_, by rw [hs], fun h0 => by rw [hs] at h0 ⊢; simp only; rw [range_ok h0]⟩, rfl⟩
      exact end_ownV (.inl rfl) [] (by decide) rfl (res_2 rfl (javA 5) javt) (CEnt.tup2 (CEnt.agg rfl (fun j hj => by rcases j with _ | _ | _ | _ | _ | j <;> first | exact CEnt.refl _ | exact CEnt.nilB | omega)) (CEnt.int (by unfold rangeM; (rw [if_neg (by omega), if_pos (by omega)]; rfl)))) hq
    refine jq jrm ?_
    refine jq (jrfa 3 1 false) ?_
    refine jqo jrdo ?_
    refine jq jrc ?_
    refine jq jrpF ?_
    refine jq jrpT ?_
    refine seq_nil ?_
    refine jcc (fun h248 => ?_) fun h248 => ?_
    rotate_left
    · refine code_skip (jtn ?_)
      refine jcr ?_
      refine jq jrm ?_
      refine jq (rd_build (n := 5) rfl zr43 pl43 rfl rfl) ?_
      refine jq jrm ?_
      refine jqm (jmst 5 ?_)
      refine jq jrm ?_
      refine seq_nil ?_
      refine code_ret (jbr (jtr ?_))
      have hs := said_34 (a := a) (by omega) b
      have hq : SaidQ a b (.tup 2 (fl [valC (vN (getM b).1), .c (.int .i64 ((rangeM b a.least a.most).2 : Nat))])) [] := ⟨⟨_, by rw [hs], fun h0 => by rw [hs] at h0 ⊢; simp only; rw [range_ok h0]⟩, rfl⟩
      exact end_ownV (.inl rfl) [] (by decide) rfl (res_2 rfl (javA 5) javt) (CEnt.tup2 (CEnt.agg rfl (fun j hj => by rcases j with _ | _ | _ | _ | _ | j <;> first | exact CEnt.refl _ | exact CEnt.nilB | omega)) (CEnt.int (by unfold rangeM; (rw [if_neg (by omega), if_neg (by omega)]; simp only; omega)))) hq
    refine jcg ?_
    refine jq jrm ?_
    refine seq_nil ?_
    refine jtn ?_
    refine jcr ?_
    refine jq jrm ?_
    refine jq (rd_build (n := 5) rfl zr43 pl43 rfl rfl) ?_
    refine jq jrm ?_
    refine jqm (jmst 5 ?_)
    refine jq jrm ?_
    refine seq_nil ?_
    refine code_ret (jbr (jtr ?_))
    have hs := said_34 (a := a) (by omega) b
    have hq : SaidQ a b (.tup 2 (fl [valC (vN (getM b).1), .c (.int .i64 ((rangeM b a.least a.most).2 : Nat))])) [] := ⟨⟨_, by rw [hs], fun h0 => by rw [hs] at h0 ⊢; simp only; rw [range_ok h0]⟩, rfl⟩
    exact end_ownV (.inl rfl) [] (by decide) rfl (res_2 rfl (javA 5) javt) (CEnt.tup2 (CEnt.agg rfl (fun j hj => by rcases j with _ | _ | _ | _ | _ | j <;> first | exact CEnt.refl _ | exact CEnt.nilB | omega)) (CEnt.int (by unfold rangeM; (rw [if_neg (by omega), if_pos (by omega)]; rfl)))) hq
  refine jcg ?_
  refine jq jrc ?_
  refine jq jrm ?_
  refine seq_nil ?_
  refine jtn ?_
  refine jcc (fun h246_2 => ?_) fun h246_2 => ?_
  · refine jcr ?_
    refine jq jrm ?_
    refine jqe (jecP (rget04_ac b) ?_)
    refine jq jrm ?_
    refine jq jrx ?_
    refine jq jrx ?_
    refine jq jrm ?_
    refine jq jrm ?_
    refine seq_nil ?_
    refine jcs ?_
    refine jcr ?_
    refine jq jrm ?_
    refine jq jrc ?_
    refine jq jrm ?_
    refine jqsp 26 (fun g248 => ?_) fun g248 => ?_
    rotate_left
    · refine jqs ?_
      refine jqs ?_
      refine jqs ?_
      refine jqs ?_
      refine jqs ?_
      refine jqs ?_
      refine jqs ?_
      refine jqs ?_
      refine jqs ?_
      refine jqs ?_
      refine jq jrpF ?_
      refine seq_nil ?_
      refine jcF ?_
      refine code_skip (jtn ?_)
      refine jcr ?_
      refine jq jrm ?_
      refine jq (rd_build (n := 5) rfl zr43 pl43 rfl rfl) ?_
      refine jq jrm ?_
      refine jqm (jmst 5 ?_)
      refine jq jrm ?_
      refine seq_nil ?_
      refine code_ret (jbr (jtr ?_))
      have hs := said_34 (a := a) (by omega) b
      have hq : SaidQ a b (.tup 2 (fl [valC (vN (getM b).1), .c (.int .i64 ((rangeM b a.least a.most).2 : Nat))])) [] := ⟨⟨_, by rw [hs], fun h0 => by rw [hs] at h0 ⊢; simp only; rw [range_ok h0]⟩, rfl⟩
      exact end_ownV (.inl rfl) [] (by decide) rfl (res_2 rfl (javA 5) javt) (CEnt.tup2 (CEnt.agg rfl (fun j hj => by rcases j with _ | _ | _ | _ | _ | j <;> first | exact CEnt.refl _ | exact CEnt.nilB | omega)) (CEnt.int (by unfold rangeM; (rw [if_pos (by omega)]; done)))) hq
    refine jq jrm ?_
    refine jq (jrfa 2 1 false) ?_
    refine jqo jrdo ?_
    refine jq jrc ?_
    refine jq jrm ?_
    refine jqsp 31 (fun g248_2 => ?_) fun g248_2 => ?_
    · refine jqs ?_
      refine jqs ?_
      refine jqs ?_
      refine jqs ?_
      refine jq jrpT ?_
      refine jq jrpT ?_
      refine seq_nil ?_
      refine jcT ?_
      refine jcg ?_
      refine jq jrm ?_
      refine seq_nil ?_
      refine jtn ?_
      refine jcr ?_
      refine jq jrm ?_
      refine jq (rd_build (n := 5) rfl zr43 pl43 rfl rfl) ?_
      refine jq jrm ?_
      refine jqm (jmst 5 ?_)
      refine jq jrm ?_
      refine seq_nil ?_
      refine code_ret (jbr (jtr ?_))
      have hs := said_34 (a := a) (by omega) b
      have hq : SaidQ a b (.tup 2 (fl [valC (vN (getM b).1), .c (.int .i64 ((rangeM b a.least a.most).2 : Nat))])) [] := ⟨⟨_, by rw [hs], fun h0 => by rw [hs] at h0 ⊢; simp only; rw [range_ok h0]⟩, rfl⟩
      exact end_ownV (.inl rfl) [] (by decide) rfl (res_2 rfl (javA 5) javt) (CEnt.tup2 (CEnt.agg rfl (fun j hj => by rcases j with _ | _ | _ | _ | _ | j <;> first | exact CEnt.refl _ | exact CEnt.nilB | omega)) (CEnt.int (by unfold rangeM; (rw [if_neg (by omega), if_pos (by omega)]; rfl)))) hq
    refine jq jrm ?_
    refine jq (jrfa 3 1 false) ?_
    refine jqo jrdo ?_
    refine jq jrc ?_
    refine jq jrpF ?_
    refine jq jrpT ?_
    refine seq_nil ?_
    refine jcc (fun h248 => ?_) fun h248 => ?_
    rotate_left
    · refine code_skip (jtn ?_)
      refine jcr ?_
      refine jq jrm ?_
      refine jq (rd_build (n := 5) rfl zr43 pl43 rfl rfl) ?_
      refine jq jrm ?_
      refine jqm (jmst 5 ?_)
      refine jq jrm ?_
      refine seq_nil ?_
      refine code_ret (jbr (jtr ?_))
      have hs := said_34 (a := a) (by omega) b
      have hq : SaidQ a b (.tup 2 (fl [valC (vN (getM b).1), .c (.int .i64 ((rangeM b a.least a.most).2 : Nat))])) [] := ⟨⟨_, by rw [hs], fun h0 => by rw [hs] at h0 ⊢; simp only; rw [range_ok h0]⟩, rfl⟩
      exact end_ownV (.inl rfl) [] (by decide) rfl (res_2 rfl (javA 5) javt) (CEnt.tup2 (CEnt.agg rfl (fun j hj => by rcases j with _ | _ | _ | _ | _ | j <;> first | exact CEnt.refl _ | exact CEnt.nilB | omega)) (CEnt.int (by unfold rangeM; (rw [if_neg (by omega), if_neg (by omega)]; simp only; omega)))) hq
    refine jcg ?_
    refine jq jrm ?_
    refine seq_nil ?_
    refine jtn ?_
    refine jcr ?_
    refine jq jrm ?_
    refine jq (rd_build (n := 5) rfl zr43 pl43 rfl rfl) ?_
    refine jq jrm ?_
    refine jqm (jmst 5 ?_)
    refine jq jrm ?_
    refine seq_nil ?_
    refine code_ret (jbr (jtr ?_))
    have hs := said_34 (a := a) (by omega) b
    have hq : SaidQ a b (.tup 2 (fl [valC (vN (getM b).1), .c (.int .i64 ((rangeM b a.least a.most).2 : Nat))])) [] := ⟨⟨_, by rw [hs], fun h0 => by rw [hs] at h0 ⊢; simp only; rw [range_ok h0]⟩, rfl⟩
    exact end_ownV (.inl rfl) [] (by decide) rfl (res_2 rfl (javA 5) javt) (CEnt.tup2 (CEnt.agg rfl (fun j hj => by rcases j with _ | _ | _ | _ | _ | j <;> first | exact CEnt.refl _ | exact CEnt.nilB | omega)) (CEnt.int (by unfold rangeM; (rw [if_neg (by omega), if_pos (by omega)]; rfl)))) hq
  refine jcr ?_
  refine jq jrc ?_
  refine jq jrm ?_
  refine seq_nil ?_
  refine jcc (fun h252 => ?_) fun h252 => ?_
  · refine jcs ?_
    refine jcr ?_
    refine jq jrm ?_
    refine jq jrl ?_
    refine jq jrc ?_
    refine seq_nil ?_
    refine jcc (fun h253 => ?_) fun h253 => ?_
    · refine jcr ?_
      refine jq (rd_build (n := 5) rfl zr43 pl43 rfl rfl) ?_
      refine jqm (jmst 5 ?_)
      refine jq jrm ?_
      refine seq_nil ?_
      refine code_ret (jtr (jbr (jtr ?_)))
      have hs : saidM a b = (vI false, 2) := by unfold saidM; rw [if_neg (by omega), if_neg (by omega), if_pos (by omega)]; unfold isTrueM; rw [if_pos (by omega)]
      have hq : SaidQ a b (.tup 2 (fl [valC (VV.none), .c (.int .i64 ((2 : Nat) : Int))])) [] := ⟨⟨_, by rw [hs], fun h0 => by (rw [hs] at h0; exact absurd h0 (by decide))⟩, rfl⟩
      exact end_ownV (.inl rfl) [] (by decide) rfl (res_2 rfl (javA 5) javt) (CEnt.tup2 (CEnt.agg rfl (fun j hj => by rcases j with _ | _ | _ | _ | _ | j <;> first | exact CEnt.refl _ | exact CEnt.nilB | exact CEnt.refl _ | omega)) (by exact CEnt.refl _)) hq
    refine code_skip (jtn ?_)
    refine jcs ?_
    refine jcr ?_
    refine jq jrm ?_
    refine jq jrl ?_
    refine jq jrc ?_
    refine jq jrm ?_
    refine jqsp 50 (fun g256 => ?_) fun g256 => ?_
    · refine jqs ?_
      refine jqs ?_
      refine jqs ?_
      refine jqs ?_
      refine jqs ?_
      refine jqs ?_
      refine jqs ?_
      refine jqs ?_
      refine jqs ?_
      refine jqs ?_
      refine jq jrpT ?_
      refine seq_nil ?_
      refine jcT ?_
      refine jcr ?_
      refine jq (rd_build (n := 5) rfl zr43 pl43 rfl rfl) ?_
      refine jqm (jmst 5 ?_)
      refine jq jrm ?_
      refine seq_nil ?_
      refine code_ret (jtr (jbr (jtr ?_)))
      have hs : saidM a b = (vI false, 4) := by unfold saidM; rw [if_neg (by omega), if_neg (by omega), if_pos (by omega)]; unfold isTrueM; rw [if_neg (by omega), if_pos (by omega)]
      have hq : SaidQ a b (.tup 2 (fl [valC (VV.none), .c (.int .i64 ((4 : Nat) : Int))])) [] := ⟨⟨_, by rw [hs], fun h0 => by (rw [hs] at h0; exact absurd h0 (by decide))⟩, rfl⟩
      exact end_ownV (.inl rfl) [] (by decide) rfl (res_2 rfl (javA 5) javt) (CEnt.tup2 (CEnt.agg rfl (fun j hj => by rcases j with _ | _ | _ | _ | _ | j <;> first | exact CEnt.refl _ | exact CEnt.nilB | exact CEnt.refl _ | omega)) (by exact CEnt.refl _)) hq
    refine jq jrm ?_
    refine jq (jri (i := 0)) ?_
    refine jq jrdr ?_
    refine jq jrc ?_
    refine jq jrm ?_
    refine jqsp 55 (fun g256_2 => ?_) fun g256_2 => ?_
    rotate_left
    · refine jqs ?_
      refine jqs ?_
      refine jqs ?_
      refine jqs ?_
      refine jq jrpF ?_
      refine jq jrpF ?_
      refine seq_nil ?_
      refine jcF ?_
      refine code_skip (jtn ?_)
      refine jcr ?_
      refine jq jrm ?_
      refine jq (jri (i := 0)) ?_
      refine jq jrdr ?_
      refine jq jrc ?_
      refine jq (rd_build (n := 5) rfl zr43 pl43 rfl rfl) ?_
      refine jqm (jmst 5 ?_)
      refine jq jrm ?_
      refine seq_nil ?_
      refine code_ret (jbr (jtr ?_))
      have hs : saidM a b = (vI (decide ((b.getD 0 0).toNat = 255)), 0) := by unfold saidM; rw [if_neg (by omega), if_neg (by omega), if_pos (by omega)]; unfold isTrueM; rw [if_neg (by omega), if_neg (by omega)]
      have hq : SaidQ a b (.tup 2 (fl [valC (vI (decide ((b.getD 0 0).toNat = 255))), .c (.int .i64 ((0 : Nat) : Int))])) [] := ⟨⟨_, by rw [hs], fun h0 => by (rw [hs])⟩, rfl⟩
      exact end_ownV (.inl rfl) [] (by decide) rfl (res_2 rfl (javA 5) javt) (CEnt.tup2 (CEnt.agg rfl (fun j hj => by rcases j with _ | _ | _ | _ | _ | j <;> first | exact CEnt.refl _ | exact CEnt.nilB | exact CEnt.bool (by show decide (((b.getD 0 0).toNat : Int) = 255) = decide ((b.getD 0 0).toNat = 255); exact decide_eq_decide.2 (by omega)) | omega)) (by exact CEnt.refl _)) hq
    refine jq jrm ?_
    refine jq (jri (i := 0)) ?_
    refine jq jrdr ?_
    refine jq jrc ?_
    refine jq jrpT ?_
    refine jq jrpF ?_
    refine seq_nil ?_
    refine jcc (fun h256 => ?_) fun h256 => ?_
    · refine jcr ?_
      refine jq (rd_build (n := 5) rfl zr43 pl43 rfl rfl) ?_
      refine jqm (jmst 5 ?_)
      refine jq jrm ?_
      refine seq_nil ?_
      refine code_ret (jtr (jbr (jtr ?_)))
      have hs : saidM a b = (vI false, 4) := by unfold saidM; rw [if_neg (by omega), if_neg (by omega), if_pos (by omega)]; unfold isTrueM; rw [if_neg (by omega), if_pos (by omega)]
      have hq : SaidQ a b (.tup 2 (fl [valC (VV.none), .c (.int .i64 ((4 : Nat) : Int))])) [] := ⟨⟨_, by rw [hs], fun h0 => by (rw [hs] at h0; exact absurd h0 (by decide))⟩, rfl⟩
      exact end_ownV (.inl rfl) [] (by decide) rfl (res_2 rfl (javA 5) javt) (CEnt.tup2 (CEnt.agg rfl (fun j hj => by rcases j with _ | _ | _ | _ | _ | j <;> first | exact CEnt.refl _ | exact CEnt.nilB | exact CEnt.refl _ | omega)) (by exact CEnt.refl _)) hq
    refine code_skip (jtn ?_)
    refine jcr ?_
    refine jq jrm ?_
    refine jq (jri (i := 0)) ?_
    refine jq jrdr ?_
    refine jq jrc ?_
    refine jq (rd_build (n := 5) rfl zr43 pl43 rfl rfl) ?_
    refine jqm (jmst 5 ?_)
    refine jq jrm ?_
    refine seq_nil ?_
    refine code_ret (jbr (jtr ?_))
    have hs : saidM a b = (vI (decide ((b.getD 0 0).toNat = 255)), 0) := by unfold saidM; rw [if_neg (by omega), if_neg (by omega), if_pos (by omega)]; unfold isTrueM; rw [if_neg (by omega), if_neg (by omega)]
    have hq : SaidQ a b (.tup 2 (fl [valC (vI (decide ((b.getD 0 0).toNat = 255))), .c (.int .i64 ((0 : Nat) : Int))])) [] := ⟨⟨_, by rw [hs], fun h0 => by (rw [hs])⟩, rfl⟩
    exact end_ownV (.inl rfl) [] (by decide) rfl (res_2 rfl (javA 5) javt) (CEnt.tup2 (CEnt.agg rfl (fun j hj => by rcases j with _ | _ | _ | _ | _ | j <;> first | exact CEnt.refl _ | exact CEnt.nilB | exact CEnt.bool (by show decide (((b.getD 0 0).toNat : Int) = 255) = decide ((b.getD 0 0).toNat = 255); exact decide_eq_decide.2 (by omega)) | omega)) (by exact CEnt.refl _)) hq
  refine jcr ?_
  refine jq jrc ?_
  refine jq jrm ?_
  refine seq_nil ?_
  refine jcc (fun h260 => ?_) fun h260 => ?_
  · refine jcs ?_
    refine jcr ?_
    refine jq jrm ?_
    refine jq jrl ?_
    refine jq (jrfa 2 1 false) ?_
    refine jqo jrdo ?_
    refine jq jrc ?_
    refine seq_nil ?_
    refine jcc (fun h261 => ?_) fun h261 => ?_
    · refine jcr ?_
      refine jq (rd_build (n := 5) rfl zr43 pl43 rfl rfl) ?_
      refine jqm (jmst 5 ?_)
      refine jq jrm ?_
      refine seq_nil ?_
      refine code_ret (jtr (jbr (jtr ?_)))
      have hs : saidM a b = (vB [], 2) := by unfold saidM; rw [if_neg (by omega), if_neg (by omega), if_neg (by omega), if_pos (by omega)]; unfold octM; rw [if_pos (by omega)]
      have hq : SaidQ a b (.tup 2 (fl [valC (VV.none), .c (.int .i64 ((2 : Nat) : Int))])) [] := ⟨⟨_, by rw [hs], fun h0 => by (rw [hs] at h0; exact absurd h0 (by decide))⟩, rfl⟩
      exact end_ownV (.inl rfl) [] (by decide) rfl (res_2 rfl (javA 5) javt) (CEnt.tup2 (CEnt.agg rfl (fun j hj => by rcases j with _ | _ | _ | _ | _ | j <;> first | exact CEnt.refl _ | exact CEnt.nilB | exact CEnt.refl _ | omega)) (by exact CEnt.refl _)) hq
    refine code_skip (jtn ?_)
    refine jcs ?_
    refine jcr ?_
    refine jq jrm ?_
    refine jq jrl ?_
    refine jq (jrfa 3 1 false) ?_
    refine jqo jrdo ?_
    refine jq jrc ?_
    refine seq_nil ?_
    refine jcc (fun h264 => ?_) fun h264 => ?_
    · refine jcr ?_
      refine jq (rd_build (n := 5) rfl zr43 pl43 rfl rfl) ?_
      refine jqm (jmst 5 ?_)
      refine jq jrm ?_
      refine seq_nil ?_
      refine code_ret (jtr (jbr (jtr ?_)))
      have hs : saidM a b = (vB [], 3) := by unfold saidM; rw [if_neg (by omega), if_neg (by omega), if_neg (by omega), if_pos (by omega)]; unfold octM; rw [if_neg (by omega), if_pos (by omega)]
      have hq : SaidQ a b (.tup 2 (fl [valC (VV.none), .c (.int .i64 ((3 : Nat) : Int))])) [] := ⟨⟨_, by rw [hs], fun h0 => by (rw [hs] at h0; exact absurd h0 (by decide))⟩, rfl⟩
      exact end_ownV (.inl rfl) [] (by decide) rfl (res_2 rfl (javA 5) javt) (CEnt.tup2 (CEnt.agg rfl (fun j hj => by rcases j with _ | _ | _ | _ | _ | j <;> first | exact CEnt.refl _ | exact CEnt.nilB | exact CEnt.refl _ | omega)) (by exact CEnt.refl _)) hq
    refine code_skip (jtn ?_)
    refine jcr ?_
    refine jq jrm ?_
    refine jq (rd_build (n := 5) rfl zr43 pl43 rfl rfl) ?_
    refine jqm (jmst 5 ?_)
    refine jq jrm ?_
    refine seq_nil ?_
    refine code_ret (jbr (jtr ?_))
    have hs : saidM a b = (vB b, 0) := by unfold saidM; rw [if_neg (by omega), if_neg (by omega), if_neg (by omega), if_pos (by omega)]; unfold octM; rw [if_neg (by omega), if_neg (by omega)]
    have hq : SaidQ a b (.tup 2 (fl [valC (vB b), .c (.int .i64 ((0 : Nat) : Int))])) [] := ⟨⟨_, by rw [hs], fun h0 => by (rw [hs])⟩, rfl⟩
    exact end_ownV (.inl rfl) [] (by decide) rfl (res_2 rfl (javA 5) javt) (CEnt.tup2 (CEnt.agg rfl (fun j hj => by rcases j with _ | _ | _ | _ | _ | j <;> first | exact CEnt.refl _ | exact CEnt.nilB | exact CEnt.refl _ | omega)) (by exact CEnt.refl _)) hq
  refine jcr ?_
  refine jq jrc ?_
  refine jq jrm ?_
  refine seq_nil ?_
  refine jcc (fun h268 => ?_) fun h268 => ?_
  · refine jcs ?_
    refine jcdB 8 (.rd 0 (.rd 1 (.rd 2 (.rd 3 (.rd 4 (.rd 5 (.rd 6 (.one 7 .done)))))))) ?_
    refine jyq jrm ?_
    refine jyq jrbs ?_
    refine jyq (rd_build (n := 5) rfl zr43 pl43 rfl rfl) ?_
    refine jyq jrm ?_
    refine jyq jrbs ?_
    refine jyq (jrfa 3 1 false) ?_
    refine jyo jrdo ?_
    refine jye (jecP (rasked_ac b a.most (by omega)) ?_)
    refine jyd ?_
    show ASeq _ _ _ _ _ _
    refine jqm (jmst 5 ?_)
    refine jq jrm ?_
    refine seq_nil ?_
    refine jtn ?_
    refine code_ret (jbr (jtr ?_))
    have hs : saidM a b = (vT (if askedM b a.most = 0 then b else []), askedM b a.most) := by unfold saidM; rw [if_neg (by omega), if_neg (by omega), if_neg (by omega), if_neg (by omega), if_pos (by omega)]
    have hq : SaidQ a b (.tup 2 (fl [valC (vT b), .c (.int .i64 ((askedM b a.most : Nat) : Int))])) [] := ⟨⟨_, by rw [hs], fun h0 => by rw [hs] at h0 ⊢; rw [if_pos h0]⟩, rfl⟩
    exact end_ownV (.inl rfl) [] (by decide) rfl (res_2 rfl (javA 5) javt) (CEnt.tup2 (CEnt.agg rfl (fun j hj => by rcases j with _ | _ | _ | _ | _ | j <;> first | exact CEnt.refl _ | exact CEnt.nilB | omega)) (CEnt.refl _)) hq
  refine jcr ?_
  refine jq jrc ?_
  refine jq jrm ?_
  refine seq_nil ?_
  refine jcc (fun h270 => ?_) fun h270 => ?_
  · refine jcr ?_
    refine jq jrm ?_
    refine jqe (jecP (hG (by omega) b (by omega)) ?_)
    refine jq jrm ?_
    refine jq jrx ?_
    refine jq jrx ?_
    refine jq jrm ?_
    refine jq jrm ?_
    refine seq_nil ?_
    refine jcs ?_
    refine jcr ?_
    refine jq jrm ?_
    refine jq jrc ?_
    refine seq_nil ?_
    refine jcc (fun h272 => ?_) fun h272 => ?_
    · refine jcr ?_
      refine jq (rd_build (n := 5) rfl zr43 pl43 rfl rfl) ?_
      refine jq jrm ?_
      refine jqm (jmst 5 ?_)
      refine jq jrm ?_
      refine seq_nil ?_
      refine code_ret (jtr (jbr (jtr ?_)))
      have hs : saidM a b = (vT [], (getA b).2) := by unfold saidM; rw [if_neg (by omega), if_neg (by omega), if_neg (by omega), if_neg (by omega), if_neg (by omega), if_pos (by omega)]; unfold ogetM; rw [if_neg (by omega)]
      have hq : SaidQ a b (.tup 2 (fl [valC VV.none, .c (.int .i64 (((getA b).2 : Nat) : Int))])) [] := ⟨⟨_, by rw [hs], fun h0 => by rw [hs] at h0; exact absurd h0 (by simp only; omega)⟩, rfl⟩
      exact end_ownV (.inl rfl) [] (by decide) rfl (res_2 rfl (javA 5) javt) (CEnt.tup2 (CEnt.agg rfl (fun j hj => by rcases j with _ | _ | _ | _ | _ | j <;> first | exact CEnt.refl _ | exact CEnt.nilB | omega)) (CEnt.refl _)) hq
    refine code_skip (jtn ?_)
    have he0 : (getA b).2 = 0 := by omega
    have hr : rightA (getA b).1 = true := get_right he0
    refine jcr ?_
    refine jq jrm ?_
    refine jqe (jecP (rtextO_ac (getA b).1 hr) ?_)
    refine jq (rd_build (n := 5) rfl zr43 pl43 rfl rfl) ?_
    refine jqm (jmst 5 ?_)
    refine jq jrm ?_
    refine seq_nil ?_
    refine code_ret (jbr (jtr ?_))
    have hs : saidM a b = (vT (textL (getA b).1), 0) := by unfold saidM; rw [if_neg (by omega), if_neg (by omega), if_neg (by omega), if_neg (by omega), if_neg (by omega), if_pos (by omega)]; unfold ogetM; rw [if_pos he0]
    have hq : SaidQ a b (.tup 2 (fl [valC (vT (textL (getA b).1)), .c (.int .i64 ((0 : Nat) : Int))])) [] := ⟨⟨_, by rw [hs], fun h0 => by rw [hs]⟩, rfl⟩
    exact end_ownV (.inl rfl) [] (by decide) rfl (res_2 rfl (javA 5) javt) (CEnt.tup2 (CEnt.agg rfl (fun j hj => by rcases j with _ | _ | _ | _ | _ | j <;> first | exact CEnt.refl _ | exact CEnt.nilB | omega)) (CEnt.refl _)) hq
  refine jcr ?_
  refine jq jrc ?_
  refine jq jrm ?_
  refine seq_nil ?_
  refine jcc (fun h276 => ?_) fun h276 => ?_
  · refine jcr ?_
    refine jq jrm ?_
    refine jqe (jecP (rget_ac b) ?_)
    refine jq jrm ?_
    refine jq jrx ?_
    refine jq jrx ?_
    refine jq jrm ?_
    refine jq jrm ?_
    refine seq_nil ?_
    refine jcr ?_
    refine jq jrm ?_
    refine jq (rd_build (n := 5) rfl zr43 pl43 rfl rfl) ?_
    refine jq jrm ?_
    refine jqm (jmst 5 ?_)
    refine jq jrm ?_
    refine seq_nil ?_
    refine code_ret (jbr (jtr ?_))
    have hs : saidM a b = (vN (getV b), getE b) := by unfold saidM; rw [if_neg (by omega), if_neg (by omega), if_neg (by omega), if_neg (by omega), if_neg (by omega), if_neg (by omega), if_pos (by omega)]
    have hq : SaidQ a b (.tup 2 (fl [valC (vN (getV b)), .c (.int .i64 ((getE b : Nat) : Int))])) [] := ⟨⟨_, by rw [hs], fun h0 => by rw [hs]⟩, rfl⟩
    exact end_ownV (.inl rfl) [] (by decide) rfl (res_2 rfl (javA 5) javt) (CEnt.tup2 (CEnt.agg rfl (fun j hj => by rcases j with _ | _ | _ | _ | _ | j <;> first | exact CEnt.refl _ | exact CEnt.nilB | omega)) (CEnt.refl _)) hq
  refine code_skip (jbn (jtn ?_))
  refine jcr ?_
  refine jq jrm ?_
  refine jqe (jecP (rmask_ac b hb) ?_)
  refine jq jrm ?_
  refine jq jrx ?_
  refine jq jrx ?_
  refine jq jrm ?_
  refine jq jrm ?_
  refine seq_nil ?_
  refine jcr ?_
  refine jq jrm ?_
  refine jq (rd_build (n := 5) rfl zr43 pl43 rfl rfl) ?_
  refine jq jrm ?_
  refine jqm (jmst 5 ?_)
  refine jq jrm ?_
  refine seq_nil ?_
  refine code_ret ?_
  have hs : saidM a b = (vN ((maskM b).1 : Nat), (maskM b).2) := by unfold saidM; rw [if_neg (by omega), if_neg (by omega), if_neg (by omega), if_neg (by omega), if_neg (by omega), if_neg (by omega), if_neg (by omega)]
  have hq : SaidQ a b (.tup 2 (fl [valC (vN ((maskM b).1 : Nat)), .c (.int .i64 (((maskM b).2 : Nat) : Int))])) [] := ⟨⟨_, by rw [hs], fun h0 => by rw [hs]⟩, rfl⟩
  exact end_ownV (.inl rfl) [] (by decide) rfl (res_2 rfl (javA 5) javt) (CEnt.tup2 (CEnt.agg rfl (fun j hj => by rcases j with _ | _ | _ | _ | _ | j <;> first | exact CEnt.refl _ | exact CEnt.nilB | omega)) (CEnt.refl _)) hq
end Am
end Go.Proofs.YtgnjjenalebiaaaGreatDoor

/- Chapter 5: the reference's Get: a body's arcs. -/
namespace Go.Proofs.YtgnjjenalebiaaaGreatDoor
set_option linter.unusedVariables false
namespace Am
open Go.RowKit
set_option maxRecDepth 100000

/-- the most that a number may be, at a place -/
def mB (at_ : Nat) : Nat := if at_ = 0 then 2147483727 else 2147483647
def glueN (l : List Nat) (p : List Nat × Nat) : List Nat × Nat := if p.2 ≠ 0 then ([], p.2) else (l ++ p.1, 0)
theorem nums_bad {most : Nat} {b : List UInt8} {e : Nat} (h : b ≠ []) (he : (numM (b.take (runLen b)) most).2 = e) (h0 : e ≠ 0) : numsM most b = ([], e) := by
  rw [numsM, dif_neg h, he, if_pos h0]
theorem nums_good {most : Nat} {b : List UInt8} {n : Nat} (h : b ≠ []) (he : numM (b.take (runLen b)) most = (n, 0)) : numsM most b = glueN [n] (numsM 2147483647 (b.drop (runLen b))) := by
  rw [numsM, dif_neg h, he, if_neg (by simp)]
  unfold glueN
  split <;> rfl
theorem glue_glue (l : List Nat) (n : Nat) (p : List Nat × Nat) : glueN l (glueN [n] p) = glueN (l ++ [n]) p := by
  unfold glueN
  by_cases h : p.2 ≠ 0
  · simp [h]
  · simp [h]
theorem runLen_all : ∀ {l : List UInt8}, (∀ c ∈ l, 128 ≤ c.toNat) → runLen l = l.length
  | [], _ => rfl
  | c :: l, h => by
    have := h c List.mem_cons_self
    rw [runLen, if_neg (by omega), runLen_all fun d hd => h d (List.mem_cons_of_mem _ hd)]
    simp; omega
theorem mem_take_get {b : List UInt8} {a e : Nat} (he : e ≤ b.length) (h : ∀ j, a ≤ j → j < e → 128 ≤ (b.getD j 0).toNat) : ∀ c ∈ (b.drop a).take (e - a), 128 ≤ c.toNat := fun c hc => by
  obtain ⟨k, hk⟩ := List.mem_iff_getElem?.1 hc
  rw [List.getElem?_take] at hk
  split at hk
  · rename_i h1
    rw [List.getElem?_drop] at hk
    have := h (a + k) (by omega) (by omega)
    rw [List.getD_eq_getElem?_getD, hk] at this
    exact this
  · cases hk
/-- a run that has no end -/
theorem run_open {b : List UInt8} {a : Nat} (ha : a < b.length) (h : ∀ j, a ≤ j → j < b.length → 128 ≤ (b.getD j 0).toNat) (most : Nat) : (numM ((b.drop a).take (runLen (b.drop a))) most).2 = 2 := by
  have hall := mem_take_get (Nat.le_refl _) h
  rw [show (b.drop a).take (b.length - a) = b.drop a by rw [← List.length_drop, List.take_length]] at hall
  rw [runLen_all hall, List.take_length]
  unfold numM
  have hl : 0 < (b.drop a).length := by rw [List.length_drop]; omega
  rw [if_pos (hall _ (by rw [List.getD_eq_getElem?_getD, List.getElem?_eq_getElem (by omega)]; exact List.getElem_mem _))]
/-- a run that ends at e -/
theorem run_end {b : List UInt8} {a e : Nat} (ha : a ≤ e) (he : e < b.length) (h : ∀ j, a ≤ j → j < e → 128 ≤ (b.getD j 0).toNat) (hx : (b.getD e 0).toNat < 128) : runLen (b.drop a) = e - a + 1 ∧ (b.drop a).take (e - a + 1) = (b.drop a).take (e - a) ++ [b.getD e 0] := by
  have hall := mem_take_get (by omega) h
  have hge : (b.drop a)[e - a]? = some (b.getD e 0) := by
    rw [List.getElem?_drop, show a + (e - a) = e by omega, List.getD_eq_getElem?_getD, List.getElem?_eq_getElem he]; rfl
  have hlt : e - a < (b.drop a).length := by rw [List.length_drop]; omega
  have hd : b.drop a = (b.drop a).take (e - a) ++ b.getD e 0 :: (b.drop a).drop (e - a + 1) := by
    conv => lhs; rw [← List.take_append_drop (e - a) (b.drop a)]
    rw [List.drop_eq_getElem_cons hlt]
    congr 2
    have := List.getElem?_eq_getElem hlt
    rw [hge] at this
    exact (Option.some.inj this).symm
  refine ⟨?_, ?_⟩
  · rw [hd, runLen_app hall _ hx, List.length_take, List.length_drop]
    omega
  · rw [List.take_succ_eq_append_getElem hlt]
    congr 2
    have := List.getElem?_eq_getElem hlt
    rw [hge] at this
    exact (Option.some.inj this).symm
theorem num_at {b : List UInt8} {a e : Nat} {most : Nat} (ha : a ≤ e) (he : e < b.length) (h : ∀ j, a ≤ j → j < e → 128 ≤ (b.getD j 0).toNat) (hx : (b.getD e 0).toNat < 128) :
    numM ((b.drop a).take (runLen (b.drop a))) most = if (b.getD a 0).toNat = 128 then (0, 4) else if most < valSO ((b.drop a).take (e - a + 1)) then (0, 1) else (valSO ((b.drop a).take (e - a + 1)), 0) := by
  obtain ⟨h1, h2⟩ := run_end ha he h hx
  rw [h1]
  have hl : ((b.drop a).take (e - a + 1)).length = e - a + 1 := by rw [List.length_take, List.length_drop]; omega
  have hlast : ((b.drop a).take (e - a + 1)).getD (((b.drop a).take (e - a + 1)).length - 1) 0 = b.getD e 0 := by
    rw [hl, h2, List.getD_eq_getElem?_getD, List.getElem?_append_right (by rw [List.length_take, List.length_drop]; omega), List.length_take, List.length_drop]
    rw [show e - a + 1 - 1 - min (e - a) (b.length - a) = 0 by omega]
    rfl
  have hfirst : ((b.drop a).take (e - a + 1)).getD 0 0 = b.getD a 0 := by
    rw [List.getD_eq_getElem?_getD, List.getElem?_take, if_pos (by omega), List.getElem?_drop, Nat.add_zero, List.getD_eq_getElem?_getD]
  unfold numM
  rw [hlast, hfirst, if_neg (by omega)]
theorem val_step {b : List UInt8} {a k : Nat} (h : a + k < b.length) : valSO ((b.drop a).take (k + 1)) = valSO ((b.drop a).take k) * 128 + (b.getD (a + k) 0).toNat % 128 := by
  have hlt : k < (b.drop a).length := by rw [List.length_drop]; omega
  rw [List.take_succ_eq_append_getElem hlt, valSO_snoc, List.getElem_drop, List.getD_eq_getElem?_getD, List.getElem?_eq_getElem h]
  rfl
theorem step_keep {b : List UInt8} {a k e n M : Nat} (he : e < b.length) (hk : a + k ≤ e) (hk2 : k ≤ e - a + 1) (h1 : n ≤ M → valSO ((b.drop a).take k) = n) (h2 : M < n → M < valSO ((b.drop a).take k)) (h3 : n ≤ M * 128 + 127) :
    k + 1 ≤ e - a + 1 ∧ ((if n ≤ M then n * 128 + (b.getD (a + k) 0).toNat % 128 else n) ≤ M → valSO ((b.drop a).take (k + 1)) = if n ≤ M then n * 128 + (b.getD (a + k) 0).toNat % 128 else n) ∧
      (M < (if n ≤ M then n * 128 + (b.getD (a + k) 0).toNat % 128 else n) → M < valSO ((b.drop a).take (k + 1))) ∧ (if n ≤ M then n * 128 + (b.getD (a + k) 0).toNat % 128 else n) ≤ M * 128 + 127 := by
  rw [val_step (by omega)]
  by_cases h : n ≤ M
  · rw [if_pos h, h1 h]
    exact ⟨by omega, fun _ => rfl, fun h => h, by omega⟩
  · rw [if_neg h]
    have := h2 (by omega)
    exact ⟨by omega, fun h => by omega, fun _ => by omega, h3⟩
def ofN (l : List Nat) : List Int := l.map Int.ofNat
theorem getA_of {b : List UInt8} {e : Nat} (hb : b ≠ []) (h : numsM 2147483727 b = ([], e)) (he : e ≠ 0) : getA b = ([], e) := by
  unfold getA
  rw [if_neg hb, h, if_pos he]
theorem getA_ok {b : List UInt8} {l : List Nat} (hb : b ≠ []) (h : numsM 2147483727 b = (l, 0)) : getA b = if rightA (arcsOf l) = false then ([], 1) else (arcsOf l, 0) := by
  unfold getA
  rw [if_neg hb, h, if_neg (by simp)]
theorem in_drop {l : List Int} {j : Nat} : inF l (1 + j) = inF (l.drop 1) j := by simp [inF, List.getD_eq_getElem?_getD, Nat.add_comm 1 j]
/-- the reference's numbers so far -/
structure AtN (b : List UInt8) (a : Nat) (nums : List Nat) : Prop where
  le : a ≤ b.length
  n0 : nums.length ≤ a
  ne : a ≠ 0 → nums ≠ []
  bd : ∀ n ∈ nums, n ≤ 2147483727
  eq : numsM 2147483727 b = glueN nums (numsM (mB a) (b.drop a))
theorem atN_zero (b : List UInt8) : AtN b 0 [] := ⟨Nat.zero_le _, Nat.le_refl _, fun h => absurd rfl h, fun _ h => by simp at h, by
  rw [List.drop_zero]
  show _ = glueN [] (numsM 2147483727 b)
  unfold glueN
  split
  · rename_i h
    generalize hp : numsM 2147483727 b = p at h ⊢
    obtain ⟨x, y⟩ := p
    have hx : x = [] := by
      have hp' := hp
      rw [numsM] at hp'
      split at hp'
      · cases hp'; rfl
      · split at hp'
        · cases hp'; rfl
        · split at hp'
          · cases hp'; rfl
          · cases hp'; exact absurd rfl h
    rw [hx]
  · rename_i h
    generalize hp : numsM 2147483727 b = p at h ⊢
    obtain ⟨x, y⟩ := p
    have : y = 0 := by simpa using h
    rw [this]; rfl⟩
theorem drop_ne {b : List UInt8} {a : Nat} (h : a < b.length) : b.drop a ≠ [] := fun e => by
  have := congrArg List.length e
  rw [List.length_drop] at this
  simp at this; omega
theorem atN_bad {b : List UInt8} {a : Nat} {nums : List Nat} (h : AtN b a nums) (ha : a < b.length) {e : Nat} (he : (numM ((b.drop a).take (runLen (b.drop a))) (mB a)).2 = e) (h0 : e ≠ 0) : getA b = ([], e) := by
  refine getA_of (fun hb => by rw [hb] at ha; simp at ha) ?_ h0
  rw [h.eq, nums_bad (drop_ne ha) he h0]
  unfold glueN
  rw [if_pos h0]
theorem numM_le {r : List UInt8} {most n : Nat} (h : numM r most = (n, 0)) : n ≤ most := by
  unfold numM at h
  split at h
  · cases h
  · split at h
    · cases h
    · split at h
      · cases h
      · cases h; omega
theorem atN_next {b : List UInt8} {a e n : Nat} {nums : List Nat} (h : AtN b a nums) (ha : a ≤ e) (he : e < b.length) (hj : ∀ j, a ≤ j → j < e → 128 ≤ (b.getD j 0).toNat) (hx : (b.getD e 0).toNat < 128) (hn : numM ((b.drop a).take (runLen (b.drop a))) (mB a) = (n, 0)) : AtN b (a + (e - a + 1)) (nums ++ [n]) := by
  have hr := (run_end ha he hj hx).1
  refine ⟨by omega, by rw [List.length_append, List.length_singleton]; have := h.n0; omega, fun _ hh => by simp at hh, fun m hm => ?_, ?_⟩
  · rcases List.mem_append.1 hm with hm | hm
    · exact h.bd m hm
    · rw [List.mem_singleton.1 hm]
      have hmb : mB a ≤ 2147483727 := by unfold mB; split <;> omega
      have hle := numM_le hn
      omega
  rw [h.eq, nums_good (drop_ne (by omega)) hn, glue_glue, List.drop_drop, hr]
  have hm : mB (a + (e - a + 1)) = 2147483647 := by unfold mB; rw [if_neg (by omega)]
  rw [hm]
set_option maxHeartbeats 2000000 in
theorem rget05_ac {gs : List Nat} (b : List UInt8) (hb : b.length ≤ 1000000) : ACp gs Tryz.prog 98 [bsC b] (.tup 2 (fl [isC (getA b).1, .c (.int .i64 ((getA b).2 : Nat))])) := by
  refine ac_of 93 Tryz.func98 rfl rfl rfl (fun al w0 F0 St0 => ?_)
  refine jcr ?_
  refine jq jrm ?_
  refine jq jrm ?_
  refine seq_nil ?_
  refine jcs ?_
  refine jcr ?_
  refine jq jrm ?_
  refine jq jrl ?_
  refine jq jrc ?_
  refine seq_nil ?_
  refine jcc (fun h88 => ?_) fun h88 => ?_
  · refine jcr ?_
    refine jq jrm ?_
    refine jq jrm ?_
    refine seq_nil ?_
    refine code_ret (jtr (jrt (hv := CEnt.tup2 (by rw [show b = [] from List.eq_nil_of_length_eq_zero (by omega), getA_nil]; exact CEnt.nilS _ _) (CEnt.int (by rw [show b = [] from List.eq_nil_of_length_eq_zero (by omega), getA_nil]; rfl)))))
  refine code_skip (jtn ?_)
  refine jcr ?_
  refine jqe (jebl 0 1 zr3 fun p1 => ?_)
  refine jq jrm ?_
  refine seq_nil ?_
  refine jcr ?_
  refine jq jrm ?_
  refine seq_nil ?_
  refine jcs ?_
  refine code_block ?_
  refine l_loop (α := Nat × List Nat × Option Nat) [2, 3, 4, 5, 6, 7, 8, 15, 16, 17, 18, 19, 20, 21, 22, 23, 24, 25, 26, 27, 28, 29, 30, 31, 32, 33, 34, 35, 36, 37, 38, 39, 40, 41, 42, 43, 44, 45, 46, 47, 48, 49, 50, 51, 52, 53, 54, 55, 56, 57, 58, 59, 60, 61, 62, 63, 64, 65, 66, 67, 68, 69] (fun (a, nums, g) => [(4, .os 0 g 0 (ofN nums).length 1), (5, .c (.int .i64 (a : Nat)))]) (fun (a, nums, g) => [(g, .blk (ofN nums).length (inF (ofN nums)))]) (fun p => AtN b p.1 p.2.1) (fun p => b.length - p.1) ((0, [], p1)) ?_ (fun _ => rfl) ?_ ?_ ?_
  · exact atN_zero b
  · exact .cons (CEnt.osI rfl) (.cons (CEnt.refl _) .nil)
  · exact .blk rfl (fun j hj => absurd hj (Nat.not_lt_zero j)) .nil
  · rintro ⟨a, nums, g⟩ (hA : AtN b a nums)
    show ACode _ _ _ ⟨[(4, .os 0 g 0 (ofN nums).length 1), (5, .c (.int .i64 (a : Nat)))], _, [(g, .blk (ofN nums).length (inF (ofN nums)))]⟩ _
    have hle := hA.le
    have hnl := hA.n0
    have hol : (ofN nums).length = nums.length := by simp [ofN]
    refine jcs ?_
    refine jcr ?_
    refine jq jrm ?_
    refine jq jrm ?_
    refine jq jrl ?_
    refine jq jrc ?_
    refine seq_nil ?_
    refine jcc (fun h93 => ?_) fun h93 => ?_
    rotate_left
    · refine code_exit (jte (jte (jbx (jtn ?_))))
      have hae2 : a = b.length := by omega
      have hb0 : b ≠ [] := fun h => by rw [h] at hae2; simp at hae2; omega
      have hnn : nums ≠ [] := hA.ne (fun h => hb0 (List.eq_nil_of_length_eq_zero (by omega)))
      obtain ⟨x, xs, rfl⟩ : ∃ x xs, nums = x :: xs := by
          cases nums with
          | nil => exact absurd rfl hnn
          | cons x xs => exact ⟨x, xs, rfl⟩
      have hok : numsM 2147483727 b = (x :: xs, 0) := by
        rw [hA.eq, hae2, List.drop_length, numsM, dif_pos rfl]
        simp [glueN]
      have hxl : (ofN (x :: xs)).length = xs.length + 1 := by simp [ofN]
      have hx0 : (ofN (x :: xs)).getD 0 0 = (x : Int) := rfl
      have hxb := hA.bd x List.mem_cons_self
      have hga := getA_ok hb0 hok
      refine code_ent (freeze 0 rfl) ?_
      refine code_ent (thawIL 4 (ofN (x :: xs)) rfl rfl rfl (Nat.ble_eq_true_of_le (Nat.le_refl _)) (fun _ _ => CEnt.refl _)) ?_
      refine jcr ?_
      refine jq jrm ?_
      refine seq_nil ?_
      refine jcs ?_
      refine jcr ?_
      refine jq jrm ?_
      refine jq (jri (i := 0)) ?_
      refine jq jrdr ?_
      refine jq jrc ?_
      refine seq_nil ?_
      refine jcc (fun h120 => ?_) fun h120 => ?_
      · refine jcg ?_
        refine jq jrm ?_
        refine seq_nil ?_
        refine jtn ?_
        refine jcs ?_
        first
          | (have hF : ((min (x / 40) 2 : Nat) : Int) = 0 := by omega
             refine code_ent (weaken 9 (.c (.int .i64 ((min (x / 40) 2 : Nat) : Int))) (CEnt.int (by omega))) ?_)
          | (have hF : ((min (x / 40) 2 : Nat) : Int) = 1 := by omega
             refine code_ent (weaken 9 (.c (.int .i64 ((min (x / 40) 2 : Nat) : Int))) (CEnt.int (by omega))) ?_)
          | (have hF : ((min (x / 40) 2 : Nat) : Int) = 2 := by omega
             refine code_ent (weaken 9 (.c (.int .i64 ((min (x / 40) 2 : Nat) : Int))) (CEnt.int (by omega))) ?_)
        refine jcdB 10 (.rd 0 (.rd 1 (.rd 2 (.rd 3 (.rd 4 (.rd 5 (.rd 6 (.rd 8 (.rd 9 (.one 7 .done)))))))))) ?_
        refine jyq jrm ?_
        refine jyq jrm ?_
        refine jyq (jri (i := 0)) ?_
        refine jyq jrdr ?_
        refine jyq jrm ?_
        refine jyq jra ?_
        refine jyq jra ?_
        refine jyq jrm ?_
        refine jyq (jrsr (hl := (bd_some rfl (show (1 : Int) = ((1 : Nat) : Int) from rfl))) (hu := (bd_none _ _))) ?_
        refine jye (jebl 2 1 zr3 fun p2 => ?_)
        refine jyd ?_
        show ASeq _ _ _ _ _ _
        refine jqm (m_appendC rowC_in (l := [((min (x / 40) 2 : Nat) : Int), (x : Int) - 40 * ((min (x / 40) 2 : Nat) : Int)]) (l2 := ofN xs) rfl rfl rfl rfl (by simp) (fun j hj => by rcases j with _ | _ | j <;> first | exact CEnt.refl _ | exact CEnt.int (by omega) | (exfalso; simp at hj; omega)) (src_rs rfl) (by simp [ofN]) (fun j hj => by simp only [Nat.div_one]; exact CEnt.of_eq in_drop) Tryz.underlying22 nu22 sz3 zr3 by3 rfl (by simp [ofN]; omega) (by simp [ofN]; omega) (fun j hj => rfl) rfl rfl (Nat.mul_one _) (fun p3 => ?_))
        refine jq jrm ?_
        refine seq_nil ?_
        refine jtn ?_
        refine jcs ?_
        refine code_ent (freeze 1 rfl) ?_
        refine code_ent (thawIL 10 (arcsOf (x :: xs)) rfl rfl rfl (Nat.ble_eq_true_of_le (Nat.le_refl _)) (fun _ _ => CEnt.refl _)) ?_
        refine jcr ?_
        refine jq jrm ?_
        refine jqe (jecP (rright5_ac (arcsOf (x :: xs))) ?_)
        refine jq jrn ?_
        refine seq_nil ?_
        refine jcc (fun h126 => ?_) fun h126 => ?_
        · refine jcr ?_
          refine jq jrm ?_
          refine jq jrm ?_
          refine seq_nil ?_
          refine code_ret (jtr (jrt (hv := ?_)))
          have hb : getA b = ([], 1) := by rw [hga, if_pos (by simpa using h126)]
          rw [hb]
          exact CEnt.tup2 (CEnt.nilS _ _) (CEnt.refl _)
        refine code_skip (jtn ?_)
        refine jcr ?_
        refine jq jrm ?_
        refine jq jrm ?_
        refine jq jrm ?_
        refine seq_nil ?_
        refine code_ret (jrt (hv := ?_))
        have hb : getA b = (arcsOf (x :: xs), 0) := by rw [hga, if_neg (by simpa using h126)]
        rw [hb]
        exact CEnt.tup2 (CEnt.refl _) (CEnt.refl _)
      refine jcr ?_
      refine jq jrm ?_
      refine jq (jri (i := 0)) ?_
      refine jq jrdr ?_
      refine jq jrc ?_
      refine seq_nil ?_
      refine jcc (fun h122 => ?_) fun h122 => ?_
      rotate_left
      · refine code_skip (jtn ?_)
        refine jcs ?_
        first
          | (have hF : ((min (x / 40) 2 : Nat) : Int) = 0 := by omega
             refine code_ent (weaken 9 (.c (.int .i64 ((min (x / 40) 2 : Nat) : Int))) (CEnt.int (by omega))) ?_)
          | (have hF : ((min (x / 40) 2 : Nat) : Int) = 1 := by omega
             refine code_ent (weaken 9 (.c (.int .i64 ((min (x / 40) 2 : Nat) : Int))) (CEnt.int (by omega))) ?_)
          | (have hF : ((min (x / 40) 2 : Nat) : Int) = 2 := by omega
             refine code_ent (weaken 9 (.c (.int .i64 ((min (x / 40) 2 : Nat) : Int))) (CEnt.int (by omega))) ?_)
        refine jcdB 10 (.rd 0 (.rd 1 (.rd 2 (.rd 3 (.rd 4 (.rd 5 (.rd 6 (.rd 8 (.rd 9 (.one 7 .done)))))))))) ?_
        refine jyq jrm ?_
        refine jyq jrm ?_
        refine jyq (jri (i := 0)) ?_
        refine jyq jrdr ?_
        refine jyq jrm ?_
        refine jyq jra ?_
        refine jyq jra ?_
        refine jyq jrm ?_
        refine jyq (jrsr (hl := (bd_some rfl (show (1 : Int) = ((1 : Nat) : Int) from rfl))) (hu := (bd_none _ _))) ?_
        refine jye (jebl 2 1 zr3 fun p2 => ?_)
        refine jyd ?_
        show ASeq _ _ _ _ _ _
        refine jqm (m_appendC rowC_in (l := [((min (x / 40) 2 : Nat) : Int), (x : Int) - 40 * ((min (x / 40) 2 : Nat) : Int)]) (l2 := ofN xs) rfl rfl rfl rfl (by simp) (fun j hj => by rcases j with _ | _ | j <;> first | exact CEnt.refl _ | exact CEnt.int (by omega) | (exfalso; simp at hj; omega)) (src_rs rfl) (by simp [ofN]) (fun j hj => by simp only [Nat.div_one]; exact CEnt.of_eq in_drop) Tryz.underlying22 nu22 sz3 zr3 by3 rfl (by simp [ofN]; omega) (by simp [ofN]; omega) (fun j hj => rfl) rfl rfl (Nat.mul_one _) (fun p3 => ?_))
        refine jq jrm ?_
        refine seq_nil ?_
        refine jtn ?_
        refine jcs ?_
        refine code_ent (freeze 1 rfl) ?_
        refine code_ent (thawIL 10 (arcsOf (x :: xs)) rfl rfl rfl (Nat.ble_eq_true_of_le (Nat.le_refl _)) (fun _ _ => CEnt.refl _)) ?_
        refine jcr ?_
        refine jq jrm ?_
        refine jqe (jecP (rright5_ac (arcsOf (x :: xs))) ?_)
        refine jq jrn ?_
        refine seq_nil ?_
        refine jcc (fun h126 => ?_) fun h126 => ?_
        · refine jcr ?_
          refine jq jrm ?_
          refine jq jrm ?_
          refine seq_nil ?_
          refine code_ret (jtr (jrt (hv := ?_)))
          have hb : getA b = ([], 1) := by rw [hga, if_pos (by simpa using h126)]
          rw [hb]
          exact CEnt.tup2 (CEnt.nilS _ _) (CEnt.refl _)
        refine code_skip (jtn ?_)
        refine jcr ?_
        refine jq jrm ?_
        refine jq jrm ?_
        refine jq jrm ?_
        refine seq_nil ?_
        refine code_ret (jrt (hv := ?_))
        have hb : getA b = (arcsOf (x :: xs), 0) := by rw [hga, if_neg (by simpa using h126)]
        rw [hb]
        exact CEnt.tup2 (CEnt.refl _) (CEnt.refl _)
      refine jcg ?_
      refine jq jrm ?_
      refine seq_nil ?_
      refine jtn ?_
      refine jcs ?_
      first
        | (have hF : ((min (x / 40) 2 : Nat) : Int) = 0 := by omega
           refine code_ent (weaken 9 (.c (.int .i64 ((min (x / 40) 2 : Nat) : Int))) (CEnt.int (by omega))) ?_)
        | (have hF : ((min (x / 40) 2 : Nat) : Int) = 1 := by omega
           refine code_ent (weaken 9 (.c (.int .i64 ((min (x / 40) 2 : Nat) : Int))) (CEnt.int (by omega))) ?_)
        | (have hF : ((min (x / 40) 2 : Nat) : Int) = 2 := by omega
           refine code_ent (weaken 9 (.c (.int .i64 ((min (x / 40) 2 : Nat) : Int))) (CEnt.int (by omega))) ?_)
      refine jcdB 10 (.rd 0 (.rd 1 (.rd 2 (.rd 3 (.rd 4 (.rd 5 (.rd 6 (.rd 8 (.rd 9 (.one 7 .done)))))))))) ?_
      refine jyq jrm ?_
      refine jyq jrm ?_
      refine jyq (jri (i := 0)) ?_
      refine jyq jrdr ?_
      refine jyq jrm ?_
      refine jyq jra ?_
      refine jyq jra ?_
      refine jyq jrm ?_
      refine jyq (jrsr (hl := (bd_some rfl (show (1 : Int) = ((1 : Nat) : Int) from rfl))) (hu := (bd_none _ _))) ?_
      refine jye (jebl 2 1 zr3 fun p2 => ?_)
      refine jyd ?_
      show ASeq _ _ _ _ _ _
      refine jqm (m_appendC rowC_in (l := [((min (x / 40) 2 : Nat) : Int), (x : Int) - 40 * ((min (x / 40) 2 : Nat) : Int)]) (l2 := ofN xs) rfl rfl rfl rfl (by simp) (fun j hj => by rcases j with _ | _ | j <;> first | exact CEnt.refl _ | exact CEnt.int (by omega) | (exfalso; simp at hj; omega)) (src_rs rfl) (by simp [ofN]) (fun j hj => by simp only [Nat.div_one]; exact CEnt.of_eq in_drop) Tryz.underlying22 nu22 sz3 zr3 by3 rfl (by simp [ofN]; omega) (by simp [ofN]; omega) (fun j hj => rfl) rfl rfl (Nat.mul_one _) (fun p3 => ?_))
      refine jq jrm ?_
      refine seq_nil ?_
      refine jtn ?_
      refine jcs ?_
      refine code_ent (freeze 1 rfl) ?_
      refine code_ent (thawIL 10 (arcsOf (x :: xs)) rfl rfl rfl (Nat.ble_eq_true_of_le (Nat.le_refl _)) (fun _ _ => CEnt.refl _)) ?_
      refine jcr ?_
      refine jq jrm ?_
      refine jqe (jecP (rright5_ac (arcsOf (x :: xs))) ?_)
      refine jq jrn ?_
      refine seq_nil ?_
      refine jcc (fun h126 => ?_) fun h126 => ?_
      · refine jcr ?_
        refine jq jrm ?_
        refine jq jrm ?_
        refine seq_nil ?_
        refine code_ret (jtr (jrt (hv := ?_)))
        have hb : getA b = ([], 1) := by rw [hga, if_pos (by simpa using h126)]
        rw [hb]
        exact CEnt.tup2 (CEnt.nilS _ _) (CEnt.refl _)
      refine code_skip (jtn ?_)
      refine jcr ?_
      refine jq jrm ?_
      refine jq jrm ?_
      refine jq jrm ?_
      refine seq_nil ?_
      refine code_ret (jrt (hv := ?_))
      have hb : getA b = (arcsOf (x :: xs), 0) := by rw [hga, if_neg (by simpa using h126)]
      rw [hb]
      exact CEnt.tup2 (CEnt.refl _) (CEnt.refl _)
    refine code_skip (jtn ?_)
    refine code_block ?_
    have ha : a < b.length := by omega
    refine jcr ?_
    refine jq jrm ?_
    refine jq jrm ?_
    refine seq_nil ?_
    refine jcs ?_
    refine code_block ?_
    refine l_loop (α := Nat) [6, 20, 21, 22, 23, 24, 25, 26, 27, 28, 29, 30, 31, 32] (fun e => [(6, .c (.int .i64 (e : Nat)))]) (fun _ => [(g, .blk (ofN nums).length (inF (ofN nums)))]) (fun e => a ≤ e ∧ e ≤ b.length ∧ ∀ j, a ≤ j → j < e → 128 ≤ (b.getD j 0).toNat) (fun e => b.length - e) (a) ?_ (fun _ => rfl) ?_ ?_ ?_
    · exact ⟨Nat.le_refl _, by omega, fun j h1 h2 => by omega⟩
    · exact .cons (CEnt.refl _) .nil
    · exact HEnt.refl _
    · rintro e ⟨(hae : a ≤ e), (hel : e ≤ b.length), (hj : ∀ j, a ≤ j → j < e → 128 ≤ (b.getD j 0).toNat)⟩
      refine jcs ?_
      refine jcr ?_
      refine jq jrm ?_
      refine jq jrm ?_
      refine jq jrl ?_
      refine jq jrc ?_
      refine jq jrm ?_
      refine jqsp 24 (fun g95 => ?_) fun g95 => ?_
      rotate_left
      · refine jqs ?_
        refine jqs ?_
        refine jqs ?_
        refine jqs ?_
        refine jqs ?_
        refine jq jrpF ?_
        refine seq_nil ?_
        refine jcF ?_
        refine code_exit (jte (jte (jbx (jtn ?_))))
        refine jcs ?_
        refine jcr ?_
        refine jq jrm ?_
        refine jq jrm ?_
        refine jq jrl ?_
        refine jq jrc ?_
        refine seq_nil ?_
        refine jcc (fun h98 => ?_) fun h98 => ?_
        · refine jcr ?_
          refine jq jrm ?_
          refine jq jrm ?_
          refine seq_nil ?_
          refine code_ret (jtr (jbr (jtr (jbr (jtr (jrt (hv := ?_)))))))
          first
            | (exfalso; omega)
            | (have hg := atN_bad hA ha (run_open ha (fun j h1 h2 => hj j h1 (by omega)) (mB a)) (by decide)
               rw [hg]
               exact CEnt.tup2 (CEnt.nilS _ _) (CEnt.refl _))
        refine code_skip (jtn ?_)
        refine jcs ?_
        refine jcr ?_
        refine jq jrm ?_
        refine jq jrm ?_
        refine jq jri ?_
        refine jq jrdr ?_
        refine jq jrc ?_
        refine seq_nil ?_
        refine jcc (fun h101 => ?_) fun h101 => ?_
        · refine jcr ?_
          refine jq jrm ?_
          refine jq jrm ?_
          refine seq_nil ?_
          refine code_ret (jtr (jbr (jtr (jbr (jtr (jrt (hv := ?_)))))))
          first
            | (exfalso; omega)
            | (have hg := atN_bad hA ha (e := 4) (by rw [num_at hae (by omega) hj (by omega), if_pos (by omega)]) (by decide)
               rw [hg]
               exact CEnt.tup2 (CEnt.nilS _ _) (CEnt.refl _))
        refine code_skip (jtn ?_)
        refine jcr ?_
        refine jq jrm ?_
        refine seq_nil ?_
        refine jcs ?_
        refine jcr ?_
        refine jq jrm ?_
        refine jq jrc ?_
        refine seq_nil ?_
        refine jcc (fun h105 => ?_) fun h105 => ?_
        rotate_left
        · refine code_skip (jtn ?_)
          first
            | refine code_ent (weaken 7 (.c (.int .i64 (mB a : Nat))) (CEnt.int (by unfold mB; rw [if_pos (by omega)]; rfl))) ?_
            | refine code_ent (weaken 7 (.c (.int .i64 (mB a : Nat))) (CEnt.int (by unfold mB; rw [if_neg (by omega)]; rfl))) ?_
          have hmb : mB a ≤ 2147483727 := by unfold mB; split <;> omega
          refine jcr ?_
          refine jq jrm ?_
          refine seq_nil ?_
          refine jcs ?_
          refine code_block ?_
          refine l_loop (α := Nat × Nat) [5, 8, 46, 47, 48, 49, 50, 51, 52, 53, 54, 55, 56, 57, 58, 59, 60, 61, 62] (fun (k, n) => [(5, .c (.int .i64 ((a + k : Nat) : Int))), (8, .c (.int .i64 (n : Nat)))]) (fun _ => [(g, .blk (ofN nums).length (inF (ofN nums)))]) (fun p => p.1 ≤ e - a + 1 ∧ (p.2 ≤ mB a → valSO ((b.drop a).take p.1) = p.2) ∧ (mB a < p.2 → mB a < valSO ((b.drop a).take p.1)) ∧ p.2 ≤ mB a * 128 + 127) (fun p => e - a + 1 - p.1) ((0, 0)) ?_ (fun _ => rfl) ?_ ?_ ?_
          · exact ⟨Nat.zero_le _, fun _ => rfl, fun h => absurd h (Nat.not_lt_zero _), Nat.zero_le _⟩
          · exact .cons (CEnt.refl _) (.cons (CEnt.refl _) .nil)
          · exact HEnt.refl _
          · rintro ⟨k, n⟩ ⟨(hk : k ≤ e - a + 1), (hv1 : n ≤ mB a → valSO ((b.drop a).take k) = n), (hv2 : mB a < n → mB a < valSO ((b.drop a).take k)), (hv3 : n ≤ mB a * 128 + 127)⟩
            show ACode _ _ _ ⟨[(5, .c (.int .i64 ((a + k : Nat) : Int))), (8, .c (.int .i64 (n : Nat)))], _, [(g, .blk (ofN nums).length (inF (ofN nums)))]⟩ _
            refine jcs ?_
            refine jcr ?_
            refine jq jrm ?_
            refine jq jrm ?_
            refine jq jrc ?_
            refine seq_nil ?_
            refine jcc (fun h109 => ?_) fun h109 => ?_
            rotate_left
            · refine code_exit (jte (jte (jbx (jtn ?_))))
              refine jcs ?_
              have hke : k = e - a + 1 := by omega
              refine jcr ?_
              refine jq jrm ?_
              refine jq jrm ?_
              refine jq jrc ?_
              refine seq_nil ?_
              refine jcc (fun h114 => ?_) fun h114 => ?_
              · refine jcr ?_
                refine jq jrm ?_
                refine jq jrm ?_
                refine seq_nil ?_
                refine code_ret (jtr (jbr (jtr (jbr (jtr (jrt (hv := ?_)))))))
                first
                  | (exfalso; omega)
                  | (have hg := atN_bad hA ha (e := 1) (by rw [num_at hae (by omega) hj (by omega), if_neg (by omega), if_pos (by rw [← hke]; exact hv2 (by omega))]) (by decide)
                     rw [hg]
                     exact CEnt.tup2 (CEnt.nilS _ _) (CEnt.refl _))
              refine code_skip (jtn ?_)
              have hnum : numM ((b.drop a).take (runLen (b.drop a))) (mB a) = (n, 0) := by
                  have hvn := hv1 (by omega)
                  rw [num_at hae (by omega) hj (by omega), if_neg (by omega), ← hke, hvn, if_neg (by omega)]
              refine jcg ?_
              refine jq jrm ?_
              refine jq jrm ?_
              refine jqe (jebl 1 1 zr3 fun p2 => ?_)
              refine jqm (m_appendC rowC_in (l2 := [(n : Int)]) rfl rfl rfl rfl (by exact Nat.le_of_eq (Nat.mul_one _)) (fun _ _ => CEnt.refl _) (src_os rfl (.inl rfl) (by decide)) rfl (hh_ints (.cons (CEnt.int (rfl)) .nil)) Tryz.underlying22 nu22 sz3 zr3 by3 rfl (by omega) (by omega) (leaf_flk rfl rfl) rfl rfl (Nat.mul_one _) (fun p3 => ?_))
              refine jq jrm ?_
              refine seq_nil ?_
              refine jbn (jtn ?_)
              refine jlend ((a + k, nums ++ [n], p3)) ?_ ?_ (h5 := ?_) (h7 := ?_)
              · (have hke : k = e - a + 1 := (by omega); subst hke; exact atN_next hA (by omega) (by omega) hj (by omega) (hnum ▸ rfl))
              · show b.length - (a + k) < b.length - a; omega
              · exact .cons (CEnt.osI (by simp [ofN])) (.cons (CEnt.int (by omega)) .nil)
              · exact .blk (by simp [ofN]) (fun j hj => CEnt.of_eq (by simp [ofN])) .nil
            refine code_skip (jtn ?_)
            refine jcs ?_
            refine code_block ?_
            refine jcr ?_
            refine jq jrm ?_
            refine jq jrm ?_
            refine jq jrc ?_
            refine seq_nil ?_
            refine jcc (fun h110 => ?_) fun h110 => ?_
            rotate_left
            · refine code_skip (jbn (jtn ?_))
              refine jcg ?_
              refine jq jrm ?_
              refine jq jra ?_
              refine jq jrm ?_
              refine seq_nil ?_
              refine jtn ?_
              refine jlend ((k + 1, if n ≤ mB a then n * 128 + (b.getD (a + k) 0).toNat % 128 else n)) ?_ ?_ (h5 := ?_) (h7 := ?_)
              · exact step_keep (by omega) (by omega) (by omega) hv1 hv2 hv3
              · show e - a + 1 - (k + 1) < e - a + 1 - k; omega
              · exact .cons (CEnt.int (by omega)) (.cons (CEnt.int (by (rw [if_pos (by omega)]; omega))) .nil)
              · exact HEnt.refl _
            refine jcg ?_
            refine jq jrm ?_
            refine jq jra ?_
            refine jq jrm ?_
            refine jq jrm ?_
            refine jq jri ?_
            refine jq jrdr ?_
            refine jq jrr ?_
            refine jq (jrv .u8 .i64) ?_
            refine jq jra ?_
            refine jq jrm ?_
            refine seq_nil ?_
            refine jbn (jtn ?_)
            refine jcg ?_
            refine jq jrm ?_
            refine jq jra ?_
            refine jq jrm ?_
            refine seq_nil ?_
            refine jtn ?_
            refine jlend ((k + 1, if n ≤ mB a then n * 128 + (b.getD (a + k) 0).toNat % 128 else n)) ?_ ?_ (h5 := ?_) (h7 := ?_)
            · exact step_keep (by omega) (by omega) (by omega) hv1 hv2 hv3
            · show e - a + 1 - (k + 1) < e - a + 1 - k; omega
            · exact .cons (CEnt.int (by omega)) (.cons (CEnt.int (by (rw [if_pos (by omega)]; omega))) .nil)
            · exact HEnt.refl _
        refine jcg ?_
        refine jq jrm ?_
        refine jq jra ?_
        refine jq jrm ?_
        refine seq_nil ?_
        refine jtn ?_
        first
          | refine code_ent (weaken 7 (.c (.int .i64 (mB a : Nat))) (CEnt.int (by unfold mB; rw [if_pos (by omega)]; rfl))) ?_
          | refine code_ent (weaken 7 (.c (.int .i64 (mB a : Nat))) (CEnt.int (by unfold mB; rw [if_neg (by omega)]; rfl))) ?_
        have hmb : mB a ≤ 2147483727 := by unfold mB; split <;> omega
        refine jcr ?_
        refine jq jrm ?_
        refine seq_nil ?_
        refine jcs ?_
        refine code_block ?_
        refine l_loop (α := Nat × Nat) [5, 8, 46, 47, 48, 49, 50, 51, 52, 53, 54, 55, 56, 57, 58, 59, 60, 61, 62] (fun (k, n) => [(5, .c (.int .i64 ((a + k : Nat) : Int))), (8, .c (.int .i64 (n : Nat)))]) (fun _ => [(g, .blk (ofN nums).length (inF (ofN nums)))]) (fun p => p.1 ≤ e - a + 1 ∧ (p.2 ≤ mB a → valSO ((b.drop a).take p.1) = p.2) ∧ (mB a < p.2 → mB a < valSO ((b.drop a).take p.1)) ∧ p.2 ≤ mB a * 128 + 127) (fun p => e - a + 1 - p.1) ((0, 0)) ?_ (fun _ => rfl) ?_ ?_ ?_
        · exact ⟨Nat.zero_le _, fun _ => rfl, fun h => absurd h (Nat.not_lt_zero _), Nat.zero_le _⟩
        · exact .cons (CEnt.refl _) (.cons (CEnt.refl _) .nil)
        · exact HEnt.refl _
        · rintro ⟨k, n⟩ ⟨(hk : k ≤ e - a + 1), (hv1 : n ≤ mB a → valSO ((b.drop a).take k) = n), (hv2 : mB a < n → mB a < valSO ((b.drop a).take k)), (hv3 : n ≤ mB a * 128 + 127)⟩
          show ACode _ _ _ ⟨[(5, .c (.int .i64 ((a + k : Nat) : Int))), (8, .c (.int .i64 (n : Nat)))], _, [(g, .blk (ofN nums).length (inF (ofN nums)))]⟩ _
          refine jcs ?_
          refine jcr ?_
          refine jq jrm ?_
          refine jq jrm ?_
          refine jq jrc ?_
          refine seq_nil ?_
          refine jcc (fun h109 => ?_) fun h109 => ?_
          rotate_left
          · refine code_exit (jte (jte (jbx (jtn ?_))))
            refine jcs ?_
            have hke : k = e - a + 1 := by omega
            refine jcr ?_
            refine jq jrm ?_
            refine jq jrm ?_
            refine jq jrc ?_
            refine seq_nil ?_
            refine jcc (fun h114 => ?_) fun h114 => ?_
            · refine jcr ?_
              refine jq jrm ?_
              refine jq jrm ?_
              refine seq_nil ?_
              refine code_ret (jtr (jbr (jtr (jbr (jtr (jrt (hv := ?_)))))))
              first
                | (exfalso; omega)
                | (have hg := atN_bad hA ha (e := 1) (by rw [num_at hae (by omega) hj (by omega), if_neg (by omega), if_pos (by rw [← hke]; exact hv2 (by omega))]) (by decide)
                   rw [hg]
                   exact CEnt.tup2 (CEnt.nilS _ _) (CEnt.refl _))
            refine code_skip (jtn ?_)
            have hnum : numM ((b.drop a).take (runLen (b.drop a))) (mB a) = (n, 0) := by
                have hvn := hv1 (by omega)
                rw [num_at hae (by omega) hj (by omega), if_neg (by omega), ← hke, hvn, if_neg (by omega)]
            refine jcg ?_
            refine jq jrm ?_
            refine jq jrm ?_
            refine jqe (jebl 1 1 zr3 fun p2 => ?_)
            refine jqm (m_appendC rowC_in (l2 := [(n : Int)]) rfl rfl rfl rfl (by exact Nat.le_of_eq (Nat.mul_one _)) (fun _ _ => CEnt.refl _) (src_os rfl (.inl rfl) (by decide)) rfl (hh_ints (.cons (CEnt.int (rfl)) .nil)) Tryz.underlying22 nu22 sz3 zr3 by3 rfl (by omega) (by omega) (leaf_flk rfl rfl) rfl rfl (Nat.mul_one _) (fun p3 => ?_))
            refine jq jrm ?_
            refine seq_nil ?_
            refine jbn (jtn ?_)
            refine jlend ((a + k, nums ++ [n], p3)) ?_ ?_ (h5 := ?_) (h7 := ?_)
            · (have hke : k = e - a + 1 := (by omega); subst hke; exact atN_next hA (by omega) (by omega) hj (by omega) (hnum ▸ rfl))
            · show b.length - (a + k) < b.length - a; omega
            · exact .cons (CEnt.osI (by simp [ofN])) (.cons (CEnt.int (by omega)) .nil)
            · exact .blk (by simp [ofN]) (fun j hj => CEnt.of_eq (by simp [ofN])) .nil
          refine code_skip (jtn ?_)
          refine jcs ?_
          refine code_block ?_
          refine jcr ?_
          refine jq jrm ?_
          refine jq jrm ?_
          refine jq jrc ?_
          refine seq_nil ?_
          refine jcc (fun h110 => ?_) fun h110 => ?_
          rotate_left
          · refine code_skip (jbn (jtn ?_))
            refine jcg ?_
            refine jq jrm ?_
            refine jq jra ?_
            refine jq jrm ?_
            refine seq_nil ?_
            refine jtn ?_
            refine jlend ((k + 1, if n ≤ mB a then n * 128 + (b.getD (a + k) 0).toNat % 128 else n)) ?_ ?_ (h5 := ?_) (h7 := ?_)
            · exact step_keep (by omega) (by omega) (by omega) hv1 hv2 hv3
            · show e - a + 1 - (k + 1) < e - a + 1 - k; omega
            · exact .cons (CEnt.int (by omega)) (.cons (CEnt.int (by (rw [if_pos (by omega)]; omega))) .nil)
            · exact HEnt.refl _
          refine jcg ?_
          refine jq jrm ?_
          refine jq jra ?_
          refine jq jrm ?_
          refine jq jrm ?_
          refine jq jri ?_
          refine jq jrdr ?_
          refine jq jrr ?_
          refine jq (jrv .u8 .i64) ?_
          refine jq jra ?_
          refine jq jrm ?_
          refine seq_nil ?_
          refine jbn (jtn ?_)
          refine jcg ?_
          refine jq jrm ?_
          refine jq jra ?_
          refine jq jrm ?_
          refine seq_nil ?_
          refine jtn ?_
          refine jlend ((k + 1, if n ≤ mB a then n * 128 + (b.getD (a + k) 0).toNat % 128 else n)) ?_ ?_ (h5 := ?_) (h7 := ?_)
          · exact step_keep (by omega) (by omega) (by omega) hv1 hv2 hv3
          · show e - a + 1 - (k + 1) < e - a + 1 - k; omega
          · exact .cons (CEnt.int (by omega)) (.cons (CEnt.int (by (rw [if_pos (by omega)]; omega))) .nil)
          · exact HEnt.refl _
      refine jq jrm ?_
      refine jq jrm ?_
      refine jq jri ?_
      refine jq jrdr ?_
      refine jq jrc ?_
      refine jq jrpT ?_
      refine seq_nil ?_
      refine jcc (fun h95 => ?_) fun h95 => ?_
      · refine code_skip (jtn ?_)
        refine code_block ?_
        refine jcg ?_
        refine jq jrm ?_
        refine jq jra ?_
        refine jq jrm ?_
        refine seq_nil ?_
        refine jbn (jtn ?_)
        refine jlend (e + 1) ?_ ?_ (h5 := ?_) (h7 := ?_)
        · exact ⟨by omega, by omega, fun j h1 h2 => if h : j < e then hj j h1 h else (by obtain rfl : j = e := (by omega); omega)⟩
        · show b.length - (e + 1) < b.length - e; omega
        · exact .cons (CEnt.int (by omega)) .nil
        · exact HEnt.refl _
      refine code_exit (jte (jte (jbx (jtn ?_))))
      refine jcs ?_
      refine jcr ?_
      refine jq jrm ?_
      refine jq jrm ?_
      refine jq jrl ?_
      refine jq jrc ?_
      refine seq_nil ?_
      refine jcc (fun h98 => ?_) fun h98 => ?_
      · refine jcr ?_
        refine jq jrm ?_
        refine jq jrm ?_
        refine seq_nil ?_
        refine code_ret (jtr (jbr (jtr (jbr (jtr (jrt (hv := ?_)))))))
        first
          | (exfalso; omega)
          | (have hg := atN_bad hA ha (run_open ha (fun j h1 h2 => hj j h1 (by omega)) (mB a)) (by decide)
             rw [hg]
             exact CEnt.tup2 (CEnt.nilS _ _) (CEnt.refl _))
      refine code_skip (jtn ?_)
      refine jcs ?_
      refine jcr ?_
      refine jq jrm ?_
      refine jq jrm ?_
      refine jq jri ?_
      refine jq jrdr ?_
      refine jq jrc ?_
      refine seq_nil ?_
      refine jcc (fun h101 => ?_) fun h101 => ?_
      · refine jcr ?_
        refine jq jrm ?_
        refine jq jrm ?_
        refine seq_nil ?_
        refine code_ret (jtr (jbr (jtr (jbr (jtr (jrt (hv := ?_)))))))
        first
          | (exfalso; omega)
          | (have hg := atN_bad hA ha (e := 4) (by rw [num_at hae (by omega) hj (by omega), if_pos (by omega)]) (by decide)
             rw [hg]
             exact CEnt.tup2 (CEnt.nilS _ _) (CEnt.refl _))
      refine code_skip (jtn ?_)
      refine jcr ?_
      refine jq jrm ?_
      refine seq_nil ?_
      refine jcs ?_
      refine jcr ?_
      refine jq jrm ?_
      refine jq jrc ?_
      refine seq_nil ?_
      refine jcc (fun h105 => ?_) fun h105 => ?_
      rotate_left
      · refine code_skip (jtn ?_)
        first
          | refine code_ent (weaken 7 (.c (.int .i64 (mB a : Nat))) (CEnt.int (by unfold mB; rw [if_pos (by omega)]; rfl))) ?_
          | refine code_ent (weaken 7 (.c (.int .i64 (mB a : Nat))) (CEnt.int (by unfold mB; rw [if_neg (by omega)]; rfl))) ?_
        have hmb : mB a ≤ 2147483727 := by unfold mB; split <;> omega
        refine jcr ?_
        refine jq jrm ?_
        refine seq_nil ?_
        refine jcs ?_
        refine code_block ?_
        refine l_loop (α := Nat × Nat) [5, 8, 46, 47, 48, 49, 50, 51, 52, 53, 54, 55, 56, 57, 58, 59, 60, 61, 62] (fun (k, n) => [(5, .c (.int .i64 ((a + k : Nat) : Int))), (8, .c (.int .i64 (n : Nat)))]) (fun _ => [(g, .blk (ofN nums).length (inF (ofN nums)))]) (fun p => p.1 ≤ e - a + 1 ∧ (p.2 ≤ mB a → valSO ((b.drop a).take p.1) = p.2) ∧ (mB a < p.2 → mB a < valSO ((b.drop a).take p.1)) ∧ p.2 ≤ mB a * 128 + 127) (fun p => e - a + 1 - p.1) ((0, 0)) ?_ (fun _ => rfl) ?_ ?_ ?_
        · exact ⟨Nat.zero_le _, fun _ => rfl, fun h => absurd h (Nat.not_lt_zero _), Nat.zero_le _⟩
        · exact .cons (CEnt.refl _) (.cons (CEnt.refl _) .nil)
        · exact HEnt.refl _
        · rintro ⟨k, n⟩ ⟨(hk : k ≤ e - a + 1), (hv1 : n ≤ mB a → valSO ((b.drop a).take k) = n), (hv2 : mB a < n → mB a < valSO ((b.drop a).take k)), (hv3 : n ≤ mB a * 128 + 127)⟩
          show ACode _ _ _ ⟨[(5, .c (.int .i64 ((a + k : Nat) : Int))), (8, .c (.int .i64 (n : Nat)))], _, [(g, .blk (ofN nums).length (inF (ofN nums)))]⟩ _
          refine jcs ?_
          refine jcr ?_
          refine jq jrm ?_
          refine jq jrm ?_
          refine jq jrc ?_
          refine seq_nil ?_
          refine jcc (fun h109 => ?_) fun h109 => ?_
          rotate_left
          · refine code_exit (jte (jte (jbx (jtn ?_))))
            refine jcs ?_
            have hke : k = e - a + 1 := by omega
            refine jcr ?_
            refine jq jrm ?_
            refine jq jrm ?_
            refine jq jrc ?_
            refine seq_nil ?_
            refine jcc (fun h114 => ?_) fun h114 => ?_
            · refine jcr ?_
              refine jq jrm ?_
              refine jq jrm ?_
              refine seq_nil ?_
              refine code_ret (jtr (jbr (jtr (jbr (jtr (jrt (hv := ?_)))))))
              first
                | (exfalso; omega)
                | (have hg := atN_bad hA ha (e := 1) (by rw [num_at hae (by omega) hj (by omega), if_neg (by omega), if_pos (by rw [← hke]; exact hv2 (by omega))]) (by decide)
                   rw [hg]
                   exact CEnt.tup2 (CEnt.nilS _ _) (CEnt.refl _))
            refine code_skip (jtn ?_)
            have hnum : numM ((b.drop a).take (runLen (b.drop a))) (mB a) = (n, 0) := by
                have hvn := hv1 (by omega)
                rw [num_at hae (by omega) hj (by omega), if_neg (by omega), ← hke, hvn, if_neg (by omega)]
            refine jcg ?_
            refine jq jrm ?_
            refine jq jrm ?_
            refine jqe (jebl 1 1 zr3 fun p2 => ?_)
            refine jqm (m_appendC rowC_in (l2 := [(n : Int)]) rfl rfl rfl rfl (by exact Nat.le_of_eq (Nat.mul_one _)) (fun _ _ => CEnt.refl _) (src_os rfl (.inl rfl) (by decide)) rfl (hh_ints (.cons (CEnt.int (rfl)) .nil)) Tryz.underlying22 nu22 sz3 zr3 by3 rfl (by (simp; omega)) (by (simp; omega)) (leaf_flk rfl rfl) rfl rfl (Nat.mul_one _) (fun p3 => ?_))
            refine jq jrm ?_
            refine seq_nil ?_
            refine jbn (jtn ?_)
            refine jlend ((a + k, nums ++ [n], p3)) ?_ ?_ (h5 := ?_) (h7 := ?_)
            · (have hke : k = e - a + 1 := (by omega); subst hke; exact atN_next hA (by omega) (by omega) hj (by omega) (hnum ▸ rfl))
            · show b.length - (a + k) < b.length - a; omega
            · exact .cons (CEnt.osI (by simp [ofN])) (.cons (CEnt.int (by omega)) .nil)
            · exact .blk (by simp [ofN]) (fun j hj => CEnt.of_eq (by simp [ofN])) .nil
          refine code_skip (jtn ?_)
          refine jcs ?_
          refine code_block ?_
          refine jcr ?_
          refine jq jrm ?_
          refine jq jrm ?_
          refine jq jrc ?_
          refine seq_nil ?_
          refine jcc (fun h110 => ?_) fun h110 => ?_
          rotate_left
          · refine code_skip (jbn (jtn ?_))
            refine jcg ?_
            refine jq jrm ?_
            refine jq jra ?_
            refine jq jrm ?_
            refine seq_nil ?_
            refine jtn ?_
            refine jlend ((k + 1, if n ≤ mB a then n * 128 + (b.getD (a + k) 0).toNat % 128 else n)) ?_ ?_ (h5 := ?_) (h7 := ?_)
            · exact step_keep (by omega) (by omega) (by omega) hv1 hv2 hv3
            · show e - a + 1 - (k + 1) < e - a + 1 - k; omega
            · exact .cons (CEnt.int (by omega)) (.cons (CEnt.int (by (rw [if_neg (by omega)]))) .nil)
            · exact HEnt.refl _
          refine jcg ?_
          refine jq jrm ?_
          refine jq jra ?_
          refine jq jrm ?_
          refine jq jrm ?_
          refine jq jri ?_
          refine jq jrdr ?_
          refine jq jrr ?_
          refine jq (jrv .u8 .i64) ?_
          refine jq jra ?_
          refine jq jrm ?_
          refine seq_nil ?_
          refine jbn (jtn ?_)
          refine jcg ?_
          refine jq jrm ?_
          refine jq jra ?_
          refine jq jrm ?_
          refine seq_nil ?_
          refine jtn ?_
          refine jlend ((k + 1, if n ≤ mB a then n * 128 + (b.getD (a + k) 0).toNat % 128 else n)) ?_ ?_ (h5 := ?_) (h7 := ?_)
          · exact step_keep (by omega) (by omega) (by omega) hv1 hv2 hv3
          · show e - a + 1 - (k + 1) < e - a + 1 - k; omega
          · exact .cons (CEnt.int (by omega)) (.cons (CEnt.int (by (rw [if_pos (by omega)]; omega))) .nil)
          · exact HEnt.refl _
      refine jcg ?_
      refine jq jrm ?_
      refine jq jra ?_
      refine jq jrm ?_
      refine seq_nil ?_
      refine jtn ?_
      first
        | refine code_ent (weaken 7 (.c (.int .i64 (mB a : Nat))) (CEnt.int (by unfold mB; rw [if_pos (by omega)]; rfl))) ?_
        | refine code_ent (weaken 7 (.c (.int .i64 (mB a : Nat))) (CEnt.int (by unfold mB; rw [if_neg (by omega)]; rfl))) ?_
      have hmb : mB a ≤ 2147483727 := by unfold mB; split <;> omega
      refine jcr ?_
      refine jq jrm ?_
      refine seq_nil ?_
      refine jcs ?_
      refine code_block ?_
      refine l_loop (α := Nat × Nat) [5, 8, 46, 47, 48, 49, 50, 51, 52, 53, 54, 55, 56, 57, 58, 59, 60, 61, 62] (fun (k, n) => [(5, .c (.int .i64 ((a + k : Nat) : Int))), (8, .c (.int .i64 (n : Nat)))]) (fun _ => [(g, .blk (ofN nums).length (inF (ofN nums)))]) (fun p => p.1 ≤ e - a + 1 ∧ (p.2 ≤ mB a → valSO ((b.drop a).take p.1) = p.2) ∧ (mB a < p.2 → mB a < valSO ((b.drop a).take p.1)) ∧ p.2 ≤ mB a * 128 + 127) (fun p => e - a + 1 - p.1) ((0, 0)) ?_ (fun _ => rfl) ?_ ?_ ?_
      · exact ⟨Nat.zero_le _, fun _ => rfl, fun h => absurd h (Nat.not_lt_zero _), Nat.zero_le _⟩
      · exact .cons (CEnt.refl _) (.cons (CEnt.refl _) .nil)
      · exact HEnt.refl _
      · rintro ⟨k, n⟩ ⟨(hk : k ≤ e - a + 1), (hv1 : n ≤ mB a → valSO ((b.drop a).take k) = n), (hv2 : mB a < n → mB a < valSO ((b.drop a).take k)), (hv3 : n ≤ mB a * 128 + 127)⟩
        show ACode _ _ _ ⟨[(5, .c (.int .i64 ((a + k : Nat) : Int))), (8, .c (.int .i64 (n : Nat)))], _, [(g, .blk (ofN nums).length (inF (ofN nums)))]⟩ _
        refine jcs ?_
        refine jcr ?_
        refine jq jrm ?_
        refine jq jrm ?_
        refine jq jrc ?_
        refine seq_nil ?_
        refine jcc (fun h109 => ?_) fun h109 => ?_
        rotate_left
        · refine code_exit (jte (jte (jbx (jtn ?_))))
          refine jcs ?_
          have hke : k = e - a + 1 := by omega
          refine jcr ?_
          refine jq jrm ?_
          refine jq jrm ?_
          refine jq jrc ?_
          refine seq_nil ?_
          refine jcc (fun h114 => ?_) fun h114 => ?_
          · refine jcr ?_
            refine jq jrm ?_
            refine jq jrm ?_
            refine seq_nil ?_
            refine code_ret (jtr (jbr (jtr (jbr (jtr (jrt (hv := ?_)))))))
            first
              | (exfalso; omega)
              | (have hg := atN_bad hA ha (e := 1) (by rw [num_at hae (by omega) hj (by omega), if_neg (by omega), if_pos (by rw [← hke]; exact hv2 (by omega))]) (by decide)
                 rw [hg]
                 exact CEnt.tup2 (CEnt.nilS _ _) (CEnt.refl _))
          refine code_skip (jtn ?_)
          have hnum : numM ((b.drop a).take (runLen (b.drop a))) (mB a) = (n, 0) := by
              have hvn := hv1 (by omega)
              rw [num_at hae (by omega) hj (by omega), if_neg (by omega), ← hke, hvn, if_neg (by omega)]
          refine jcg ?_
          refine jq jrm ?_
          refine jq jrm ?_
          refine jqe (jebl 1 1 zr3 fun p2 => ?_)
          refine jqm (m_appendC rowC_in (l2 := [(n : Int)]) rfl rfl rfl rfl (by exact Nat.le_of_eq (Nat.mul_one _)) (fun _ _ => CEnt.refl _) (src_os rfl (.inl rfl) (by decide)) rfl (hh_ints (.cons (CEnt.int (rfl)) .nil)) Tryz.underlying22 nu22 sz3 zr3 by3 rfl (by (simp; omega)) (by (simp; omega)) (leaf_flk rfl rfl) rfl rfl (Nat.mul_one _) (fun p3 => ?_))
          refine jq jrm ?_
          refine seq_nil ?_
          refine jbn (jtn ?_)
          refine jlend ((a + k, nums ++ [n], p3)) ?_ ?_ (h5 := ?_) (h7 := ?_)
          · (have hke : k = e - a + 1 := (by omega); subst hke; exact atN_next hA (by omega) (by omega) hj (by omega) (hnum ▸ rfl))
          · show b.length - (a + k) < b.length - a; omega
          · exact .cons (CEnt.osI (by simp [ofN])) (.cons (CEnt.int (by omega)) .nil)
          · exact .blk (by simp [ofN]) (fun j hj => CEnt.of_eq (by simp [ofN])) .nil
        refine code_skip (jtn ?_)
        refine jcs ?_
        refine code_block ?_
        refine jcr ?_
        refine jq jrm ?_
        refine jq jrm ?_
        refine jq jrc ?_
        refine seq_nil ?_
        refine jcc (fun h110 => ?_) fun h110 => ?_
        rotate_left
        · refine code_skip (jbn (jtn ?_))
          refine jcg ?_
          refine jq jrm ?_
          refine jq jra ?_
          refine jq jrm ?_
          refine seq_nil ?_
          refine jtn ?_
          refine jlend ((k + 1, if n ≤ mB a then n * 128 + (b.getD (a + k) 0).toNat % 128 else n)) ?_ ?_ (h5 := ?_) (h7 := ?_)
          · exact step_keep (by omega) (by omega) (by omega) hv1 hv2 hv3
          · show e - a + 1 - (k + 1) < e - a + 1 - k; omega
          · exact .cons (CEnt.int (by omega)) (.cons (CEnt.int (by (rw [if_neg (by omega)]))) .nil)
          · exact HEnt.refl _
        refine jcg ?_
        refine jq jrm ?_
        refine jq jra ?_
        refine jq jrm ?_
        refine jq jrm ?_
        refine jq jri ?_
        refine jq jrdr ?_
        refine jq jrr ?_
        refine jq (jrv .u8 .i64) ?_
        refine jq jra ?_
        refine jq jrm ?_
        refine seq_nil ?_
        refine jbn (jtn ?_)
        refine jcg ?_
        refine jq jrm ?_
        refine jq jra ?_
        refine jq jrm ?_
        refine seq_nil ?_
        refine jtn ?_
        refine jlend ((k + 1, if n ≤ mB a then n * 128 + (b.getD (a + k) 0).toNat % 128 else n)) ?_ ?_ (h5 := ?_) (h7 := ?_)
        · exact step_keep (by omega) (by omega) (by omega) hv1 hv2 hv3
        · show e - a + 1 - (k + 1) < e - a + 1 - k; omega
        · exact .cons (CEnt.int (by omega)) (.cons (CEnt.int (by (rw [if_pos (by omega)]; omega))) .nil)
        · exact HEnt.refl _
end Am
end Go.Proofs.YtgnjjenalebiaaaGreatDoor

/- Chapter 8: the law of what is read. -/
namespace Go.Proofs.YtgnjjenalebiaaaGreatDoor
set_option linter.unusedVariables false
namespace Am
variable {gs : List Nat} [OkG gs] [OkT gs]
open Go.RowKit Cal
set_option maxRecDepth 100000

theorem numM_e (r : List UInt8) (m : Nat) : (numM r m).2 ≤ 4 := by
  unfold numM
  repeat' split
  all_goals (dsimp only; omega)
theorem numsM_e : ∀ (n m : Nat) (b : List UInt8), b.length ≤ n → (numsM m b).2 ≤ 4
  | n, m, b, h => by
    rw [numsM]
    split
    · exact Nat.zero_le _
    · rename_i h0
      split
      · exact numM_e _ _
      · split
        · cases n with
          | zero => exact absurd (List.eq_nil_of_length_eq_zero (by omega)) h0
          | succ n =>
            have h1 := runLen_pos h0
            have h2 := List.length_pos_iff.2 h0
            exact numsM_e n _ _ (by rw [List.length_drop]; omega)
        · exact Nat.zero_le _
theorem getA_e (b : List UInt8) : (getA b).2 ≤ 28 := by
  have := numsM_e _ 2147483727 b (Nat.le_refl _)
  unfold getA
  repeat' split
  all_goals (dsimp only; omega)
theorem said_e (a : AA) (b : List UInt8) : (saidM a b).2 ≤ 28 := by
  have h1 := asked_bd b a.most
  have h2 := (maskM_bd b).1
  have h3 := getA_e b
  have h4 := range_e b a.least a.most
  have h5 : (isTrueM b).2 ≤ 28 := by
    unfold isTrueM
    repeat' split
    all_goals (dsimp only; omega)
  have h6 : (octM a.least a.most b).2 ≤ 28 := by
    unfold octM
    repeat' split
    all_goals (dsimp only; omega)
  have h7 : (ogetM b).2 ≤ 28 := by unfold ogetM; split <;> (dsimp only; omega)
  have h8 : getE b ≤ 28 := by
    unfold getE
    repeat' split
    all_goals omega
  unfold saidM
  repeat' split
  all_goals (dsimp only; omega)
/-- the readers stay small -/
structure InvR (i : Nat) (l : List (List UInt8)) (k : Nat) : Prop where
  pos : 0 < l.length
  len : l.length ≤ 1 + i
  all : ∀ x ∈ l, x.length ≤ 1000
  k : k ≤ 28
theorem now_all {l : List (List UInt8)} (h : ∀ x ∈ l, x.length ≤ 1000) : (nowL l).length ≤ 1000 := by
  unfold nowL
  rw [List.getD_eq_getElem?_getD]
  cases hx : l[l.length - 1]? with
  | none => simp
  | some x => exact h x (List.mem_of_getElem? hx)
theorem next_all (t : Int) {l : List (List UInt8)} (k : Nat) (h : ∀ x ∈ l, x.length ≤ 1000) : (∀ x ∈ (nextR t l k).l, x.length ≤ 1000) ∧ (nextR t l k).body.length ≤ 1000 := by
  have hn := now_all h
  have hb := nextM_bd (nowL l)
  unfold nextR
  repeat' split
  · exact ⟨h, by simp⟩
  · exact ⟨h, by simp⟩
  · exact ⟨h, by simp⟩
  · refine ⟨fun x hx => ?_, by dsimp only; omega⟩
    rcases List.mem_or_eq_of_mem_set hx with hx | rfl
    · exact h x hx
    · omega
theorem inv_read {i : Nat} {l : List (List UInt8)} {k : Nat} (h : InvR i l k) (a : AA) : InvR (i + 1) (readR a l k).l (readR a l k).k := by
  have hp := h.pos
  have hl := h.len
  have hN : ∀ t k, 0 < (nextR t l k).l.length ∧ (nextR t l k).l.length ≤ 1 + (i + 1) := fun t k => by rw [nextR_len]; omega
  have hA := fun t k => next_all t k h.all
  unfold readR
  split
  · have h5 : (enterR a.tag l k).k ≤ 28 := by
      unfold enterR
      refine nextR_k ?_
      have := h.k
      split <;> omega
    have hb := enter_bd (tag := a.tag) (l := l) (k := k)
    refine ⟨by dsimp only; omega, by dsimp only; omega, ?_, h5⟩
    dsimp only
    unfold enterL enterR
    generalize (if moreM l k = true ∧ madeM a.tag = false then 5 else k) = k'
    split
    · intro x hx
      rcases List.mem_append.1 hx with hx | hx
      · exact (hA _ _).1 x hx
      · rw [List.mem_singleton.1 hx]; exact (hA _ _).2
    · exact (hA _ _).1
  · split
    · have h5 := leave_k (l := l) h.k
      have h6 : leaveK l k = 0 → l.length ≠ 1 := fun h0 e => by
        unfold leaveK at h0
        split at h0
        · contradiction
        · cases h0
      dsimp only
      unfold leaveL
      split
      · rename_i h0
        have := h6 h0
        exact ⟨by rw [List.length_take]; omega, by rw [List.length_take]; omega, fun x hx => h.all x (List.mem_of_mem_take hx), h5⟩
      · exact ⟨hp, by omega, h.all, h5⟩
    · split
      · exact ⟨(hN _ _).1, (hN _ _).2, (hA _ _).1, nextR_k h.k⟩
      · unfold readV
        refine ⟨(hN _ _).1, (hN _ _).2, (hA _ _).1, ?_⟩
        dsimp only
        unfold valK
        split
        · exact said_e _ _
        · exact nextR_k h.k
def A0 : AA := ⟨0, 0, 0, 0⟩
def askF (a : AA) : Nat → CV := fl [.c (.int .i64 a.kind), .c (.int .i64 a.tag), .c (.int .i64 a.least), .c (.int .i64 a.most)]
def asksC (qs : List AA) : CV := .rs 4 qs.length fun i j => askF (qs.getD i A0) j
theorem endK_bd {l : List (List UInt8)} {k : Nat} (h : k ≤ 28) : endK l k ≤ 28 := by
  unfold endK
  repeat' split
  all_goals omega
set_option maxHeartbeats 4000000 in
theorem derReads_ac (b : List UInt8) (qs : List AA) : ACp gs Tryz.prog 5 [bsC b, asksC qs] (.c (.bool true)) := by
  refine ac_of 112 Tryz.func5 rfl rfl rfl (fun al w0 F0 St0 => ?_)
  refine jcr ?_
  refine jq jrm ?_
  refine seq_nil ?_
  refine jcs ?_
  refine jcr ?_
  refine jqe (jecP alive08_ac ?_)
  refine jq jrn ?_
  refine seq_nil ?_
  refine jcc (fun h129 => ?_) fun h129 => ?_
  · exfalso; simp at h129
  refine code_skip (jtn ?_)
  refine jcs ?_
  refine jcr ?_
  refine jq jrm ?_
  refine jq jrl ?_
  refine jq jrc ?_
  refine jq jrm ?_
  refine jqsp 17 (fun g132 => ?_) fun g132 => ?_
  · refine jqs ?_
    refine jqs ?_
    refine jqs ?_
    refine jq jrpT ?_
    refine seq_nil ?_
    refine jcT ?_
    refine jcr ?_
    refine jq jrm ?_
    refine seq_nil ?_
    refine code_ret (jtr (jrt (hv := CEnt.refl _)))
  refine jq jrm ?_
  refine jq jrl ?_
  refine jq jrc ?_
  refine jq jrpF ?_
  refine seq_nil ?_
  refine jcc (fun h132 => ?_) fun h132 => ?_
  · refine jcr ?_
    refine jq jrm ?_
    refine seq_nil ?_
    refine code_ret (jtr (jrt (hv := CEnt.refl _)))
  refine code_skip (jtn ?_)
  have hbl : b.length ≤ 1000 := by omega
  have hal : qs.length ≤ 60 := by omega
  refine jcr ?_
  refine jq jrm ?_
  refine jqe (jecP (nb_ac b (by omega)) ?_)
  refine jq jrm ?_
  refine seq_nil ?_
  refine jcr ?_
  refine jq jrm ?_
  refine jqe (jecS (read08_ac b (by omega)) ?_ (ho := rfl) (he := (.cons (se rfl CEnt.mark) .nil)))
  rintro _ _ ⟨n3, rfl, rfl⟩
  refine jq jrm ?_
  refine jqe (jecS (rread08_ac b (by omega)) ?_)
  rintro _ _ ⟨n4, rfl, rfl⟩
  refine jq jrm ?_
  refine jq jrm ?_
  refine seq_nil ?_
  refine jcs ?_
  refine jcr ?_
  refine jq jrm ?_
  refine jq (rd_eqP rfl rfl rfl Tryz.underlying46) ?_
  refine seq_nil ?_
  refine jcc (fun h137 => ?_) fun h137 => ?_
  · exfalso; simp at h137
  refine code_skip (jtn ?_)
  refine jcs ?_
  refine jcr ?_
  refine jq jrm ?_
  refine jq jrl ?_
  refine jq jrm ?_
  refine seq_nil ?_
  refine code_block ?_
  refine code_ent (weaken 7 (.op 1 (some n4) 0) CEnt.opI) ?_
  refine l_loop (α := Nat × List (List UInt8) × Nat) [4, 9, 10, 11, 32, 33, 34, 35, 36, 37, 38, 39, 40, 41, 42, 43, 44, 45, 46, 47, 48, 49, 50, 51, 52, 53, 54, 55, 56, 57, 58, 59, 60, 61, 62, 63, 64, 65, 66, 67, 68, 69, 70, 71, 72, 73, 74, 75, 76, 77, 78, 79, 80, 81, 82, 83, 84, 85, 86, 87, 88, 89, 90, 91, 92, 93, 94, 95, 96, 97, 98, 99, 100] (fun p => [(32, .c (.int .i64 (p.1 : Nat)))]) (fun p => [rdO n3 p.2.1 p.2.2, rqE n4 p.2.1 p.2.2]) (fun p => p.1 ≤ qs.length ∧ InvR p.1 p.2.1 p.2.2) (fun p => qs.length - p.1) ((0, [b], (depthM b).2)) ?_ (fun _ => rfl) ?_ ?_ ?_
  · exact ⟨Nat.zero_le _, by simp, by simp, fun x hx => by rw [List.mem_singleton.1 hx]; exact hbl, Nat.le_trans (depthM_bd b).2 (by decide)⟩
  · exact .cons (CEnt.refl _) .nil
  · exact HEnt.refl _
  · rintro ⟨i, l, k⟩ ⟨(hi : i ≤ qs.length), (hI : InvR i l k)⟩
    show ACode _ _ _ ⟨[(32, .c (.int .i64 (i : Nat)))], _, [rdO n3 l k, rqE n4 l k]⟩ _
    have hil := hI.len
    have hl : 0 < l.length ∧ l.length ≤ 1000000 := ⟨hI.pos, by omega⟩
    have hnw := now_all hI.all
    have hk28 := hI.k
    have hek := endK_bd (l := l) hk28
    refine jcr ?_
    refine jq jrc ?_
    refine seq_nil ?_
    refine jcs ?_
    refine jcc (fun h140 => ?_) fun h140 => ?_
    rotate_left
    · refine code_exit (jte (jte (jbx (jtn ?_))))
      refine jcr ?_
      refine jq jrm ?_
      refine jqm (jmcH 0 (end08_ac n3 l k hl) ?_)
      rintro _ _ ⟨rfl, rfl⟩
      refine ⟨_, _, rfl, CEnt.refl _, ?_⟩
      refine jqe (jecP (num_ac (endK l k) hek) ?_)
      refine jq jrm ?_
      refine jqm (jmcH 1 (rend08_ac n4 l k hl) ?_)
      rintro _ _ ⟨rfl, rfl⟩
      refine ⟨_, _, rfl, CEnt.refl _, ?_⟩
      refine jq jrc ?_
      refine jq jrm ?_
      refine jqsp 107 (fun g149 => ?_) fun g149 => ?_
      · refine jq jrm ?_
        refine jq jrm ?_
        refine jqe (jecP (kept_ac b) ?_)
        refine jq jrpT ?_
        refine jq jrm ?_
        refine seq_nil ?_
        refine code_ret (jrt (hv := ?_))
        refine CEnt.bool ?_
        rfl
      refine jqs ?_
      refine jqs ?_
      refine jqs ?_
      refine jq jrpF ?_
      refine jq jrm ?_
      refine seq_nil ?_
      refine code_ret (jrt (hv := ?_))
      refine CEnt.bool ?_
      (simp at *; done)
    refine code_skip (jtn ?_)
    refine jcs ?_
    refine code_block ?_
    refine jcr ?_
    refine jq jri ?_
    refine jq (jrdrA 4) ?_
    refine jqe (jeal (n := 4) zr54 rfl fun p1 => ?_)
    refine jqm (jmstF 4 (askF (qs.getD i A0)) ?_ ?_)
    · exact (fun j hj => by rcases j with _ | _ | _ | _ | j <;> first | exact CEnt.refl _ | omega)
    refine seq_nil ?_
    refine jcs ?_
    refine code_ent (freeze 2 rfl) ?_
    refine code_ent (thawP 9 (m := 4) rfl rfl (by decide)) ?_
    refine code_join (α := Unit) [36, 37, 38, 39, 40, 41, 42, 43, 44, 45, 46, 47, 48, 49, 50, 51, 52, 53, 54, 55, 56, 57, 58, 59, 60, 61, 62, 63, 64, 65] (fun _ => [(65, .c (.bool false))]) (fun _ => [rdO n3 l k, rqE n4 l k, (p1, .frz 4 (askF (qs.getD i A0)))]) (fun _ => True) (fun _ => rfl) ?_ ?_
    · refine jcdZ (.rd 0 (.rd 2 (.one 1 (.one 3 (.rd 4 (.rd 5 (.rd 6 (.rd 8 (.one 7 (.one 9 (.rd 10 (.rd 11 (.rd 12 (.rd 13 (.rd 16 (.rd 17 (.rd 18 (.two 14 (.two 15 (.one 19 (.rd 20 (.rd 21 (.rd 22 (.rd 23 (.rd 26 (.one 24 (.one 25 (.one 27 (.rd 28 (.rd 29 .done))))))))))) 19 (.one 15 (.rd 20 (.rd 21 (.rd 22 (.rd 23 (.rd 26 (.one 24 (.one 25 (.one 27 (.rd 28 (.rd 29 .done)))))))))))) 19 (.one 14 (.one 15 (.rd 20 (.rd 21 (.rd 22 (.rd 23 (.rd 26 (.one 24 (.one 25 (.one 27 (.rd 28 (.rd 29 .done)))))))))))))))))))))))))))))) ?_
      refine jzq jrm ?_
      refine jzq jrm ?_
      refine jzm (jmcH 0 (more_ac n3 l k hl) ?_)
      rintro _ _ ⟨rfl, rfl⟩
      refine ⟨_, _, rfl, CEnt.refl _, ?_⟩
      refine jzm (jmcH 1 (rmore08_ac n4 l k hl) ?_)
      rintro _ _ ⟨rfl, rfl⟩
      refine ⟨_, _, rfl, CEnt.refl _, ?_⟩
      refine jzq jrcb ?_
      refine jzq jrm ?_
      refine jzsp 41 (fun g141 => ?_) fun g141 => ?_
      · refine jzs ?_
        refine jzs ?_
        refine jzs1 ?_
        refine jzs1 ?_
        refine jzs ?_
        refine jzq jrpT ?_
        refine jzq jrm ?_
        refine jzs ?_
        refine jzs ?_
        refine jzs ?_
        refine jzs ?_
        refine jztwo ?_ ?_
        · refine jzs1 ?_
          refine jztwo ?_ ?_
          · refine jzs1 ?_
            refine jzs1 ?_
            refine jzs ?_
            refine jzq jrpT ?_
            refine jzq jrm ?_
            refine jzs ?_
            refine jzs ?_
            refine jzs1 ?_
            refine jzs1 ?_
            refine jzs1 ?_
            refine jzs ?_
            refine jzq jrpT ?_
            refine jzd ?_
            refine jtn ?_
            refine jjend (()) ?_ (h5 := ?_) (h7 := ?_)
            · trivial
            · (exfalso; simp_all; done)
            · exact HEnt.refl _
          · refine jzs1 ?_
            refine jzs1 ?_
            refine jzs ?_
            refine jzq jrpT ?_
            refine jzq jrm ?_
            refine jzs ?_
            refine jzs ?_
            refine jzs1 ?_
            refine jzs1 ?_
            refine jzs1 ?_
            refine jzs ?_
            refine jzq jrpT ?_
            refine jzd ?_
            refine jtn ?_
            refine jjend (()) ?_ (h5 := ?_) (h7 := ?_)
            · trivial
            · (exfalso; simp_all; done)
            · exact HEnt.refl _
        · refine jzs1 ?_
          refine jzs1 ?_
          refine jzs1 ?_
          refine jzs ?_
          refine jzq jrpT ?_
          refine jzq jrm ?_
          refine jzs ?_
          refine jzs ?_
          refine jzs1 ?_
          refine jzs1 ?_
          refine jzs1 ?_
          refine jzs ?_
          refine jzq jrpT ?_
          refine jzd ?_
          refine jtn ?_
          refine jjend (()) ?_ (h5 := ?_) (h7 := ?_)
          · trivial
          · (exfalso; simp_all; done)
          · exact HEnt.refl _
      refine jzq jrm ?_
      refine jzq jrm ?_
      refine jzm (jmcH 0 (peek_ac n3 l k hl) ?_)
      rintro _ _ ⟨rfl, rfl⟩
      refine ⟨_, _, rfl, CEnt.refl _, ?_⟩
      refine jzm (jmcH 1 (rpeek08_ac n4 l k hl) ?_)
      rintro _ _ ⟨rfl, rfl⟩
      refine ⟨_, _, rfl, CEnt.refl _, ?_⟩
      refine jzq jrc ?_
      refine jzq jrpF ?_
      refine jzq jrm ?_
      refine jzsp 48 (fun g141_2 => ?_) fun g141_2 => ?_
      · refine jzs ?_
        refine jzs ?_
        refine jzs ?_
        refine jzs ?_
        refine jztwo ?_ ?_
        · refine jzs1 ?_
          refine jztwo ?_ ?_
          · refine jzs1 ?_
            refine jzs1 ?_
            refine jzs ?_
            refine jzq jrpT ?_
            refine jzq jrm ?_
            refine jzs ?_
            refine jzs ?_
            refine jzs1 ?_
            refine jzs1 ?_
            refine jzs1 ?_
            refine jzs ?_
            refine jzq jrpT ?_
            refine jzd ?_
            refine jtn ?_
            refine jjend (()) ?_ (h5 := ?_) (h7 := ?_)
            · trivial
            · (exfalso; simp_all; done)
            · exact HEnt.refl _
          · refine jzs1 ?_
            refine jzs1 ?_
            refine jzs ?_
            refine jzq jrpT ?_
            refine jzq jrm ?_
            refine jzs ?_
            refine jzs ?_
            refine jzs1 ?_
            refine jzs1 ?_
            refine jzs1 ?_
            refine jzs ?_
            refine jzq jrpT ?_
            refine jzd ?_
            refine jtn ?_
            refine jjend (()) ?_ (h5 := ?_) (h7 := ?_)
            · trivial
            · (exfalso; simp_all; done)
            · exact HEnt.refl _
        · refine jzs1 ?_
          refine jzs1 ?_
          refine jzs1 ?_
          refine jzs ?_
          refine jzq jrpT ?_
          refine jzq jrm ?_
          refine jzs ?_
          refine jzs ?_
          refine jzs1 ?_
          refine jzs1 ?_
          refine jzs1 ?_
          refine jzs ?_
          refine jzq jrpT ?_
          refine jzd ?_
          refine jtn ?_
          refine jjend (()) ?_ (h5 := ?_) (h7 := ?_)
          · trivial
          · (exfalso; simp_all; done)
          · exact HEnt.refl _
      refine jzq jrm ?_
      refine jzq jrm ?_
      refine jzq jrnc ?_
      refine jzq (jrfa 1 1 false) ?_
      refine jztwo ?_ ?_
      · refine jzm (jmcH 0 (err08_ac n3 l k) ?_)
        rintro _ _ ⟨rfl, rfl⟩
        refine ⟨_, _, rfl, CEnt.refl _, ?_⟩
        refine jztwo ?_ ?_
        · refine jze (jecP (num_ac k hk28) ?_)
          refine jz1o jrdo ?_
          refine jzq jrc ?_
          refine jzq jrpF ?_
          refine jzq jrm ?_
          refine jzsp 58 (fun g141_3 => ?_) fun g141_3 => ?_
          · refine jzs ?_
            refine jzs ?_
            refine jzs1 ?_
            refine jzs1 ?_
            refine jzs1 ?_
            refine jzs ?_
            refine jzq jrpT ?_
            refine jzd ?_
            refine jtn ?_
            refine jjend (()) ?_ (h5 := ?_) (h7 := ?_)
            · trivial
            · (exfalso; simp_all; done)
            · exact HEnt.refl _
          refine jzq jrm ?_
          refine jzq jrm ?_
          refine jzm (jmcH 0 (end08_ac n3 l k hl) ?_)
          rintro _ _ ⟨rfl, rfl⟩
          refine ⟨_, _, rfl, CEnt.refl _, ?_⟩
          refine jze (jecP (num_ac (endK l k) hek) ?_)
          refine jzm (jmcH 1 (rend08_ac n4 l k hl) ?_)
          rintro _ _ ⟨rfl, rfl⟩
          refine ⟨_, _, rfl, CEnt.refl _, ?_⟩
          refine jzq jrc ?_
          refine jzq jrpF ?_
          refine jzd ?_
          refine jtn ?_
          refine jjend (()) ?_ (h5 := ?_) (h7 := ?_)
          · trivial
          · exact .cons (CEnt.bool (by simp)) .nil
          · exact HEnt.refl _
        · refine jz1o jrdo ?_
          refine jze (jecP (num_ac k hk28) ?_)
          refine jzq jrc ?_
          refine jzq jrpF ?_
          refine jzq jrm ?_
          refine jzsp 58 (fun g141_3 => ?_) fun g141_3 => ?_
          · refine jzs ?_
            refine jzs ?_
            refine jzs1 ?_
            refine jzs1 ?_
            refine jzs1 ?_
            refine jzs ?_
            refine jzq jrpT ?_
            refine jzd ?_
            refine jtn ?_
            refine jjend (()) ?_ (h5 := ?_) (h7 := ?_)
            · trivial
            · (exfalso; simp_all; done)
            · exact HEnt.refl _
          refine jzq jrm ?_
          refine jzq jrm ?_
          refine jzm (jmcH 0 (end08_ac n3 l k hl) ?_)
          rintro _ _ ⟨rfl, rfl⟩
          refine ⟨_, _, rfl, CEnt.refl _, ?_⟩
          refine jze (jecP (num_ac (endK l k) hek) ?_)
          refine jzm (jmcH 1 (rend08_ac n4 l k hl) ?_)
          rintro _ _ ⟨rfl, rfl⟩
          refine ⟨_, _, rfl, CEnt.refl _, ?_⟩
          refine jzq jrc ?_
          refine jzq jrpF ?_
          refine jzd ?_
          refine jtn ?_
          refine jjend (()) ?_ (h5 := ?_) (h7 := ?_)
          · trivial
          · exact .cons (CEnt.bool (by simp)) .nil
          · exact HEnt.refl _
      · refine jz1o jrdo ?_
        refine jzm (jmcH 0 (err08_ac n3 l k) ?_)
        rintro _ _ ⟨rfl, rfl⟩
        refine ⟨_, _, rfl, CEnt.refl _, ?_⟩
        refine jze (jecP (num_ac k hk28) ?_)
        refine jzq jrc ?_
        refine jzq jrpF ?_
        refine jzq jrm ?_
        refine jzsp 58 (fun g141_3 => ?_) fun g141_3 => ?_
        · refine jzs ?_
          refine jzs ?_
          refine jzs1 ?_
          refine jzs1 ?_
          refine jzs1 ?_
          refine jzs ?_
          refine jzq jrpT ?_
          refine jzd ?_
          refine jtn ?_
          refine jjend (()) ?_ (h5 := ?_) (h7 := ?_)
          · trivial
          · (exfalso; simp_all; done)
          · exact HEnt.refl _
        refine jzq jrm ?_
        refine jzq jrm ?_
        refine jzm (jmcH 0 (end08_ac n3 l k hl) ?_)
        rintro _ _ ⟨rfl, rfl⟩
        refine ⟨_, _, rfl, CEnt.refl _, ?_⟩
        refine jze (jecP (num_ac (endK l k) hek) ?_)
        refine jzm (jmcH 1 (rend08_ac n4 l k hl) ?_)
        rintro _ _ ⟨rfl, rfl⟩
        refine ⟨_, _, rfl, CEnt.refl _, ?_⟩
        refine jzq jrc ?_
        refine jzq jrpF ?_
        refine jzd ?_
        refine jtn ?_
        refine jjend (()) ?_ (h5 := ?_) (h7 := ?_)
        · trivial
        · exact .cons (CEnt.bool (by simp)) .nil
        · exact HEnt.refl _
    · rintro u _
      refine jcc (fun h140_2 => ?_) fun h140_2 => ?_
      · refine jcr ?_
        refine jq jrm ?_
        refine seq_nil ?_
        refine code_ret (jtr (jbr (jtr (jtr (jbr (jtr (jrt (hv := ?_))))))))
        exfalso
        (simp_all; done)
      refine code_skip (jtn ?_)
      refine code_join (α := Bool × Option Nat × Option Nat) [10, 11, 66, 67, 68, 69, 70, 71] (fun (o, g1, g2) => [(10, .op (bif o then 3 else 4) (bif o then g1 else g2) 0), (11, .op (bif o then 4 else 3) (bif o then g2 else g1) 0)]) (fun (o, g1, g2) => [rdO n3 (readR (qs.getD i A0) l k).l (readR (qs.getD i A0) l k).k, rqE n4 (readR (qs.getD i A0) l k).l (readR (qs.getD i A0) l k).k, (p1, .frz 4 (askF (qs.getD i A0))), (g1, .blk 5 (valF (readR (qs.getD i A0) l k).v)), (g2, .blk 5 (valF (readR (qs.getD i A0) l k).v))]) (fun _ => True) (fun _ => rfl) ?_ ?_
      · refine jcdZ (.rd 0 (.rd 1 (.rd 3 (.rd 4 (.three 2 (.three 5 (.two 6 (.one 7 (.one 8 (.one 9 .done))) 7 (.one 6 (.one 8 (.one 9 .done)))) 6 (.two 5 (.one 7 (.one 8 (.one 9 .done))) 7 (.one 5 (.one 8 (.one 9 .done)))) 7 (.two 5 (.one 6 (.one 8 (.one 9 .done))) 6 (.one 5 (.one 8 (.one 9 .done))))) 6 (.two 2 (.two 5 (.one 7 (.one 8 (.one 9 .done))) 7 (.one 5 (.one 8 (.one 9 .done)))) 7 (.one 2 (.one 5 (.one 8 (.one 9 .done))))) 7 (.two 2 (.two 5 (.one 6 (.one 8 (.one 9 .done))) 6 (.one 5 (.one 8 (.one 9 .done)))) 6 (.one 2 (.one 5 (.one 8 (.one 9 .done)))))))))) ?_
        refine jzq jrm ?_
        refine jzq (jrdrA 4) ?_
        refine jzq jrm ?_
        refine jzq (jrdrA 4) ?_
        refine jzthree ?_ ?_ ?_
        · refine jzm (jmcH 0 (get08_ac n3 l k (qs.getD i A0) hl (by omega)) ?_)
          rintro _ _ ⟨rfl, rfl⟩
          refine ⟨_, _, rfl, CEnt.refl _, ?_⟩
          refine jzthree ?_ ?_ ?_
          · refine jzm (jmcH 1 (rdo08_ac n4 l k (qs.getD i A0) hl hnw (fun _ _ _ b hb => rsaid08_ac _ b hb fun _ b hb => rget05_ac b hb)) ?_)
            rintro _ _ ⟨rfl, rfl⟩
            refine ⟨_, _, rfl, CEnt.refl _, ?_⟩
            refine jztwo ?_ ?_
            · refine jze (jeal (n := 5) zr43 rfl fun p4 => ?_)
              refine jze (jeal (n := 5) zr43 rfl fun p5 => ?_)
              refine jzm (jmstF 5 (valF (readR (qs.getD i A0) l k).v) ?_ ?_)
              · exact (fun j hj => by rcases j with _ | _ | _ | _ | _ | j <;> first | exact CEnt.refl _ | omega)
              refine jzm (jmstF 5 (valF (readR (qs.getD i A0) l k).v) ?_ ?_)
              · exact (fun j hj => by rcases j with _ | _ | _ | _ | _ | j <;> first | exact CEnt.refl _ | omega)
              refine jzd ?_
              refine jtn ?_
              refine jjend ((true, p4, p5)) ?_ (h5 := ?_) (h7 := ?_)
              · trivial
              · exact .cons (CEnt.refl _) (.cons (CEnt.refl _) .nil)
              · exact HEnt.refl _
            · refine jze (jeal (n := 5) zr43 rfl fun p4 => ?_)
              refine jze (jeal (n := 5) zr43 rfl fun p5 => ?_)
              refine jzm (jmstF 5 (valF (readR (qs.getD i A0) l k).v) ?_ ?_)
              · exact (fun j hj => by rcases j with _ | _ | _ | _ | _ | j <;> first | exact CEnt.refl _ | omega)
              refine jzm (jmstF 5 (valF (readR (qs.getD i A0) l k).v) ?_ ?_)
              · exact (fun j hj => by rcases j with _ | _ | _ | _ | _ | j <;> first | exact CEnt.refl _ | omega)
              refine jzd ?_
              refine jtn ?_
              refine jjend ((false, p4, p5)) ?_ (h5 := ?_) (h7 := ?_)
              · trivial
              · exact .cons (CEnt.refl _) (.cons (CEnt.refl _) .nil)
              · exact HEnt.refl _
          · refine jze (jeal (n := 5) zr43 rfl fun p3 => ?_)
            refine jztwo ?_ ?_
            · refine jzm (jmcH 1 (rdo08_ac n4 l k (qs.getD i A0) hl hnw (fun _ _ _ b hb => rsaid08_ac _ b hb fun _ b hb => rget05_ac b hb)) ?_)
              rintro _ _ ⟨rfl, rfl⟩
              refine ⟨_, _, rfl, CEnt.refl _, ?_⟩
              refine jze (jeal (n := 5) zr43 rfl fun p5 => ?_)
              refine jzm (jmstF 5 (valF (readR (qs.getD i A0) l k).v) ?_ ?_)
              · exact (fun j hj => by rcases j with _ | _ | _ | _ | _ | j <;> first | exact CEnt.refl _ | omega)
              refine jzm (jmstF 5 (valF (readR (qs.getD i A0) l k).v) ?_ ?_)
              · exact (fun j hj => by rcases j with _ | _ | _ | _ | _ | j <;> first | exact CEnt.refl _ | omega)
              refine jzd ?_
              refine jtn ?_
              refine jjend ((true, p3, p5)) ?_ (h5 := ?_) (h7 := ?_)
              · trivial
              · exact .cons (CEnt.refl _) (.cons (CEnt.refl _) .nil)
              · exact HEnt.refl _
            · refine jze (jeal (n := 5) zr43 rfl fun p4 => ?_)
              refine jzm (jmcH 1 (rdo08_ac n4 l k (qs.getD i A0) hl hnw (fun _ _ _ b hb => rsaid08_ac _ b hb fun _ b hb => rget05_ac b hb)) ?_)
              rintro _ _ ⟨rfl, rfl⟩
              refine ⟨_, _, rfl, CEnt.refl _, ?_⟩
              refine jzm (jmstF 5 (valF (readR (qs.getD i A0) l k).v) ?_ ?_)
              · exact (fun j hj => by rcases j with _ | _ | _ | _ | _ | j <;> first | exact CEnt.refl _ | omega)
              refine jzm (jmstF 5 (valF (readR (qs.getD i A0) l k).v) ?_ ?_)
              · exact (fun j hj => by rcases j with _ | _ | _ | _ | _ | j <;> first | exact CEnt.refl _ | omega)
              refine jzd ?_
              refine jtn ?_
              refine jjend ((true, p3, p4)) ?_ (h5 := ?_) (h7 := ?_)
              · trivial
              · exact .cons (CEnt.refl _) (.cons (CEnt.refl _) .nil)
              · exact HEnt.refl _
          · refine jze (jeal (n := 5) zr43 rfl fun p3 => ?_)
            refine jztwo ?_ ?_
            · refine jzm (jmcH 1 (rdo08_ac n4 l k (qs.getD i A0) hl hnw (fun _ _ _ b hb => rsaid08_ac _ b hb fun _ b hb => rget05_ac b hb)) ?_)
              rintro _ _ ⟨rfl, rfl⟩
              refine ⟨_, _, rfl, CEnt.refl _, ?_⟩
              refine jze (jeal (n := 5) zr43 rfl fun p5 => ?_)
              refine jzm (jmstF 5 (valF (readR (qs.getD i A0) l k).v) ?_ ?_)
              · exact (fun j hj => by rcases j with _ | _ | _ | _ | _ | j <;> first | exact CEnt.refl _ | omega)
              refine jzm (jmstF 5 (valF (readR (qs.getD i A0) l k).v) ?_ ?_)
              · exact (fun j hj => by rcases j with _ | _ | _ | _ | _ | j <;> first | exact CEnt.refl _ | omega)
              refine jzd ?_
              refine jtn ?_
              refine jjend ((false, p3, p5)) ?_ (h5 := ?_) (h7 := ?_)
              · trivial
              · exact .cons (CEnt.refl _) (.cons (CEnt.refl _) .nil)
              · exact HEnt.refl _
            · refine jze (jeal (n := 5) zr43 rfl fun p4 => ?_)
              refine jzm (jmcH 1 (rdo08_ac n4 l k (qs.getD i A0) hl hnw (fun _ _ _ b hb => rsaid08_ac _ b hb fun _ b hb => rget05_ac b hb)) ?_)
              rintro _ _ ⟨rfl, rfl⟩
              refine ⟨_, _, rfl, CEnt.refl _, ?_⟩
              refine jzm (jmstF 5 (valF (readR (qs.getD i A0) l k).v) ?_ ?_)
              · exact (fun j hj => by rcases j with _ | _ | _ | _ | _ | j <;> first | exact CEnt.refl _ | omega)
              refine jzm (jmstF 5 (valF (readR (qs.getD i A0) l k).v) ?_ ?_)
              · exact (fun j hj => by rcases j with _ | _ | _ | _ | _ | j <;> first | exact CEnt.refl _ | omega)
              refine jzd ?_
              refine jtn ?_
              refine jjend ((false, p3, p4)) ?_ (h5 := ?_) (h7 := ?_)
              · trivial
              · exact .cons (CEnt.refl _) (.cons (CEnt.refl _) .nil)
              · exact HEnt.refl _
        · refine jze (jeal (n := 5) zr43 rfl fun p2 => ?_)
          refine jztwo ?_ ?_
          · refine jzm (jmcH 0 (get08_ac n3 l k (qs.getD i A0) hl (by omega)) ?_)
            rintro _ _ ⟨rfl, rfl⟩
            refine ⟨_, _, rfl, CEnt.refl _, ?_⟩
            refine jztwo ?_ ?_
            · refine jzm (jmcH 1 (rdo08_ac n4 l k (qs.getD i A0) hl hnw (fun _ _ _ b hb => rsaid08_ac _ b hb fun _ b hb => rget05_ac b hb)) ?_)
              rintro _ _ ⟨rfl, rfl⟩
              refine ⟨_, _, rfl, CEnt.refl _, ?_⟩
              refine jze (jeal (n := 5) zr43 rfl fun p5 => ?_)
              refine jzm (jmstF 5 (valF (readR (qs.getD i A0) l k).v) ?_ ?_)
              · exact (fun j hj => by rcases j with _ | _ | _ | _ | _ | j <;> first | exact CEnt.refl _ | omega)
              refine jzm (jmstF 5 (valF (readR (qs.getD i A0) l k).v) ?_ ?_)
              · exact (fun j hj => by rcases j with _ | _ | _ | _ | _ | j <;> first | exact CEnt.refl _ | omega)
              refine jzd ?_
              refine jtn ?_
              refine jjend ((true, p2, p5)) ?_ (h5 := ?_) (h7 := ?_)
              · trivial
              · exact .cons (CEnt.refl _) (.cons (CEnt.refl _) .nil)
              · exact HEnt.refl _
            · refine jze (jeal (n := 5) zr43 rfl fun p4 => ?_)
              refine jzm (jmcH 1 (rdo08_ac n4 l k (qs.getD i A0) hl hnw (fun _ _ _ b hb => rsaid08_ac _ b hb fun _ b hb => rget05_ac b hb)) ?_)
              rintro _ _ ⟨rfl, rfl⟩
              refine ⟨_, _, rfl, CEnt.refl _, ?_⟩
              refine jzm (jmstF 5 (valF (readR (qs.getD i A0) l k).v) ?_ ?_)
              · exact (fun j hj => by rcases j with _ | _ | _ | _ | _ | j <;> first | exact CEnt.refl _ | omega)
              refine jzm (jmstF 5 (valF (readR (qs.getD i A0) l k).v) ?_ ?_)
              · exact (fun j hj => by rcases j with _ | _ | _ | _ | _ | j <;> first | exact CEnt.refl _ | omega)
              refine jzd ?_
              refine jtn ?_
              refine jjend ((true, p2, p4)) ?_ (h5 := ?_) (h7 := ?_)
              · trivial
              · exact .cons (CEnt.refl _) (.cons (CEnt.refl _) .nil)
              · exact HEnt.refl _
          · refine jze (jeal (n := 5) zr43 rfl fun p3 => ?_)
            refine jzm (jmcH 0 (get08_ac n3 l k (qs.getD i A0) hl (by omega)) ?_)
            rintro _ _ ⟨rfl, rfl⟩
            refine ⟨_, _, rfl, CEnt.refl _, ?_⟩
            refine jzm (jmcH 1 (rdo08_ac n4 l k (qs.getD i A0) hl hnw (fun _ _ _ b hb => rsaid08_ac _ b hb fun _ b hb => rget05_ac b hb)) ?_)
            rintro _ _ ⟨rfl, rfl⟩
            refine ⟨_, _, rfl, CEnt.refl _, ?_⟩
            refine jzm (jmstF 5 (valF (readR (qs.getD i A0) l k).v) ?_ ?_)
            · exact (fun j hj => by rcases j with _ | _ | _ | _ | _ | j <;> first | exact CEnt.refl _ | omega)
            refine jzm (jmstF 5 (valF (readR (qs.getD i A0) l k).v) ?_ ?_)
            · exact (fun j hj => by rcases j with _ | _ | _ | _ | _ | j <;> first | exact CEnt.refl _ | omega)
            refine jzd ?_
            refine jtn ?_
            refine jjend ((true, p2, p3)) ?_ (h5 := ?_) (h7 := ?_)
            · trivial
            · exact .cons (CEnt.refl _) (.cons (CEnt.refl _) .nil)
            · exact HEnt.refl _
        · refine jze (jeal (n := 5) zr43 rfl fun p2 => ?_)
          refine jztwo ?_ ?_
          · refine jzm (jmcH 0 (get08_ac n3 l k (qs.getD i A0) hl (by omega)) ?_)
            rintro _ _ ⟨rfl, rfl⟩
            refine ⟨_, _, rfl, CEnt.refl _, ?_⟩
            refine jztwo ?_ ?_
            · refine jzm (jmcH 1 (rdo08_ac n4 l k (qs.getD i A0) hl hnw (fun _ _ _ b hb => rsaid08_ac _ b hb fun _ b hb => rget05_ac b hb)) ?_)
              rintro _ _ ⟨rfl, rfl⟩
              refine ⟨_, _, rfl, CEnt.refl _, ?_⟩
              refine jze (jeal (n := 5) zr43 rfl fun p5 => ?_)
              refine jzm (jmstF 5 (valF (readR (qs.getD i A0) l k).v) ?_ ?_)
              · exact (fun j hj => by rcases j with _ | _ | _ | _ | _ | j <;> first | exact CEnt.refl _ | omega)
              refine jzm (jmstF 5 (valF (readR (qs.getD i A0) l k).v) ?_ ?_)
              · exact (fun j hj => by rcases j with _ | _ | _ | _ | _ | j <;> first | exact CEnt.refl _ | omega)
              refine jzd ?_
              refine jtn ?_
              refine jjend ((false, p2, p5)) ?_ (h5 := ?_) (h7 := ?_)
              · trivial
              · exact .cons (CEnt.refl _) (.cons (CEnt.refl _) .nil)
              · exact HEnt.refl _
            · refine jze (jeal (n := 5) zr43 rfl fun p4 => ?_)
              refine jzm (jmcH 1 (rdo08_ac n4 l k (qs.getD i A0) hl hnw (fun _ _ _ b hb => rsaid08_ac _ b hb fun _ b hb => rget05_ac b hb)) ?_)
              rintro _ _ ⟨rfl, rfl⟩
              refine ⟨_, _, rfl, CEnt.refl _, ?_⟩
              refine jzm (jmstF 5 (valF (readR (qs.getD i A0) l k).v) ?_ ?_)
              · exact (fun j hj => by rcases j with _ | _ | _ | _ | _ | j <;> first | exact CEnt.refl _ | omega)
              refine jzm (jmstF 5 (valF (readR (qs.getD i A0) l k).v) ?_ ?_)
              · exact (fun j hj => by rcases j with _ | _ | _ | _ | _ | j <;> first | exact CEnt.refl _ | omega)
              refine jzd ?_
              refine jtn ?_
              refine jjend ((false, p2, p4)) ?_ (h5 := ?_) (h7 := ?_)
              · trivial
              · exact .cons (CEnt.refl _) (.cons (CEnt.refl _) .nil)
              · exact HEnt.refl _
          · refine jze (jeal (n := 5) zr43 rfl fun p3 => ?_)
            refine jzm (jmcH 0 (get08_ac n3 l k (qs.getD i A0) hl (by omega)) ?_)
            rintro _ _ ⟨rfl, rfl⟩
            refine ⟨_, _, rfl, CEnt.refl _, ?_⟩
            refine jzm (jmcH 1 (rdo08_ac n4 l k (qs.getD i A0) hl hnw (fun _ _ _ b hb => rsaid08_ac _ b hb fun _ b hb => rget05_ac b hb)) ?_)
            rintro _ _ ⟨rfl, rfl⟩
            refine ⟨_, _, rfl, CEnt.refl _, ?_⟩
            refine jzm (jmstF 5 (valF (readR (qs.getD i A0) l k).v) ?_ ?_)
            · exact (fun j hj => by rcases j with _ | _ | _ | _ | _ | j <;> first | exact CEnt.refl _ | omega)
            refine jzm (jmstF 5 (valF (readR (qs.getD i A0) l k).v) ?_ ?_)
            · exact (fun j hj => by rcases j with _ | _ | _ | _ | _ | j <;> first | exact CEnt.refl _ | omega)
            refine jzd ?_
            refine jtn ?_
            refine jjend ((false, p2, p3)) ?_ (h5 := ?_) (h7 := ?_)
            · trivial
            · exact .cons (CEnt.refl _) (.cons (CEnt.refl _) .nil)
            · exact HEnt.refl _
      · rintro ⟨o, g1, g2⟩ _
        refine code_ent (freeze 3 rfl) ?_
        refine code_ent (freeze 4 rfl) ?_
        refine code_ent (thawP 10 (m := 5) (i := bif o then 3 else 4) (g := bif o then g1 else g2) (N := 5) (F := valF (readR (qs.getD i A0) l k).v) rfl (by cases o <;> rfl) (by decide)) ?_
        refine code_ent (thawP 11 (m := 5) (i := bif o then 4 else 3) (g := bif o then g2 else g1) (N := 5) (F := valF (readR (qs.getD i A0) l k).v) rfl (by cases o <;> rfl) (by decide)) ?_
        refine jcr ?_
        refine jq (jrfa 1 1 false) ?_
        refine jq jrdr ?_
        refine jq (jrfa 1 1 false) ?_
        refine jq jrdr ?_
        refine jq jrc ?_
        refine jq jrm ?_
        refine jqsp 77 (fun g145 => ?_) fun g145 => ?_
        · refine jqs ?_
          refine jqs ?_
          refine jqs ?_
          refine jqs ?_
          refine jqs ?_
          refine jq jrpT ?_
          refine jq jrm ?_
          refine jqs ?_
          refine jqs ?_
          refine jqs ?_
          refine jqs ?_
          refine jqs ?_
          refine jq jrpT ?_
          refine jq jrm ?_
          refine jqs ?_
          refine jqs ?_
          refine jqs ?_
          refine jqs ?_
          refine jqs ?_
          refine jqs ?_
          refine jqs ?_
          refine jq jrpT ?_
          refine seq_nil ?_
          refine jcT ?_
          refine jcr ?_
          refine jq jrm ?_
          refine seq_nil ?_
          refine code_ret (jbr (jtr (jtr (jbr (jtr (jrt (hv := ?_)))))))
          exfalso
          (simp_all; done)
        refine jq (jrfa 2 1 false) ?_
        refine jq jrdr ?_
        refine jq (jrfa 2 1 false) ?_
        refine jq jrdr ?_
        refine jq jrcb ?_
        refine jq jrpF ?_
        refine jq jrm ?_
        refine jqsp 84 (fun g145_2 => ?_) fun g145_2 => ?_
        · refine jqs ?_
          refine jqs ?_
          refine jqs ?_
          refine jqs ?_
          refine jqs ?_
          refine jq jrpT ?_
          refine jq jrm ?_
          refine jqs ?_
          refine jqs ?_
          refine jqs ?_
          refine jqs ?_
          refine jqs ?_
          refine jqs ?_
          refine jqs ?_
          refine jq jrpT ?_
          refine seq_nil ?_
          refine jcT ?_
          refine jcr ?_
          refine jq jrm ?_
          refine seq_nil ?_
          refine code_ret (jbr (jtr (jtr (jbr (jtr (jrt (hv := ?_)))))))
          exfalso
          (simp_all; done)
        refine jq (jrfa 4 1 false) ?_
        refine jq jrdr ?_
        refine jq (jrfa 4 1 false) ?_
        refine jq jrdr ?_
        refine jq jrcs ?_
        refine jq jrpF ?_
        refine jq jrm ?_
        refine jqsp 91 (fun g145_3 => ?_) fun g145_3 => ?_
        · refine jqs ?_
          refine jqs ?_
          refine jqs ?_
          refine jqs ?_
          refine jqs ?_
          refine jqs ?_
          refine jqs ?_
          refine jq jrpT ?_
          refine seq_nil ?_
          refine jcT ?_
          refine jcr ?_
          refine jq jrm ?_
          refine seq_nil ?_
          refine code_ret (jbr (jtr (jtr (jbr (jtr (jrt (hv := ?_)))))))
          exfalso
          (simp_all; done)
        refine jq (jrfa 3 1 false) ?_
        refine jq jrdr ?_
        refine jq jrbs ?_
        refine jq (jrfa 3 1 false) ?_
        refine jq jrdr ?_
        refine jq jrbs ?_
        refine jq jrcs ?_
        refine jq jrpF ?_
        refine seq_nil ?_
        refine jcc (fun h145 => ?_) fun h145 => ?_
        · refine jcr ?_
          refine jq jrm ?_
          refine seq_nil ?_
          refine code_ret (jbr (jtr (jtr (jbr (jtr (jrt (hv := ?_)))))))
          exfalso
          (simp_all; done)
        refine code_skip (jbn (jtn ?_))
        refine jcg ?_
        refine jq jra ?_
        refine jq jrm ?_
        refine seq_nil ?_
        refine jtn ?_
        refine jlend ((i + 1, (readR (qs.getD i A0) l k).l, (readR (qs.getD i A0) l k).k)) ?_ ?_ (h5 := ?_) (h7 := ?_)
        · exact ⟨show i + 1 ≤ qs.length by omega, inv_read hI _⟩
        · show qs.length - (i + 1) < qs.length - i; omega
        · exact .cons (CEnt.int (by omega)) .nil
        · exact HEnt.refl _
end Am
end Go.Proofs.YtgnjjenalebiaaaGreatDoor

/- Arguments that come in, by their types: from 'trod' to plain words. -/
namespace Go.Proofs.YtgnjjenalebiaaaGreatDoor
set_option linter.unusedVariables false
open Go.RowKit Go.ChangeShapes
namespace Am
/-- values of type t lie in k cells and read as E x for an x with φ -/
def Opens (P : Program) (t : TypeId) (k : Nat) (D : Type) (φ : D → Prop) (E : D → Nat → CV) : Prop :=
  ∀ (H : Type) (enc : TypeId × Value → H) (W : World) (fuel : Nat) (cs : List Value) (y : DataW H × List MemPlace), DataW.trod enc P W 0 (fun _ => true) true fuel t cs = some y →
    cs.length = k ∧ ∃ x : D, φ x ∧ ∀ al j, j < k → RepC al (fun b => b < W.heap.size) W (E x j) (cs.getD j undef)
section
variable {P : Program} {t : TypeId}
theorem one_cell {al : List Addr} {W : World} {St : Nat → Prop} {c : Nat → CV} {v : Value} (h : RepC al St W (c 0) v) : ∀ j, j < 1 → RepC al St W (c j) ([v].getD j undef) := fun j hj => by
  obtain rfl : j = 0 := by omega
  exact h
theorem opens_i64 (hu : P.underlying t = some (.int .i64)) : Opens P t 1 Int (fun z => -9223372036854775808 ≤ z ∧ z ≤ 9223372036854775807) (fun z _ => .c (.int .i64 z)) := fun H enc W fuel cs y h => by
  obtain ⟨n, rfl, _, hw⟩ := DataW.trod_int hu h
  exact ⟨rfl, n, bounds_i64 hw, fun al => one_cell rfl⟩
theorem opens_slice {e : TypeId} {k : Nat} {D : Type} {φ : D → Prop} {E : D → Nat → CV} (d0 : D) (ho : Opens P e k D φ E) (hu : P.underlying t = some (.slice e)) (hk : P.cellsOf e = k) (hk0 : 0 < k) :
    Opens P t 1 (List D) (fun l => l.length ≤ maxLen ∧ ∀ x ∈ l, φ x) (fun l _ => .rs k l.length fun i j => E (l.getD i d0) j) := fun H enc W fuel cs y h => by
  rcases DataW.trod_slice hu h with ⟨rfl, _⟩ | ⟨a, len, cap, elems, rest, n, _, rfl, _, _, hle, hm, hl, hel, _⟩
  · exact ⟨rfl, [], ⟨by simp, by simp⟩, fun al => one_cell ⟨none, 0, rfl, Nat.le_refl _, by decide, fun _ => rfl, fun _ h => by cases h⟩⟩
  · refine ⟨rfl, ?_⟩
    subst hk
    have key : ∀ i, ∃ x : D, i < len → φ x ∧ ∀ al j, j < P.cellsOf e → ∃ v, W.cell? (a.add (i * P.cellsOf e + j)) = some v ∧ RepC al (fun b => b < W.heap.size) W (E x j) v := fun i => by
      by_cases hi : i < len
      · have h1 := hel i hi
        rw [List.getElem?_eq_getElem (by omega)] at h1
        obtain ⟨cs, h2, h3⟩ := Option.bind_eq_some_iff.1 h1
        obtain ⟨_, h4, h5⟩ := World.cells?_some h2
        obtain ⟨_, x, hx, hr⟩ := ho H enc W n cs _ h3
        refine ⟨x, fun _ => ⟨hx, fun al j hj => ⟨cs.getD j undef, ?_, hr al j hj⟩⟩⟩
        have := h5 j hj
        rw [Addr.add_add] at this
        rw [this]
        simp [h4, hj]
      · exact ⟨d0, fun h => absurd h hi⟩
    obtain ⟨F, hF⟩ : ∃ F : Nat → D, ∀ i, i < len → φ (F i) ∧ ∀ al j, j < P.cellsOf e → ∃ v, W.cell? (a.add (i * P.cellsOf e + j)) = some v ∧ RepC al (fun b => b < W.heap.size) W (E (F i) j) v :=
      ⟨fun i => (key i).choose, fun i hi => (key i).choose_spec hi⟩
    have hm' : cap ≤ 9223372036854775807 := by unfold maxLen at hm; omega
    refine ⟨(List.range len).map F, ⟨by simp; omega, by simp only [List.mem_map, List.mem_range]; rintro x ⟨i, hi, rfl⟩; exact (hF i hi).1⟩, fun al => one_cell ?_⟩
    refine ⟨some a, cap, by simp, by simpa using hle, hm', by simp, fun b hb hn => ?_⟩
    cases hb
    simp at hn
    obtain ⟨v0, hv0, _⟩ := (hF 0 hn).2 al 0 hk0
    have hsp : a.spot = none := by
      have := World.cell?_spot hv0
      obtain ⟨b, o, sp⟩ := a
      simpa [Addr.add] using this
    refine ⟨hsp, ?_, fun i j hi hj => ?_⟩
    · have := World.block_lt_of_cell? W _ hv0
      obtain ⟨b, o, sp⟩ := a
      simpa [Addr.add] using this
    · simp at hi
      obtain ⟨v, hv, hr⟩ := (hF i hi).2 al j hj
      refine ⟨v, ?_, by simpa [List.getD, hi] using hr⟩
      obtain ⟨b, o, sp⟩ := a
      simp only at hsp
      subst hsp
      rwa [Addr.add_lit] at hv
/-- fields, one behind the other -/
def OpensF (P : Program) (fs : List Field) (D : Type) (φ : D → Prop) (E : D → Nat → CV) (C : Nat → Bool) : Prop :=
  ∀ (H : Type) (enc : TypeId × Value → H) (W : World) (cs : List Value), (∀ f ∈ fs, ∃ n y, DataW.trod enc P W 0 (fun _ => true) true n f.type ((cs.drop f.offset).take (P.cellsOf f.type)) = some y) →
    ∃ x : D, φ x ∧ ∀ al j, C j = true → RepC al (fun b => b < W.heap.size) W (E x j) (cs.getD j undef)
theorem opensF_nil : OpensF P [] Unit (fun _ => True) (fun _ _ => .top) (fun _ => false) := fun H enc W cs _ => ⟨(), trivial, fun al j h => by cases h⟩
theorem opensF_cons {f : Field} {fs : List Field} {k : Nat} {D1 D2 : Type} {φ1 : D1 → Prop} {φ2 : D2 → Prop} {E1 : D1 → Nat → CV} {E2 : D2 → Nat → CV} {C2 : Nat → Bool} (h1 : Opens P f.type k D1 φ1 E1) (h2 : OpensF P fs D2 φ2 E2 C2) :
    OpensF P (f :: fs) (D1 × D2) (fun x => φ1 x.1 ∧ φ2 x.2) (fun x j => match Nat.ble f.offset j && Nat.blt j (f.offset + k) with | true => E1 x.1 (j - f.offset) | false => E2 x.2 j) (fun j => (Nat.ble f.offset j && Nat.blt j (f.offset + k)) || C2 j) := fun H enc W cs h => by
  obtain ⟨n, y, hy⟩ := h f (List.mem_cons_self ..)
  obtain ⟨hl, x1, p1, r1⟩ := h1 H enc W n _ y hy
  obtain ⟨x2, p2, r2⟩ := h2 H enc W cs fun g hg => h g (List.mem_cons_of_mem _ hg)
  refine ⟨(x1, x2), ⟨p1, p2⟩, fun al j hj => ?_⟩
  cases hb : Nat.ble f.offset j && Nat.blt j (f.offset + k) with
  | true =>
    have hb0 := hb
    simp only [Bool.and_eq_true] at hb
    have b1 : f.offset ≤ j := Nat.le_of_ble_eq_true hb.1
    have b2 : j < f.offset + k := Nat.le_of_ble_eq_true hb.2
    have := r1 al (j - f.offset) (by omega)
    simp only [List.length_take, List.length_drop] at hl
    rw [List.getD_eq_getElem?_getD, List.getElem?_take, if_pos (by omega), List.getElem?_drop, show f.offset + (j - f.offset) = j by omega, ← List.getD_eq_getElem?_getD] at this
    simp only [hb0]
    exact this
  | false =>
    simp only [hb, Bool.false_or] at hj
    simp only [hb]
    exact r2 al j hj
theorem opens_struct {fs : Array Field} {n : Nat} {D : Type} {φ : D → Prop} {E : D → Nat → CV} {C : Nat → Bool} (hu : P.underlying t = some (.struct fs)) (hn : P.cellsOf t = n) (ho : OpensF P fs.toList D φ E C) (hC : (List.range n).all C = true) : Opens P t n D φ E := fun H enc W fuel cs y h => by
  obtain ⟨xs, m, _, _, hl, hlen, hf⟩ := DataW.trod_struct hu h
  obtain ⟨x, hx, hr⟩ := ho H enc W cs fun f hf' => by
    obtain ⟨i, hi⟩ := List.mem_iff_getElem?.1 hf'
    rw [Array.getElem?_toList] at hi
    have := hf i f hi
    have hlt : i < xs.length := by rw [hlen]; exact (Array.getElem?_eq_some_iff.1 hi).1
    rw [List.getElem?_eq_getElem hlt] at this
    exact ⟨m, _, this⟩
  exact ⟨hl.trans hn, x, hx, fun al j hj => hr al j (List.all_eq_true.1 hC j (List.mem_range.2 hj))⟩
theorem arg_one {D : Type} {φ : D → Prop} {E : D → Nat → CV} (ho : Opens P t 1 D φ E) {H : Type} {enc : TypeId × Value → H} {W : World} {v : Value} {d : DataW H} {p : List MemPlace} (hv : v.cells = #[v]) (h : DataW.Trod enc P W 0 (fun _ => true) true t v d p) :
    ∃ x : D, φ x ∧ ∀ al, RepC al (fun b => b < W.heap.size) W (E x 0) v := by
  obtain ⟨fuel, hf⟩ := h
  obtain ⟨_, x, hx, hr⟩ := ho H enc W fuel _ _ hf
  refine ⟨x, hx, fun al => ?_⟩
  have := hr al 0 (by decide)
  rw [hv] at this
  exact this
end
end Am
end Go.Proofs.YtgnjjenalebiaaaGreatDoor

/- Arguments that come in: texts as lists; lists in other words. -/
namespace Go.Proofs.YtgnjjenalebiaaaGreatDoor
set_option linter.unusedVariables false
open Go.RowKit Go.ChangeShapes
namespace Am
theorem map_getD {α β : Type} (f : α → β) (l : List α) {i : Nat} (d0 : α) (d1 : β) (h : i < l.length) : (l.map f).getD i d1 = f (l.getD i d0) := by simp [List.getD, h]
end Am
end Go.Proofs.YtgnjjenalebiaaaGreatDoor
