/- What the law leans on, part 9: W07l, W07q, W08m, W08n, W08v, W08w, W08x, P08b, W08a, W08b, W08c, W08d, W08e, W08f, SsJ -/
import Derived.Test.YthlpfjnkieaeeaaGreatDoorM8CertBody

set_option maxRecDepth 100000
namespace Go.Proofs.YthlpfjnkieaeeaaGreatDoor
set_option linter.unusedVariables false
namespace Am
open Go.RowKit
section
theorem hasPre_ac {gs:List Nat} (a b:List UInt8):ACp gs Tryz.prog 177 [strC a,strC b] (.c (.bool (Lib.hasPrefix a b))) :=
 ac_old fun al w St vals hs hv hr=>by
  rw [vals2 hv,show vals.getD 0 undef=.string ⟨a.toArray⟩ from hr 0,show vals.getD 1 undef=.string ⟨b.toArray⟩ from hr 1]
  exact (Tryz.strings_HasPrefix _ _ w).mono (by rintro e w' ⟨rfl,rfl⟩;exact ⟨rfl,Below.refl _ _⟩)
theorem hasSuf_ac {gs:List Nat} (a b:List UInt8) (h:a.length≤9223372036854775807):ACp gs Tryz.prog 178 [strC a,strC b] (.c (.bool (Lib.hasSuffix a b))) :=
 ac_old fun al w St vals hs hv hr=>by
  rw [vals2 hv,show vals.getD 0 undef=.string ⟨a.toArray⟩ from hr 0,show vals.getD 1 undef=.string ⟨b.toArray⟩ from hr 1]
  exact (Tryz.strings_HasSuffix ⟨a.toArray⟩ _ w h).mono (by rintro e w' ⟨rfl,rfl⟩;exact ⟨rfl,Below.refl _ _⟩)
theorem idxB_ac {gs:List Nat} (a:List UInt8) (c:UInt8):ACp gs Tryz.prog 179 [strC a,.c (.int .u8 (c.toNat:Nat))] (.c (.int .i64 (Lib.indexByte a c))) :=
 ac_old fun al w St vals hs hv hr=>by
  rw [vals2 hv,show vals.getD 0 undef=.string ⟨a.toArray⟩ from hr 0,show vals.getD 1 undef=.int .u8 (c.toNat:Nat) from hr 1]
  exact (Tryz.strings_IndexByte _ _ w).mono (by rintro e w' ⟨rfl,rfl⟩;exact ⟨by simp,Below.refl _ _⟩)
def letL:List UInt8:=[97,98,99,100,101,102,103,104,105,106,107,108,109,110,111,112,113,114,115,116,117,118,119,120,121,122,48,49,50,51,52,53,54,55,56,57]
theorem lch_let (c:UInt8):(decide (c.toNat=45) || !decide (Lib.indexByte letL c<0))=lch c:=by
 have key:∀ n:Fin 256,(decide ((UInt8.ofNat n.val).toNat=45) || !decide (Lib.indexByte letL (UInt8.ofNat n.val)<0))=lch (UInt8.ofNat n.val):=by decide +kernel
 have:=key ⟨c.toNat,c.toNat_lt⟩
 simpa using this
theorem pre_hyp (l:List UInt8):Lib.hasPrefix l [45]=decide (l≠[]∧l.getD 0 0=45):=by
 cases l with
 | nil=>decide
 | cons a l =>
  by_cases h:a=45
  ·subst h;simp [Lib.hasPrefix]
  ·have:¬ (45:UInt8)=a:=fun e=>h e.symm
   simp [Lib.hasPrefix,List.isPrefixOf,h,this]
theorem suf_hyp (l:List UInt8):Lib.hasSuffix l [45]=decide (l≠[]∧l.getD (l.length-1) 0=45):=by
 by_cases h0:l=[]
 ·subst h0;decide
 ·obtain ⟨q,c,rfl⟩:∃ q c,l=q++[c]:=⟨l.dropLast,l.getLast h0,(List.dropLast_concat_getLast h0).symm⟩
  have e:(q++[c]).getD ((q++[c]).length-1) 0=c:=by simp [List.getD]
  rw [e]
  unfold Lib.hasSuffix
  rw [Bool.eq_iff_iff,List.isSuffixOf_iff_suffix]
  simp only [decide_eq_true_eq]
  constructor
  ·rintro ⟨t,ht⟩
   exact ⟨h0,(by have:=congrArg List.getLast? ht;simp at this;exact this.symm)⟩
  ·rintro ⟨_,rfl⟩;exact ⟨q,rfl⟩
theorem take_all {l:List UInt8} {i:Nat} (hi:i<l.length) (p:UInt8→Bool):(l.take (i+1)).all p=((l.take i).all p && p (l.getD i 0)):=by
 rw [List.take_succ_eq_append_getElem hi,List.all_append]
 simp [List.getD,hi]
theorem all_no {l:List UInt8} {i:Nat} (hi:i<l.length) (p:UInt8→Bool) (h:p (l.getD i 0)=false):l.all p=false:=by
 rw [List.all_eq_false]
 refine ⟨l[i],List.getElem_mem hi,?_⟩
 have:l.getD i 0=l[i]:=by simp [List.getD,hi]
 rw [← this,h];exact Bool.noConfusion
theorem lab_eq (l:List UInt8):labM l=(decide (l≠[]) && decide (l.length≤24) && !Lib.hasPrefix l [45] && !Lib.hasSuffix l [45] && l.all lch):=by
 unfold labM
 rw [pre_hyp,suf_hyp]
 by_cases h:l=[]
 ·simp [h]
 ·simp [h]
theorem labM_iff {l:List UInt8}:labM l=true↔1≤l.length∧l.length≤24∧(l.getD 0 0).toNat≠45∧(l.getD (l.length-1) 0).toNat≠45∧l.all lch=true:=by
 have e:∀ c:UInt8,c≠45↔c.toNat≠45:=fun c=>not_congr (by rw [← UInt8.toNat_inj];rfl)
 simp only [labM,Bool.and_eq_true,decide_eq_true_eq,e,and_assoc]
 have:l≠[]↔1≤l.length:=List.length_pos_iff.symm
 rw [this]
theorem label_ac {gs:List Nat} (l:List UInt8):ACp gs Tryz.prog 106 [strC l] (.c (.bool (labM l))):=by
 refine ac_of 37 Tryz.func106 rfl rfl rfl (fun al w0 F0 St0=>?_)
 refine jU 160000167516 ?_;refine jqsp 6 (fun g33=>?_) fun g33=>?_
 ·refine jU 51690005800044180004418000444 ?_
  refine jR (jtr (jrt (hv:=?_)))
  refine cB ?_
  rw [lab_eq]
  (simp_all;done)
 refine jU 15002400001 ?_;refine jqsp 11 (fun g33_2=>?_) fun g33_2=>?_
 ·refine jU 516900058000441800044 ?_
  refine jR (jtr (jrt (hv:=?_)))
  refine cB ?_
  rw [lab_eq]
  (simp_all;omega)
 refine jU 1 ?_
 refine jqe (jecP (hasPre_ac l [45]) ?_)
 refine jU 1500 ?_;refine jqsp 15 (fun g33_3=>?_) fun g33_3=>?_
 ·refine jU 51690005800044 ?_
  refine jR (jtr (jrt (hv:=?_)))
  refine cB ?_
  rw [lab_eq]
  (simp_all;done)
 refine jU 1 ?_
 refine jqe (jecP (hasSuf_ac l [45] (by omega)) ?_)
 refine jU 5500 ?_;refine jcc (fun h33=>?_) fun h33=>?_
 ·refine jU 516 ?_
  refine jR (jtr (jrt (hv:=?_)))
  refine cB ?_
  rw [lab_eq]
  (simp_all;done)
 refine jU 205140000167810 ?_;refine l_loop (α:=Nat) [2,3,21,22,23,24,25,26,27,28,29,30,31,32,33,34,35,36] (fun i=>[(21,.c (.int .i64 (i:Nat)))]) (fun _=>[]) (fun i=>i≤l.length∧(l.take i).all lch=true) (fun i=>l.length-i) (0) ?_ (fun _=>rfl) ?_ ?_ ?_
 ·exact ⟨Nat.zero_le _,by simp⟩
 ·exact .cons cZ .nil
 ·(repeat (exact HEnt.nil))
 ·rintro i ⟨hi,he⟩
  refine jU 7526 ?_;refine jcc (fun h36=>?_) fun h36=>?_
  rotate_left
  ·refine jU 51684000200020006000 ?_
   refine jR (jrt (hv:=?_))
   refine cB ?_
   have e:l.take i=l:=List.take_of_length_le (by omega)
   rw [e] at he
   rw [lab_eq,he]
   simp_all
   try omega
  refine jU 75116207810 ?_;refine jcd (.rd 0 (.rd 1 (.rd 2 (.rd 3 (.rd 4 (.rd 5 (.rd 6 (.rd 7 (.rd 8 (.one 9 (.rd 10 (.rd 11 .done)))))))))))) ?_;refine jU 7070 ?_;refine jyq jrix ?_;refine jyq (jrix (i:=0)) ?_;refine jU 70800 ?_;refine jysp 29 (fun g37=>?_) fun g37=>?_
  rotate_left
  ·refine jU 600600600 ?_;refine jys1 ?_;refine jU 8519200840010300880300000600 ?_
   refine jlend (i+1) ?_ ?_ (h5:=?_)
   ·refine ⟨by omega,?_⟩
    rw [take_all (by omega),he,Bool.true_and,← lch_let]
    simp_all
    try omega
   ·show l.length-(i+1)<l.length-i;omega
   ·exact .cons (cI (by omega)) .nil
  refine jU 7070 ?_;refine jyq jrix ?_
  refine jye (jecP (idxB_ac letL (l.getD i 0)) ?_)
  refine jU 8803000000800 ?_;refine jcc (fun h37=>?_) fun h37=>?_
  ·refine jU 516 ?_
   refine jR (jbr (jtr (jtr (jbr (jtr (jrt (hv:=?_)))))))
   refine cB ?_
   rw [lab_eq,all_no (p:=lch) (show i<l.length by omega) (by rw [← lch_let];simp_all;try omega),Bool.and_false]
  refine jU 8519200840010 ?_
  refine jlend (i+1) ?_ ?_ (h5:=?_)
  ·refine ⟨by omega,?_⟩
   rw [take_all (by omega),he,Bool.true_and,← lch_let]
   simp_all
   try omega
  ·show l.length-(i+1)<l.length-i;omega
  ·exact .cons (cI (by omega)) .nil
theorem rlabel_ac {gs:List Nat} (l:List UInt8):ACp gs Tryz.prog 146 [strC l] (.c (.bool (labM l))):=by
 refine ac_of 53 Tryz.func146 rfl rfl rfl (fun al w0 F0 St0=>?_)
 refine jU 1240000167516 ?_;refine jqsp 8 (fun g41=>?_) fun g41=>?_
 ·refine jU 5169000580004444441800044418000444 ?_
  refine jR (jtr (jrt (hv:=?_)))
  refine cB ?_
  refine (Bool.eq_false_iff.2 fun h=>?_).symm
  obtain ⟨k1,k2,k3,k4,_⟩:=labM_iff.1 h
  omega
 refine jU 15002400001 ?_;refine jqsp 13 (fun g41_2=>?_) fun g41_2=>?_
 ·refine jU 51690005800044444418000444 ?_
  refine jR (jtr (jrt (hv:=?_)))
  refine cB ?_
  refine (Bool.eq_false_iff.2 fun h=>?_).symm
  obtain ⟨k1,k2,k3,k4,_⟩:=labM_iff.1 h
  omega
 refine jU 1 ?_;refine jq (jrix (i:=0)) ?_;refine jU 15002 ?_;refine jqsp 18 (fun g41_3=>?_) fun g41_3=>?_
 ·refine jU 516900058000444444 ?_
  refine jR (jtr (jrt (hv:=?_)))
  refine cB ?_
  refine (Bool.eq_false_iff.2 fun h=>?_).symm
  obtain ⟨k1,k2,k3,k4,_⟩:=labM_iff.1 h
  omega
 refine jU 94000011 ?_;refine jq (jrix (i:=(l.length-1)) (hz:=by omega)) ?_;refine jU 55002 ?_;refine jcc (fun h41=>?_) fun h41=>?_
 ·refine jU 516 ?_
  refine jR (jtr (jrt (hv:=?_)))
  refine cB ?_
  refine (Bool.eq_false_iff.2 fun h=>?_).symm
  obtain ⟨k1,k2,k3,k4,_⟩:=labM_iff.1 h
  omega
 refine jU 205167810 ?_;refine l_loop (α:=Nat) [2,3,4,26,27,28,29,30,31,32,33,34,35,36,37,38,39,40,41,42,43,44,45,46,47,48,49,50,51,52] (fun i=>[(3,.c (.int .i64 (i:Nat)))]) (fun _=>[]) (fun i=>i≤l.length∧(l.take i).all lch=true) (fun i=>l.length-i) (0) ?_ (fun _=>rfl) ?_ ?_ ?_
 ·exact ⟨Nat.zero_le _,by simp⟩
 ·exact .cons cZ .nil
 ·(repeat (exact HEnt.nil))
 ·rintro i ⟨hi,he⟩
  refine jU 52400001167 ?_;refine jcc (fun h44=>?_) fun h44=>?_
  rotate_left
  ·refine jU 51684000200020006000 ?_
   refine jR (jrt (hv:=?_))
   refine cB ?_
   have e:l.take i=l:=List.take_of_length_le (by omega)
   rw [e] at he
   exact (labM_iff.2 ⟨by omega,by omega,by omega,by omega,he⟩).symm
  refine jU 5180000000116207810 ?_
  obtain ⟨x,hx⟩:∃ x,x=(l.getD i 0).toNat:=⟨_,rfl⟩
  refine jE (weaken 4 (.c (.int .u8 (x:Nat))) (cI (by rw [hx]))) ?_;refine jU 1216 ?_;refine jqsp 37 (fun g46=>?_) fun g46=>?_
  ·refine jU 1211800044 ?_;refine jqsp 44 (fun g46_2=>?_) fun g46_2=>?_
   ·refine jU 580002118000800044 ?_;refine jcc (fun h46=>?_) fun h46=>?_
    ·refine jU 516 ?_
     refine jR (jbr (jtr (jtr (jbr (jtr (jrt (hv:=?_)))))))
     refine cB ?_
     unfold labM
     rw [all_no (p:=lch) (show i<l.length by omega) (by unfold lch;rw [← hx];simp;omega),Bool.and_false]
    refine jU 85191200840010 ?_
    refine jlend (i+1) ?_ ?_ (h5:=?_)
    ·refine ⟨by omega,?_⟩
     rw [take_all (by omega),he,Bool.true_and]
     unfold lch
     rw [← hx]
     simp
     omega
    ·show l.length-(i+1)<l.length-i;omega
    ·exact .cons (cI (by omega)) .nil
   refine jU 1800050021 ?_;refine jqsp 49 (fun g46_3=>?_) fun g46_3=>?_
   rotate_left
   ·refine jU 85191200840010300550044 ?_
    refine jlend (i+1) ?_ ?_ (h5:=?_)
    ·refine ⟨by omega,?_⟩
     rw [take_all (by omega),he,Bool.true_and]
     unfold lch
     rw [← hx]
     simp
     omega
    ·show l.length-(i+1)<l.length-i;omega
    ·exact .cons (cI (by omega)) .nil
   refine jU 5800021 ?_;refine jcc (fun h46=>?_) fun h46=>?_
   ·refine jU 516 ?_
    refine jR (jbr (jtr (jtr (jbr (jtr (jrt (hv:=?_)))))))
    refine cB ?_
    unfold labM
    rw [all_no (p:=lch) (show i<l.length by omega) (by unfold lch;rw [← hx];simp;omega),Bool.and_false]
   refine jU 85191200840010 ?_
   refine jlend (i+1) ?_ ?_ (h5:=?_)
   ·refine ⟨by omega,?_⟩
    rw [take_all (by omega),he,Bool.true_and]
    unfold lch
    rw [← hx]
    simp
    omega
   ·show l.length-(i+1)<l.length-i;omega
   ·exact .cons (cI (by omega)) .nil
  refine jU 150021 ?_;refine jqsp 41 (fun g46_2=>?_) fun g46_2=>?_
  rotate_left
  ·refine jU 851912008400103005500441500444444 ?_
   refine jlend (i+1) ?_ ?_ (h5:=?_)
   ·refine ⟨by omega,?_⟩
    rw [take_all (by omega),he,Bool.true_and]
    unfold lch
    rw [← hx]
    simp
    omega
   ·show l.length-(i+1)<l.length-i;omega
   ·exact .cons (cI (by omega)) .nil
  refine jU 121 ?_;refine jqsp 44 (fun g46_3=>?_) fun g46_3=>?_
  ·refine jU 580002118000800044 ?_;refine jcc (fun h46=>?_) fun h46=>?_
   ·refine jU 516 ?_
    refine jR (jbr (jtr (jtr (jbr (jtr (jrt (hv:=?_)))))))
    refine cB ?_
    unfold labM
    rw [all_no (p:=lch) (show i<l.length by omega) (by unfold lch;rw [← hx];simp;omega),Bool.and_false]
   refine jU 85191200840010 ?_
   refine jlend (i+1) ?_ ?_ (h5:=?_)
   ·refine ⟨by omega,?_⟩
    rw [take_all (by omega),he,Bool.true_and]
    unfold lch
    rw [← hx]
    simp
    omega
   ·show l.length-(i+1)<l.length-i;omega
   ·exact .cons (cI (by omega)) .nil
  refine jU 1800050021 ?_;refine jqsp 49 (fun g46_4=>?_) fun g46_4=>?_
  rotate_left
  ·refine jU 85191200840010300550044 ?_
   refine jlend (i+1) ?_ ?_ (h5:=?_)
   ·refine ⟨by omega,?_⟩
    rw [take_all (by omega),he,Bool.true_and]
    unfold lch
    rw [← hx]
    simp
    omega
   ·show l.length-(i+1)<l.length-i;omega
   ·exact .cons (cI (by omega)) .nil
  refine jU 5800021 ?_;refine jcc (fun h46=>?_) fun h46=>?_
  ·refine jU 516 ?_
   refine jR (jbr (jtr (jtr (jbr (jtr (jrt (hv:=?_)))))))
   refine cB ?_
   unfold labM
   rw [all_no (p:=lch) (show i<l.length by omega) (by unfold lch;rw [← hx];simp;omega),Bool.and_false]
  refine jU 85191200840010 ?_
  refine jlend (i+1) ?_ ?_ (h5:=?_)
  ·refine ⟨by omega,?_⟩
   rw [take_all (by omega),he,Bool.true_and]
   unfold lch
   rw [← hx]
   simp
   omega
  ·show l.length-(i+1)<l.length-i;omega
  ·exact .cons (cI (by omega)) .nil
end
section
variable {gs:List Nat} [Ok9 gs]

theorem asked_ac [OkT gs] (l:List UInt8) (most:Int) (hl:l.length≤1000000000):ACp gs Tryz.prog 225 [strC l,.c (.int .i64 most)] (.err (askedM l most)):=by
 refine ac_of 20 Tryz.func225 rfl rfl rfl (fun al w0 F0 St0=>?_)
 refine jU 516000016207516 ?_;refine jcc (fun h47=>?_) fun h47=>?_
 ·refine jcr ?_;refine jq (jrde 1) ?_;refine jU 51 ?_
  refine jR (jbr (jtr (jrt (hv:=CEnt.errN (by unfold askedM;rw [if_pos (by simpa using h47)])))))
 refine jU 51214000016 ?_;refine jcc (fun h49=>?_) fun h49=>?_
 ·refine jcr ?_;refine jq (jrde 2) ?_;refine jU 51 ?_
  refine jR (jbr (jtr (jrt (hv:=CEnt.errN (by unfold askedM;rw [if_neg (by simpa using h47),if_pos h49])))))
 refine jU 16 ?_
 refine jqe (jecP (plain07_ac l hl) ?_)
 refine jU 5130 ?_;refine jcc (fun h51=>?_) fun h51=>?_
 ·refine jcr ?_;refine jq (jrde 7) ?_;refine jU 51 ?_
  refine jR (jbr (jtr (jrt (hv:=CEnt.errN (by unfold askedM;rw [if_neg (by simpa using h47),if_neg h49,if_pos (by simpa using h51)])))))
 refine jU 516840010 ?_
 refine jR (jrt (hv:=CEnt.nilE (by unfold askedM;rw [if_neg (by simpa using h47),if_neg h49,if_neg (by simpa using h51)])))
theorem xput_ac [OkT gs] (l:List UInt8) (most:Int) (hl:l.length≤1000000000):ACp gs Tryz.prog 176 [strC l,.c (.int .i64 most)] (.tup 2 (fl [bsC (if askedM l most=0 then l else []),.err (askedM l most)])):=by
 refine ac_of 15 Tryz.func176 rfl rfl rfl (fun al w0 F0 St0=>?_)
 refine jU 11675116 ?_
 refine jqe (jecP (asked_ac l most hl) ?_)
 refine jU 55000001651 ?_;refine jcc (fun h59=>?_) fun h59=>?_
 ·refine jU 51116 ?_
  refine jR (jtr (jrt (hv:=cT (CEnt.nilS' (by rw [if_neg h59];rfl)) cZ)))
 refine jU 16810 ?_
 refine jqe (jecv ?_)
 refine jU 511 ?_
 refine jR (jrt (hv:=?_))
 have h:askedM l most=0:=by omega
 exact cT (CEnt.bs (by rw [if_pos h])) (CEnt.nilE h)
theorem xget_ac [OkT gs] (l:List UInt8) (most:Int) (hl:l.length≤1000000000):ACp gs Tryz.prog 196 [bsC l,.c (.int .i64 most)] (.tup 2 (fl [strC (if askedM l most=0 then l else []),.err (askedM l most)])):=by
 refine ac_of 17 Tryz.func196 rfl rfl rfl (fun al w0 F0 St0=>?_)
 refine jU 165116 ?_
 first|refine jq jrbs ?_|refine jqo jrbo ?_|refine jq jrbn ?_
 refine jU 116751 ?_
 refine jqe (jecP (asked_ac l most hl) ?_)
 refine jU 55000001651 ?_;refine jcc (fun h68=>?_) fun h68=>?_
 ·refine jU 51116 ?_
  refine jR (jtr (jrt (hv:=cT (CEnt.strL (by rw [if_neg h68])) cZ)))
 refine jU 51116810 ?_
 refine jR (jrt (hv:=?_))
 have h:askedM l most=0:=by omega
 exact cT (CEnt.strL (by rw [if_pos h])) (CEnt.nilE h)
theorem rasked_ac {gs:List Nat} (l:List UInt8) (most:Int) (hl:l.length≤1000000000):ACp gs Tryz.prog 206 [strC l,.c (.int .i64 most)] (.c (.int .i64 (askedM l most:Nat))):=by
 refine ac_of 15 Tryz.func206 rfl rfl rfl (fun al w0 F0 St0=>?_)
 refine jU 5240000167516 ?_;refine jcc (fun h55=>?_) fun h55=>?_
 ·refine jU 516 ?_
  refine jR (jtr (jrt (hv:=cI (by unfold askedM;rw [if_pos (by omega)];rfl))))
 refine jU 52140000167810 ?_;refine jcc (fun h58=>?_) fun h58=>?_
 ·refine jU 516 ?_
  refine jR (jtr (jrt (hv:=cI (by unfold askedM;rw [if_neg (by omega),if_pos h58];rfl))))
 refine jU 167810 ?_
 refine jqe (jecP (rplain_ac l hl) ?_)
 refine jU 530 ?_;refine jcc (fun h61=>?_) fun h61=>?_
 ·refine jU 516 ?_
  refine jR (jtr (jrt (hv:=cI (by unfold askedM;rw [if_neg (by omega),if_neg h58,if_pos (by simpa using h61)];rfl))))
 refine jU 516810 ?_
 refine jR (jrt (hv:=cI (by unfold askedM;rw [if_neg (by omega),if_neg h58,if_neg (by simpa using h61)];rfl)))
end
section
variable {gs:List Nat} [Ok9 gs]
open Go.RowKit Cal

theorem doneW_ac (n:Nat) (s:W8) (hs:OkW s):AC gs Tryz.prog 58 [wrO n s] [.op 0 (some n) 0] (fun r H'=>r=.tup 2 (fl [bsC (doneB s),.err (doneK s)])∧H'=[wrO n s]):=by
 have hsd:=hs.d
 have bad:∀ {e},doneK s=e→e≠0→doneB s=[]:=fun h h0=>by unfold doneB;rw [h,if_neg h0]
 refine ac_of 35 Tryz.func58 rfl rfl rfl (fun al w0 F0 St0=>?_)
 refine jU 2075116 ?_;refine code_openW 0 rfl fun go gd zs hzs=>?_;refine jU 515000005010004016 ?_;refine jcc (fun h140=>?_) fun h140=>?_
 ·refine jcs ?_;refine jcd (.rd 0 (.rd 1 (.rd 2 (.rd 3 (.rd 4 (.rd 5 .done)))))) ?_;refine jU 5000070 ?_;refine jyq (jrfa 2 1 false) ?_;refine jU 300050007000880707010000 ?_
  have e:doneK s=s.k:=by unfold doneK;rw [if_pos (by omega)]
  exact end_packV (gd:=fun z:WZ8 s.fr=>z.1.1) (E:=wrE s) (.inl rfl) ⟨(n,go,gd,zs),hzs⟩ [0,1,2,3] (by decide) rfl (res_2 rfl javt javt) (cT (by rw [bad e (by omega)];exact cN) (CEnt.err e.symm))
 refine jU 512350904016 ?_;refine jcc (fun h142=>?_) fun h142=>?_
 ·refine jcs ?_;refine jcd (.rd 0 (.rd 1 (.rd 2 .done))) ?_;refine jyq (jrde 23) ?_;refine jU 3000500070008807070 ?_
  have e:doneK s=24:=by unfold doneK;rw [if_neg (by omega),if_pos (by intro h;rw [h] at h142;simp at h142)]
  exact end_packV (gd:=fun z:WZ8 s.fr=>z.1.1) (E:=wrE s) (.inl rfl) ⟨(n,go,gd,zs),hzs⟩ [0,1,2,3] (by decide) rfl (res_2 rfl javt javt) (cT (by rw [bad e (by omega)];exact cN) (CEnt.err e.symm))
 refine jU 5123501004016 ?_;refine jcc (fun h144=>?_) fun h144=>?_
 ·refine jcs ?_;refine jcd (.rd 0 (.rd 1 (.rd 2 .done))) ?_;refine jyq (jrde 2) ?_;refine jU 3000500070008807070 ?_
  have hf0:s.fr=[]:=List.eq_nil_of_length_eq_zero (by omega)
  have e:doneK s=3:=by unfold doneK;rw [if_neg (by omega),if_neg (by simp [hf0]),if_pos (by omega)]
  exact end_packV (gd:=fun z:WZ8 s.fr=>z.1.1) (E:=wrE s) (.inl rfl) ⟨(n,go,gd,zs),hzs⟩ [0,1,2,3] (by decide) rfl (res_2 rfl javt javt) (cT (by rw [bad e (by omega)];exact cN) (CEnt.err e.symm))
 refine jU 501004016840010 ?_
 refine jqm (jmcH 2 (cloneO_ac s.d gd (by omega)) ?_)
 rintro _ _ ⟨rfl,rfl⟩
 refine ⟨_,_,rfl,cZ,?_⟩
 refine jU 7000511 ?_
 have hf0:s.fr=[]:=List.eq_nil_of_length_eq_zero (by omega)
 have e:doneK s=0:=by unfold doneK;rw [if_neg (by omega),if_neg (by simp [hf0]),if_neg (by omega)]
 exact end_packV (gd:=fun z:WZ8 s.fr=>z.1.1) (E:=wrE s) (.inl rfl) ⟨(n,go,gd,zs),hzs⟩ [0,1,2,3] (by decide) rfl (res_2 rfl javt javt) (cT (CEnt.bs (by unfold doneB;rw [if_pos e])) (CEnt.nilE e))
theorem intW_ac (n:Nat) (s:W8) (z:Int) (hz:-9223372036854775808≤z∧z≤9223372036854775807) (hs:OkW s):AC gs Tryz.prog 97 [wrO n s] [.op 0 (some n) 0,.c (.int .i64 z)] (fun r H'=>r=.c (.tuple #[])∧H'=[wrO n (putW 2 (putN z) 0 s)]):=by
 have hl:=(putN_len z hz.1 hz.2).2
 refine ac_of 8 Tryz.func97 rfl rfl rfl (fun al w0 F0 St0=>?_)
 refine jU 11200 ?_
 refine jqe (jecP (wput_ac z hz.1 hz.2) ?_)
 refine jqm (jmcH 0 (putW_ac n s 2 (putN z) 0 hs (by omega)) ?_)
 rintro _ _ ⟨rfl,rfl⟩
 refine ⟨_,_,rfl,cZ,?_⟩
 refine jU 5 ?_
 exact end_own (.inr rfl) _ [_] [0] (by decide) rfl (res_0 rfl) ⟨rfl,rfl⟩
theorem octetsW_ac (n:Nat) (s:W8) (b:List UInt8) (hb:b.length≤1000000) (hs:OkW s):AC gs Tryz.prog 56 [wrO n s] [.op 0 (some n) 0,bsC b] (fun r H'=>r=.c (.tuple #[])∧H'=[wrO n (putW 4 b 0 s)]):=by
 refine ac_of 7 Tryz.func56 rfl rfl rfl (fun al w0 F0 St0=>?_)
 refine jU 11200 ?_
 refine jqm (jmcH 0 (putW_ac n s 4 b 0 hs hb) ?_)
 rintro _ _ ⟨rfl,rfl⟩
 refine ⟨_,_,rfl,cZ,?_⟩
 refine jU 5 ?_
 exact end_own (.inr rfl) _ [_] [0] (by decide) rfl (res_0 rfl) ⟨rfl,rfl⟩
theorem textW_ac [OkT gs] (n:Nat) (s:W8) (t:List UInt8) (most:Int) (ht:t.length≤1000000) (hs:OkW s):AC gs Tryz.prog 105 [wrO n s] [.op 0 (some n) 0,strC t,.c (.int .i64 most)] (fun r H'=>r=.c (.tuple #[])∧H'=[wrO n (putW 12 (if askedM t most=0 then t else []) (askedM t most) s)]):=by
 have hl:(if askedM t most=0 then t else []).length≤1000000:=by split <;> first|omega|simp
 refine ac_of 18 Tryz.func105 rfl rfl rfl (fun al w0 F0 St0=>?_)
 refine jU 116 ?_
 refine jqe (jecP (xput_ac t most (by omega)) ?_)
 refine jU 1112005119009001 ?_
 refine jqm (jmcH 0 (putW_ac n s 12 (if askedM t most=0 then t else []) (askedM t most) hs hl) ?_)
 rintro _ _ ⟨rfl,rfl⟩
 refine ⟨_,_,rfl,cZ,?_⟩
 refine jU 5 ?_
 exact end_own (.inr rfl) _ [_] [0] (by decide) rfl (res_0 rfl) ⟨rfl,rfl⟩
theorem momentW_ac (n:Nat) (s:W8) (z:Int) (hs:OkW s):AC gs Tryz.prog 101 [wrO n s] [.op 0 (some n) 0,.c (.int .i64 z)] (fun r H'=>r=.c (.tuple #[])∧H'=[wrO n (putW 24 (if inT z then bodyL (ofM z) else []) (ofE z) s)]):=by
 have hbl:(if inT z then bodyL (ofM z) else []).length≤1000000:=by
  split
  ·exact Nat.le_trans (Nat.le_of_eq (show (bodyL (ofM z)).length=15 from rfl)) (by decide)
  ·simp
 refine ac_of 15 Tryz.func101 rfl rfl rfl (fun al w0 F0 St0=>?_)
 refine jU 16 ?_
 refine jqe (jecP (put_ac z) ?_)
 refine jU 1112005119009001 ?_
 refine jqm (jmcH 0 (putW_ac n s 24 (if inT z then bodyL (ofM z) else []) (ofE z) hs hbl) ?_)
 rintro _ _ ⟨rfl,rfl⟩
 refine ⟨_,_,rfl,cZ,?_⟩
 refine jU 5 ?_
 exact end_own (.inr rfl) _ [_] [0] (by decide) rfl (res_0 rfl) ⟨rfl,rfl⟩
theorem oidW_ac (n:Nat) (s:W8) (t:List UInt8) (ht:t.length≤1000000) (hs:OkW s):AC gs Tryz.prog 173 [wrO n s] [.op 0 (some n) 0,strC t] (fun r H'=>r=.c (.tuple #[])∧H'=[wrO n (putW 6 (putM t) (parseM t).2 s)]):=by
 have hl:(putM t).length≤1000000:=Nat.le_trans (put_len t) (by decide)
 refine ac_of 15 Tryz.func173 rfl rfl rfl (fun al w0 F0 St0=>?_)
 refine jU 16 ?_
 refine jqe (jecP (oput_ac t (by omega)) ?_)
 refine jU 1112005119009001 ?_
 refine jqm (jmcH 0 (putW_ac n s 6 (putM t) (parseM t).2 hs hl) ?_)
 rintro _ _ ⟨rfl,rfl⟩
 refine ⟨_,_,rfl,cZ,?_⟩
 refine jU 5 ?_
 exact end_own (.inr rfl) _ [_] [0] (by decide) rfl (res_0 rfl) ⟨rfl,rfl⟩
theorem flagsW_ac (n:Nat) (s:W8) (z:Int) (hs:OkW s):AC gs Tryz.prog 102 [wrO n s] [.op 0 (some n) 0,.c (.int .i64 z)] (fun r H'=>r=.c (.tuple #[])∧H'=[wrO n (putW 3 (bitsL z) (bitsE z) s)]):=by
 have hf:ACp gs Tryz.prog 175 [.c (.int .i64 z)] (.tup 2 (fl [bsC (bitsL z),.err (bitsE z)])):=by
  unfold bitsL bitsE
  by_cases h:z<0∨32767<z
  ·rw [if_pos h,if_pos h];exact flags_bad z h
  ·rw [if_neg h,if_neg h]
   have:=flags_ac (gs:=gs) z.toNat (by omega)
   rwa [Int.toNat_of_nonneg (by omega)] at this
 have hl:(bitsL z).length≤1000000:=by
  unfold bitsL
  split
  ·simp
  ·rw [flags_len (by omega)]
   have:=(bl_is (m:=z.toNat) (by omega)).2
   omega
 refine ac_of 15 Tryz.func102 rfl rfl rfl (fun al w0 F0 St0=>?_)
 refine jU 16 ?_
 refine jqe (jecP hf ?_)
 refine jU 1112005119009001 ?_
 refine jqm (jmcH 0 (putW_ac n s 3 (bitsL z) (bitsE z) hs hl) ?_)
 rintro _ _ ⟨rfl,rfl⟩
 refine ⟨_,_,rfl,cZ,?_⟩
 refine jU 5 ?_
 exact end_own (.inr rfl) _ [_] [0] (by decide) rfl (res_0 rfl) ⟨rfl,rfl⟩
end
section
variable {gs:List Nat} [Ok9 gs]
open Go.RowKit Cal

def w0W:W8:=⟨[],[],0⟩
theorem take_set_out {α:Type} (l:List α) (n i:Nat) (x:α) (h:n≤i):(l.set i x).take n=l.take n:=by
 rw [List.take_set,List.set_eq_of_length_le]
 rw [List.length_take];omega
theorem newW {G:Gh} {env:List (Nat×CV)} {b0:Nat→CV} {H:List (Option Nat×Res)} (n i:Nat) {f:Nat→CV} (hi:H[i]?=some (some n,.blk 3 f)) (h0:CEnt (f 0) (.c (.slice none 0 0))) (h1:CEnt (f 1) (.c (.slice none 0 0))) (h2:CEnt (f 2) (.err 0)):EntS G ⟨env,b0,H⟩ ⟨env,b0,H.set i (wrO n w0W)⟩:=by
 have hil:=(List.getElem?_eq_some_iff.1 hi).1
 have os0:∀ {j k:Nat},CEnt (.c (.slice none 0 0)) (.os j none 0 0 k):=fun al St w v h=>⟨rfl,h⟩
 intro St a w hr
 obtain ⟨S1,s1,r1⟩:=ent_none (G:=G) (s:=⟨env,b0,H⟩) (rowF 2 frF frD []) St a w hr
 obtain ⟨S2,s2,r2⟩:=ent_none (G:=G) (s:=⟨env,b0,H++[(none,.blk 0 (rowF 2 frF frD []))]⟩) (byF []) S1 a w r1
 obtain ⟨S3,s3,r3⟩:=bag_new (G:=G) (env:=env) (b0:=b0) (H:=H++[(none,.blk 0 (rowF 2 frF frD []))]++[(none,.blk 0 (byF []))]) S2 a w r2
 obtain ⟨S4,s4,r4⟩:=closeW (G:=G) (env:=env) (b0:=b0) (H:=H++[(none,.blk 0 (rowF 2 frF frD []))]++[(none,.blk 0 (byF []))]++[bagE []]) n w0W [] i H.length (H.length+1) (H.length+2) rfl (go:=none) (gd:=none) (No:=0) (Nd:=0) (f:=f) (Fo:=rowF 2 frF frD []) (Fd:=byF [])
  (by rw [List.append_assoc,List.append_assoc,List.getElem?_append_left hil];exact hi) (by simp) (by simp []) (by simp []) (by simp;omega) (h0.trans os0) (h1.trans os0) h2 (Nat.le_refl _) (fun a h=>absurd h (Nat.not_lt_zero a)) (Nat.le_refl _) (fun a h=>absurd h (Nat.not_lt_zero a)) S3 a w r3
 obtain ⟨S5,s5,r5⟩:=pick_ent (G:=G) (H':=H.set i (wrO n w0W)) (List.range H.length) (range_nodup _) (by
  rw [pickL_range _ _ (by simp)]
  simp only [List.append_assoc]
  rw [take_set_out _ _ _ _ (by omega),take_set_out _ _ _ _ (by omega),take_set_out _ _ _ _ (by omega),List.take_set,List.take_left]) S4 a w r4
 exact ⟨S5,fun b hb=>s5 b (s4 b (s3 b (s2 b (s1 b hb)))),r5⟩
theorem ok0:OkW w0W:=⟨by decide,fun _ h=>(by cases h),by decide⟩
def w1W:W8:=⟨[(48,[])],[],0⟩
def w2W:W8:=⟨[(48,[[2,1,5]])],[],0⟩
def w3W:W8:=⟨[],[48,3,2,1,5],0⟩
def valC (v:VV):CV:=.agg 5 (fl [.c (.int .i64 v.kind),.c (.int .i64 v.n),.c (.bool v.is),bsC v.b,strC v.t])
structure OkV (v:VV):Prop where
 n:-9223372036854775808≤v.n∧v.n≤9223372036854775807
 b:v.b.length≤1000000
 t:v.t.length≤1000000
end
section
variable {gs:List Nat} [Ok9 gs]
open Go.RowKit Cal

theorem rput08_ac {gs:List Nat} (n:Nat) (s:R8) (tag:Int) (b:List UInt8) (hs:OkR s) (ht:0≤tag∧tag<256) (hb:b.length≤1000000):AC gs Tryz.prog 155 [rwO n s] [.op 0 (some n) 0,.c (.int .i64 tag),bsC b] (fun r H'=>r=.c (.tuple #[])∧H'=[rwO n (rputS tag b s)]):=by
 refine ac_of 17 Tryz.func155 rfl rfl rfl (fun al w0 F0 St0=>?_)
 refine jU 523167 ?_;refine jcc (fun h64=>?_) fun h64=>?_
 ·refine code_openRW 0 rfl fun gr=>?_;refine jU 10004016 ?_
  refine jqm (jmstF 1 (rwB ⟨s.tags,s.rows,3⟩ 1 gr) ?_ ?_)
  ·exact (fun j hj=>by rcases j with _|_|_|j <;> exact cZ)
  refine jU 300070005 ?_
  have hP:rputS tag b s=⟨s.tags,s.rows,3⟩:=by unfold rputS;rw [if_pos (by omega)]
  rw [hP]
  exact end_closeRW (.inl rfl) n ⟨s.tags,s.rows,3⟩ 1 (res_0 rfl) cZ rfl rfl rfl (by exact cZ) (by exact cO rfl) (by exact cZ) (Nat.le_refl _) (fun _ _=>by exact cZ)
 refine jU 111200810 ?_
 refine jqe (jecP (rput_ac tag b ht (by omega)) ?_)
 refine jqm (jmcH 0 (radd08_ac n s (putL tag b) hs) ?_)
 rintro _ _ ⟨rfl,rfl⟩
 refine ⟨_,_,rfl,cZ,?_⟩
 refine jU 5 ?_
 have hP:rputS tag b s=raddS (putL tag b) s:=by unfold rputS;rw [if_neg (by omega)]
 rw [hP]
 exact end_own (.inr rfl) _ [_] [0] (by decide) rfl (res_0 rfl) ⟨rfl,rfl⟩
def BodyQ (v:VV):CV→List (Option Nat×Res)→Prop:=fun r H'=>(∃ b,r=.tup 3 (fl [.c (.int .i64 (bodyV v).1),bsC b,.c (.int .i64 ((bodyV v).2.2:Nat))])∧((bodyV v).2.2=0→b=(bodyV v).2.1))∧H'=[]
theorem bodyQ {v:VV} {t:Int} {b b':List UInt8} {e:Nat} (h:bodyV v=(t,b,e)) (hb:e=0→b'=b):BodyQ v (.tup 3 (fl [.c (.int .i64 t),bsC b',.c (.int .i64 (e:Nat))])) []:=by
 refine ⟨⟨b',by rw [h],fun h0=>by rw [h] at h0 ⊢;exact hb h0⟩,rfl⟩
end
section
variable {gs:List Nat} [Ok9 gs]
open Go.RowKit Cal

structure OkRD (s:R8):Prop where
 ok:OkR s
 sum:∀ j,sumL (s.rows.getD j [])≤1000000
 tag:∀ x ∈ s.tags,0≤x∧x<256
 lt:s.tags.length≠0→s.tags.length<s.rows.length
theorem rdone08_ac {gs:List Nat} (n:Nat) (s:R8) (hs:OkRD s):AC gs Tryz.prog 82 [rwO n s] [.op 0 (some n) 0] (fun r H'=>r=.tup 2 (fl [bsC (rdoneB s),.c (.int .i64 (rdoneE s:Nat))])∧H'=[rwO n s]):=by
 have hk0:=okR_at hs.ok 0
 have hs0:=hs.sum 0
 have bad:∀ {e},rdoneE s=e→e≠0→rdoneB s=[]:=fun h h0=>by unfold rdoneB;rw [h,if_neg h0]
 refine ac_of 48 Tryz.func82 rfl rfl rfl (fun al w0 F0 St0=>?_)
 refine jU 75116 ?_;refine code_openRW 0 rfl fun gr=>?_;refine jU 525010004016 ?_;refine jcc (fun h133=>?_) fun h133=>?_
 ·refine jcs ?_;refine jcd (.rd 0 (.rd 1 (.rd 2 (.rd 3 (.rd 4 (.rd 5 .done)))))) ?_;refine jU 5000070 ?_;refine jyq (jrfa 2 1 false) ?_;refine jU 30007000880707010000 ?_
  have e:rdoneE s=s.e:=by unfold rdoneE;rw [if_pos (by omega)]
  exact end_closeRW (.inl rfl) n s 1 (res_2 rfl javt javt) (cT (by rw [bad e (by omega)];exact cN) (cI (by rw [e]))) rfl rfl rfl (by exact cZ) (by exact cO rfl) (by exact cZ) (Nat.le_refl _) (fun _ _=>by exact cZ)
 refine jU 523509040167810 ?_;refine jcc (fun h136=>?_) fun h136=>?_
 ·refine jU 300070005116 ?_
  have e:rdoneE s=24:=by unfold rdoneE;rw [if_neg (by omega),if_pos (by omega)]
  exact end_closeRW (.inl rfl) n s 1 (res_2 rfl javt javt) (cT (by rw [bad e (by omega)];exact cN) (cI (by rw [e];rfl))) rfl rfl rfl (by exact cZ) (by exact cO rfl) (by exact cZ) (Nat.le_refl _) (fun _ _=>by exact cZ)
 refine jU 6810 ?_
 refine jqe (jebl 0 1 zr5 fun p1=>?_)
 refine jU 523501004016751 ?_;refine jcc (fun h140=>?_) fun h140=>?_
 rotate_left
 ·refine jU 7810 ?_
  first
   |(have hiE:i=(s.rows.getD 0 []).length:=by omega
     subst hiE
     dsimp only
     rw [List.take_length] at *
     have hfl:=flat_len (s.rows.getD 0 []))
   |(have h00:s.rows.getD 0 []=[]:=by rw [List.getD_eq_getElem?_getD,List.getElem?_eq_none (by omega)];rfl
     have hfl:((s.rows.getD 0 []).flatten).length=0:=by rw [h00];rfl)
  refine jU 52316 ?_;refine jcc (fun h145=>?_) fun h145=>?_
  ·refine jU 300070005116 ?_
   first
    |(exfalso;simp at h145;done)
    |(have e:rdoneE s=3:=by unfold rdoneE;rw [if_neg (by omega),if_neg (by omega),if_pos (by omega)]
      exact end_closeRW (.inl rfl) n s 1 (res_2 rfl javt javt) (cT (by rw [bad e (by omega)];exact cN) (cI (by rw [e];rfl))) rfl rfl rfl (by exact cZ) (by exact cO rfl) (by exact cZ) (Nat.le_refl _) (fun _ _=>by exact cZ))
  refine jU 51116810 ?_;refine jE (freeze 2 rfl) ?_
  first
   | refine jE (thawB 2 ((s.rows.getD 0 []).flatten) rfl rfl rfl rfl) ?_
   | refine jE (thawBL 2 [] rfl rfl rfl rfl .nil) ?_
  refine jU 7000 ?_
  have e:rdoneE s=0:=by unfold rdoneE;rw [if_neg (by omega),if_neg (by omega),if_neg (by omega)]
  exact end_closeRW (.inl rfl) n s 1 (res_2 rfl javt javt) (cT (CEnt.bs (by unfold rdoneB;rw [if_pos e];(rw [h00];rfl))) (cI (by rw [e];rfl))) rfl rfl rfl (by exact cZ) (by exact cO rfl) (by exact cZ) (Nat.le_refl _) (fun _ _=>by exact cZ)
 refine jU 20513502000000501004016 ?_;refine l_loop (α:=Nat×Option Nat) [4,6,36,37,38,39,40,41,42,43] (fun (i,g)=>[(4,.os 2 g 0 (((s.rows.getD 0 []).take i).flatten).length 1),(36,.c (.int .i64 (i:Nat)))]) (fun (i,g)=>[(some n,.blk 3 (rwB s 1 gr)),(gr,.blk s.rows.length (rowsF s.rows)),(g,.blk (((s.rows.getD 0 []).take i).flatten).length (byF ((s.rows.getD 0 []).take i).flatten))]) (fun i=>i.1≤(s.rows.getD 0 []).length) (fun i=>(s.rows.getD 0 []).length-i.1) ((0,p1)) ?_ (fun _=>rfl) ?_ ?_ ?_
 ·exact Nat.zero_le _
 ·exact .cons (cO rfl) (.cons cZ .nil)
 ·exact .same (.same (.blk rfl (fun j hj=>absurd hj (Nat.not_lt_zero j)) .nil))
 ·rintro ⟨i,g⟩ (hi:i≤(s.rows.getD 0 []).length)
  refine jU 7526 ?_;refine jcc (fun h141=>?_) fun h141=>?_
  ·refine jU 51607006207810 ?_
   have hf1:=sumL_take (ls:=s.rows.getD 0 []) (i:=i) (by omega)
   have hf2:=sumL_le (s.rows.getD 0 []) (i+1)
   have hf3:=flat_len ((s.rows.getD 0 []).take i)
   refine jU 11200 ?_
   refine jqm (m_appendB rfl rfl rfl (Nat.le_refl _) (fun _ _=>cZ) (src_rs rfl) rfl (fun j hj=>by simp only [Nat.div_one];exact cZ) Tryz.underlying22 nu22 sz5 zr5 by5 rfl (by omega) (fun j hj=>rfl) rfl rfl (fun p2=>?_))
   refine jU 8519200840051 ?_
   refine jlend ((i+1,p2)) ?_ ?_ (h5:=?_) (h7:=?_)
   ·show i+1≤(s.rows.getD 0 []).length;omega
   ·show (s.rows.getD 0 []).length-(i+1)<(s.rows.getD 0 []).length-i;omega
   ·simp only [flat_take (show i<(s.rows.getD 0 []).length by omega)]
    exact .cons (cO rfl) (.cons (cI (by omega)) .nil)
   ·simp only [flat_take (show i<(s.rows.getD 0 []).length by omega)]
    exact .same (.same (.same .nil))
  refine jU 784000200020006000 ?_
  first
   |(have hiE:i=(s.rows.getD 0 []).length:=by omega
     subst hiE
     dsimp only
     rw [List.take_length] at *
     have hfl:=flat_len (s.rows.getD 0 []))
   |(have h00:s.rows.getD 0 []=[]:=by rw [List.getD_eq_getElem?_getD,List.getElem?_eq_none (by omega)];rfl
     have hfl:((s.rows.getD 0 []).flatten).length=0:=by rw [h00];rfl)
  refine jU 52316 ?_;refine jcc (fun h145=>?_) fun h145=>?_
  ·refine jU 300070005116 ?_
   first
    |(exfalso;simp at h145;done)
    |(have e:rdoneE s=3:=by unfold rdoneE;rw [if_neg (by omega),if_neg (by omega),if_pos (by omega)]
      exact end_closeRW (.inl rfl) n s 1 (res_2 rfl javt javt) (cT (by rw [bad e (by omega)];exact cN) (cI (by rw [e];rfl))) rfl rfl rfl (by exact cZ) (by exact cO rfl) (by exact cZ) (Nat.le_refl _) (fun _ _=>by exact cZ))
  refine jU 51116810 ?_;refine jE (freeze 2 rfl) ?_
  first
   | refine jE (thawB 2 ((s.rows.getD 0 []).flatten) rfl rfl rfl rfl) ?_
   | refine jE (thawBL 2 [] rfl rfl rfl rfl .nil) ?_
  refine jU 7000 ?_
  have e:rdoneE s=0:=by unfold rdoneE;rw [if_neg (by omega),if_neg (by omega),if_neg (by omega)]
  exact end_closeRW (.inl rfl) n s 1 (res_2 rfl javt javt) (cT (CEnt.bs (by unfold rdoneB;rw [if_pos e];done)) (cI (by rw [e];rfl))) rfl rfl rfl (by exact cZ) (by exact cO rfl) (by exact cZ) (Nat.le_refl _) (fun _ _=>by exact cZ)
end
section
variable {gs:List Nat} [Ok9 gs]
open Go.RowKit Cal

theorem okRD_tail {s:R8} (h:OkRD s):OkR ⟨s.tags.take (s.tags.length-1),s.rows,s.e⟩:=⟨by have:=h.ok.n;simp only [List.length_take];omega,h.ok.r,h.ok.k⟩
theorem bodyF_if (t:Int) (l:List (List UInt8)):bodyF (t,l)=if t=49 then (sortL l).flatten else l.flatten:=rfl
theorem in_take {l:List Int} {i:Nat} (h:i<l.length-1):inF l i=inF (l.take (l.length-1)) i:=by
 simp only [inF,List.getD_eq_getElem?_getD,List.getElem?_take,h,if_true]
def lsF (t:Int) (l:List (List UInt8)):List (List UInt8):=if t=49 then sortL l else l
theorem lsF_body (t:Int) (l:List (List UInt8)):bodyF (t,l)=(lsF t l).flatten:=by unfold lsF;rw [bodyF_if];split <;> rfl
theorem lsF_len (t:Int) (l:List (List UInt8)):(lsF t l).length=l.length∧sumL (lsF t l)=sumL l:=by
 unfold lsF
 split
 ·exact ⟨sortL_length l,sum_perm (sortL_perm l)⟩
 ·exact ⟨rfl,rfl⟩
theorem body_tag (v:VV):0≤(bodyV v).1∧(bodyV v).1<256:=by
 unfold bodyV
 repeat' split
 all_goals (constructor <;> dsimp only <;> omega)
theorem bodyV_len {v:VV} (h:OkV v):(bodyV v).2.1.length≤1000000:=by
 have h1:=h.b
 have h2:=h.t
 have h3:=(putN_len v.n h.n.1 h.n.2).2
 have h4:=put_len v.t
 unfold bodyV
 split
 ·show (putN v.n).length≤_;omega
 ·split
  ·show (putN v.n).length≤_;omega
  ·split
   ·show [if v.is then (255:UInt8) else 0].length≤_;simp
   ·split
    ·exact h1
    ·split
     ·show (if askedM v.t v.n=0 then v.t else []).length≤_;split <;> first|omega|simp
     ·split
      ·show (putM v.t).length≤_;omega
      ·split
       ·show (if inT v.n then bodyL (ofM v.n) else []).length≤_
        split
        ·exact Nat.le_trans (Nat.le_of_eq (show (bodyL (ofM v.n)).length=15 from rfl)) (by decide)
        ·simp
       ·show (bitsL v.n).length≤_
        unfold bitsL
        split
        ·simp
        ·rw [flags_len (by omega)]
         have:=(bl_is (m:=v.n.toNat) (by omega)).2
         omega
set_option maxHeartbeats 4000000 in
theorem rdoWB_ac {gs:List Nat} (n:Nat) (s:R8) (v:VV) (hs:OkRD s) (hv:OkV v) (hB:v.kind≠1→v.kind≠2→v.kind≠11→AC gs Tryz.prog 157 [] [valC v] (BodyQ v)):AC gs Tryz.prog 80 [rwO n s] [.op 0 (some n) 0,valC v] (fun r H'=>r=.c (.tuple #[])∧H'=[rwO n (rdoS v s)]):=by
 have hsn:=hs.ok.n
 have hsr:=hs.ok.r
 have hvb:=hv.b
 have hkk:=okR_at hs.ok s.tags.length
 have hss:=hs.sum s.tags.length
 refine ac_of 183 Tryz.func80 rfl rfl rfl (fun al w0 F0 St0=>?_)
 refine jcr ?_
 refine jqe (jebx 5 fun p1=>?_)
 refine jU 75 ?_;refine code_openRW 0 rfl fun gr=>?_;refine jE (freeze 1 rfl) ?_;refine jE (thawP 3 (m:=5) rfl rfl (by decide)) ?_
 dsimp only [List.set_cons_zero,List.set_cons_succ,List.cons_append,List.nil_append,List.length_cons,List.length_nil,Nat.zero_add,Nat.reduceAdd]
 refine jU 525010004016 ?_;refine jcc (fun h81=>?_) fun h81=>?_
 ·refine jU 30007000 ?_
  rw [show rdoS v s=s by unfold rdoS;rw [if_pos (by omega)]]
  exact end_closeRW (.inl rfl) n s 2 (res_0 rfl) cZ rfl rfl rfl (by exact cZ) (by exact cO rfl) (by exact cZ) (Nat.le_refl _) (fun _ _=>by exact cZ)
 refine jU 512620560906810 ?_;refine jcc (fun h85=>?_) fun h85=>?_
 ·refine jU 601006 ?_
  refine jqe (jecP (rmade_ac v.n) ?_)
  refine jU 530 ?_;refine jcc (fun h86=>?_) fun h86=>?_
  ·refine jU 1000401200 ?_
   refine jqm (jmstF 1 (rwB ⟨s.tags,s.rows,5⟩ 2 gr) ?_ ?_)
   ·exact (fun j hj=>by rcases j with _|_|_|j <;> exact cZ)
   refine jU 4005 ?_
   rw [show rdoS v s=⟨s.tags,s.rows,5⟩ by unfold rdoS;rw [if_neg (by omega),if_pos (by omega)];unfold ropenS;rw [if_pos (by simp [madeM] at h86 ⊢;omega)]]
   exact end_closeRW (.inr rfl) n ⟨s.tags,s.rows,5⟩ 2 (res_0 rfl) cZ rfl rfl rfl (by exact cZ) (by exact cO rfl) (by exact cZ) (Nat.le_refl _) (fun _ _=>by exact cZ)
  refine jU 52350904016 ?_;refine jcc (fun h88=>?_) fun h88=>?_
  ·refine jU 1000401200 ?_
   refine jqm (jmstF 1 (rwB ⟨s.tags,s.rows,6⟩ 2 gr) ?_ ?_)
   ·exact (fun j hj=>by rcases j with _|_|_|j <;> exact cZ)
   refine jU 4005 ?_
   rw [show rdoS v s=⟨s.tags,s.rows,6⟩ by unfold rdoS;rw [if_neg (by omega),if_pos (by omega)];unfold ropenS;rw [if_neg (by simp [madeM] at h86 ⊢;omega),if_pos (by omega)]]
   exact end_closeRW (.inr rfl) n ⟨s.tags,s.rows,6⟩ 2 (res_0 rfl) cZ rfl rfl rfl (by exact cZ) (by exact cO rfl) (by exact cZ) (Nat.le_refl _) (fun _ _=>by exact cZ)
  refine jU 207 ?_;refine l_loop (α:=Nat×Option Nat) [56,57,58,59,60,61,62,63,64,65,66,67,68,69,70,71,72,73,74,75,76] (fun i=>[]) (fun (i,g)=>[(some n,.blk 3 (rwB (moreS s i) 2 g)),(p1,.frz 5 (fl [.c (.int .i64 v.kind),.c (.int .i64 v.n),.c (.bool v.is),bsC v.b,strC v.t])),(g,.blk (moreS s i).rows.length (rowsF (moreS s i).rows))]) (fun i=>i.1≤s.tags.length+2-s.rows.length) (fun i=>s.tags.length+2-s.rows.length-i.1) ((0,gr)) ?_ (fun _=>rfl) ?_ ?_ ?_
  ·exact Nat.zero_le _
  ·(repeat (exact EntE.nil))
  ·(show HEnt _ [(some n,Res.blk 3 (rwB (moreS s 0) 2 gr)),_,(gr,.blk (moreS s 0).rows.length (rowsF (moreS s 0).rows))];rw [show moreS s 0=s by unfold moreS;simp];exact HEnt.refl _)
  ·rintro ⟨i,g⟩ (hi:i≤s.tags.length+2-s.rows.length)
   have hml:(moreS s i).rows.length=s.rows.length+i:=by simp [moreS]
   have hmt:(moreS s i).tags.length=s.tags.length:=rfl
   refine jU 77 ?_;refine jcd (.rd 0 (.rd 1 (.rd 2 (.rd 3 (.rd 4 (.rd 5 (.rd 6 (.rd 7 (.rd 8 (.rd 9 (.rd 10 (.rd 11 .done)))))))))))) ?_;refine jU 8808003000020000100009000005000070200001000080000005000070 ?_;refine jcc (fun h91=>?_) fun h91=>?_
   ·refine jU 50100401120020810 ?_
    refine jqe (jebl 1 1 zr186 fun p2=>?_)
    refine seq_ent (weakH 3 1 (rowsF [[]]) rfl (Nat.le_refl _) (fun j hj=>by rcases j with _|j <;> first|exact CEnt.nilS _ _|omega)) ?_
    refine jqm (m_appendC rowC_rows (l2:=[[]]) rfl rfl rfl rfl (Nat.le_of_eq (Nat.mul_one _)) (fun _ _=>cZ) (src_os rfl (.inl rfl) (by decide)) rfl (fun j hj=>by rw [Nat.zero_add];exact cZ) Tryz.underlying138 nu138 sz186 zr186 by186 rfl (by simp;omega) (by simp;omega) (fun j hj=>rfl) rfl rfl (Nat.mul_one _) (fun p3=>?_))
    refine jU 10040 ?_
    refine jqm (jmstF 1 (rwB (moreS s (i+1)) 2 p3) ?_ ?_)
    ·exact (fun j hj=>by rcases j with _|_|_|j <;> first|exact cZ|exact cO (by rw [more_succ]))
    refine jU 84005 ?_
    refine jlend ((i+1,p3)) ?_ ?_ (h7:=?_)
    ·(show i+1≤_;omega)
    ·(show _-(i+1)<_-i;omega)
    ·simp only [more_succ];exact HEnt.refl _
   refine jU 784000200020006000 ?_
   have hiE:i=s.tags.length+2-s.rows.length:=by omega
   have hpl:=pad_len (s.tags.length+2) s.rows
   dsimp only
   rw [more_pad s i _ hiE]
   rw [more_pad s i _ hiE] at hml
   have hLl:([]++s.tags++[v.n]).length=s.tags.length+1:=by simp
   refine jcdZ (.rd 0 (.rd 2 (.rd 3 (.rd 4 (.rd 5 (.rd 7 (.rd 8 (.two 1 (.two 6 (.one 9 (.one 10 (.rd 11 (.rd 12 (.one 13 .done))))) 9 (.one 6 (.one 10 (.rd 11 (.rd 12 (.one 13 .done)))))) 9 (.one 1 (.one 6 (.one 10 (.rd 11 (.rd 12 (.one 13 .done)))))))))))))) ?_;refine jU 6000000050000000100000009000000400000400000 ?_;refine jzq jrdr ?_;refine jztwo ?_ ?_
   ·refine jze (jebl 0 1 zr3 fun p2=>?_)
    refine jztwo ?_ ?_
    ·refine jzm (m_appendC rowC_in (l:=[]) rfl rfl rfl rfl (Nat.zero_le _) (fun j hj=>absurd hj (Nat.not_lt_zero j)) (src_rs rfl) rfl (fun j hj=>by simp only [Nat.div_one];exact cZ) Tryz.underlying137 nu137 sz3 zr3 by3 rfl (by (simp;omega)) (by (simp;omega)) (fun j hj=>rfl) rfl rfl (Nat.mul_one _) (fun p3=>?_))
     refine jze (jebl 1 1 zr3 fun p4=>?_)
     refine jzm (m_appendC rowC_in (l2:=[v.n]) rfl rfl rfl rfl (by exact Nat.le_of_eq (Nat.mul_one _)) (fun _ _=>cZ) (src_os rfl (.inl rfl) (by decide)) rfl (hh_ints (.cons (cI (rfl)) .nil)) Tryz.underlying137 nu137 sz3 zr3 by3 rfl (by (simp;omega)) (by (simp;omega)) (leaf_flk rfl rfl) rfl rfl (Nat.mul_one _) (fun p5=>?_))
     refine jU 100000009000000 ?_
     refine jzm (jmst 1 ?_)
     refine jU 8700000 ?_
     first
      |(refine jE (freeze 3 rfl) ?_;refine jE (thawC 0 0 3 (rwB ⟨([]++s.tags++[v.n]),padR (s.tags.length+2) s.rows,s.e⟩ 2 g) (fun i _=>inF ([]++s.tags++[v.n]) i) rfl rfl cZ cZ (fun j hj h0=>by rcases j with _|_|_|j <;> first|omega|exact cZ) (by simp) (fun a c ha hc=>by obtain rfl:c=0:=(by omega);rw [Nat.zero_add,Nat.mul_one,Nat.add_zero];exact cZ)) ?_;dsimp only [List.set_cons_zero,List.set_cons_succ,List.cons_append,List.nil_append,List.length_cons,List.length_nil,Nat.zero_add,Nat.reduceAdd])
      |(refine jE (freeze 4 rfl) ?_;refine jE (thawC 0 0 4 (rwB ⟨([]++s.tags++[v.n]),padR (s.tags.length+2) s.rows,s.e⟩ 2 g) (fun i _=>inF ([]++s.tags++[v.n]) i) rfl rfl cZ cZ (fun j hj h0=>by rcases j with _|_|_|j <;> first|omega|exact cZ) (by simp) (fun a c ha hc=>by obtain rfl:c=0:=(by omega);rw [Nat.zero_add,Nat.mul_one,Nat.add_zero];exact cZ)) ?_;dsimp only [List.set_cons_zero,List.set_cons_succ,List.cons_append,List.nil_append,List.length_cons,List.length_nil,Nat.zero_add,Nat.reduceAdd])
     refine jcdB 10 (.rd 0 (.rd 1 (.rd 2 (.rd 3 (.rd 4 (.rd 5 (.rd 6 (.rd 7 (.rd 8 (.rd 9 .done)))))))))) ?_;refine jU 200001000090000050000701000080000005000070 ?_;refine jyq (jri (i:=([]++s.tags++[v.n]).length) (hz:=by (simp only [List.length_append,List.length_cons,List.length_nil];omega))) ?_;refine jyd ?_
     show ASeq _ _ _ _ _ _
     refine jqm (jmstF 1 (rowsF ((padR (s.tags.length+2) s.rows).set ([]++s.tags++[v.n]).length [])) ?_ ?_)
     ·exact (fun j hj=>rows_set (CEnt.nilS _ _) hj)
     refine jU 4005 ?_
     rw [show rdoS v s=⟨([]++s.tags++[v.n]),(padR (s.tags.length+2) s.rows).set (s.tags.length+1) [],s.e⟩ by unfold rdoS;rw [if_neg (by omega),if_pos (by omega)];unfold ropenS;rw [if_neg (by simp [madeM] at h86 ⊢;omega),if_neg (by omega)];rfl]
     exact end_closeRW (.inr rfl) n ⟨([]++s.tags++[v.n]),(padR (s.tags.length+2) s.rows).set (s.tags.length+1) [],s.e⟩ 2 (res_0 rfl) cZ rfl rfl rfl (by exact cZ) (by exact cO (by simp)) (by exact cZ) (by simp) (fun _ _=>by rw [hLl];exact cZ)
    ·refine jze (jebl 1 1 zr3 fun p3=>?_)
     refine jzm (m_appendC rowC_in (l:=[]) rfl rfl rfl rfl (Nat.zero_le _) (fun j hj=>absurd hj (Nat.not_lt_zero j)) (src_rs rfl) rfl (fun j hj=>by simp only [Nat.div_one];exact cZ) Tryz.underlying137 nu137 sz3 zr3 by3 rfl (by (simp;omega)) (by (simp;omega)) (fun j hj=>rfl) rfl rfl (Nat.mul_one _) (fun p4=>?_))
     refine jzm (m_appendC rowC_in (l2:=[v.n]) rfl rfl rfl rfl (by exact Nat.le_of_eq (Nat.mul_one _)) (fun _ _=>cZ) (src_os rfl (.inl rfl) (by decide)) rfl (hh_ints (.cons (cI (rfl)) .nil)) Tryz.underlying137 nu137 sz3 zr3 by3 rfl (by (simp;omega)) (by (simp;omega)) (leaf_flk rfl rfl) rfl rfl (Nat.mul_one _) (fun p5=>?_))
     refine jU 100000009000000 ?_
     refine jzm (jmst 1 ?_)
     refine jU 8700000 ?_
     first
      |(refine jE (freeze 3 rfl) ?_;refine jE (thawC 0 0 3 (rwB ⟨([]++s.tags++[v.n]),padR (s.tags.length+2) s.rows,s.e⟩ 2 g) (fun i _=>inF ([]++s.tags++[v.n]) i) rfl rfl cZ cZ (fun j hj h0=>by rcases j with _|_|_|j <;> first|omega|exact cZ) (by simp) (fun a c ha hc=>by obtain rfl:c=0:=(by omega);rw [Nat.zero_add,Nat.mul_one,Nat.add_zero];exact cZ)) ?_;dsimp only [List.set_cons_zero,List.set_cons_succ,List.cons_append,List.nil_append,List.length_cons,List.length_nil,Nat.zero_add,Nat.reduceAdd])
      |(refine jE (freeze 4 rfl) ?_;refine jE (thawC 0 0 4 (rwB ⟨([]++s.tags++[v.n]),padR (s.tags.length+2) s.rows,s.e⟩ 2 g) (fun i _=>inF ([]++s.tags++[v.n]) i) rfl rfl cZ cZ (fun j hj h0=>by rcases j with _|_|_|j <;> first|omega|exact cZ) (by simp) (fun a c ha hc=>by obtain rfl:c=0:=(by omega);rw [Nat.zero_add,Nat.mul_one,Nat.add_zero];exact cZ)) ?_;dsimp only [List.set_cons_zero,List.set_cons_succ,List.cons_append,List.nil_append,List.length_cons,List.length_nil,Nat.zero_add,Nat.reduceAdd])
     refine jcdB 10 (.rd 0 (.rd 1 (.rd 2 (.rd 3 (.rd 4 (.rd 5 (.rd 6 (.rd 7 (.rd 8 (.rd 9 .done)))))))))) ?_;refine jU 200001000090000050000701000080000005000070 ?_;refine jyq (jri (i:=([]++s.tags++[v.n]).length) (hz:=by (simp only [List.length_append,List.length_cons,List.length_nil];omega))) ?_;refine jyd ?_
     show ASeq _ _ _ _ _ _
     refine jqm (jmstF 1 (rowsF ((padR (s.tags.length+2) s.rows).set ([]++s.tags++[v.n]).length [])) ?_ ?_)
     ·exact (fun j hj=>rows_set (CEnt.nilS _ _) hj)
     refine jU 4005 ?_
     rw [show rdoS v s=⟨([]++s.tags++[v.n]),(padR (s.tags.length+2) s.rows).set (s.tags.length+1) [],s.e⟩ by unfold rdoS;rw [if_neg (by omega),if_pos (by omega)];unfold ropenS;rw [if_neg (by simp [madeM] at h86 ⊢;omega),if_neg (by omega)];rfl]
     exact end_closeRW (.inr rfl) n ⟨([]++s.tags++[v.n]),(padR (s.tags.length+2) s.rows).set (s.tags.length+1) [],s.e⟩ 2 (res_0 rfl) cZ rfl rfl rfl (by exact cZ) (by exact cO (by simp)) (by exact cZ) (by simp) (fun _ _=>by rw [hLl];exact cZ)
   ·refine jze (jebl 1 1 zr3 fun p2=>?_)
    refine jze (jebl 0 1 zr3 fun p3=>?_)
    refine jzm (m_appendC rowC_in (l:=[]) rfl rfl rfl rfl (Nat.zero_le _) (fun j hj=>absurd hj (Nat.not_lt_zero j)) (src_rs rfl) rfl (fun j hj=>by simp only [Nat.div_one];exact cZ) Tryz.underlying137 nu137 sz3 zr3 by3 rfl (by (simp;omega)) (by (simp;omega)) (fun j hj=>rfl) rfl rfl (Nat.mul_one _) (fun p4=>?_))
    refine jzm (m_appendC rowC_in (l2:=[v.n]) rfl rfl rfl rfl (by exact Nat.le_of_eq (Nat.mul_one _)) (fun _ _=>cZ) (src_os rfl (.inl rfl) (by decide)) rfl (hh_ints (.cons (cI (rfl)) .nil)) Tryz.underlying137 nu137 sz3 zr3 by3 rfl (by (simp;omega)) (by (simp;omega)) (leaf_flk rfl rfl) rfl rfl (Nat.mul_one _) (fun p5=>?_))
    refine jU 100000009000000 ?_
    refine jzm (jmst 1 ?_)
    refine jU 8700000 ?_
    first
     |(refine jE (freeze 3 rfl) ?_;refine jE (thawC 0 0 3 (rwB ⟨([]++s.tags++[v.n]),padR (s.tags.length+2) s.rows,s.e⟩ 2 g) (fun i _=>inF ([]++s.tags++[v.n]) i) rfl rfl cZ cZ (fun j hj h0=>by rcases j with _|_|_|j <;> first|omega|exact cZ) (by simp) (fun a c ha hc=>by obtain rfl:c=0:=(by omega);rw [Nat.zero_add,Nat.mul_one,Nat.add_zero];exact cZ)) ?_;dsimp only [List.set_cons_zero,List.set_cons_succ,List.cons_append,List.nil_append,List.length_cons,List.length_nil,Nat.zero_add,Nat.reduceAdd])
     |(refine jE (freeze 4 rfl) ?_;refine jE (thawC 0 0 4 (rwB ⟨([]++s.tags++[v.n]),padR (s.tags.length+2) s.rows,s.e⟩ 2 g) (fun i _=>inF ([]++s.tags++[v.n]) i) rfl rfl cZ cZ (fun j hj h0=>by rcases j with _|_|_|j <;> first|omega|exact cZ) (by simp) (fun a c ha hc=>by obtain rfl:c=0:=(by omega);rw [Nat.zero_add,Nat.mul_one,Nat.add_zero];exact cZ)) ?_;dsimp only [List.set_cons_zero,List.set_cons_succ,List.cons_append,List.nil_append,List.length_cons,List.length_nil,Nat.zero_add,Nat.reduceAdd])
    refine jcdB 10 (.rd 0 (.rd 1 (.rd 2 (.rd 3 (.rd 4 (.rd 5 (.rd 6 (.rd 7 (.rd 8 (.rd 9 .done)))))))))) ?_;refine jU 200001000090000050000701000080000005000070 ?_;refine jyq (jri (i:=([]++s.tags++[v.n]).length) (hz:=by (simp only [List.length_append,List.length_cons,List.length_nil];omega))) ?_;refine jyd ?_
    show ASeq _ _ _ _ _ _
    refine jqm (jmstF 1 (rowsF ((padR (s.tags.length+2) s.rows).set ([]++s.tags++[v.n]).length [])) ?_ ?_)
    ·exact (fun j hj=>rows_set (CEnt.nilS _ _) hj)
    refine jU 4005 ?_
    rw [show rdoS v s=⟨([]++s.tags++[v.n]),(padR (s.tags.length+2) s.rows).set (s.tags.length+1) [],s.e⟩ by unfold rdoS;rw [if_neg (by omega),if_pos (by omega)];unfold ropenS;rw [if_neg (by simp [madeM] at h86 ⊢;omega),if_neg (by omega)];rfl]
    exact end_closeRW (.inr rfl) n ⟨([]++s.tags++[v.n]),(padR (s.tags.length+2) s.rows).set (s.tags.length+1) [],s.e⟩ 2 (res_0 rfl) cZ rfl rfl rfl (by exact cZ) (by exact cO (by simp)) (by exact cZ) (by simp) (fun _ _=>by rw [hLl];exact cZ)
 refine jU 5126 ?_;refine jcc (fun h97=>?_) fun h97=>?_
 rotate_left
 ·refine jU 5126 ?_;refine jcc (fun h114=>?_) fun h114=>?_
  ·refine jU 6050000006 ?_
   refine jqe (jecP (rcheck_ac v.b hvb) ?_)
   refine jU 521675119009001 ?_;refine jcc (fun h116=>?_) fun h116=>?_
   ·refine jU 100040116 ?_
    refine jqm (jmstF 1 (rwB ⟨s.tags,s.rows,(depthM v.b).2⟩ 2 gr) ?_ ?_)
    ·exact (fun j hj=>by rcases j with _|_|_|j <;> exact cZ)
    refine jU 5000300070005 ?_
    rw [show rdoS v s=⟨s.tags,s.rows,(depthM v.b).2⟩ by unfold rdoS;rw [if_neg (by omega),if_neg (by omega),if_neg (by omega),if_pos (by omega),if_pos (by omega)]]
    exact end_closeRW (.inl rfl) n ⟨s.tags,s.rows,(depthM v.b).2⟩ 2 (res_0 rfl) cZ rfl rfl rfl (by exact cZ) (by exact cO rfl) (by exact cZ) (Nat.le_refl _) (fun _ _=>by exact cZ)
   refine jU 1200810 ?_
   refine jqe (jebl 0 1 zr5 fun p2=>?_)
   refine jU 605000000 ?_
   refine jqm (m_appendB (l:=[]) rfl rfl rfl (Nat.zero_le _) (fun j hj=>absurd hj (Nat.not_lt_zero j)) (src_rs rfl) rfl (fun j hj=>by simp only [Nat.div_one];exact cZ) Tryz.underlying22 nu22 sz5 zr5 by5 rfl (by (simp;omega)) (fun j hj=>rfl) rfl rfl (fun p3=>?_))
   refine seq_ent (freeze 3 rfl) ?_;refine seq_ent (thawB 181 ([]++v.b) rfl rfl rfl rfl) ?_;refine seq_ent (closeRW n s 0 2 rfl rfl rfl cZ (cO rfl) cZ (Nat.le_refl _) (fun _ _=>cZ)) ?_
   refine jqm (jmcH 0 (radd08_ac n s ([]++v.b) hs.ok) ?_)
   rintro _ _ ⟨rfl,rfl⟩
   refine ⟨_,_,rfl,cZ,?_⟩
   refine jU 4005 ?_
   rw [show rdoS v s=raddS ([]++v.b) s by unfold rdoS;rw [if_neg (by omega),if_neg (by omega),if_neg (by omega),if_pos (by omega),if_neg (by omega)];rfl]
   exact end_own (.inr rfl) _ [_] [0] (by decide) rfl (res_0 rfl) ⟨rfl,rfl⟩
  refine jcr ?_;refine jq (jrdrA 5) ?_
  refine jqe (jecS (hB (by omega) (by omega) (by omega)) ?_)
  rintro _ _ ⟨⟨bb,rfl,hbb⟩,rfl⟩
  refine jU 5216751119009009001 ?_;refine jcc (fun h123=>?_) fun h123=>?_
  ·refine jU 100040116 ?_
   refine jqm (jmstF 1 (rwB ⟨s.tags,s.rows,(bodyV v).2.2⟩ 2 gr) ?_ ?_)
   ·exact (fun j hj=>by rcases j with _|_|_|j <;> exact cZ)
   refine jU 5000300070005 ?_
   rw [show rdoS v s=⟨s.tags,s.rows,(bodyV v).2.2⟩ by unfold rdoS;rw [if_neg (by omega),if_neg (by omega),if_neg (by omega),if_neg (by omega),if_pos (by omega)]]
   exact end_closeRW (.inl rfl) n ⟨s.tags,s.rows,(bodyV v).2.2⟩ 2 (res_0 rfl) cZ rfl rfl rfl (by exact cZ) (by exact cO rfl) (by exact cZ) (Nat.le_refl _) (fun _ _=>by exact cZ)
  refine jU 810 ?_
  have hb0:bb=(bodyV v).2.1:=hbb (by omega)
  subst hb0
  refine jE (closeRW n s 0 2 rfl rfl rfl cZ (cO rfl) cZ (Nat.le_refl _) (fun _ _=>cZ)) ?_
  dsimp only [List.set_cons_zero,List.set_cons_succ,List.cons_append,List.nil_append,List.length_cons,List.length_nil,Nat.zero_add,Nat.reduceAdd]
  refine jU 111200 ?_
  refine jqm (jmcH 0 (rput08_ac n s (bodyV v).1 (bodyV v).2.1 hs.ok (body_tag v) (bodyV_len hv)) ?_)
  rintro _ _ ⟨rfl,rfl⟩
  refine ⟨_,_,rfl,cZ,?_⟩
  refine jU 4005 ?_
  rw [show rdoS v s=rputS (bodyV v).1 (bodyV v).2.1 s by unfold rdoS;rw [if_neg (by omega),if_neg (by omega),if_neg (by omega),if_neg (by omega),if_neg (by omega)]]
  exact end_own (.inr rfl) _ [_] [0] (by decide) rfl (res_0 rfl) ⟨rfl,rfl⟩
 refine jU 5216751350904016 ?_;refine jcc (fun h99=>?_) fun h99=>?_
 ·refine jU 10004016 ?_
  refine jqm (jmstF 1 (rwB ⟨s.tags,s.rows,24⟩ 2 gr) ?_ ?_)
  ·exact (fun j hj=>by rcases j with _|_|_|j <;> exact cZ)
  refine jU 5000300070005 ?_
  rw [show rdoS v s=⟨s.tags,s.rows,24⟩ by unfold rdoS;rw [if_neg (by omega),if_neg (by omega),if_pos (by omega)];unfold rcloseS;rw [if_pos (by omega)]]
  exact end_closeRW (.inl rfl) n ⟨s.tags,s.rows,24⟩ 2 (res_0 rfl) cZ rfl rfl rfl (by exact cZ) (by exact cO rfl) (by exact cZ) (Nat.le_refl _) (fun _ _=>by exact cZ)
 refine jU 810 ?_
 have hlt:=hs.lt (by omega)
 have hmem:(s.tags.getD (s.tags.length-1) 0) ∈ s.tags:=getD_mem' 0 (by omega)
 have htg:=hs.tag _ hmem
 have hll:=lsF_len (s.tags.getD (s.tags.length-1) 0) (s.rows.getD s.tags.length [])
 refine jU 9150904016751507001501004016 ?_;refine jq (jri (i:=(s.tags.length-1)) (hz:=by omega)) ?_;refine jU 5260 ?_;refine jcc (fun h104=>?_) fun h104=>?_
 rotate_left
 ·refine jU 810 ?_
  first
   | refine jE (weaken 5 (lbC (lsF (s.tags.getD (s.tags.length-1) 0) (s.rows.getD s.tags.length []))) (by unfold lsF;rw [if_pos h104];exact cZ)) ?_
   | refine jE (weaken 5 (lbC (lsF (s.tags.getD (s.tags.length-1) 0) (s.rows.getD s.tags.length []))) (by unfold lsF;rw [if_neg h104];exact cZ)) ?_
  refine jcr ?_
  refine jqe (jebl 0 1 zr5 fun p2=>?_)
  refine jU 2051316751 ?_;refine l_loop (α:=Nat×Option Nat) [6,8,133,134,135,136,137,138,139,140] (fun (i,g)=>[(6,.os 3 g 0 (((lsF (s.tags.getD (s.tags.length-1) 0) (s.rows.getD s.tags.length [])).take i).flatten).length 1),(133,.c (.int .i64 (i:Nat)))]) (fun (i,g)=>[(some n,.blk 3 (rwB s 2 gr)),(p1,.frz 5 (fl [.c (.int .i64 v.kind),.c (.int .i64 v.n),.c (.bool v.is),bsC v.b,strC v.t])),(gr,.blk s.rows.length (rowsF s.rows)),(g,.blk (((lsF (s.tags.getD (s.tags.length-1) 0) (s.rows.getD s.tags.length [])).take i).flatten).length (byF ((lsF (s.tags.getD (s.tags.length-1) 0) (s.rows.getD s.tags.length [])).take i).flatten))]) (fun i=>i.1≤(lsF (s.tags.getD (s.tags.length-1) 0) (s.rows.getD s.tags.length [])).length) (fun i=>(lsF (s.tags.getD (s.tags.length-1) 0) (s.rows.getD s.tags.length [])).length-i.1) ((0,p2)) ?_ (fun _=>rfl) ?_ ?_ ?_
  ·exact Nat.zero_le _
  ·exact .cons (cO rfl) (.cons cZ .nil)
  ·exact .same (.same (.same (.blk rfl (fun j hj=>absurd hj (Nat.not_lt_zero j)) .nil)))
  ·rintro ⟨i,g⟩ (hi:i≤(lsF (s.tags.getD (s.tags.length-1) 0) (s.rows.getD s.tags.length [])).length)
   refine jU 7526 ?_;refine jcc (fun h108=>?_) fun h108=>?_
   ·refine jU 51607006207810 ?_
    have hf1:=sumL_take (ls:=(lsF (s.tags.getD (s.tags.length-1) 0) (s.rows.getD s.tags.length []))) (i:=i) (by omega)
    have hf2:=sumL_le (lsF (s.tags.getD (s.tags.length-1) 0) (s.rows.getD s.tags.length [])) (i+1)
    have hf3:=flat_len ((lsF (s.tags.getD (s.tags.length-1) 0) (s.rows.getD s.tags.length [])).take i)
    refine jU 11200 ?_
    refine jqm (m_appendB rfl rfl rfl (Nat.le_refl _) (fun _ _=>cZ) (src_rs rfl) rfl (fun j hj=>by simp only [Nat.div_one];exact cZ) Tryz.underlying22 nu22 sz5 zr5 by5 rfl (by omega) (fun j hj=>rfl) rfl rfl (fun p3=>?_))
    refine jU 8519200840051 ?_
    refine jlend ((i+1,p3)) ?_ ?_ (h5:=?_) (h7:=?_)
    ·show i+1≤(lsF (s.tags.getD (s.tags.length-1) 0) (s.rows.getD s.tags.length [])).length;omega
    ·show (lsF (s.tags.getD (s.tags.length-1) 0) (s.rows.getD s.tags.length [])).length-(i+1)<(lsF (s.tags.getD (s.tags.length-1) 0) (s.rows.getD s.tags.length [])).length-i;omega
    ·simp only [flat_take (show i<(lsF (s.tags.getD (s.tags.length-1) 0) (s.rows.getD s.tags.length [])).length by omega)]
     exact .cons (cO rfl) (.cons (cI (by omega)) .nil)
    ·simp only [flat_take (show i<(lsF (s.tags.getD (s.tags.length-1) 0) (s.rows.getD s.tags.length [])).length by omega)]
     exact .same (.same (.same (.same .nil)))
   refine jU 84000200020006000 ?_
   have hiE:i=(lsF (s.tags.getD (s.tags.length-1) 0) (s.rows.getD s.tags.length [])).length:=by omega
   subst hiE
   dsimp only
   rw [List.take_length]
   refine jU 9150904016 ?_;refine jq (jri (i:=(s.tags.length-1)) (hz:=by omega)) ?_;refine jU 915090401165160 ?_;refine jq (jrsr (hl:=(bd_none _ _)) (hu:=(bd_some rfl (show _=(((s.tags.length-1):Nat):Int) by omega)))) ?_;refine jU 9040 ?_
   refine jqm (jmstF 1 (rwB ⟨s.tags.take (s.tags.length-1),s.rows,s.e⟩ 2 gr) ?_ ?_)
   ·exact (fun j hj=>by rcases j with _|_|_|j <;> first|exact CEnt.rs (by rw [List.length_take];omega) (fun i q hi hq=>CEnt.of_eq (by rw [Nat.zero_add];exact in_take hi))|exact cZ)
   refine jU 5 ?_;refine jE (freeze 3 rfl) ?_;refine jE (thawB 6 ((lsF (s.tags.getD (s.tags.length-1) 0) (s.rows.getD s.tags.length [])).flatten) rfl rfl rfl rfl) ?_;refine jE (closeRW n ⟨s.tags.take (s.tags.length-1),s.rows,s.e⟩ 0 2 rfl rfl rfl cZ (cO rfl) cZ (Nat.le_refl _) (fun _ _=>cZ)) ?_
   dsimp only [List.set_cons_zero,List.set_cons_succ,List.cons_append,List.nil_append,List.length_cons,List.length_nil,Nat.zero_add,Nat.reduceAdd]
   refine jU 111200 ?_
   refine jqm (jmcH 0 (rput08_ac n ⟨s.tags.take (s.tags.length-1),s.rows,s.e⟩ (s.tags.getD (s.tags.length-1) 0) ((lsF (s.tags.getD (s.tags.length-1) 0) (s.rows.getD s.tags.length [])).flatten) (okRD_tail hs) htg (by rw [flat_len];omega)) ?_)
   rintro _ _ ⟨rfl,rfl⟩
   refine ⟨_,_,rfl,cZ,?_⟩
   refine jU 4005 ?_
   rw [show rdoS v s=rputS (s.tags.getD (s.tags.length-1) 0) ((lsF (s.tags.getD (s.tags.length-1) 0) (s.rows.getD s.tags.length [])).flatten) ⟨s.tags.take (s.tags.length-1),s.rows,s.e⟩ by unfold rdoS;rw [if_neg (by omega),if_neg (by omega),if_pos (by omega)];unfold rcloseS;rw [if_neg (by omega),lsF_body]]
   exact end_own (.inr rfl) _ [_] [0] (by decide) rfl (res_0 rfl) ⟨rfl,rfl⟩
 refine jU 1200 ?_
 refine jqe (jecP (rsorted07_ac (s.rows.getD s.tags.length []) hkk) ?_)
 refine jU 851 ?_
 first
  | refine jE (weaken 5 (lbC (lsF (s.tags.getD (s.tags.length-1) 0) (s.rows.getD s.tags.length []))) (by unfold lsF;rw [if_pos h104];exact cZ)) ?_
  | refine jE (weaken 5 (lbC (lsF (s.tags.getD (s.tags.length-1) 0) (s.rows.getD s.tags.length []))) (by unfold lsF;rw [if_neg h104];exact cZ)) ?_
 refine jcr ?_
 refine jqe (jebl 0 1 zr5 fun p2=>?_)
 refine jU 2051316751 ?_;refine l_loop (α:=Nat×Option Nat) [6,8,133,134,135,136,137,138,139,140] (fun (i,g)=>[(6,.os 3 g 0 (((lsF (s.tags.getD (s.tags.length-1) 0) (s.rows.getD s.tags.length [])).take i).flatten).length 1),(133,.c (.int .i64 (i:Nat)))]) (fun (i,g)=>[(some n,.blk 3 (rwB s 2 gr)),(p1,.frz 5 (fl [.c (.int .i64 v.kind),.c (.int .i64 v.n),.c (.bool v.is),bsC v.b,strC v.t])),(gr,.blk s.rows.length (rowsF s.rows)),(g,.blk (((lsF (s.tags.getD (s.tags.length-1) 0) (s.rows.getD s.tags.length [])).take i).flatten).length (byF ((lsF (s.tags.getD (s.tags.length-1) 0) (s.rows.getD s.tags.length [])).take i).flatten))]) (fun i=>i.1≤(lsF (s.tags.getD (s.tags.length-1) 0) (s.rows.getD s.tags.length [])).length) (fun i=>(lsF (s.tags.getD (s.tags.length-1) 0) (s.rows.getD s.tags.length [])).length-i.1) ((0,p2)) ?_ (fun _=>rfl) ?_ ?_ ?_
 ·exact Nat.zero_le _
 ·exact .cons (cO rfl) (.cons cZ .nil)
 ·exact .same (.same (.same (.blk rfl (fun j hj=>absurd hj (Nat.not_lt_zero j)) .nil)))
 ·rintro ⟨i,g⟩ (hi:i≤(lsF (s.tags.getD (s.tags.length-1) 0) (s.rows.getD s.tags.length [])).length)
  refine jU 7526 ?_;refine jcc (fun h108=>?_) fun h108=>?_
  ·refine jU 51607006207810 ?_
   have hf1:=sumL_take (ls:=(lsF (s.tags.getD (s.tags.length-1) 0) (s.rows.getD s.tags.length []))) (i:=i) (by omega)
   have hf2:=sumL_le (lsF (s.tags.getD (s.tags.length-1) 0) (s.rows.getD s.tags.length [])) (i+1)
   have hf3:=flat_len ((lsF (s.tags.getD (s.tags.length-1) 0) (s.rows.getD s.tags.length [])).take i)
   refine jU 11200 ?_
   refine jqm (m_appendB rfl rfl rfl (Nat.le_refl _) (fun _ _=>cZ) (src_rs rfl) rfl (fun j hj=>by simp only [Nat.div_one];exact cZ) Tryz.underlying22 nu22 sz5 zr5 by5 rfl (by omega) (fun j hj=>rfl) rfl rfl (fun p3=>?_))
   refine jU 8519200840051 ?_
   refine jlend ((i+1,p3)) ?_ ?_ (h5:=?_) (h7:=?_)
   ·show i+1≤(lsF (s.tags.getD (s.tags.length-1) 0) (s.rows.getD s.tags.length [])).length;omega
   ·show (lsF (s.tags.getD (s.tags.length-1) 0) (s.rows.getD s.tags.length [])).length-(i+1)<(lsF (s.tags.getD (s.tags.length-1) 0) (s.rows.getD s.tags.length [])).length-i;omega
   ·simp only [flat_take (show i<(lsF (s.tags.getD (s.tags.length-1) 0) (s.rows.getD s.tags.length [])).length by omega)]
    exact .cons (cO rfl) (.cons (cI (by omega)) .nil)
   ·simp only [flat_take (show i<(lsF (s.tags.getD (s.tags.length-1) 0) (s.rows.getD s.tags.length [])).length by omega)]
    exact .same (.same (.same (.same .nil)))
  refine jU 84000200020006000 ?_
  have hiE:i=(lsF (s.tags.getD (s.tags.length-1) 0) (s.rows.getD s.tags.length [])).length:=by omega
  subst hiE
  dsimp only
  rw [List.take_length]
  refine jU 9150904016 ?_;refine jq (jri (i:=(s.tags.length-1)) (hz:=by omega)) ?_;refine jU 915090401165160 ?_;refine jq (jrsr (hl:=(bd_none _ _)) (hu:=(bd_some rfl (show _=(((s.tags.length-1):Nat):Int) by omega)))) ?_;refine jU 9040 ?_
  refine jqm (jmstF 1 (rwB ⟨s.tags.take (s.tags.length-1),s.rows,s.e⟩ 2 gr) ?_ ?_)
  ·exact (fun j hj=>by rcases j with _|_|_|j <;> first|exact CEnt.rs (by rw [List.length_take];omega) (fun i q hi hq=>CEnt.of_eq (by rw [Nat.zero_add];exact in_take hi))|exact cZ)
  refine jU 5 ?_;refine jE (freeze 3 rfl) ?_;refine jE (thawB 6 ((lsF (s.tags.getD (s.tags.length-1) 0) (s.rows.getD s.tags.length [])).flatten) rfl rfl rfl rfl) ?_;refine jE (closeRW n ⟨s.tags.take (s.tags.length-1),s.rows,s.e⟩ 0 2 rfl rfl rfl cZ (cO rfl) cZ (Nat.le_refl _) (fun _ _=>cZ)) ?_
  dsimp only [List.set_cons_zero,List.set_cons_succ,List.cons_append,List.nil_append,List.length_cons,List.length_nil,Nat.zero_add,Nat.reduceAdd]
  refine jU 111200 ?_
  refine jqm (jmcH 0 (rput08_ac n ⟨s.tags.take (s.tags.length-1),s.rows,s.e⟩ (s.tags.getD (s.tags.length-1) 0) ((lsF (s.tags.getD (s.tags.length-1) 0) (s.rows.getD s.tags.length [])).flatten) (okRD_tail hs) htg (by rw [flat_len];omega)) ?_)
  rintro _ _ ⟨rfl,rfl⟩
  refine ⟨_,_,rfl,cZ,?_⟩
  refine jU 4005 ?_
  rw [show rdoS v s=rputS (s.tags.getD (s.tags.length-1) 0) ((lsF (s.tags.getD (s.tags.length-1) 0) (s.rows.getD s.tags.length [])).flatten) ⟨s.tags.take (s.tags.length-1),s.rows,s.e⟩ by unfold rdoS;rw [if_neg (by omega),if_neg (by omega),if_pos (by omega)];unfold rcloseS;rw [if_neg (by omega),lsF_body]]
  exact end_own (.inr rfl) _ [_] [0] (by decide) rfl (res_0 rfl) ⟨rfl,rfl⟩
end
section
open Go.RowKit Cal
structure SmallV (v:VV):Prop where
 n:-9223372036854775808≤v.n∧v.n≤9223372036854775807
 b:v.b.length≤300
 t:v.t.length≤300
theorem SmallV.ok {v:VV} (h:SmallV v):OkV v:=⟨h.n,by have:=h.b;omega,by have:=h.t;omega⟩
def frW (fr:List (Int×List (List UInt8))):Nat:=(fr.map fun x=>sumL x.2+6).sum
def wtW (s:W8):Nat:=s.d.length+frW s.fr
theorem frW_cons (x:Int×List (List UInt8)) (fr:List (Int×List (List UInt8))):frW (x::fr)=sumL x.2+6+frW fr:=by simp [frW]
theorem sumL_snoc (l:List (List UInt8)) (b:List UInt8):sumL (l++[b])=sumL l+b.length:=by rw [sumL_app];simp [sumL]
theorem putL_len (tag:Int) (b:List UInt8):(putL tag b).length≤b.length+6:=by
 unfold putL
 have:=lenL_bd b.length
 simp only [List.length_cons,List.length_append]
 omega
theorem wt_add (b:List UInt8) (s:W8):wtW (addW b s)=wtW s+b.length:=by
 obtain ⟨fr,d,k⟩:=s
 cases fr with
 | nil=>simp [wtW,addW,frW]
 | cons x fr =>
  show d.length+frW ((x.1,x.2++[b])::fr)=d.length+frW (x::fr)+_
  rw [frW_cons,frW_cons]
  show d.length+(sumL (x.2++[b])+6+frW fr)=_
  rw [sumL_snoc]
  omega
theorem wt_fail (e:Nat) (s:W8):wtW (failW e s)=wtW s:=by unfold failW;split <;> rfl
theorem wt_put (tag:Int) (b:List UInt8) (e:Nat) (s:W8):wtW (putW tag b e s)≤wtW s+b.length+6:=by
 unfold putW
 split
 ·rw [wt_fail];omega
 ·split
  ·show s.d.length+frW s.fr≤_;unfold wtW;omega
  ·rw [wt_add];have:=putL_len tag b;omega
theorem bodyV_small {v:VV} (h:SmallV v):(bodyV v).2.1.length≤300:=by
 have h1:=h.b
 have h2:=h.t
 have h3:=(putN_len v.n h.n.1 h.n.2).2
 have h4:=put_len v.t
 unfold bodyV
 split
 ·show (putN v.n).length≤_;omega
 ·split
  ·show (putN v.n).length≤_;omega
  ·split
   ·show [if v.is then (255:UInt8) else 0].length≤_;simp
   ·split
    ·exact h1
    ·split
     ·show (if askedM v.t v.n=0 then v.t else []).length≤_;split <;> first|omega|simp
     ·split
      ·show (putM v.t).length≤_;omega
      ·split
       ·show (if inT v.n then bodyL (ofM v.n) else []).length≤_
        split
        ·exact Nat.le_trans (Nat.le_of_eq (show (bodyL (ofM v.n)).length=15 from rfl)) (by decide)
        ·simp
       ·show (bitsL v.n).length≤_
        unfold bitsL
        split
        ·simp
        ·rw [flags_len (by omega)]
         have:=(bl_is (m:=v.n.toNat) (by omega)).2
         omega
theorem wt_do {v:VV} (h:SmallV v) (s:W8):wtW (doW v s)≤wtW s+400:=by
 have hb:=h.b
 unfold doW
 split
 ·unfold openW
  split
  ·omega
  ·split
   ·show s.d.length+frW s.fr≤_;unfold wtW;omega
   ·split
    ·show s.d.length+frW s.fr≤_;unfold wtW;omega
    ·show s.d.length+frW _≤_
     rw [frW_cons]
     unfold wtW
     simp [sumL];omega
 ·split
  ·unfold closeV
   split
   ·omega
   ·obtain ⟨fr,d,k⟩:=s
    cases fr with
    | nil=>show d.length+frW []≤d.length+frW []+_;omega
    | cons x fr =>
     have h1:=wt_put x.1 (bodyF x) 0 ⟨fr,d,k⟩
     rw [bodyF_len] at h1
     refine Nat.le_trans h1 ?_
     show d.length+frW fr+_+_≤d.length+frW (x::fr)+_
     rw [frW_cons]
     omega
  ·split
   ·unfold rawW
    split
    ·rw [wt_add];omega
    ·rw [wt_fail];omega
   ·have h1:=wt_put (bodyV v).1 (bodyV v).2.1 (bodyV v).2.2 s
    have h2:=bodyV_small h
    omega
theorem pad_mem {m:Nat} {r:List (List (List UInt8))} {x:List (List UInt8)} (h:x ∈ padR m r):x ∈ r∨x=[]:=by
 unfold padR at h
 rcases List.mem_append.1 h with h|h
 ·exact .inl h
 ·exact .inr (List.eq_of_mem_replicate h)
theorem at_mem (r:List (List (List UInt8))) (j:Nat):r.getD j [] ∈ r∨r.getD j []=[]:=by
 rw [List.getD_eq_getElem?_getD]
 cases e:r[j]? with
 | none=>exact .inr rfl
 | some x=>exact .inl (List.mem_of_getElem? e)
def Grown (r r':R8):Prop:=(r'.rows.length≤max r.rows.length (r'.tags.length+1))∧∀ x ∈ r'.rows,x ∈ r.rows∨x=[]∨∃ y b,(y ∈ r.rows∨y=[])∧x=y++[b]∧x=r'.rows.getD r'.tags.length []
theorem grown_rows {r r':R8} (h:r'.rows=r.rows):Grown r r':=⟨by rw [h];omega,fun x hx=>.inl (h ▸ hx)⟩
theorem grown_add (b:List UInt8) (r:R8):Grown r (raddS b r):=by
 have hp:r.tags.length<(padR (r.tags.length+1) r.rows).length:=by rw [pad_len];omega
 refine ⟨?_,fun x hx=>?_⟩
 ·show (List.set _ _ _).length≤max _ (r.tags.length+1)
  rw [List.length_set,pad_len]
  omega
 ·rcases List.mem_or_eq_of_mem_set hx with h|h
  ·rcases pad_mem h with h|h
   ·exact .inl h
   ·exact .inr (.inl h)
  ·refine .inr (.inr ⟨_,b,?_,h,?_⟩)
   ·rw [pad_get];exact at_mem _ _
   ·show x=List.getD (List.set _ _ _) r.tags.length []
    rw [set_get _ _ _ _ hp,if_pos rfl]
    exact h
theorem grown_put (t:Int) (b:List UInt8) (r:R8):Grown r (rputS t b r):=by
 unfold rputS
 split
 ·exact grown_rows rfl
 ·exact grown_add _ r
theorem grown_do (v:VV) (r:R8):Grown r (rdoS v r):=by
 unfold rdoS
 split
 ·exact grown_rows rfl
 ·split
  ·unfold ropenS
   split
   ·exact grown_rows rfl
   ·split
    ·exact grown_rows rfl
    ·refine ⟨?_,fun x hx=>?_⟩
     ·show (List.set _ _ _).length≤max _ ((r.tags++[v.n]).length+1)
      rw [List.length_set,pad_len,List.length_append,List.length_singleton]
      omega
     ·rcases List.mem_or_eq_of_mem_set hx with h|h
      ·rcases pad_mem h with h|h
       ·exact .inl h
       ·exact .inr (.inl h)
      ·exact .inr (.inl h)
  ·split
   ·unfold rcloseS
    split
    ·exact grown_rows rfl
    ·exact grown_put _ _ ⟨_,r.rows,r.e⟩
   ·split
    ·split
     ·exact grown_rows rfl
     ·exact grown_add _ r
    ·split
     ·exact grown_rows rfl
     ·exact grown_put _ _ r
theorem frW_mem {fr:List (Int×List (List UInt8))} {x:Int×List (List UInt8)} (h:x ∈ fr):sumL x.2≤frW fr:=by
 induction fr with
 | nil=>cases h
 | cons y fr ih =>
  rw [frW_cons]
  rcases List.mem_cons.1 h with rfl|h
  ·omega
  ·have:=ih h;omega
theorem active_sum {r:R8} {s:W8} (h:Same8 r s):sumL (r.rows.getD r.tags.length [])≤wtW s:=by
 have hl:r.tags.length=s.fr.length:=by rw [h.tags];simp
 obtain ⟨fr,d,k⟩:=s
 cases fr with
 | nil =>
  rw [hl]
  show sumL (r.rows.getD 0 [])≤_
  rw [← flat_len,h.row0]
  unfold wtW
  omega
 | cons x fr =>
  have hr:=h.row fr.length (by simp)
  rw [hl]
  show sumL (r.rows.getD (fr.length+1) [])≤_
  rw [hr]
  have e:((x::fr).map Prod.snd).reverse.getD fr.length []=x.2:=by simp [List.getD_eq_getElem?_getD]
  show sumL (((x::fr).map Prod.snd).reverse.getD fr.length [])≤_
  rw [e]
  have:=frW_mem (fr:=x::fr) (x:=x) List.mem_cons_self
  unfold wtW
  show _≤d.length+frW (x::fr)
  omega
structure Inv8 (i:Nat) (r:R8) (s:W8):Prop where
 same:Same8 r s
 w:wtW s≤400 * i
 rows:∀ x ∈ r.rows,x.length≤i∧sumL x≤400 * i
 n:r.rows.length≤18
theorem inv_zero:Inv8 0 ⟨[],[],0⟩ ⟨[],[],0⟩:=⟨same_zero,by decide,fun _ h=>(by cases h),by decide⟩
theorem inv_do {i:Nat} {r:R8} {s:W8} (h:Inv8 i r s) {v:VV} (hv:SmallV v):Inv8 (i+1) (rdoS v r) (doW v s):=by
 have hs:=same_do h.same v
 have hw:=wt_do hv s
 have hg:=grown_do v r
 have h0:=h.w
 have hl:(rdoS v r).tags.length≤16:=by rw [hs.tags];simpa using hs.lim
 refine ⟨hs,by omega,fun x hx=>?_,?_⟩
 ·rcases hg.2 x hx with h1|h1|⟨y,b,h1,h2,h3⟩
  ·have:=h.rows x h1;omega
  ·subst h1;simp [sumL]
  ·have ha:=active_sum hs
   rw [← h3] at ha
   refine ⟨?_,by omega⟩
   rw [h2,List.length_append,List.length_singleton]
   rcases h1 with h1|h1
   ·have:=h.rows y h1;omega
   ·subst h1;simp
 ·have:=hg.1
  have:=h.n
  omega
theorem inv_fail {i:Nat} {r:R8} {s:W8} (h:Inv8 i r s) (e:Nat):Inv8 i ⟨r.tags,r.rows,if r.e=0 then e else r.e⟩ (failW e s):=by
 have hs:=h.same
 refine ⟨?_,by rw [wt_fail];exact h.w,h.rows,h.n⟩
 unfold failW
 rw [hs.e]
 split
 ·exact ⟨hs.tags,rfl,hs.row0,hs.row,hs.len,hs.known,hs.lim⟩
 ·exact ⟨hs.tags,rfl,hs.row0,hs.row,hs.len,hs.known,hs.lim⟩
theorem inv_okW {i:Nat} {r:R8} {s:W8} (h:Inv8 i r s) (hi:i≤1000):OkW s:=by
 have hw:=h.w
 refine ⟨h.same.lim,fun x hx=>?_,by unfold wtW at hw;omega⟩
 obtain ⟨j,hj⟩:=List.mem_iff_getElem?.1 hx
 have hjl:=(List.getElem?_eq_some_iff.1 hj).1
 have hr:=h.same.row (s.fr.length-1-j) (by omega)
 have e:(s.fr.map Prod.snd).reverse.getD (s.fr.length-1-j) []=x.2:=by
  rw [List.getD_eq_getElem?_getD,List.getElem?_reverse (by simp;omega)]
  simp only [List.length_map,List.getElem?_map]
  rw [show s.fr.length-1-(s.fr.length-1-j)=j by omega,hj]
  rfl
 rw [e] at hr
 have hs:=frW_mem hx
 unfold wtW at hw
 refine ⟨?_,by omega⟩
 rcases at_mem r.rows (s.fr.length-1-j+1) with h1|h1
 ·have:=(h.rows _ h1).1
  rw [hr] at this
  omega
 ·rw [hr] at h1
  rw [h1];simp
theorem inv_okR {i:Nat} {r:R8} {s:W8} (h:Inv8 i r s) (hi:i≤1000):OkRD r:=by
 have hl:r.tags.length=s.fr.length:=by rw [h.same.tags];simp
 have hlim:=h.same.lim
 have hn:=h.n
 refine ⟨⟨by omega,by omega,fun x hx=>by have:=h.rows x hx;omega⟩,fun j=>?_,fun x hx=>?_,h.same.len⟩
 ·rcases at_mem r.rows j with h1|h1
  ·have:=h.rows _ h1;omega
  ·rw [h1];simp [sumL]
 ·rw [h.same.tags] at hx
  obtain ⟨y,hy,rfl⟩:=List.mem_map.1 (List.mem_reverse.1 hx)
  exact known_bd (made_known (h.same.known y hy))
end
section
def rdE (l:List (List UInt8)) (k:Nat) (z:Nat×Option Nat):List (Option Nat×Res):=[(some z.1,.blk 2 (fl [.os 1 z.2 0 l.length 1,.err k])),(z.2,.blk l.length (lbF l))]
def rdO (n:Nat) (l:List (List UInt8)) (k:Nat):Option Nat×Res:=objE n (fun z:Nat×Option Nat=>z.1) (rdE l k)
section
variable {P:Program} {G:Gh} {s:AS} {c:Code} {R:Exit→AS→Prop} {n k:Nat} {l:List (List UInt8)}
theorem code_openR0 (i:Nat) (hi:s.H[i]?=some (rdO n l k)) (h:∀ gl,ACode P G c ⟨s.env,s.b,s.H.set i (some n,.blk 2 (fl [.os s.H.length gl 0 l.length 1,.err k]))++[(gl,.blk l.length (lbF l))]⟩ R):ACode P G c s R:=by
 have hlt:=(List.getElem?_eq_some_iff.1 hi).1
 refine code_unpack i hi fun z hz=>?_
 obtain ⟨n',gl⟩:=z
 obtain rfl:n'=n:=hz
 refine jE (weakH i 2 (fl [.os s.H.length gl 0 l.length 1,.err k]) (n:=2) (g:=some n') (f:=fl [.os 1 gl 0 l.length 1,.err k]) ?_ (Nat.le_refl _) fun j hj=>?_) ?_
 ·show (s.H.set i _++_)[i]?=_
  rw [List.getElem?_append_left (by simpa using hlt)]
  simp [hlt]
 ·rcases j with _|_|j
  ·exact cO rfl
  ·exact cZ
  ·omega
 ·have e:(s.H.set i (some n',Res.blk 2 (fl [.os 1 gl 0 l.length 1,.err k]))++[(gl,Res.blk l.length (lbF l))]).set i (some n',.blk 2 (fl [.os s.H.length gl 0 l.length 1,.err k]))=s.H.set i (some n',.blk 2 (fl [.os s.H.length gl 0 l.length 1,.err k]))++[(gl,.blk l.length (lbF l))]:=by
   rw [List.set_append_left _ _ (by simpa using hlt),List.set_set]
  have:=h gl
  rw [← e] at this
  exact this
theorem closeR0 (n k:Nat) (l:List (List UInt8)) (i j:Nat) {gl:Option Nat} {N:Nat} {f F:Nat→CV} (hi:s.H[i]?=some (some n,.blk 2 f)) (hj:s.H[j]?=some (gl,.blk N F)) (hij:Nat.beq i j=false) (h0:CEnt (f 0) (.os 1 gl 0 l.length 1)) (h1:CEnt (f 1) (.err k)) (hN:l.length≤N) (hF:∀ a,a<l.length→CEnt (F a) (lbF l a)) :
  EntS G s ⟨s.env,s.b,(s.H.set i (rdO n l k)).set j (none,.dead)⟩:=by
 have hij:=Nat.ne_of_beq_eq_false hij
 have hil:=(List.getElem?_eq_some_iff.1 hi).1
 have hjl:=(List.getElem?_eq_some_iff.1 hj).1
 refine EntS.hrel fun h=>?_
 have h2:=h.weak (F:=fl [.os 1 gl 0 l.length 1,.err k]) hi (Nat.le_refl _) fun a ha=>by
  rcases a with _|_|a
  ·exact h0
  ·exact h1
  ·omega
 have h3:=h2.weak (i:=j) (F:=lbF l) (by rw [List.getElem?_set_ne hij];exact hj) hN hF
 have h4:=h3.closeN (gd:=fun z:Nat×Option Nat=>z.1) (E:=rdE l k) (n,gl) i [j] (by simp [hij]) (by simp [hil,hjl]) (by
  simp only [pickL,List.map_cons,List.map_nil,List.getD_eq_getElem?_getD]
  rw [List.getElem?_set_ne (Ne.symm hij)]
  simp [hil,hjl,rdE])
 have e:killL (((s.H.set i (some n,Res.blk 2 (fl [CV.os 1 gl 0 l.length 1,CV.err k]))).set j (gl,Res.blk l.length (lbF l))).set i (objE n (fun z:Nat×Option Nat=>z.1) (rdE l k))) [j]=(s.H.set i (rdO n l k)).set j (none,.dead):=by
  show ((((s.H.set i _).set j _).set i _).set j _)=_
  rw [List.set_comm _ _ (Ne.symm hij),List.set_set,List.set_set]
  rfl
 rw [← e]
 exact h4
theorem code_openR {env:List (Nat×CV)} {b0:Nat→CV} {H:List (Option Nat×Res)} (i:Nat) (hi:H[i]?=some (rdO n l k)) (h:∀ gl,ACode P G c ⟨env,b0,H.set i (some n,.blk 2 (fl [.os H.length gl 0 l.length 1,.err k]))++[(gl,.blk l.length (lbF l))]⟩ R):ACode P G c ⟨env,b0,H⟩ R:=code_openR0 i hi h
theorem closeR {env:List (Nat×CV)} {b0:Nat→CV} {H:List (Option Nat×Res)} (n k:Nat) (l:List (List UInt8)) (i j:Nat) {gl:Option Nat} {N:Nat} {f F:Nat→CV} (hi:H[i]?=some (some n,.blk 2 f)) (hj:H[j]?=some (gl,.blk N F)) (hij:Nat.beq i j=false) (h0:CEnt (f 0) (.os 1 gl 0 l.length 1)) (h1:CEnt (f 1) (.err k)) (hN:l.length≤N) (hF:∀ a,a<l.length→CEnt (F a) (lbF l a)) :
  EntS G ⟨env,b0,H⟩ ⟨env,b0,(H.set i (rdO n l k)).set j (none,.dead)⟩:=closeR0 n k l i j hi hj hij h0 h1 hN hF
end
def nowL (l:List (List UInt8)):List UInt8:=l.getD (l.length-1) []
def moreM (l:List (List UInt8)) (k:Nat):Bool:=decide (k=0) && decide (0<(nowL l).length)
theorem now_ac {gs:List Nat} (n:Nat) (l:List (List UInt8)) (k:Nat) (hl:0<l.length∧l.length≤1000000):AC gs Tryz.prog 137 [rdO n l k] [.op 0 (some n) 0] (fun r H'=>r=bsC (nowL l)∧H'=[rdO n l k]):=by
 refine ac_of 15 Tryz.func137 rfl rfl rfl (fun al w0 F0 St0=>?_)
 refine code_openR 0 rfl fun gl=>?_;refine jU 7516 ?_
 skip
 refine jcd (.rd 0 (.rd 1 (.rd 2 (.rd 3 (.rd 4 (.rd 5 (.rd 6 (.rd 7 (.rd 8 (.rd 9 (.rd 10 (.rd 11 (.rd 12 .done))))))))))))) ?_;refine jU 3000020000100009000005000070100009000005000070 ?_;refine jyq (jri (i:=(l.length-1)) (hz:=by omega)) ?_;refine jU 70008807010000 ?_
 exact end_pack (gd:=fun z:Nat×Option Nat=>z.1) (E:=rdE l k) (.inl rfl) _ (n,gl) [0,1] (by decide) rfl (res_1 rfl (arv_tmp rfl)) ⟨rfl,rfl⟩
theorem fail08_ac {gs:List Nat} (n:Nat) (l:List (List UInt8)) (k e:Nat):AC gs Tryz.prog 187 [rdO n l k] [.op 0 (some n) 0,.err e] (fun r H'=>r=.c (.tuple #[])∧H'=[rdO n l (if k=0 then e else k)]):=by
 refine ac_of 13 Tryz.func187 rfl rfl rfl (fun al w0 F0 St0=>?_)
 refine code_openR 0 rfl fun gl=>?_;refine jU 5500000501004016 ?_;refine jcc (fun h161=>?_) fun h161=>?_
 rotate_left
 ·refine jU 10 ?_
  rw [if_neg (by omega)]
  exact end_pack (gd:=fun z:Nat×Option Nat=>z.1) (E:=rdE l k) (.inr rfl) _ (n,gl) [0,1] (by decide) rfl (res_0 rfl) ⟨rfl,rfl⟩
 refine jU 1004011200 ?_
 refine jqm (jmstF 1 (fl [.os 1 gl 0 l.length 1,.err e]) ?_ ?_)
 ·exact (fun j hj=>by rcases j with _|_|j <;> exact cZ)
 refine jU 5 ?_
 rw [if_pos (by omega)]
 exact end_pack (gd:=fun z:Nat×Option Nat=>z.1) (E:=rdE l e) (.inr rfl) _ (n,gl) [0,1] (by decide) rfl (res_0 rfl) ⟨rfl,rfl⟩
theorem err08_ac {gs:List Nat} (n:Nat) (l:List (List UInt8)) (k:Nat):AC gs Tryz.prog 185 [rdO n l k] [.op 0 (some n) 0] (fun r H'=>r=.err k∧H'=[rdO n l k]):=by
 refine ac_of 7 Tryz.func185 rfl rfl rfl (fun al w0 F0 St0=>?_)
 refine code_openR 0 rfl fun gl=>?_;refine jU 516 ?_
 skip
 refine jU 700051501004016 ?_
 exact end_pack (gd:=fun z:Nat×Option Nat=>z.1) (E:=rdE l k) (.inl rfl) _ (n,gl) [0,1] (by decide) rfl (res_1 rfl (arv_tmp rfl)) ⟨rfl,rfl⟩
theorem more_pos {l:List (List UInt8)} {k:Nat} (h:moreM l k=true):k=0∧0<(nowL l).length:=by simpa [moreM] using h
theorem more_ac {gs:List Nat} (n:Nat) (l:List (List UInt8)) (k:Nat) (hl:0<l.length∧l.length≤1000000):AC gs Tryz.prog 193 [rdO n l k] [.op 0 (some n) 0] (fun r H'=>r=.c (.bool (moreM l k))∧H'=[rdO n l k]):=by
 refine ac_of 14 Tryz.func193 rfl rfl rfl (fun al w0 F0 St0=>?_)
 refine code_openR 0 rfl fun gl=>?_;refine jU 516 ?_
 skip
 refine jU 501004016 ?_;refine seq_ent (closeR n k l 0 1 rfl rfl rfl cZ cZ (Nat.le_refl _) (fun _ _=>cZ)) ?_;refine jU 1500000 ?_;refine jqsp 8 (fun g173=>?_) fun g173=>?_
 rotate_left
 ·refine jU 7000515004444 ?_
  exact end_H (.inl rfl) rfl (res_1 rfl (arv_tmp rfl)) (cB (by unfold moreM;(simp [g173];done)))
 refine jU 1 ?_
 refine jqm (jmcH 0 (now_ac n l k hl) ?_)
 rintro _ _ ⟨rfl,rfl⟩
 refine ⟨_,_,rfl,cZ,?_⟩
 refine jU 700051800023 ?_
 exact end_H (.inl rfl) rfl (res_1 rfl (arv_tmp rfl)) (cB (by unfold moreM;(simp [g173];done)))
end
section
variable {gs:List Nat} [Ok9 gs]

structure NR where
 l:List (List UInt8)
 k:Nat
 tag:Nat
 body:List UInt8
 raw:List UInt8
 is:Bool
def nextR (tag:Int) (l:List (List UInt8)) (k:Nat):NR :=
 if k≠0 then ⟨l,k,0,[],[],false⟩ else
 if (nextM (nowL l)).e≠0 then ⟨l,(nextM (nowL l)).e,0,[],[],false⟩ else
 if tag≠0∧((nextM (nowL l)).tag:Int)≠tag then ⟨l,5,0,[],[],false⟩ else
 ⟨l.set (l.length-1) (nextM (nowL l)).rest,0,(nextM (nowL l)).tag,(nextM (nowL l)).body,(nowL l).take ((nowL l).length-(nextM (nowL l)).rest.length),true⟩
theorem lb_set {l:List (List UInt8)} {i:Nat} {x:List UInt8} {j:Nat} (hj:j<l.length):CEnt (updF (lbF l) i [bsC x] j) (lbF (l.set i x) j):=by
 refine CEnt.of_eq ?_
 rw [updF_get]
 simp only [lbF,List.length_singleton,List.getD_eq_getElem?_getD,List.getElem?_set]
 by_cases h:i=j
 ·subst h
  rw [if_pos (by omega),if_pos rfl,if_pos hj,Nat.sub_self]
  rfl
 ·rw [if_neg (by omega),if_neg h]
theorem nextR_ac (n:Nat) (l:List (List UInt8)) (k:Nat) (tag:Int) (hl:0<l.length∧l.length≤1000000) (hb:(nowL l).length≤10000000):AC gs Tryz.prog 138 [rdO n l k] [.op 0 (some n) 0,.c (.int .i64 tag)]
  (fun r H'=>r=.tup 3 (fl [elC (nextR tag l k).tag (nextR tag l k).body,bsC (nextR tag l k).raw,.c (.bool (nextR tag l k).is)])∧H'=[rdO n (nextR tag l k).l (nextR tag l k).k]):=by
 have hnb:=nextM_bd (nowL l)
 refine ac_of 67 Tryz.func138 rfl rfl rfl (fun al w0 F0 St0=>?_)
 refine jcr ?_
 refine jqe (jeal (n:=2) zr199 rfl fun p1=>?_)
 refine jU 7511 ?_;refine code_openR 0 rfl fun gl=>?_;refine jU 5500000501004016 ?_;refine jcc (fun h185=>?_) fun h185=>?_
 ·refine jE (closeR n k l 0 2 rfl rfl rfl (cO rfl) cZ (Nat.le_refl _) (fun _ _=>cZ)) ?_
  dsimp only [List.set_cons_zero,List.set_cons_succ,List.cons_append,List.nil_append,List.length_cons,List.length_nil,Nat.zero_add,Nat.reduceAdd]
  refine jcr ?_;refine jq (rd_build (n:=2) rfl zr199 pl199 rfl rfl) ?_
  refine jqm (jmst 2 ?_)
  refine jU 30007000511 ?_
  have hN:nextR tag l k=⟨l,k,0,[],[],false⟩:=by unfold nextR;rw [if_pos (by omega)]
  rw [hN]
  refine end_H (.inl rfl) rfl (res_3 rfl (javA 2) javt javt) ?_
  exact CEnt.tup3 (CEnt.agg2 cZ cN) cN cZ
 refine jU 810 ?_
 obtain rfl:k=0:=by omega
 refine jE (closeR n 0 l 0 2 rfl rfl rfl (cO rfl) cZ (Nat.le_refl _) (fun _ _=>cZ)) ?_
 dsimp only [List.set_cons_zero,List.set_cons_succ,List.cons_append,List.nil_append,List.length_cons,List.length_nil,Nat.zero_add,Nat.reduceAdd]
 refine jU 16 ?_
 refine jqm (jmcH 0 (now_ac n l 0 hl) ?_)
 rintro _ _ ⟨rfl,rfl⟩
 refine ⟨_,_,rfl,cZ,?_⟩
 refine jqe (jecP (next_ac (nowL l) hb) ?_)
 refine jU 9009009001 ?_
 refine jqe (jeal (n:=2) zr199 rfl fun p3=>?_)
 refine jqm (jmst 2 ?_)
 refine jU 5150000016207511 ?_;refine jcc (fun h190=>?_) fun h190=>?_
 ·refine code_openR 0 rfl fun gl2=>?_;refine jU 1004011200 ?_
  refine jqm (jmstF 1 (fl [.os 4 gl2 0 l.length 1,.err (nextM (nowL l)).e]) ?_ ?_)
  ·exact (fun j hj=>by rcases j with _|_|j <;> exact cZ)
  refine jU 84005 ?_
  first
   | refine jE (closeR n (nextM (nowL l)).e l 0 4 rfl rfl rfl (cO rfl) cZ (Nat.le_refl _) (fun _ _=>cZ)) ?_
   | refine jE (closeR n 5 l 0 4 rfl rfl rfl (cO rfl) cZ (Nat.le_refl _) (fun _ _=>cZ)) ?_
  refine jcr ?_;refine jq (rd_build (n:=2) rfl zr199 pl199 rfl rfl) ?_
  refine jqm (jmst 2 ?_)
  refine jU 7000511 ?_
  first
   |(have hN:nextR tag l 0=⟨l,(nextM (nowL l)).e,0,[],[],false⟩:=by unfold nextR;rw [if_neg (by omega),if_pos (by omega)])
   |(have hN:nextR tag l 0=⟨l,5,0,[],[],false⟩:=by unfold nextR;rw [if_neg (by omega),if_neg (by omega),if_pos (by omega)])
  rw [hN]
  refine end_H (.inl rfl) rfl (res_3 rfl (javA 2) javt javt) ?_
  exact CEnt.tup3 (CEnt.agg2 cZ cN) cN cZ
 refine jU 1216 ?_;refine jqsp 56 (fun g192=>?_) fun g192=>?_
 rotate_left
 ·refine jU 16300515004444 ?_
  refine jqm (jmcH 0 (now_ac n l 0 hl) ?_)
  rintro _ _ ⟨rfl,rfl⟩
  refine ⟨_,_,rfl,cZ,?_⟩
  refine jU 751 ?_;refine code_openR 0 rfl fun gl2=>?_;refine jcdB 12 (.rd 0 (.rd 1 (.rd 2 (.rd 3 (.rd 4 (.rd 5 (.rd 6 (.rd 7 (.rd 8 (.rd 9 (.rd 10 (.rd 11 .done)))))))))))) ?_;refine jU 703000020000100009000005000070100009000005000070 ?_;refine jyq (jri (i:=(l.length-1)) (hz:=by omega)) ?_;refine jyd ?_
  show ASeq _ _ _ _ _ _
  refine jqm (jmstF 1 (lbF (l.set (l.length-1) (nextM (nowL l)).rest)) ?_ ?_)
  ·exact (fun j hj=>lb_set hj)
  refine jU 785 ?_;refine jE (closeR n 0 (l.set (l.length-1) (nextM (nowL l)).rest) 0 4 rfl rfl rfl (cO (by simp)) cZ (by simp) (fun _ _=>cZ)) ?_
  dsimp only [List.set_cons_zero,List.set_cons_succ,List.cons_append,List.nil_append,List.length_cons,List.length_nil,Nat.zero_add,Nat.reduceAdd]
  refine jE (freeze 3 rfl) ?_;refine jE (thawP 7 (m:=2) rfl rfl (by decide)) ?_;refine jcdZ (.rd 0 (.rd 1 (.rd 2 (.rd 3 (.rd 4 (.rd 5 (.rd 6 (.rd 7 (.one 8 (.rd 9 (.rd 10 .done))))))))))) ?_;refine jzq (jrdrA 2) ?_;refine jU 400000400000 ?_;refine jzq jrl ?_;refine jzq jrm ?_;refine jzq jrl ?_;refine jzq jra ?_;refine jzq jrst ?_
  refine jzm (jmst 2 ?_)
  refine jU 3000500070008700000400000400000 ?_
  have hN:nextR tag l 0=⟨l.set (l.length-1) (nextM (nowL l)).rest,0,(nextM (nowL l)).tag,(nextM (nowL l)).body,(nowL l).take ((nowL l).length-(nextM (nowL l)).rest.length),true⟩:=by unfold nextR;rw [if_neg (by omega),if_neg (by omega),if_neg (by omega)]
  rw [hN]
  refine end_H (.inl rfl) rfl (res_3 rfl (javA 2) javt javt) ?_
  exact CEnt.tup3 (CEnt.agg2 cZ cZ) (CEnt.bs (by congr 1;omega)) cZ
 refine jU 518000215090 ?_;refine jcc (fun h192=>?_) fun h192=>?_
 ·refine code_openR 0 rfl fun gl2=>?_;refine jU 1200 ?_;refine jq (jrde 4) ?_;refine jU 10040 ?_
  refine jqm (jmstF 1 (fl [.os 4 gl2 0 l.length 1,.err 5]) ?_ ?_)
  ·exact (fun j hj=>by rcases j with _|_|j <;> exact cZ)
  refine jU 84005 ?_
  first
   | refine jE (closeR n (nextM (nowL l)).e l 0 4 rfl rfl rfl (cO rfl) cZ (Nat.le_refl _) (fun _ _=>cZ)) ?_
   | refine jE (closeR n 5 l 0 4 rfl rfl rfl (cO rfl) cZ (Nat.le_refl _) (fun _ _=>cZ)) ?_
  refine jcr ?_;refine jq (rd_build (n:=2) rfl zr199 pl199 rfl rfl) ?_
  refine jqm (jmst 2 ?_)
  refine jU 7000511 ?_
  first
   |(have hN:nextR tag l 0=⟨l,(nextM (nowL l)).e,0,[],[],false⟩:=by unfold nextR;rw [if_neg (by omega),if_pos (by omega)])
   |(have hN:nextR tag l 0=⟨l,5,0,[],[],false⟩:=by unfold nextR;rw [if_neg (by omega),if_neg (by omega),if_pos (by omega)])
  rw [hN]
  refine end_H (.inl rfl) rfl (res_3 rfl (javA 2) javt javt) ?_
  exact CEnt.tup3 (CEnt.agg2 cZ cN) cN cZ
 refine jU 16 ?_
 refine jqm (jmcH 0 (now_ac n l 0 hl) ?_)
 rintro _ _ ⟨rfl,rfl⟩
 refine ⟨_,_,rfl,cZ,?_⟩
 refine jU 751 ?_;refine code_openR 0 rfl fun gl2=>?_;refine jcdB 12 (.rd 0 (.rd 1 (.rd 2 (.rd 3 (.rd 4 (.rd 5 (.rd 6 (.rd 7 (.rd 8 (.rd 9 (.rd 10 (.rd 11 .done)))))))))))) ?_;refine jU 703000020000100009000005000070100009000005000070 ?_;refine jyq (jri (i:=(l.length-1)) (hz:=by omega)) ?_;refine jyd ?_
 show ASeq _ _ _ _ _ _
 refine jqm (jmstF 1 (lbF (l.set (l.length-1) (nextM (nowL l)).rest)) ?_ ?_)
 ·exact (fun j hj=>lb_set hj)
 refine jU 785 ?_;refine jE (closeR n 0 (l.set (l.length-1) (nextM (nowL l)).rest) 0 4 rfl rfl rfl (cO (by simp)) cZ (by simp) (fun _ _=>cZ)) ?_
 dsimp only [List.set_cons_zero,List.set_cons_succ,List.cons_append,List.nil_append,List.length_cons,List.length_nil,Nat.zero_add,Nat.reduceAdd]
 refine jE (freeze 3 rfl) ?_;refine jE (thawP 7 (m:=2) rfl rfl (by decide)) ?_;refine jcdZ (.rd 0 (.rd 1 (.rd 2 (.rd 3 (.rd 4 (.rd 5 (.rd 6 (.rd 7 (.one 8 (.rd 9 (.rd 10 .done))))))))))) ?_;refine jzq (jrdrA 2) ?_;refine jU 400000400000 ?_;refine jzq jrl ?_;refine jzq jrm ?_;refine jzq jrl ?_;refine jzq jra ?_;refine jzq jrst ?_
 refine jzm (jmst 2 ?_)
 refine jU 3000500070008700000400000400000 ?_
 have hN:nextR tag l 0=⟨l.set (l.length-1) (nextM (nowL l)).rest,0,(nextM (nowL l)).tag,(nextM (nowL l)).body,(nowL l).take ((nowL l).length-(nextM (nowL l)).rest.length),true⟩:=by unfold nextR;rw [if_neg (by omega),if_neg (by omega),if_neg (by omega)]
 rw [hN]
 refine end_H (.inl rfl) rfl (res_3 rfl (javA 2) javt javt) ?_
 exact CEnt.tup3 (CEnt.agg2 cZ cZ) (CEnt.bs (by congr 1;omega)) cZ
end
section
variable {gs:List Nat} [Ok9 gs]

def enterR (tag:Int) (l:List (List UInt8)) (k:Nat):NR :=
 nextR tag l (if moreM l k=true∧madeM tag=false then 5 else k)
def enterL (tag:Int) (l:List (List UInt8)) (k:Nat):List (List UInt8):=if (enterR tag l k).is=true then (enterR tag l k).l++[(enterR tag l k).body] else (enterR tag l k).l
theorem enter_ac (n:Nat) (l:List (List UInt8)) (k:Nat) (tag:Int) (hl:0<l.length∧l.length≤1000000) (hb:(nowL l).length≤10000000):AC gs Tryz.prog 64 [rdO n l k] [.op 0 (some n) 0,.c (.int .i64 tag)]
  (fun r H'=>r=.c (.bool (enterR tag l k).is)∧H'=[rdO n (enterL tag l k) (enterR tag l k).k]):=by
 have hnl:∀ k,0<(nextR tag l k).l.length∧(nextR tag l k).l.length≤1000000:=fun k=>by
  unfold nextR
  split
  ·exact hl
  ·split
   ·exact hl
   ·split
    ·exact hl
    ·simp only [List.length_set];exact hl
 refine ac_of 48 Tryz.func64 rfl rfl rfl (fun al w0 F0 St0=>?_)
 refine jU 7516 ?_;refine code_openR 0 rfl fun gl=>?_;refine jU 501004016 ?_;refine seq_ent (closeR n k l 0 1 rfl rfl rfl (cO rfl) cZ (Nat.le_refl _) (fun _ _=>cZ)) ?_;refine jU 1500000 ?_;refine jqsp 13 (fun g204=>?_) fun g204=>?_
 rotate_left
 ·refine jU 810300550044415004444 ?_
  first
   |(refine jE (closeR n 5 l 0 2 rfl rfl rfl (cO rfl) cZ (Nat.le_refl _) (fun _ _=>cZ)) ?_;refine jE (pick_ent (H':=[rdO n l 5]) [0] (by decide) rfl) ?_;have hE:enterR tag l k=nextR tag l 5:=by unfold enterR;rw [if_pos (by simp_all [moreM,madeM])])
   |(refine jE (pick_ent (H':=[rdO n l k]) [0] (by decide) rfl) ?_;have hE:enterR tag l k=nextR tag l k:=by unfold enterR;rw [if_neg (by simp_all [moreM,madeM])])
  refine jU 116 ?_
  refine jqm (jmcH 0 (nextR_ac n l _ tag hl hb) ?_)
  rintro _ _ ⟨rfl,rfl⟩
  refine ⟨_,_,rfl,cZ,?_⟩
  refine jU 9009009001 ?_
  refine jqe (jeal (n:=2) zr199 rfl fun p2=>?_)
  refine jqm (jmst 2 ?_)
  refine jU 7511 ?_
  rw [← hE]
  have hel:0<(enterR tag l k).l.length∧(enterR tag l k).l.length≤1000000:=by rw [hE];exact hnl _
  refine jU 516 ?_;refine jcc (fun h208=>?_) fun h208=>?_
  rotate_left
  ·refine jU 810 ?_
   first
    |(refine jE (closeR n (enterR tag l k).k ((enterR tag l k).l++[(enterR tag l k).body]) 0 2 rfl rfl rfl (cO (by simp)) cZ (by simp) (fun _ _=>cZ)) ?_;have hL:enterL tag l k=(enterR tag l k).l++[(enterR tag l k).body]:=by unfold enterL;rw [if_pos (by simpa using h208)])
    | have hL:enterL tag l k=(enterR tag l k).l:=by unfold enterL;rw [if_neg (by simpa using h208)]
   refine jU 70005116 ?_
   rw [hL]
   exact end_H (.inl rfl) rfl (res_1 rfl (arv_tmp rfl)) cZ
  refine jE (freeze 1 rfl) ?_;refine jE (thawP 5 (m:=2) rfl rfl (by decide)) ?_
  dsimp only [List.set_cons_zero,List.set_cons_succ,List.cons_append,List.nil_append,List.length_cons,List.length_nil,Nat.zero_add,Nat.reduceAdd]
  refine code_openR 0 rfl fun gl3=>?_;refine jcdZ (.rd 0 (.rd 1 (.rd 2 (.rd 3 (.rd 4 (.rd 5 (.rd 6 (.one 7 (.one 8 (.rd 9 (.rd 10 (.one 11 .done)))))))))))) ?_;refine jU 6000000050000000100000009000000400000400000 ?_;refine jzq jrdr ?_
  refine jze (jebl 1 1 zr22 fun p3=>?_)
  refine jzm (m_appendC (rowC_lb) (l2:=[(enterR tag l k).body]) rfl rfl rfl rfl (by omega) (fun _ _=>cZ) (src_os rfl (.inl rfl) (by decide)) rfl (fun j hj=>by rcases j with _|j <;> first|exact cZ|(exfalso;simp at hj <;> omega)) Tryz.underlying186 nu186 sz22 zr22 by22 rfl (by (simp;omega)) (by (simp;omega)) (leaf_flk rfl rfl) rfl rfl rfl (fun p4=>?_))
  refine jU 100000009000000 ?_
  refine jzm (jmst 1 ?_)
  refine jU 8700000 ?_
  first
   |(refine jE (closeR n (enterR tag l k).k ((enterR tag l k).l++[(enterR tag l k).body]) 0 2 rfl rfl rfl (cO (by simp)) cZ (by simp) (fun _ _=>cZ)) ?_;have hL:enterL tag l k=(enterR tag l k).l++[(enterR tag l k).body]:=by unfold enterL;rw [if_pos (by simpa using h208)])
   | have hL:enterL tag l k=(enterR tag l k).l:=by unfold enterL;rw [if_neg (by simpa using h208)]
  refine jU 70005116 ?_
  rw [hL]
  exact end_H (.inl rfl) rfl (res_1 rfl (arv_tmp rfl)) cZ
 refine jU 1 ?_
 refine jqm (jmcH 0 (now_ac n l k hl) ?_)
 rintro _ _ ⟨rfl,rfl⟩
 refine ⟨_,_,rfl,cZ,?_⟩
 refine jU 1800023 ?_;refine jqsp 19 (fun g204_2=>?_) fun g204_2=>?_
 rotate_left
 ·refine jU 8103005500444 ?_
  first
   |(refine jE (closeR n 5 l 0 2 rfl rfl rfl (cO rfl) cZ (Nat.le_refl _) (fun _ _=>cZ)) ?_;refine jE (pick_ent (H':=[rdO n l 5]) [0] (by decide) rfl) ?_;have hE:enterR tag l k=nextR tag l 5:=by unfold enterR;rw [if_pos (by simp_all [moreM,madeM])])
   |(refine jE (pick_ent (H':=[rdO n l k]) [0] (by decide) rfl) ?_;have hE:enterR tag l k=nextR tag l k:=by unfold enterR;rw [if_neg (by simp_all [moreM,madeM])])
  refine jU 116 ?_
  refine jqm (jmcH 0 (nextR_ac n l _ tag hl hb) ?_)
  rintro _ _ ⟨rfl,rfl⟩
  refine ⟨_,_,rfl,cZ,?_⟩
  refine jU 9009009001 ?_
  refine jqe (jeal (n:=2) zr199 rfl fun p3=>?_)
  refine jqm (jmst 2 ?_)
  refine jU 7511 ?_
  rw [← hE]
  have hel:0<(enterR tag l k).l.length∧(enterR tag l k).l.length≤1000000:=by rw [hE];exact hnl _
  refine jU 516 ?_;refine jcc (fun h208=>?_) fun h208=>?_
  rotate_left
  ·refine jU 810 ?_
   first
    |(refine jE (closeR n (enterR tag l k).k ((enterR tag l k).l++[(enterR tag l k).body]) 0 2 rfl rfl rfl (cO (by simp)) cZ (by simp) (fun _ _=>cZ)) ?_;have hL:enterL tag l k=(enterR tag l k).l++[(enterR tag l k).body]:=by unfold enterL;rw [if_pos (by simpa using h208)])
    | have hL:enterL tag l k=(enterR tag l k).l:=by unfold enterL;rw [if_neg (by simpa using h208)]
   refine jU 70005116 ?_
   rw [hL]
   exact end_H (.inl rfl) rfl (res_1 rfl (arv_tmp rfl)) cZ
  refine jE (freeze 1 rfl) ?_;refine jE (thawP 5 (m:=2) rfl rfl (by decide)) ?_
  dsimp only [List.set_cons_zero,List.set_cons_succ,List.cons_append,List.nil_append,List.length_cons,List.length_nil,Nat.zero_add,Nat.reduceAdd]
  refine code_openR 0 rfl fun gl3=>?_;refine jcdZ (.rd 0 (.rd 1 (.rd 2 (.rd 3 (.rd 4 (.rd 5 (.rd 6 (.one 7 (.one 8 (.rd 9 (.rd 10 (.one 11 .done)))))))))))) ?_;refine jU 6000000050000000100000009000000400000400000 ?_;refine jzq jrdr ?_
  refine jze (jebl 1 1 zr22 fun p4=>?_)
  refine jzm (m_appendC (rowC_lb) (l2:=[(enterR tag l k).body]) rfl rfl rfl rfl (by omega) (fun _ _=>cZ) (src_os rfl (.inl rfl) (by decide)) rfl (fun j hj=>by rcases j with _|j <;> first|exact cZ|(exfalso;simp at hj <;> omega)) Tryz.underlying186 nu186 sz22 zr22 by22 rfl (by (simp;omega)) (by (simp;omega)) (leaf_flk rfl rfl) rfl rfl rfl (fun p5=>?_))
  refine jU 100000009000000 ?_
  refine jzm (jmst 1 ?_)
  refine jU 8700000 ?_
  first
   |(refine jE (closeR n (enterR tag l k).k ((enterR tag l k).l++[(enterR tag l k).body]) 0 2 rfl rfl rfl (cO (by simp)) cZ (by simp) (fun _ _=>cZ)) ?_;have hL:enterL tag l k=(enterR tag l k).l++[(enterR tag l k).body]:=by unfold enterL;rw [if_pos (by simpa using h208)])
   | have hL:enterL tag l k=(enterR tag l k).l:=by unfold enterL;rw [if_neg (by simpa using h208)]
  refine jU 70005116 ?_
  rw [hL]
  exact end_H (.inl rfl) rfl (res_1 rfl (arv_tmp rfl)) cZ
 refine jU 1 ?_
 refine jqe (jecP (made_ac _) ?_)
 refine jU 5800030 ?_;refine jcc (fun h204=>?_) fun h204=>?_
 rotate_left
 ·refine jU 810 ?_
  first
   |(refine jE (closeR n 5 l 0 2 rfl rfl rfl (cO rfl) cZ (Nat.le_refl _) (fun _ _=>cZ)) ?_;refine jE (pick_ent (H':=[rdO n l 5]) [0] (by decide) rfl) ?_;have hE:enterR tag l k=nextR tag l 5:=by unfold enterR;rw [if_pos (by simp_all [moreM,madeM])])
   |(refine jE (pick_ent (H':=[rdO n l k]) [0] (by decide) rfl) ?_;have hE:enterR tag l k=nextR tag l k:=by unfold enterR;rw [if_neg (by simp_all [moreM,madeM])])
  refine jU 116 ?_
  refine jqm (jmcH 0 (nextR_ac n l _ tag hl hb) ?_)
  rintro _ _ ⟨rfl,rfl⟩
  refine ⟨_,_,rfl,cZ,?_⟩
  refine jU 9009009001 ?_
  refine jqe (jeal (n:=2) zr199 rfl fun p3=>?_)
  refine jqm (jmst 2 ?_)
  refine jU 7511 ?_
  rw [← hE]
  have hel:0<(enterR tag l k).l.length∧(enterR tag l k).l.length≤1000000:=by rw [hE];exact hnl _
  refine jU 516 ?_;refine jcc (fun h208=>?_) fun h208=>?_
  rotate_left
  ·refine jU 810 ?_
   first
    |(refine jE (closeR n (enterR tag l k).k ((enterR tag l k).l++[(enterR tag l k).body]) 0 2 rfl rfl rfl (cO (by simp)) cZ (by simp) (fun _ _=>cZ)) ?_;have hL:enterL tag l k=(enterR tag l k).l++[(enterR tag l k).body]:=by unfold enterL;rw [if_pos (by simpa using h208)])
    | have hL:enterL tag l k=(enterR tag l k).l:=by unfold enterL;rw [if_neg (by simpa using h208)]
   refine jU 70005116 ?_
   rw [hL]
   exact end_H (.inl rfl) rfl (res_1 rfl (arv_tmp rfl)) cZ
  refine jE (freeze 1 rfl) ?_;refine jE (thawP 5 (m:=2) rfl rfl (by decide)) ?_
  dsimp only [List.set_cons_zero,List.set_cons_succ,List.cons_append,List.nil_append,List.length_cons,List.length_nil,Nat.zero_add,Nat.reduceAdd]
  refine code_openR 0 rfl fun gl3=>?_;refine jcdZ (.rd 0 (.rd 1 (.rd 2 (.rd 3 (.rd 4 (.rd 5 (.rd 6 (.one 7 (.one 8 (.rd 9 (.rd 10 (.one 11 .done)))))))))))) ?_;refine jU 6000000050000000100000009000000400000400000 ?_;refine jzq jrdr ?_
  refine jze (jebl 1 1 zr22 fun p4=>?_)
  refine jzm (m_appendC (rowC_lb) (l2:=[(enterR tag l k).body]) rfl rfl rfl rfl (by omega) (fun _ _=>cZ) (src_os rfl (.inl rfl) (by decide)) rfl (fun j hj=>by rcases j with _|j <;> first|exact cZ|(exfalso;simp at hj <;> omega)) Tryz.underlying186 nu186 sz22 zr22 by22 rfl (by (simp;omega)) (by (simp;omega)) (leaf_flk rfl rfl) rfl rfl rfl (fun p5=>?_))
  refine jU 100000009000000 ?_
  refine jzm (jmst 1 ?_)
  refine jU 8700000 ?_
  first
   |(refine jE (closeR n (enterR tag l k).k ((enterR tag l k).l++[(enterR tag l k).body]) 0 2 rfl rfl rfl (cO (by simp)) cZ (by simp) (fun _ _=>cZ)) ?_;have hL:enterL tag l k=(enterR tag l k).l++[(enterR tag l k).body]:=by unfold enterL;rw [if_pos (by simpa using h208)])
   | have hL:enterL tag l k=(enterR tag l k).l:=by unfold enterL;rw [if_neg (by simpa using h208)]
  refine jU 70005116 ?_
  rw [hL]
  exact end_H (.inl rfl) rfl (res_1 rfl (arv_tmp rfl)) cZ
 refine code_openR 0 rfl fun gl2=>?_;refine jU 1200 ?_;refine jq (jrde 4) ?_;refine jU 10040 ?_
 refine jqm (jmstF 1 (fl [.os 2 gl2 0 l.length 1,.err 5]) ?_ ?_)
 ·exact (fun j hj=>by rcases j with _|_|j <;> exact cZ)
 refine jU 85 ?_
 first
  |(refine jE (closeR n 5 l 0 2 rfl rfl rfl (cO rfl) cZ (Nat.le_refl _) (fun _ _=>cZ)) ?_;refine jE (pick_ent (H':=[rdO n l 5]) [0] (by decide) rfl) ?_;have hE:enterR tag l k=nextR tag l 5:=by unfold enterR;rw [if_pos (by simp_all [moreM,madeM])])
  |(refine jE (pick_ent (H':=[rdO n l k]) [0] (by decide) rfl) ?_;have hE:enterR tag l k=nextR tag l k:=by unfold enterR;rw [if_neg (by simp_all [moreM,madeM])])
 refine jU 116 ?_
 refine jqm (jmcH 0 (nextR_ac n l _ tag hl hb) ?_)
 rintro _ _ ⟨rfl,rfl⟩
 refine ⟨_,_,rfl,cZ,?_⟩
 refine jU 9009009001 ?_
 refine jqe (jeal (n:=2) zr199 rfl fun p3=>?_)
 refine jqm (jmst 2 ?_)
 refine jU 7511 ?_
 rw [← hE]
 have hel:0<(enterR tag l k).l.length∧(enterR tag l k).l.length≤1000000:=by rw [hE];exact hnl _
 refine jU 516 ?_;refine jcc (fun h208=>?_) fun h208=>?_
 rotate_left
 ·refine jU 810 ?_
  first
   |(refine jE (closeR n (enterR tag l k).k ((enterR tag l k).l++[(enterR tag l k).body]) 0 2 rfl rfl rfl (cO (by simp)) cZ (by simp) (fun _ _=>cZ)) ?_;have hL:enterL tag l k=(enterR tag l k).l++[(enterR tag l k).body]:=by unfold enterL;rw [if_pos (by simpa using h208)])
   | have hL:enterL tag l k=(enterR tag l k).l:=by unfold enterL;rw [if_neg (by simpa using h208)]
  refine jU 70005116 ?_
  rw [hL]
  exact end_H (.inl rfl) rfl (res_1 rfl (arv_tmp rfl)) cZ
 refine jE (freeze 1 rfl) ?_;refine jE (thawP 5 (m:=2) rfl rfl (by decide)) ?_
 dsimp only [List.set_cons_zero,List.set_cons_succ,List.cons_append,List.nil_append,List.length_cons,List.length_nil,Nat.zero_add,Nat.reduceAdd]
 refine code_openR 0 rfl fun gl3=>?_;refine jcdZ (.rd 0 (.rd 1 (.rd 2 (.rd 3 (.rd 4 (.rd 5 (.rd 6 (.one 7 (.one 8 (.rd 9 (.rd 10 (.one 11 .done)))))))))))) ?_;refine jU 6000000050000000100000009000000400000400000 ?_;refine jzq jrdr ?_
 refine jze (jebl 1 1 zr22 fun p4=>?_)
 refine jzm (m_appendC (rowC_lb) (l2:=[(enterR tag l k).body]) rfl rfl rfl rfl (by omega) (fun _ _=>cZ) (src_os rfl (.inl rfl) (by decide)) rfl (fun j hj=>by rcases j with _|j <;> first|exact cZ|(exfalso;simp at hj <;> omega)) Tryz.underlying186 nu186 sz22 zr22 by22 rfl (by (simp;omega)) (by (simp;omega)) (leaf_flk rfl rfl) rfl rfl rfl (fun p5=>?_))
 refine jU 100000009000000 ?_
 refine jzm (jmst 1 ?_)
 refine jU 8700000 ?_
 first
  |(refine jE (closeR n (enterR tag l k).k ((enterR tag l k).l++[(enterR tag l k).body]) 0 2 rfl rfl rfl (cO (by simp)) cZ (by simp) (fun _ _=>cZ)) ?_;have hL:enterL tag l k=(enterR tag l k).l++[(enterR tag l k).body]:=by unfold enterL;rw [if_pos (by simpa using h208)])
  | have hL:enterL tag l k=(enterR tag l k).l:=by unfold enterL;rw [if_neg (by simpa using h208)]
 refine jU 70005116 ?_
 rw [hL]
 exact end_H (.inl rfl) rfl (res_1 rfl (arv_tmp rfl)) cZ
def leaveK (l:List (List UInt8)) (k:Nat):Nat:=if k≠0 then k else if l.length=1 then 24 else if 0<(nowL l).length then 4 else 0
def leaveL (l:List (List UInt8)) (k:Nat):List (List UInt8):=if leaveK l k=0 then l.take (l.length-1) else l
theorem lbF_take {l:List (List UInt8)} {m j:Nat} (h:j<m):CEnt (lbF l j) (lbF (l.take m) j):=by
 refine CEnt.of_eq ?_
 simp [lbF,List.getD_eq_getElem?_getD,h]
theorem leave_ac (n:Nat) (l:List (List UInt8)) (k:Nat) (hl:0<l.length∧l.length≤1000000):AC gs Tryz.prog 67 [rdO n l k] [.op 0 (some n) 0]
  (fun r H'=>r=.c (.tuple #[])∧H'=[rdO n (leaveL l k) (leaveK l k)]):=by
 have stay:∀ {e},leaveK l k=e→e≠0→leaveL l k=l:=fun h h0=>by unfold leaveL;rw [h,if_neg h0]
 refine ac_of 45 Tryz.func67 rfl rfl rfl (fun al w0 F0 St0=>?_)
 refine code_openR 0 rfl fun gl=>?_;refine jU 5150000050100401620519350904016 ?_;refine jcc (fun h218=>?_) fun h218=>?_
 ·refine jU 40010 ?_
  have e:leaveK l k=k:=by unfold leaveK;rw [if_pos (by omega)]
  rw [stay e (by omega),e]
  exact end_pack (gd:=fun z:Nat×Option Nat=>z.1) (E:=rdE l k) (.inr rfl) _ (n,gl) [0,1] (by decide) rfl (res_0 rfl) ⟨rfl,rfl⟩
 refine jU 51216 ?_;refine jcc (fun h219=>?_) fun h219=>?_
 ·refine jU 1200 ?_;refine jq (jrde 23) ?_;refine jU 10040 ?_
  refine jqm (jmstF 1 (fl [.os 1 gl 0 l.length 1,.err 24]) ?_ ?_)
  ·exact (fun j hj=>by rcases j with _|_|j <;> exact cZ)
  refine jU 4005 ?_
  have e:leaveK l k=24:=by unfold leaveK;rw [if_neg (by omega),if_pos (by omega)]
  rw [stay e (by omega),e]
  exact end_pack (gd:=fun z:Nat×Option Nat=>z.1) (E:=rdE l 24) (.inr rfl) _ (n,gl) [0,1] (by decide) rfl (res_0 rfl) ⟨rfl,rfl⟩
 refine jU 150904016 ?_;refine jq (jri (i:=(l.length-1)) (hz:=by omega)) ?_;refine jU 512350 ?_;refine jcc (fun h221=>?_) fun h221=>?_
 ·refine jU 1200 ?_;refine jq (jrde 3) ?_;refine jU 10040 ?_
  refine jqm (jmstF 1 (fl [.os 1 gl 0 l.length 1,.err 4]) ?_ ?_)
  ·exact (fun j hj=>by rcases j with _|_|j <;> exact cZ)
  refine jU 4005 ?_
  have e:leaveK l k=4:=by unfold leaveK;rw [if_neg (by omega),if_neg (by omega),if_pos (by unfold nowL;omega)]
  rw [stay e (by omega),e]
  exact end_pack (gd:=fun z:Nat×Option Nat=>z.1) (E:=rdE l 4) (.inr rfl) _ (n,gl) [0,1] (by decide) rfl (res_0 rfl) ⟨rfl,rfl⟩
 refine jU 150904011200 ?_;refine jq jrso ?_;refine jU 9040 ?_
 have hk0:k=0:=by omega
 refine seq_ent (weakH 1 (l.length-1) (lbF (l.take (l.length-1))) rfl (by omega) (fun j hj=>lbF_take hj)) ?_
 refine jqm (jmstF 1 (fl [.os 1 gl 0 (l.length-1) 1,.err 0]) ?_ ?_)
 ·exact (fun j hj=>by rcases j with _|_|j <;> first|exact cZ|exact cO (by omega)|exact CEnt.err hk0)
 refine jU 4005 ?_
 have e:leaveK l k=0:=by unfold leaveK;rw [if_neg (by omega),if_neg (by omega),if_neg (by unfold nowL;omega)]
 have e2:leaveL l k=l.take (l.length-1):=by unfold leaveL;rw [if_pos e]
 have e3:(l.take (l.length-1)).length=l.length-1:=by rw [List.length_take];omega
 rw [e2,e]
 exact end_pack (gd:=fun z:Nat×Option Nat=>z.1) (E:=rdE (l.take (l.length-1)) 0) (.inr rfl) _ (n,gl) [0,1] (by decide) (by unfold rdE;rw [e3];rfl) (res_0 rfl) ⟨rfl,rfl⟩
def endK (l:List (List UInt8)) (k:Nat):Nat:=if k≠0 then k else if 1<l.length then 24 else if 0<(l.getD 0 []).length then 4 else 0
theorem end08_ac (n:Nat) (l:List (List UInt8)) (k:Nat) (hl:0<l.length∧l.length≤1000000):AC gs Tryz.prog 68 [rdO n l k] [.op 0 (some n) 0]
  (fun r H'=>r=.err (endK l k)∧H'=[rdO n l k]):=by
 refine ac_of 31 Tryz.func68 rfl rfl rfl (fun al w0 F0 St0=>?_)
 refine jU 207516 ?_;refine code_openR 0 rfl fun gl=>?_;refine jU 51500000501004016 ?_;refine jcc (fun h292=>?_) fun h292=>?_
 ·refine jU 30005000700051501004016 ?_
  exact end_packV (gd:=fun z:Nat×Option Nat=>z.1) (E:=rdE l k) (.inl rfl) (n,gl) [0,1] (by decide) rfl (res_1 rfl (arv_tmp rfl)) (CEnt.err (by unfold endK;rw [if_pos (by omega)]))
 refine jU 512350904016 ?_;refine jcc (fun h294=>?_) fun h294=>?_
 ·refine jcr ?_;refine jq (jrde 23) ?_;refine jU 30005000700051 ?_
  exact end_packV (gd:=fun z:Nat×Option Nat=>z.1) (E:=rdE l k) (.inl rfl) (n,gl) [0,1] (by decide) rfl (res_1 rfl (arv_tmp rfl)) (CEnt.err (by unfold endK;rw [if_neg (by omega),if_pos (by omega)]))
 refine jU 512350200000050904016 ?_;refine jcc (fun h296=>?_) fun h296=>?_
 ·refine jcr ?_;refine jq (jrde 3) ?_;refine jU 30005000700051 ?_
  exact end_packV (gd:=fun z:Nat×Option Nat=>z.1) (E:=rdE l k) (.inl rfl) (n,gl) [0,1] (by decide) rfl (res_1 rfl (arv_tmp rfl)) (CEnt.err (by unfold endK;rw [if_neg (by omega),if_neg (by omega),if_pos (by omega)]))
 refine jU 7000516840010 ?_
 have e:endK l k=0:=by unfold endK;rw [if_neg (by omega),if_neg (by omega),if_neg (by omega)]
 rw [e]
 exact end_packV (gd:=fun z:Nat×Option Nat=>z.1) (E:=rdE l k) (.inl rfl) (n,gl) [0,1] (by decide) rfl (res_1 rfl (arv_tmp rfl)) CEnt.nil
end
section
variable {gs:List Nat} [Ok9 gs]

theorem nextR_is {tag:Int} {l:List (List UInt8)} {k:Nat} (h:(nextR tag l k).is=true):(nextR tag l k).k=0∧(nextR tag l k).body.length≤65530:=by
 have hb:=nextM_bd (nowL l)
 unfold nextR at h ⊢
 split
 ·rename_i h1;rw [if_pos h1] at h;cases h
 ·rename_i h1;rw [if_neg h1] at h
  split
  ·rename_i h2;rw [if_pos h2] at h;cases h
  ·rename_i h2;rw [if_neg h2] at h
   split
   ·rename_i h3;rw [if_pos h3] at h;cases h
   ·exact ⟨rfl,hb.2.2.1⟩
def valK (tag:Int) (l:List (List UInt8)) (k:Nat) (e:List UInt8→Nat):Nat:=if (nextR tag l k).is=true then e (nextR tag l k).body else (nextR tag l k).k
theorem nextR_len {tag:Int} {l:List (List UInt8)} {k:Nat}:(nextR tag l k).l.length=l.length:=by
 unfold nextR
 split
 ·rfl
 ·split
  ·rfl
  ·split
   ·rfl
   ·simp
theorem valueI_ac {gs:List Nat} [Ok9 gs] {f:FuncId} {m:Nat} {fv:Nat→CV} (hc:calleeB Tryz.prog f=true) (n:Nat) (l:List (List UInt8)) (k:Nat) (tag:Int) (get:List UInt8→Int×Nat) (hl:0<l.length∧l.length≤1000000) (hb:(nowL l).length≤10000000) (hp:∀ b:List UInt8,b.length≤65530→ACp gs Tryz.prog f (bsC b::(List.range m).map fv) (.tup 2 (fl [.c (.int .i64 (get b).1),.err (get b).2]))) :
  AC gs Tryz.prog 182 [rdO n l k] [.op 0 (some n) 0,.c (.int .i64 tag),.fn f m fv]
   (fun r H'=>r=.c (.int .i64 (if (nextR tag l k).is=true∧(get (nextR tag l k).body).2=0 then (get (nextR tag l k).body).1 else 0))∧H'=[rdO n (nextR tag l k).l (valK tag l k fun b=>(get b).2)]):=by
 have hln:(nextR tag l k).l.length=l.length:=nextR_len
 refine ac_of 38 Tryz.func182 rfl rfl rfl (fun al w0 F0 St0=>?_)
 refine jU 116516516 ?_
 refine jqm (jmcH 0 (nextR_ac n l k tag hl hb) ?_)
 rintro _ _ ⟨rfl,rfl⟩
 refine ⟨_,_,rfl,cZ,?_⟩
 refine jU 9009009001 ?_
 refine jqe (jeal (n:=2) zr199 rfl fun p2=>?_)
 refine jqm (jmst 2 ?_)
 refine jU 530167511 ?_;refine jcc (fun h232=>?_) fun h232=>?_
 ·refine jU 300070005116 ?_
  rw [if_neg (by simp_all)]
  have e:(valK tag l k fun b=>(get b).2)=(nextR tag l k).k:=by unfold valK;rw [if_neg (by simpa using h232)]
  rw [e]
  exact end_H (.inl rfl) rfl (res_1 rfl (arv_tmp rfl)) cZ
 refine jU 810 ?_
 have his:=nextR_is (by simpa using h232)
 refine jU 5010016 ?_
 refine jqe (e_callV rfl rfl (by assumption) (hp (nextR tag l k).body his.2) (entL_fn cZ _) rfl rfl ?_)
 rintro _ _ ⟨rfl,rfl⟩
 refine jU 55000001675119009001 ?_;refine jcc (fun h236=>?_) fun h236=>?_
 rotate_left
 ·refine jU 70005116810 ?_
  have h0:(get (nextR tag l k).body).2=0:=by omega
  rw [if_pos ⟨by simpa using h232,h0⟩]
  have e:(valK tag l k fun b=>(get b).2)=(nextR tag l k).k:=by unfold valK;rw [if_pos (by simpa using h232),his.1];exact h0
  rw [e]
  exact end_H (.inl rfl) rfl (res_1 rfl (arv_tmp rfl)) cZ
 refine code_openR 0 rfl fun gl=>?_;refine jU 10040116 ?_
 refine jqm (jmst 1 ?_)
 refine jU 5 ?_;refine jE (closeR n (get (nextR tag l k).body).2 (nextR tag l k).l 0 2 rfl rfl rfl (cO rfl) cZ (Nat.le_refl _) (fun _ _=>cZ)) ?_;refine jU 300070005116 ?_
 rw [if_neg (by omega)]
 have e:(valK tag l k fun b=>(get b).2)=(get (nextR tag l k).body).2:=by unfold valK;rw [if_pos (by simpa using h232)]
 rw [e]
 exact end_H (.inl rfl) rfl (res_1 rfl (arv_tmp rfl)) cZ
theorem CEnt.fn2' {k:FuncId} {f g:Nat→CV} (h0:CEnt (f 0) (g 0)) (h1:CEnt (f 1) (g 1)):CEnt (.fn k 2 f) (.fn k 2 g):=fun al St w v ⟨cs,k1,k2,k3⟩=>⟨cs,k1,k2,fun i hi=>by
 rcases i with _|_|i
 ·exact h0 _ _ _ _ (k3 0 (by omega))
 ·exact h1 _ _ _ _ (k3 1 (by omega))
 ·omega⟩
theorem int_box {z:Int}:∀ j,j<1→CEnt (fl [CV.c (.int .i64 z)] (0+j)) (CV.c (.int .i64 z)):=fun j hj=>by
 obtain rfl:j=0:=by omega
 exact cZ
def twoF (a b:Int):Nat→CV:=fl [.rp 1 fun _=>.c (.int .i64 a),.rp 1 fun _=>.c (.int .i64 b)]
theorem intG_ac (least most:Int) (b:List UInt8):ACp gs Tryz.prog 183 (bsC b::(List.range 2).map (twoF least most)) (.tup 2 (fl [.c (.int .i64 (rangeM b least most).1),.err (rangeM b least most).2])):=by
 refine ac_of 12 Tryz.func183 rfl rfl rfl (fun al w0 F0 St0=>?_)
 refine jU 6060165116 ?_
 refine jqe (jecP (wrange_ac b least most) ?_)
 refine jU 511900900 ?_
 refine jR jrt
theorem int08_ac (n:Nat) (l:List (List UInt8)) (k:Nat) (least most:Int) (hl:0<l.length∧l.length≤1000000) (hb:(nowL l).length≤10000000) :
  AC gs Tryz.prog 114 [rdO n l k] [.op 0 (some n) 0,.c (.int .i64 least),.c (.int .i64 most)]
   (fun r H'=>r=.c (.int .i64 (if (nextR 2 l k).is=true∧(rangeM (nextR 2 l k).body least most).2=0 then (rangeM (nextR 2 l k).body least most).1 else 0))∧H'=[rdO n (nextR 2 l k).l (valK 2 l k fun b=>(rangeM b least most).2)]):=by
 refine ac_of 10 Tryz.func114 rfl rfl rfl (fun al w0 F0 St0=>?_)
 refine jcr ?_
 refine jqe (jebx 1 fun p1=>?_)
 refine jqe (jebx 1 fun p2=>?_)
 refine jU 51 ?_;refine jE (freeze 1 rfl) ?_;refine jE (freeze 2 rfl) ?_;refine jE (thawP 4 (m:=1) rfl rfl (by decide)) ?_;refine jE (thawP 5 (m:=1) rfl rfl (by decide)) ?_;refine jU 16 ?_;refine jq jrmf ?_
 refine jqm (jmcH 0 (valueI_ac (fv:=twoF least most) (by kernel_rfl) n l k 2 (fun b=>rangeM b least most) hl hb (fun b _=>intG_ac least most b)) ?_ (ho:=rfl) (he:=(.cons (se rfl cP) (.cons (se rfl cZ) (.cons (se rfl (CEnt.fn2' (CEnt.rp int_box) (CEnt.rp int_box))) .nil)))))
 rintro _ _ ⟨rfl,rfl⟩
 refine ⟨_,_,rfl,cZ,?_⟩
 refine jU 700051 ?_
 exact end_H (.inl rfl) rfl (res_1 rfl (arv_tmp rfl)) cZ
end
section
variable {gs:List Nat} [Ok9 gs]

theorem read08_ac (b:List UInt8) (hb:b.length≤10000000):AC gs Tryz.prog 63 [] [bsC b] (fun r H'=>∃ n,r=.op 0 (some n) 0∧H'=[rdO n [b] (depthM b).2]):=by
 refine ac_of 10 Tryz.func63 rfl rfl rfl (fun al w0 F0 St0=>?_)
 refine jU 16516 ?_
 refine jqe (jecP (clone8_ac b (by omega)) ?_)
 refine jqe (jebl 1 1 zr22 fun p1=>?_)
 refine jU 1 ?_
 refine jqe (jecP (check_ac b hb) ?_)
 refine jq (rd_build (n:=2) rfl zr197 pl197 rfl rfl) ?_
 refine jqe (jebx 2 fun p2=>?_)
 refine jU 51 ?_;refine code_knowG (know_op 2 rfl) fun hn=>?_
 obtain ⟨n,rfl⟩:=hn
 refine jE (closeR n (depthM b).2 [b] 1 0 rfl rfl rfl (cO rfl) cZ (Nat.le_refl _) (fun a ha=>by obtain rfl:a=0:=(by simpa using ha);exact cZ)) ?_;refine jU 7000 ?_
 exact end_ownV (.inl rfl) [1] (by decide) rfl (res_1 rfl (arv_tmp rfl)) (cP (j:=0)) ⟨n,rfl,rfl⟩
end
section
variable {gs:List Nat} [Ok9 gs]

theorem valueL_ac {gs:List Nat} [Ok9 gs] {f:FuncId} {m:Nat} {fv:Nat→CV} (hc:calleeB Tryz.prog f=true) (n:Nat) (l:List (List UInt8)) (k:Nat) (tag:Int) (get:List UInt8→(List UInt8)×Nat) (hl:0<l.length∧l.length≤1000000) (hb:(nowL l).length≤10000000) (hp:∀ b:List UInt8,b.length≤65530→ACp gs Tryz.prog f (bsC b::(List.range m).map fv) (.tup 2 (fl [bsC (get b).1,.err (get b).2]))) :
  AC gs Tryz.prog 139 [rdO n l k] [.op 0 (some n) 0,.c (.int .i64 tag),.fn f m fv]
   (fun r H'=>r=bsC (if (nextR tag l k).is=true∧(get (nextR tag l k).body).2=0 then (get (nextR tag l k).body).1 else [])∧H'=[rdO n (nextR tag l k).l (valK tag l k fun b=>(get b).2)]):=by
 have hln:(nextR tag l k).l.length=l.length:=nextR_len
 refine ac_of 38 Tryz.func139 rfl rfl rfl (fun al w0 F0 St0=>?_)
 refine jU 116516516 ?_
 refine jqm (jmcH 0 (nextR_ac n l k tag hl hb) ?_)
 rintro _ _ ⟨rfl,rfl⟩
 refine ⟨_,_,rfl,cZ,?_⟩
 refine jU 9009009001 ?_
 refine jqe (jeal (n:=2) zr199 rfl fun p2=>?_)
 refine jqm (jmst 2 ?_)
 refine jU 530167511 ?_;refine jcc (fun h232=>?_) fun h232=>?_
 ·refine jU 300070005116 ?_
  rw [if_neg (by simp_all)]
  have e:(valK tag l k fun b=>(get b).2)=(nextR tag l k).k:=by unfold valK;rw [if_neg (by simpa using h232)]
  rw [e]
  exact end_H (.inl rfl) rfl (res_1 rfl (arv_tmp rfl)) (by exact cN)
 refine jU 810 ?_
 have his:=nextR_is (by simpa using h232)
 refine jU 5010016 ?_
 refine jqe (e_callV rfl rfl (by assumption) (hp (nextR tag l k).body his.2) (entL_fn cZ _) rfl rfl ?_)
 rintro _ _ ⟨rfl,rfl⟩
 refine jU 55000001675119009001 ?_;refine jcc (fun h236=>?_) fun h236=>?_
 rotate_left
 ·refine jU 70005116810 ?_
  have h0:(get (nextR tag l k).body).2=0:=by omega
  rw [if_pos ⟨by simpa using h232,h0⟩]
  have e:(valK tag l k fun b=>(get b).2)=(nextR tag l k).k:=by unfold valK;rw [if_pos (by simpa using h232),his.1];exact h0
  rw [e]
  exact end_H (.inl rfl) rfl (res_1 rfl (arv_tmp rfl)) (by exact cZ)
 refine code_openR 0 rfl fun gl=>?_;refine jU 10040116 ?_
 refine jqm (jmst 1 ?_)
 refine jU 5 ?_;refine jE (closeR n (get (nextR tag l k).body).2 (nextR tag l k).l 0 2 rfl rfl rfl (cO rfl) cZ (Nat.le_refl _) (fun _ _=>cZ)) ?_;refine jU 300070005116 ?_
 rw [if_neg (by omega)]
 have e:(valK tag l k fun b=>(get b).2)=(get (nextR tag l k).body).2:=by unfold valK;rw [if_pos (by simpa using h232)]
 rw [e]
 exact end_H (.inl rfl) rfl (res_1 rfl (arv_tmp rfl)) (by exact cN)
theorem valueS_ac {gs:List Nat} [Ok9 gs] {f:FuncId} {m:Nat} {fv:Nat→CV} (hc:calleeB Tryz.prog f=true) (n:Nat) (l:List (List UInt8)) (k:Nat) (tag:Int) (get:List UInt8→(List UInt8)×Nat) (hl:0<l.length∧l.length≤1000000) (hb:(nowL l).length≤10000000) (hp:∀ b:List UInt8,b.length≤65530→ACp gs Tryz.prog f (bsC b::(List.range m).map fv) (.tup 2 (fl [strC (get b).1,.err (get b).2]))) :
  AC gs Tryz.prog 194 [rdO n l k] [.op 0 (some n) 0,.c (.int .i64 tag),.fn f m fv]
   (fun r H'=>r=strC (if (nextR tag l k).is=true∧(get (nextR tag l k).body).2=0 then (get (nextR tag l k).body).1 else [])∧H'=[rdO n (nextR tag l k).l (valK tag l k fun b=>(get b).2)]):=by
 have hln:(nextR tag l k).l.length=l.length:=nextR_len
 refine ac_of 38 Tryz.func194 rfl rfl rfl (fun al w0 F0 St0=>?_)
 refine jU 116516516 ?_
 refine jqm (jmcH 0 (nextR_ac n l k tag hl hb) ?_)
 rintro _ _ ⟨rfl,rfl⟩
 refine ⟨_,_,rfl,cZ,?_⟩
 refine jU 9009009001 ?_
 refine jqe (jeal (n:=2) zr199 rfl fun p2=>?_)
 refine jqm (jmst 2 ?_)
 refine jU 530167511 ?_;refine jcc (fun h232=>?_) fun h232=>?_
 ·refine jU 300070005116 ?_
  rw [if_neg (by simp_all)]
  have e:(valK tag l k fun b=>(get b).2)=(nextR tag l k).k:=by unfold valK;rw [if_neg (by simpa using h232)]
  rw [e]
  exact end_H (.inl rfl) rfl (res_1 rfl (arv_tmp rfl)) cZ
 refine jU 810 ?_
 have his:=nextR_is (by simpa using h232)
 refine jU 5010016 ?_
 refine jqe (e_callV rfl rfl (by assumption) (hp (nextR tag l k).body his.2) (entL_fn cZ _) rfl rfl ?_)
 rintro _ _ ⟨rfl,rfl⟩
 refine jU 55000001675119009001 ?_;refine jcc (fun h236=>?_) fun h236=>?_
 rotate_left
 ·refine jU 70005116810 ?_
  have h0:(get (nextR tag l k).body).2=0:=by omega
  rw [if_pos ⟨by simpa using h232,h0⟩]
  have e:(valK tag l k fun b=>(get b).2)=(nextR tag l k).k:=by unfold valK;rw [if_pos (by simpa using h232),his.1];exact h0
  rw [e]
  exact end_H (.inl rfl) rfl (res_1 rfl (arv_tmp rfl)) cZ
 refine code_openR 0 rfl fun gl=>?_;refine jU 10040116 ?_
 refine jqm (jmst 1 ?_)
 refine jU 5 ?_;refine jE (closeR n (get (nextR tag l k).body).2 (nextR tag l k).l 0 2 rfl rfl rfl (cO rfl) cZ (Nat.le_refl _) (fun _ _=>cZ)) ?_;refine jU 300070005116 ?_
 rw [if_neg (by omega)]
 have e:(valK tag l k fun b=>(get b).2)=(get (nextR tag l k).body).2:=by unfold valK;rw [if_pos (by simpa using h232)]
 rw [e]
 exact end_H (.inl rfl) rfl (res_1 rfl (arv_tmp rfl)) cZ
end
section
def ssF (ls:List (List UInt8)) (j:Nat):CV:=strC (ls.getD j [])
def ssC (ls:List (List UInt8)):CV:=.rs 1 ls.length fun i _=>strC (ls.getD i [])
theorem rowC_ss:RowC 1 ssF:=fun l l2 j hj=>by
 simp only [ssF,List.getD_eq_getElem?_getD]
 split
 ·rw [List.getElem?_append_left (by omega)]
 ·rw [List.getElem?_append_right (by omega),Nat.mul_one]
theorem ss_thaw {ls:List (List UInt8)}:∀ a b,a<ls.length→b<1→CEnt (ssF ls (0+(a * 1+b))) (strC (ls.getD a [])):=fun a b ha hb=>CEnt.of_eq (by rw [show 0+(a * 1+b)=a by omega];rfl)

theorem join_ac {gs:List Nat} (ls:List (List UInt8)) (sep:List UInt8) (h1:ls.length≤1000000000) (h2:(Lib.join ls sep).length≤100000000000):ACp gs Tryz.prog 293 [ssC ls,strC sep] (strC (Lib.join ls sep)) :=
 ac_old fun al w St vals hs hv hr=>by
  obtain ⟨ao,cap,k1,k2,k3,k4,k5⟩:=hr 0
  rw [vals2 hv,show vals.getD 0 undef=.slice ao ls.length cap from k1,show vals.getD 1 undef=.string ⟨sep.toArray⟩ from hr 1]
  by_cases hn:ls=[]
  ·subst hn
   exact (Tryz.strings_Join_none ao cap _ w).mono (by rintro e w' ⟨rfl,rfl⟩;exact ⟨rfl,Below.refl _ _⟩)
  ·have hp:0<ls.length:=List.length_pos_iff.2 hn
   obtain ⟨a,rfl⟩:∃ a,ao=some a:=by
    cases ao with
    | none=>have:=k4 rfl;omega
    | some a=>exact ⟨a,rfl⟩
   obtain ⟨e1,e2,e3⟩:=k5 a rfl hp
   obtain ⟨bk,o,sp⟩:=a
   obtain rfl:sp=none:=e1
   have hm:(ls.map fun l=>(⟨l.toArray⟩:ByteArray)).map (·.data.toList)=ls:=by
    rw [List.map_map]
    exact (List.map_congr_left fun x _=>by simp).trans (List.map_id ls)
   have hc:∀ (j:Nat) x,(ls.map fun l=>(⟨l.toArray⟩:ByteArray))[j]?=some x→w.cell? ⟨bk,o+j,none⟩=some (.string x):=fun j x hx=>by
    rw [List.getElem?_map] at hx
    obtain ⟨y,hy,rfl⟩:=Option.map_eq_some_iff.1 hx
    have hj:j<ls.length:=(List.getElem?_eq_some_iff.1 hy).1
    obtain ⟨v,hv1,hv2⟩:=e3 j 0 hj (by omega)
    rw [show o+(j * 1+0)=o+j by omega] at hv1
    rw [hv1]
    have:v=.string ⟨(ls.getD j []).toArray⟩:=hv2
    rw [this,List.getD_eq_getElem?_getD,hy];rfl
   have hb:bk<w.heap.size:=by
    obtain ⟨v,hv1,hv2⟩:=e3 0 0 hp (by omega)
    exact World.block_lt_of_cell? w _ hv1
   have hj:=Tryz.strings_Join bk o cap (ls.map fun l=>(⟨l.toArray⟩:ByteArray)) ⟨sep.toArray⟩ w hc hb (by rw [List.length_map];omega) (by rw [List.length_map];exact k2) (by rw [hm];show (Lib.join ls sep).length≤_;omega)
   rw [hm,List.length_map] at hj
   exact hj
end
end Am
end Go.Proofs.YthlpfjnkieaeeaaGreatDoor
