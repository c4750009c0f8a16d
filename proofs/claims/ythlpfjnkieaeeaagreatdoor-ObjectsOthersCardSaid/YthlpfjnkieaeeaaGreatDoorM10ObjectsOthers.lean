/- What the law leans on, part 10: W05h, W06c, P06c, W06d, W06e, W08g, W08h, W08p, P08r, P08c, P08d, P08h, P08i, P08m, P08f, W09n, W09o, W09p, W09q, W09r -/
import Derived.Test.YthlpfjnkieaeeaaGreatDoorM9ObjectsOthers

set_option maxRecDepth 100000
namespace Go.Proofs.YthlpfjnkieaeeaaGreatDoor
set_option linter.unusedVariables false
namespace Am
open Go.RowKit
section
variable {gs:List Nat} [Ok9 gs]

theorem res_at {b:List UInt8} {k:Nat} (hk:k<(runsL b).length):(resB b).getD k (0,0)=numM ((runsL b).getD k []) (if k=0 then 2147483727 else 2147483647):=resL_get _ _ _ hk
theorem res_take {b:List UInt8} {k:Nat} (hk:k<(runsL b).length):(((resB b).take (k+1)).map (·.1))=(((resB b).take k).map (·.1))++[((resB b).getD k (0,0)).1]:=by
 rw [take_get (0,0) (by rw [resB_len];exact hk),List.map_append];rfl
theorem numM_bd (r:List UInt8) (most:Nat):(numM r most).1≤most:=by
 unfold numM
 split
 ·exact Nat.zero_le _
 split
 ·exact Nat.zero_le _
 split
 ·exact Nat.zero_le _
 ·show valSO r≤most;omega
theorem two_ent {a b c d:Int} (h1:a=c) (h2:b=d):∀ j,j<[c,d].length→CEnt (fl [.c (.int .i64 a),.c (.int .i64 b)] j) (inF [c,d] j):=fun j hj=>by
 rcases j with _|_|j
 ·exact cI h1
 ·exact cI h2
 ·exact absurd hj (by simp)
section
variable {b:List UInt8} {k:Nat} {X:List Int}
theorem badKE (hk:k<(runsL b).length) (h0:0<k) (herr:errL ((resB b).take k)=0) (h:(numM ((runsL b).getD k []) 2147483647).2≠0):(numM ((runsL b).getD k []) 2147483647).2=errL (resB b):=by
 have hat:=res_at hk
 rw [if_neg (by omega)] at hat
 rw [← hat] at h ⊢
 exact (errL_bad (by rw [resB_len];exact hk) herr h).symm
theorem bad0E (hk:k<(runsL b).length) (h0:k=0) (herr:errL ((resB b).take k)=0) (h:(numM ((runsL b).getD k []) 2147483727).2≠0):(numM ((runsL b).getD k []) 2147483727).2=errL (resB b):=by
 have hat:=res_at hk
 rw [if_pos h0] at hat
 rw [← hat] at h ⊢
 exact (errL_bad (by rw [resB_len];exact hk) herr h).symm
theorem badK (hk:k<(runsL b).length) (h0:0<k) (herr:errL ((resB b).take k)=0) (h:(numM ((runsL b).getD k []) 2147483647).2≠0):errL (resB b)≠0:=by
 rw [← badKE hk h0 herr h];exact h
theorem bad0 (hk:k<(runsL b).length) (h0:k=0) (herr:errL ((resB b).take k)=0) (h:(numM ((runsL b).getD k []) 2147483727).2≠0):errL (resB b)≠0:=by
 rw [← bad0E hk h0 herr h];exact h
theorem keepK (hk:k<(runsL b).length) (h0:0<k) (hX:X=arcsOf (((resB b).take k).map (·.1))) (herr:errL ((resB b).take k)=0) (h:(numM ((runsL b).getD k []) 2147483647).2=0):X++[((numM ((runsL b).getD k []) 2147483647).1:Int)]=arcsOf (((resB b).take (k+1)).map (·.1))∧errL ((resB b).take (k+1))=0:=by
 have hat:=res_at hk
 rw [if_neg (by omega)] at hat
 have hkR:k<(resB b).length:=by rw [resB_len];exact hk
 refine ⟨?_,by rw [errL_one hkR herr,hat,h]⟩
 rw [res_take hk,hat,arcs_snoc _ (fun e=>by have:=congrArg List.length e;rw [List.length_map,List.length_take,List.length_nil] at this;omega),hX]
theorem keep0 (hk:k<(runsL b).length) (h0:k=0) (herr:errL ((resB b).take k)=0) (h:(numM ((runsL b).getD k []) 2147483727).2=0):[((min ((numM ((runsL b).getD k []) 2147483727).1 / 40) 2:Nat):Int),((numM ((runsL b).getD k []) 2147483727).1:Int)-40 * ((min ((numM ((runsL b).getD k []) 2147483727).1 / 40) 2:Nat):Int)]=arcsOf (((resB b).take (k+1)).map (·.1))∧errL ((resB b).take (k+1))=0:=by
 have hat:=res_at hk
 rw [if_pos h0] at hat
 have hkR:k<(resB b).length:=by rw [resB_len];exact hk
 refine ⟨?_,by rw [errL_one hkR herr,hat,h]⟩
 rw [res_take hk,hat,h0]
 rfl
end
set_option maxHeartbeats 1000000 in
theorem oget_ac (b:List UInt8) (hb:b.length≤1000000):ACp gs Tryz.prog 260 [bsC b] (.tup 2 (fl [strC (ogetM b).1,.err (ogetM b).2])):=by
 have hrl:=runs_len b.length b (Nat.le_refl _)
 have hRl:=resB_len b
 refine ac_of 54 Tryz.func260 rfl rfl rfl (fun al w0 F0 St0=>?_)
 refine jcr ?_
 refine jqe (jeal (n:=1) zr9 rfl fun p1=>?_)
 refine jqe (jeal (n:=1) zr25 rfl fun p2=>?_)
 refine jU 5231675 ?_;refine jcc (fun h116=>?_) fun h116=>?_
 ·refine jcs ?_;refine jcdZ (.rd 0 (.one 1 (.one 2 .done))) ?_;refine jzq (jrde 1) ?_
  refine jzm (jmst 1 ?_)
  refine jzm (jmst 1 ?_)
  refine jU 8700000 ?_
  refine jR (jtr (jrt (hres:=res_2 rfl javc javc) (hv:=?_)))
  have h0:ogetM b=([],2):=by rw [List.length_eq_zero_iff.1 (show b.length=0 by omega),get_nil]
  exact cT (CEnt.strL (by rw [h0])) (CEnt.errN (by rw [h0]))
 refine jU 810 ?_
 have hne:b≠[]:=fun e=>by subst e;simp_all
 refine jcr ?_
 refine jqe (jeal (n:=1) zr137 rfl fun p3=>?_)
 refine jU 1675 ?_
 refine jqe (jecS (runs_ac b) ?_)
 rintro _ _ ⟨gS,rfl,rfl⟩
 refine jU 205 ?_;refine jE (blk_ent 0 (m:=1) (F:=fun _=>strC []) rfl (Nat.le_refl _) (fun _=>rfl) (fun j hj=>by obtain rfl:j=0:=(by omega);exact cZ)) ?_;refine jE (blk_ent 1 (m:=1) (F:=fun _=>.c .nilIface) rfl (Nat.le_refl _) (fun _=>rfl) (fun j hj=>by obtain rfl:j=0:=(by omega);exact cZ)) ?_;refine jE (blk_ent 2 (m:=1) (F:=fun _=>.os 3 none 0 0 1) rfl (Nat.le_refl _) (fun _=>rfl) (fun j hj=>by obtain rfl:j=0:=(by omega);exact CEnt.nilO)) ?_;refine jE (ent_none (inF [])) ?_;refine code_range (π:=List Int×Option Nat) (q:=List Int×Option Nat) ((runsL b).length) (fun k=>[bsC ((runsL b).getD k [])]) ([(gS,.blk 1 (fun _=>bsC b))]) (fun (X,ga)=>[(p1,.blk 1 (fun _=>strC [])),(p2,.blk 1 (fun _=>.c .nilIface)),(p3,.blk 1 (fun _=>.os 3 ga 0 X.length 1)),(ga,.blk X.length (inF X))]) (fun k (X,ga)=>X=arcsOf (((resB b).take k).map (·.1))∧errL ((resB b).take k)=0) (fun (X,ga)=>[(p1,.blk 1 (fun _=>strC [])),(p2,.blk 1 (fun _=>.err (errL (resB b)))),(p3,.blk 1 (fun _=>.os 3 ga 0 X.length 1)),(ga,.blk X.length (inF X))]) (fun c _=>c=.ret∧errL (resB b)≠0) (([],none)) [3,0,1,2,4] rfl rfl (by kernel_rfl) (runs_iter b gS (by omega)) (⟨rfl,rfl⟩) (by decide) rfl (fun _ _=>rfl) rfl ?_ ?_ ?_
 ·intro k hk l al2 w2 F2 S2 R0 R1
  rintro ⟨X,ga⟩ ⟨hX,herr⟩
  have hXl:=arcs_len (((resB b).take k).map (·.1))
  rw [← hX,List.length_map,List.length_take] at hXl
  have hkR:k<(resB b).length:=by omega
  have hrun:0<((runsL b).getD k []).length:=runs_pos b.length b (Nat.le_refl _) _ (getD_mem' [] hk)
  have hat:=res_at hk
  have hX0:X.length>0↔0<k:=⟨fun h=>Nat.pos_of_ne_zero fun e=>by subst e;rw [hX] at h;simp [arcsOf] at h,fun h=>by have:=hXl.2 (fun e=>by have:=congrArg List.length e;rw [List.length_map,List.length_take,List.length_nil] at this;omega);omega⟩
  refine jU 51200 ?_;refine assign_norm ?_;refine jU 523506720 ?_;refine jcc (fun h121=>?_) fun h121=>?_
  ·refine jU 16 ?_
   refine jqe (jecP (number_ac ((runsL b).getD k []) 2147483647 hrun (by omega)) ?_)
   refine jU 55000001675119009001 ?_;refine jcc (fun h123=>?_) fun h123=>?_
   ·refine jU 16 ?_
    refine jqm (jmst 1 ?_)
    refine jqm (jmst 1 ?_)
    refine jU 50003000300070005 ?_;refine round_ret ((X,ga)) ?_ rfl ?_
    ·exact ⟨rfl,badK hk (by omega) herr (by assumption)⟩
    ·exact .blk rfl (fun j hj=>by obtain rfl:j=0:=(by omega);exact cZ) (.blk rfl (fun j hj=>by obtain rfl:j=0:=(by omega);exact CEnt.errN (badKE hk (by omega) herr (by assumption)).symm) (.same (.same (.same .nil))))
   refine jU 1506810 ?_
   refine jqe (jebl 1 1 zr3 fun p4=>?_)
   refine jqm (m_appendC rowC_in (l2:=[((numM ((runsL b).getD k []) 2147483647).1:Int)]) rfl rfl rfl rfl (by exact Nat.le_of_eq (Nat.mul_one _)) (fun _ _=>cZ) (src_os rfl (.inl rfl) (by decide)) rfl (hh_ints (.cons (cI (rfl)) .nil)) Tryz.underlying137 nu137 sz3 zr3 by3 rfl (by (simp;omega)) (by (simp;omega)) (leaf_flk rfl rfl) rfl rfl (Nat.mul_one _) (fun p5=>?_))
   refine jqm (jmst 1 ?_)
   refine jU 4000200060005 ?_;refine round_norm ((X++[((numM ((runsL b).getD k []) 2147483647).1:Int)],p5)) ?_ rfl ?_
   ·exact keepK hk (by omega) hX herr (by omega)
   ·exact .same (.same (.blk rfl (fun j hj=>by obtain rfl:j=0:=(by omega);exact cZ) (.same (.same .nil))))
  refine jU 16810 ?_
  refine jqe (jecP (number_ac ((runsL b).getD k []) 2147483727 hrun (by omega)) ?_)
  refine jU 55000001675119009001 ?_;refine jcc (fun h130=>?_) fun h130=>?_
  ·refine jU 16 ?_
   refine jqm (jmst 1 ?_)
   refine jqm (jmst 1 ?_)
   refine jU 5000300070005 ?_;refine round_ret ((X,ga)) ?_ rfl ?_
   ·exact ⟨rfl,bad0 hk (by omega) herr (by assumption)⟩
   ·exact .blk rfl (fun j hj=>by obtain rfl:j=0:=(by omega);exact cZ) (.blk rfl (fun j hj=>by obtain rfl:j=0:=(by omega);exact CEnt.errN (bad0E hk (by omega) herr (by assumption)).symm) (.same (.same (.same .nil))))
  refine jU 810 ?_
  have hbd:=numM_bd ((runsL b).getD k []) 2147483727
  refine jU 60000016 ?_;refine jq (rd_min2 rfl rfl rfl) ?_;refine jU 9911120051 ?_
  refine jqe (jebl 2 1 zr3 fun p4=>?_)
  refine seq_ent (pick_ent [0,1,2,5,4] (by decide) rfl) ?_
  refine jqm (jmst 1 ?_)
  refine jU 4005 ?_;refine round_norm (([((min ((numM ((runsL b).getD k []) 2147483727).1 / 40) 2:Nat):Int),((numM ((runsL b).getD k []) 2147483727).1:Int)-40 * ((min ((numM ((runsL b).getD k []) 2147483727).1 / 40) 2:Nat):Int)],p4)) ?_ rfl ?_
  ·exact keep0 hk (by omega) herr (by omega)
  ·exact .same (.same (.blk rfl (fun j hj=>by obtain rfl:j=0:=(by omega);exact cO rfl) (.blk rfl (two_ent (by omega) (by omega)) (.same .nil))))
 ·rintro ⟨X,ga⟩ ⟨hX,herr⟩
  rw [List.take_of_length_le (by omega)] at hX herr
  refine jU 5068400 ?_;refine seq_ent (freeze 3 rfl) ?_;refine seq_ent (thawIL 50 X rfl rfl rfl (Nat.ble_eq_true_of_le (Nat.le_refl _)) (fun j hj=>cZ)) ?_
  refine jqe (jecP (otext_ac X) ?_)
  refine jU 900900 ?_
  refine jqm (jmst 1 ?_)
  refine jqm (jmst 1 ?_)
  refine jU 5 ?_
  refine jR (jrt (hres:=res_2 rfl javc javc) (hv:=?_))
  have hg:=get_text hne herr
  rw [← hX] at hg
  exact cT (CEnt.strL (by rw [hg])) (CEnt.errN (by rw [hg]))
 ·rintro _ ⟨X,ga⟩ ⟨rfl,hbad⟩
  refine .inl ⟨rfl,?_⟩
  refine jbr (jtr (jrt (hres:=res_2 rfl javc javc) (hv:=?_)))
  have hb:=get_err hne hbad
  exact cT (CEnt.strL (by rw [hb])) (CEnt.errN (by rw [hb]))
end
section
variable {gs:List Nat} [Ok9 gs]
open Go.RowKit Cal
set_option linter.unusedVariables false
end
section
open Go.RowKit Cal
def dg (b:List UInt8) (i:Nat):Int:=((b.getD i 0).toNat:Int)-48
def isDg (b:List UInt8) (i:Nat):Prop:=48≤((b.getD i 0).toNat:Int)∧((b.getD i 0).toNat:Int)≤57
instance (b:List UInt8) (i:Nat):Decidable (isDg b i):=by unfold isDg;infer_instance
def two (b:List UInt8) (j:Nat):Int:=10 * dg b (2 * j)+dg b (2 * j+1)
def getD6 (b:List UInt8):D6:=⟨100 * two b 0+two b 1,two b 2,two b 3,two b 4,two b 5,two b 6⟩
def formP (b:List UInt8):Prop:=b.length=15∧((b.getD 14 0).toNat:Int)=90∧∀ i,i<14→isDg b i
instance (b:List UInt8):Decidable (formP b):=by unfold formP;infer_instance
def getE (b:List UInt8):Nat:=if formP b then (if RightP (getD6 b) then 0 else 1) else 4
def getV (b:List UInt8):Int:=if formP b∧RightP (getD6 b) then secM (getD6 b) else 0

theorem body_dg {x:D6} (h:RightP x):(∀ i,i<14→isDg (bodyL x) i)∧getD6 (bodyL x)=x:=by
 obtain ⟨q1,q2,q3,q4,q5,q6,q7,q8,q9,q10⟩:=id h
 have qm:=days_pos q3 q4
 have qd:=days_le x.y x.m
 have q:∀ n p:Int,0≤n→1≤p→((figc n p).toNat:Int)=48+n / p % 10:=fun n p hn hp=>figc_nat (Int.ediv_nonneg hn (by omega))
 have e:∀ i,i<14→∃ n p:Int,(bodyL x).getD i 0=figc n p∧0≤n∧1≤p:=by
  intro i hi
  rcases i with _|_|_|_|_|_|_|_|_|_|_|_|_|_|i
  ·exact ⟨x.y,1000,rfl,by omega,by omega⟩
  ·exact ⟨x.y,100,rfl,by omega,by omega⟩
  ·exact ⟨x.y,10,rfl,by omega,by omega⟩
  ·exact ⟨x.y,1,rfl,by omega,by omega⟩
  ·exact ⟨x.m,10,rfl,by omega,by omega⟩
  ·exact ⟨x.m,1,rfl,by omega,by omega⟩
  ·exact ⟨x.d,10,rfl,by omega,by omega⟩
  ·exact ⟨x.d,1,rfl,by omega,by omega⟩
  ·exact ⟨x.h,10,rfl,by omega,by omega⟩
  ·exact ⟨x.h,1,rfl,by omega,by omega⟩
  ·exact ⟨x.mi,10,rfl,by omega,by omega⟩
  ·exact ⟨x.mi,1,rfl,by omega,by omega⟩
  ·exact ⟨x.s,10,rfl,by omega,by omega⟩
  ·exact ⟨x.s,1,rfl,by omega,by omega⟩
  ·omega
 refine ⟨fun i hi=>?_,?_⟩
 ·obtain ⟨n,p,h1,h2,h3⟩:=e i hi
  unfold isDg
  rw [h1,q n p h2 h3]
  omega
 ·have dd:∀ (i:Nat) (n p:Int),(bodyL x).getD i 0=figc n p→0≤n→1≤p→dg (bodyL x) i=n / p % 10:=fun i n p h1 h2 h3=>by
   unfold dg
   rw [h1,q n p h2 h3]
   omega
  have t0:two (bodyL x) 0=10 * (x.y / 1000 % 10)+x.y / 100 % 10:=by unfold two;rw [dd (2 * 0) x.y 1000 rfl (by omega) (by omega),dd (2 * 0+1) x.y 100 rfl (by omega) (by omega)]
  have t1:two (bodyL x) 1=10 * (x.y / 10 % 10)+x.y / 1 % 10:=by unfold two;rw [dd (2 * 1) x.y 10 rfl (by omega) (by omega),dd (2 * 1+1) x.y 1 rfl (by omega) (by omega)]
  have t2:two (bodyL x) 2=x.m:=by unfold two;rw [dd (2 * 2) x.m 10 rfl (by omega) (by omega),dd (2 * 2+1) x.m 1 rfl (by omega) (by omega)];omega
  have t3:two (bodyL x) 3=x.d:=by unfold two;rw [dd (2 * 3) x.d 10 rfl (by omega) (by omega),dd (2 * 3+1) x.d 1 rfl (by omega) (by omega)];omega
  have t4:two (bodyL x) 4=x.h:=by unfold two;rw [dd (2 * 4) x.h 10 rfl (by omega) (by omega),dd (2 * 4+1) x.h 1 rfl (by omega) (by omega)];omega
  have t5:two (bodyL x) 5=x.mi:=by unfold two;rw [dd (2 * 5) x.mi 10 rfl (by omega) (by omega),dd (2 * 5+1) x.mi 1 rfl (by omega) (by omega)];omega
  have t6:two (bodyL x) 6=x.s:=by unfold two;rw [dd (2 * 6) x.s 10 rfl (by omega) (by omega),dd (2 * 6+1) x.s 1 rfl (by omega) (by omega)];omega
  unfold getD6
  rw [t0,t1,t2,t3,t4,t5,t6]
  have:100 * (10 * (x.y / 1000 % 10)+x.y / 100 % 10)+(10 * (x.y / 10 % 10)+x.y / 1 % 10)=x.y:=by omega
  rw [this]
theorem get_body {x:D6} (h:RightP x):getE (bodyL x)=0∧getV (bodyL x)=secM x:=by
 have hf:formP (bodyL x):=⟨rfl,by show (((90:UInt8).toNat:Nat):Int)=90;rfl,(body_dg h).1⟩
 have hg:=(body_dg h).2
 unfold getE getV
 rw [hg,if_pos hf,if_pos h,if_pos ⟨hf,h⟩]
 exact ⟨rfl,rfl⟩

def texF (x:D6):List Int:=[x.y / 100,x.y % 100,x.m,x.d,x.h,x.mi,x.s]
def texL (x:D6) (i:Nat):List UInt8:=((texF x).take i).flatMap fun n=>[figc n 10,figc n 1]
theorem texL_all {x:D6} (h1:0≤x.y) (h2:x.y≤9999):texL x 7++[90]=bodyL x:=by
 have e1:figc (x.y / 100) 10=figc x.y 1000:=by unfold figc;congr 2;omega
 have e2:figc (x.y / 100) 1=figc x.y 100:=by unfold figc;congr 2;omega
 have e3:figc (x.y % 100) 10=figc x.y 10:=by unfold figc;congr 2;omega
 have e4:figc (x.y % 100) 1=figc x.y 1:=by unfold figc;congr 2;omega
 simp [texL,texF,bodyL,figL,e1,e2,e3,e4]
theorem texL_succ {x:D6} {i:Nat} (h:i<(texF x).length):texL x (i+1)=texL x i++[figc ((texF x).getD i 0) 10,figc ((texF x).getD i 0) 1]:=by
 have e:(texF x).take (i+1)=(texF x).take i++[(texF x).getD i 0]:=by
  rw [List.take_succ_eq_append_getElem h]
  simp [List.getD,h]
 unfold texL
 rw [e,List.flatMap_append]
 simp
theorem texL_len (x:D6) {i:Nat} (h:i≤7):(texL x i).length=2 * i:=by
 rcases i with _|_|_|_|_|_|_|_|i <;> simp [texL,texF] <;> omega
end
section
variable {gs:List Nat} [Ok9 gs]
open Go.RowKit Cal
set_option linter.unusedVariables false

theorem year_stop {N y:Int} (h0:0≤N) (h1:N≤2932896) (hy:1970≤y) (hb:bf y≤N):y≤9999:=by
 refine Decidable.byContradiction fun hn=>?_
 have:=bf_mono (a:=10000) (b:=y) (by omega)
 have e:bf 10000=2932897:=by decide
 omega
theorem rof6_ac {gs:List Nat} (t:Int) (h:inT t):ACp gs Tryz.prog 215 [.c (.int .i64 t)] (dateC (ofR6 t)):=by
 obtain ⟨r1,r2⟩:=id h
 obtain ⟨N,hN⟩:∃ N,N=t / 86400:=⟨_,rfl⟩
 have n0:0≤N:=by omega
 have n1:N≤2932896:=by omega
 refine ac_of 52 Tryz.func215 rfl rfl rfl (fun al w0 F0 St0=>?_)
 refine jcr ?_
 refine jqe (jeal (n:=6) zr265 rfl fun p1=>?_)
 refine jU 10000001100000060000011000000600000165 ?_;refine jq (rd_build (n:=6) rfl zr265 pl265 rfl rfl) ?_
 refine jqe (jeal (n:=6) zr265 rfl fun p2=>?_)
 refine jqm (jmst 6 ?_)
 refine jU 20751600000165 ?_;refine l_loop (α:=Int) [4,5,17,18,19,20,21,22,23,24,25,26,27,28,29] (fun y=>[(4,.c (.int .i64 (N-bf y)))]) (fun y=>[(p1,.blk 6 (dF D6.zero)),(p2,.blk 6 (dF ⟨y,1,0,t / 3600 % 24,t / 60 % 60,t % 60⟩))]) (fun y=>1970≤y∧bf y≤N) (fun y=>(10000-y).toNat) (1970) ?_ (fun _=>rfl) ?_ ?_ ?_
 ·exact ⟨by omega,by rw [bf_1970];exact n0⟩
 ·exact .cons (cI (by rw [bf_1970];omega)) .nil
 ·(repeat (first|exact HEnt.nil|refine HEnt.blk rfl (fun j hj=>by rcases j with _|_|_|_|_|_|_|_|j <;> first|exact cZ|omega) ?_))
 ·rintro y ⟨hy,hb⟩
  have hy9:=year_stop n0 n1 hy hb
  have hs:=bf_succ y
  have hbd:=bf_bd y hy (by omega)
  refine jU 50906751620 ?_
  refine jqe (jecP (rleap_ac _) ?_)
  refine jU 5 ?_;refine jcc (fun h62=>?_) fun h62=>?_
  rotate_left
  ·refine jU 521167810 ?_;refine jcc (fun h65=>?_) fun h65=>?_
   rotate_left
   ·refine jU 9095090200519116810 ?_
    refine jqm (jmst 1 ?_)
    refine jU 84005 ?_
    refine jlend (y+1) ?_ ?_ (h5:=?_)
    ·exact ⟨by omega,by simp only [*,Bool.false_eq_true,if_false] at hs;omega⟩
    ·omega
    ·exact .cons (cI (by simp only [*,Bool.false_eq_true,if_false] at hs;omega)) .nil
   refine jU 2078400020008000020006000 ?_;refine l_loop (α:=Int) [4,30,31,32,33,34,35,36,37,38,39,40,41,42,43,44,45,46,47] (fun m=>[(4,.c (.int .i64 (N-bf y-cum y m)))]) (fun m=>[(p1,.blk 6 (dF D6.zero)),(p2,.blk 6 (dF ⟨y,m,0,t / 3600 % 24,t / 60 % 60,t % 60⟩))]) (fun m=>1≤m∧m≤12∧cum y m≤N-bf y) (fun m=>(13-m).toNat) (1) ?_ (fun _=>rfl) ?_ ?_ ?_
   ·exact ⟨by omega,by omega,by rw [cum_one];omega⟩
   ·exact .cons (cI (by rw [cum_one];omega)) .nil
   ·(repeat (first|exact HEnt.nil|refine HEnt.same ?_))
   ·rintro m ⟨m1,m2,hc⟩
    have hcb:=cum_bd y m m1 (by omega)
    have hcs:=cum_succ y m m1 m2
    have hdd:=days_le y m
    have hc13:=cum_13 y
    have hm13:m=12→cum y (m+1)=cum y 13:=fun h=>by rw [h];rfl
    refine jU 501005090167 ?_
    refine jqe (jecP (rdays_ac _ _) ?_)
    refine jU 52 ?_;refine jcc (fun h71=>?_) fun h71=>?_
    ·refine jU 5010050901620810 ?_
     refine jqe (jecP (rdays_ac _ _) ?_)
     refine jU 100950100200519 ?_
     refine jqm (jmst 1 ?_)
     refine jU 84005 ?_
     refine jlend (m+1) ?_ ?_ (h5:=?_)
     ·exact ⟨by omega,by refine Decidable.byContradiction fun hn=>?_;have:=hm13 (by omega);dsimp only at *;simp only [*,Bool.false_eq_true,if_false] at hs;omega,by dsimp only at *;omega⟩
     ·omega
     ·exact .cons (cI (by dsimp only at *;omega)) .nil
    refine jU 100091684000200020006000 ?_
    refine jqm (jmst 1 ?_)
    refine jU 65 ?_;refine jqo (jrdoA 6) ?_
    refine jqm (jmst 6 ?_)
    refine jU 5 ?_
    refine jR (jrt (hres:=res_1 rfl (javA 6)) (hv:=?_))
    have hR:RightP ⟨y,m,N-bf y-cum y m+1,t / 3600 % 24,t / 60 % 60,t % 60⟩:=by
     unfold RightP
     dsimp only at *
     omega
    have hS:secM ⟨y,m,N-bf y-cum y m+1,t / 3600 % 24,t / 60 % 60,t % 60⟩=t:=by
     unfold secM dn
     dsimp only
     clear hcs hcb hc13 hs hbd hR
     omega
    have e:=of_sec hR
    rw [hS] at e
    rw [e]
    exact CEnt.agg6 cZ cZ cZ cZ cZ cZ
  refine jU 521167851200 ?_;refine jcc (fun h65=>?_) fun h65=>?_
  rotate_left
  ·refine jU 9095090200519116810 ?_
   refine jqm (jmst 1 ?_)
   refine jU 84005 ?_
   refine jlend (y+1) ?_ ?_ (h5:=?_)
   ·exact ⟨by omega,by simp only [*,if_true] at hs;omega⟩
   ·omega
   ·exact .cons (cI (by simp only [*,if_true] at hs;omega)) .nil
  refine jU 2078400020008000020006000 ?_;refine l_loop (α:=Int) [4,30,31,32,33,34,35,36,37,38,39,40,41,42,43,44,45,46,47] (fun m=>[(4,.c (.int .i64 (N-bf y-cum y m)))]) (fun m=>[(p1,.blk 6 (dF D6.zero)),(p2,.blk 6 (dF ⟨y,m,0,t / 3600 % 24,t / 60 % 60,t % 60⟩))]) (fun m=>1≤m∧m≤12∧cum y m≤N-bf y) (fun m=>(13-m).toNat) (1) ?_ (fun _=>rfl) ?_ ?_ ?_
  ·exact ⟨by omega,by omega,by rw [cum_one];omega⟩
  ·exact .cons (cI (by rw [cum_one];omega)) .nil
  ·(repeat (first|exact HEnt.nil|refine HEnt.same ?_))
  ·rintro m ⟨m1,m2,hc⟩
   have hcb:=cum_bd y m m1 (by omega)
   have hcs:=cum_succ y m m1 m2
   have hdd:=days_le y m
   have hc13:=cum_13 y
   have hm13:m=12→cum y (m+1)=cum y 13:=fun h=>by rw [h];rfl
   refine jU 501005090167 ?_
   refine jqe (jecP (rdays_ac _ _) ?_)
   refine jU 52 ?_;refine jcc (fun h71=>?_) fun h71=>?_
   ·refine jU 5010050901620810 ?_
    refine jqe (jecP (rdays_ac _ _) ?_)
    refine jU 100950100200519 ?_
    refine jqm (jmst 1 ?_)
    refine jU 84005 ?_
    refine jlend (m+1) ?_ ?_ (h5:=?_)
    ·exact ⟨by omega,by refine Decidable.byContradiction fun hn=>?_;have:=hm13 (by omega);dsimp only at *;simp only [*,if_true] at hs;omega,by dsimp only at *;omega⟩
    ·omega
    ·exact .cons (cI (by dsimp only at *;omega)) .nil
   refine jU 100091684000200020006000 ?_
   refine jqm (jmst 1 ?_)
   refine jU 65 ?_;refine jqo (jrdoA 6) ?_
   refine jqm (jmst 6 ?_)
   refine jU 5 ?_
   refine jR (jrt (hres:=res_1 rfl (javA 6)) (hv:=?_))
   have hR:RightP ⟨y,m,N-bf y-cum y m+1,t / 3600 % 24,t / 60 % 60,t % 60⟩:=by
    unfold RightP
    dsimp only at *
    omega
   have hS:secM ⟨y,m,N-bf y-cum y m+1,t / 3600 % 24,t / 60 % 60,t % 60⟩=t:=by
    unfold secM dn
    dsimp only
    clear hcs hcb hc13 hs hbd hR
    omega
   have e:=of_sec hR
   rw [hS] at e
   rw [e]
   exact CEnt.agg6 cZ cZ cZ cZ cZ cZ

theorem tex_bd {x:D6} (h:RightP x) {i:Nat} (hi:i<(texF x).length):0≤(texF x).getD i 0∧(texF x).getD i 0≤99:=by
 obtain ⟨q1,q2,q3,q4,q5,q6,q7,q8,q9,q10⟩:=id h
 have:=days_le x.y x.m
 have qm:=days_pos q3 q4
 rcases i with _|_|_|_|_|_|_|i
 ·show 0≤x.y / 100∧x.y / 100≤99;omega
 ·show 0≤x.y % 100∧x.y % 100≤99;omega
 ·show 0≤x.m∧x.m≤99;omega
 ·show 0≤x.d∧x.d≤99;omega
 ·show 0≤x.h∧x.h≤99;omega
 ·show 0≤x.mi∧x.mi≤99;omega
 ·show 0≤x.s∧x.s≤99;omega
 ·simp [texF] at hi;omega
theorem rtext6_ac {gs:List Nat} (x:D6) (h:RightP x):ACp gs Tryz.prog 214 [dateC x] (bsC (bodyL x)):=by
 obtain ⟨q1,q2,_⟩:=id h
 refine ac_of 44 Tryz.func214 rfl rfl rfl (fun al w0 F0 St0=>?_)
 refine jcr ?_
 refine jqe (jebx 6 fun p1=>?_)
 refine jU 651 ?_
 refine jqe (jebl 0 1 zr5 fun p2=>?_)
 refine jU 506000000507000000505000000501000501001000000509060000050906751 ?_
 refine jqe (jebl 7 1 zr3 fun p3=>?_)
 refine jU 20513 ?_;refine l_loop (α:=Nat×Option Nat) [3,5,25,26,27,28,29,30,31,32,33,34,35,36,37,38,39,40] (fun (i,g)=>[(3,.os 1 g 0 (texL x i).length 1),(25,.c (.int .i64 (i:Nat)))]) (fun (i,g)=>[(p1,.blk 6 (dF x)),(g,.blk (texL x i).length (byF (texL x i))),(p3,.blk 7 (inF (texF x)))]) (fun i=>i.1≤7) (fun i=>7-i.1) ((0,p2)) ?_ (fun _=>rfl) ?_ ?_ ?_
 ·simp
 ·(repeat (first|exact EntE.nil|refine EntE.cons cZ ?_))
 ·exact .blk rfl (fun j hj=>by rcases j with _|_|_|_|_|_|j <;> first|exact cZ|omega) (.blk rfl (fun j hj=>absurd hj (by show ¬ j<0;omega)) (.blk rfl (fun j hj=>fl_ints (texF x) j hj) .nil))
 ·rintro ⟨i,g'⟩ (hi:i≤7)
  refine jU 7526 ?_;refine jcc (fun h82=>?_) fun h82=>?_
  rotate_left
  ·refine jU 84000200020006000 ?_
   have hlen:=texL_len x hi
   have hi7:i=7:=by omega
   refine jU 16 ?_
   refine jqe (jebl 1 1 zr5 fun p4=>?_)
   refine jqm (m_appendB (l2:=[90]) rfl rfl rfl (Nat.le_refl _) (fun _ _=>cZ) (src_os rfl (.inl rfl) (by decide)) rfl (hh_bytes (.cons (cI (rfl)) .nil)) Tryz.underlying22 nu22 sz5 zr5 by5 rfl (by (simp;omega)) (leaf_fl rfl rfl) rfl rfl (fun p5=>?_))
   refine jU 51 ?_;refine jE (freeze 1 rfl) ?_;refine jE (thawB 2 (texL x i++[90]) rfl rfl (by rfl) rfl) ?_
   refine jR (jrt (hv:=?_))
   subst hi7
   rw [← texL_all (by omega) q2]
   exact cZ
  refine jU 51507006207810 ?_
  have hlt:i<(texF x).length:=by simp [texF];omega
  have hb:=tex_bd h hlt
  have hlen:=texL_len x hi
  refine jU 800000910000001800000960000011200 ?_
  refine jqe (jebl 2 1 zr5 fun p4=>?_)
  refine jqm (m_appendB (l2:=[figc ((texF x).getD i 0) 10,figc ((texF x).getD i 0) 1]) rfl rfl rfl (Nat.le_refl _) (fun _ _=>cZ) (src_os rfl (.inl rfl) (by decide)) rfl (hh_bytes (.cons (cI ((by rw [figc_nat (by omega)];show _=48+_;omega))) (.cons (cI ((by rw [figc_nat (by omega)];omega))) .nil))) Tryz.underlying22 nu22 sz5 zr5 by5 rfl (by (simp;omega)) (leaf_fl rfl rfl) rfl rfl (fun p5=>?_))
  refine jU 8519200840051 ?_
  refine jlend ((i+1,p5)) ?_ ?_ (h5:=?_) (h7:=?_)
  ·omega
  ·omega
  ·simp only [texL_succ hlt]
   (repeat (first|exact EntE.nil|refine EntE.cons cZ ?_))
  ·simp only [texL_succ hlt]
   (repeat (first|exact HEnt.nil|refine HEnt.same ?_))
end
section
variable {gs:List Nat} [Ok9 gs]
open Go.RowKit Cal
set_option linter.unusedVariables false

def twoI (b:List UInt8) (i j:Nat):Int:=if 2 * j+1<i then two b j else if 2 * j<i then dg b (2 * j) else 0
theorem twoI_bd {b:List UInt8} {i:Nat} (h:∀ k,k<i→isDg b k) (j:Nat):0≤twoI b i j∧twoI b i j≤99:=by
 unfold twoI
 split
 ·have h1:=h (2 * j) (by omega)
  have h2:=h (2 * j+1) (by omega)
  unfold isDg at h1 h2
  unfold two dg
  omega
 ·split
  ·have h1:=h (2 * j) (by omega)
   unfold isDg at h1
   unfold dg
   omega
  ·omega
theorem twoI_succ {b:List UInt8} {i:Nat} (j:Nat):twoI b (i+1) j=if j=i / 2 then 10 * twoI b i j+dg b i else twoI b i j:=by
 unfold twoI
 by_cases hj:j=i / 2
 ·rw [if_pos hj]
  by_cases he:i % 2=0
  ·have e:i=2 * j:=by omega
   subst e
   rw [if_neg (by omega),if_pos (by omega),if_neg (by omega),if_neg (by omega)]
   omega
  ·have e:i=2 * j+1:=by omega
   rw [if_pos (by omega),if_neg (by omega),if_pos (by omega),e]
   rfl
 ·rw [if_neg hj]
  by_cases h1:2 * j+1<i
  ·rw [if_pos (by omega),if_pos h1]
  ·rw [if_neg (by omega),if_neg h1,if_neg (by omega),if_neg (by omega)]
theorem twoI_14 {b:List UInt8} {j:Nat} (h:j<7):twoI b 14 j=two b j:=by unfold twoI;rw [if_pos (by omega)]
def twF (b:List UInt8) (i j:Nat):CV:=.c (.int .i64 (twoI b i j))

theorem mget_ac (b:List UInt8):ACp gs Tryz.prog 191 [bsC b] (.tup 2 (fl [.c (.int .i64 (getV b)),.err (getE b)])):=by
 refine ac_of 65 Tryz.func191 rfl rfl rfl (fun al w0 F0 St0=>?_)
 refine jU 1231675116 ?_;refine jqsp 10 (fun g112=>?_) fun g112=>?_
 ·refine jU 79000580004444 ?_;refine jcd (.rd 0 (.rd 1 (.rd 2 .done))) ?_;refine jU 88070704000000 ?_
  refine jR (jtr (jrt (hv:=?_)))
  have hn:¬ formP b:=fun h=>by obtain ⟨h1,h2,h3⟩:=h;omega
  unfold getV getE
  rw [if_neg (fun h=>hn h.1),if_neg hn]
  exact cZ
 refine jU 1 ?_;refine jq (jri (i:=14)) ?_;refine jU 5500260 ?_;refine jcc (fun h112=>?_) fun h112=>?_
 ·refine jcs ?_;refine jcd (.rd 0 (.rd 1 (.rd 2 .done))) ?_;refine jU 88070704000000 ?_
  refine jR (jtr (jrt (hv:=?_)))
  have hn:¬ formP b:=fun h=>by obtain ⟨h1,h2,h3⟩:=h;omega
  unfold getV getE
  rw [if_neg (fun h=>hn h.1),if_neg hn]
  exact cZ
 refine jU 6810 ?_
 refine jqe (jeal (n:=7) zr283 rfl fun p1=>?_)
 refine jU 1675 ?_;refine jq (jrst (hz2:=(show (14:Int)=((14:Nat):Int) from rfl))) ?_;refine jU 20513 ?_;refine l_loop (α:=Nat) [2,3,5,6,20,21,22,23,24,25,26,27,28,29,30,31,32,33,34,35,36,37,38,39,40,41,42,43,44] (fun i=>[(20,.c (.int .i64 (i:Nat)))]) (fun i=>[(p1,.blk 7 (twF b i))]) (fun i=>i≤14∧∀ k,k<i→isDg b k) (fun i=>14-i) (0) ?_ (fun _=>rfl) ?_ ?_ ?_
 ·exact ⟨by omega,fun k hk=>by omega⟩
 ·(repeat (first|exact EntE.nil|refine EntE.cons cZ ?_))
 ·exact .blk rfl (fun j hj=>by rcases j with _|_|_|_|_|_|_|j <;> first|exact cZ|omega) .nil
 ·rintro i ⟨hi,hd⟩
  refine jU 7526 ?_;refine jcc (fun h116=>?_) fun h116=>?_
  rotate_left
  ·refine jU 84000200020006000 ?_
   have ht:(b.take 14).length=14:=by simp;omega
   have hi14:i=14:=by omega
   have hd14:∀ k,k<14→isDg b k:=fun k hk=>hd k (by omega)
   have g0:=twoI_bd hd 0
   have g1:=twoI_bd hd 1
   have hf:formP b:=⟨by omega,by omega,hd14⟩
   refine jcr ?_;refine jq (rd_iaddrA1 rfl rfl rfl Tryz.underlying283 sz3 (show (0:Int)=((0:Nat):Int) from rfl) (by (omega))) ?_;refine jU 950 ?_;refine jq (rd_iaddrA1 rfl rfl rfl Tryz.underlying283 sz3 (show (1:Int)=((1:Nat):Int) from rfl) (by (omega))) ?_;refine jU 950 ?_;refine jq (rd_iaddrA1 rfl rfl rfl Tryz.underlying283 sz3 (show (2:Int)=((2:Nat):Int) from rfl) (by (omega))) ?_;refine jU 50 ?_;refine jq (rd_iaddrA1 rfl rfl rfl Tryz.underlying283 sz3 (show (3:Int)=((3:Nat):Int) from rfl) (by (omega))) ?_;refine jU 50 ?_;refine jq (rd_iaddrA1 rfl rfl rfl Tryz.underlying283 sz3 (show (4:Int)=((4:Nat):Int) from rfl) (by (omega))) ?_;refine jU 50 ?_;refine jq (rd_iaddrA1 rfl rfl rfl Tryz.underlying283 sz3 (show (5:Int)=((5:Nat):Int) from rfl) (by (omega))) ?_;refine jU 50 ?_;refine jq (rd_iaddrA1 rfl rfl rfl Tryz.underlying283 sz3 (show (6:Int)=((6:Nat):Int) from rfl) (by (omega))) ?_;refine jU 50 ?_;refine jq (rd_build (n:=6) rfl zr270 pl270 rfl rfl) ?_
   refine jqe (jecP (secs_ac (getD6 b)) ?_ (ho:=rfl) (he:=(.cons (se rfl (CEnt.agg6 (cI (by show 100 * twoI b i 0+twoI b i 1=_;rw [hi14,twoI_14 (by omega),twoI_14 (by omega)];rfl)) (cI (by rw [hi14,twoI_14 (by omega)];rfl)) (cI (by rw [hi14,twoI_14 (by omega)];rfl)) (cI (by rw [hi14,twoI_14 (by omega)];rfl)) (cI (by rw [hi14,twoI_14 (by omega)];rfl)) (cI (by rw [hi14,twoI_14 (by omega)];rfl)))) .nil)))
   refine jU 511900900 ?_
   refine jR (jrt (hv:=?_))
   unfold getV getE
   rw [if_pos hf]
   refine cT (cI ?_) (CEnt.err rfl)
   by_cases hr:RightP (getD6 b)
   ·rw [if_pos hr,if_pos ⟨hf,hr⟩]
   ·rw [if_neg hr,if_neg (fun h=>hr h.2)]
  refine jU 75116070016207810 ?_
  have ht:(b.take 14).length=14:=by simp;omega
  have hg:(((b.take 14).getD i 0).toNat:Int)=((b.getD i 0).toNat:Int):=by
   simp [List.getD,show i<14 by omega]
  refine jU 1216 ?_;refine jqsp 27 (fun g117=>?_) fun g117=>?_
  ·refine jU 790005800044 ?_;refine jcd (.rd 0 (.rd 1 (.rd 2 .done))) ?_;refine jU 88070704000000 ?_
   refine jR (jtr (jbr (jtr (jtr (jbr (jtr (jrt (hv:=?_))))))))
   have hn:¬ formP b:=fun h=>by
    obtain ⟨h1,h2,h3⟩:=h
    have:=h3 i (by omega)
    unfold isDg at this
    omega
   unfold getV getE
   rw [if_neg (fun h=>hn h.1),if_neg hn]
   exact cZ
  refine jU 550021 ?_;refine jcc (fun h117=>?_) fun h117=>?_
  ·refine jcs ?_;refine jcd (.rd 0 (.rd 1 (.rd 2 .done))) ?_;refine jU 88070704000000 ?_
   refine jR (jtr (jbr (jtr (jtr (jbr (jtr (jrt (hv:=?_))))))))
   have hn:¬ formP b:=fun h=>by
    obtain ⟨h1,h2,h3⟩:=h
    have:=h3 i (by omega)
    unfold isDg at this
    omega
   unfold getV getE
   rw [if_neg (fun h=>hn h.1),if_neg hn]
   exact cZ
  refine jU 810 ?_
  have hdi:isDg b i:=by unfold isDg;omega
  have hdj:=hdi
  unfold isDg at hdj
  have hb2:=twoI_bd hd (i / 2)
  refine jU 60000016000001200 ?_;refine jq (rd_iaddrA1 rfl rfl rfl Tryz.underlying283 sz3 (show _=(((i / 2):Nat):Int) by omega) (by (omega))) ?_;refine jU 91950 ?_;refine jq (jrv .u8 .i64) ?_;refine jU 9 ?_;refine jq (rd_iaddrA1 rfl rfl rfl Tryz.underlying283 sz3 (show _=(((i / 2):Nat):Int) by omega) (by (omega))) ?_
  refine jqm (jmst 1 ?_)
  refine jU 851920084005 ?_
  refine jlend (i+1) ?_ ?_ (h7:=?_)
  ·exact ⟨by omega,fun k hk=>by
    rcases Nat.lt_succ_iff_lt_or_eq.1 hk with h|h
    ·exact hd k h
    ·subst h;exact hdi⟩
  ·omega
  ·exact .blk rfl (fun j hj=>by
    refine (CEnt.of_eq (updF_one _ _ _ j)).trans ?_
    unfold twF
    rw [twoI_succ]
    by_cases hj2:j=i / 2
    ·rw [if_pos hj2,if_pos hj2,hj2]
     exact cI (by unfold dg;omega)
    ·rw [if_neg hj2,if_neg hj2]
     exact cZ) .nil

def twL (b:List UInt8) (i:Nat):List Int:=(List.range i).map (two b)
end
section
variable {gs:List Nat} [Ok9 gs]

theorem moment08_ac (n:Nat) (l:List (List UInt8)) (k:Nat) (hl:0<l.length∧l.length≤1000000) (hb:(nowL l).length≤10000000) :
  AC gs Tryz.prog 117 [rdO n l k] [.op 0 (some n) 0]
   (fun r H'=>r=.c (.int .i64 (if (nextR 24 l k).is=true∧getE (nextR 24 l k).body=0 then getV (nextR 24 l k).body else 0))∧H'=[rdO n (nextR 24 l k).l (valK 24 l k getE)]):=by
 refine ac_of 5 Tryz.func117 rfl rfl rfl (fun al w0 F0 St0=>?_)
 refine jU 16516 ?_
 refine jqm (jmcH 0 (valueI_ac (m:=0) (fv:=fun _=>.top) (by kernel_rfl) n l k 24 (fun b=>(getV b,getE b)) hl hb (fun b _=>mget_ac b)) ?_ (ho:=rfl) (he:=(.cons (se rfl cP) (.cons (se rfl cZ) (.cons (se rfl CEnt.fn0) .nil)))))
 rintro _ _ ⟨rfl,rfl⟩
 refine ⟨_,_,rfl,cZ,?_⟩
 refine jU 700051 ?_
 exact end_H (.inl rfl) rfl (res_1 rfl (arv_tmp rfl)) cZ
theorem oid08_ac (n:Nat) (l:List (List UInt8)) (k:Nat) (hl:0<l.length∧l.length≤1000000) (hb:(nowL l).length≤10000000) :
  AC gs Tryz.prog 231 [rdO n l k] [.op 0 (some n) 0]
   (fun r H'=>r=strC (if (nextR 6 l k).is=true∧(ogetM (nextR 6 l k).body).2=0 then (ogetM (nextR 6 l k).body).1 else [])∧H'=[rdO n (nextR 6 l k).l (valK 6 l k fun b=>(ogetM b).2)]):=by
 refine ac_of 5 Tryz.func231 rfl rfl rfl (fun al w0 F0 St0=>?_)
 refine jU 16516 ?_
 refine jqm (jmcH 0 (valueS_ac (m:=0) (fv:=fun _=>.top) (by kernel_rfl) n l k 6 ogetM hl hb (fun b h=>oget_ac b (by omega))) ?_ (ho:=rfl) (he:=(.cons (se rfl cP) (.cons (se rfl cZ) (.cons (se rfl CEnt.fn0) .nil)))))
 rintro _ _ ⟨rfl,rfl⟩
 refine ⟨_,_,rfl,cZ,?_⟩
 refine jU 700051 ?_
 exact end_H (.inl rfl) rfl (res_1 rfl (arv_tmp rfl)) cZ
end
section
variable {gs:List Nat} [Ok9 gs]

def octM (least most:Int) (b:List UInt8):List UInt8×Nat:=if (b.length:Int)<least then ([],2) else if most<(b.length:Int) then ([],3) else (b,0)
theorem octets08_ac (n:Nat) (l:List (List UInt8)) (k:Nat) (least most:Int) (hl:0<l.length∧l.length≤1000000) (hb:(nowL l).length≤10000000) :
  AC gs Tryz.prog 66 [rdO n l k] [.op 0 (some n) 0,.c (.int .i64 least),.c (.int .i64 most)]
   (fun r H'=>r=bsC (if (nextR 4 l k).is=true∧(octM least most (nextR 4 l k).body).2=0 then (octM least most (nextR 4 l k).body).1 else [])∧H'=[rdO n (nextR 4 l k).l (valK 4 l k fun b=>(octM least most b).2)]):=by
 have g:∀ b:List UInt8,ACp gs Tryz.prog 140 (bsC b::(List.range 2).map (twoF least most)) (.tup 2 (fl [bsC (octM least most b).1,.err (octM least most b).2])):=fun b=>by
  refine ac_of 19 Tryz.func140 rfl rfl rfl (fun al w0 F0 St0=>?_)
  refine jU 512603162075116 ?_;refine jcc (fun h260=>?_) fun h260=>?_
  ·refine jcs ?_;refine jcd (.rd 0 (.rd 1 (.rd 2 .done))) ?_;refine jyq (jrde 1) ?_;refine jU 8807070 ?_
   refine jR (jbr (jtr (jrt (hv:=?_))))
   have e:octM least most b=([],2):=by unfold octM;rw [if_pos (by omega)]
   rw [e]
   exact cT cN cZ
  refine jU 51260316 ?_;refine jcc (fun h262=>?_) fun h262=>?_
  rotate_left
  ·refine jU 51116840010 ?_
   refine jR (jrt (hv:=?_))
   have e:octM least most b=(b,0):=by unfold octM;rw [if_neg (by omega),if_neg (by omega)]
   rw [e]
   exact cT cZ CEnt.nil
  refine jcs ?_;refine jcd (.rd 0 (.rd 1 (.rd 2 .done))) ?_;refine jyq (jrde 2) ?_;refine jU 8807070 ?_
  refine jR (jbr (jtr (jrt (hv:=?_))))
  have e:octM least most b=([],3):=by unfold octM;rw [if_neg (by omega),if_pos (by omega)]
  rw [e]
  exact cT cN cZ
 refine ac_of 10 Tryz.func66 rfl rfl rfl (fun al w0 F0 St0=>?_)
 refine jcr ?_
 refine jqe (jebx 1 fun p1=>?_)
 refine jqe (jebx 1 fun p2=>?_)
 refine jU 51 ?_;refine jE (freeze 1 rfl) ?_;refine jE (freeze 2 rfl) ?_;refine jE (thawP 4 (m:=1) rfl rfl (by decide)) ?_;refine jE (thawP 5 (m:=1) rfl rfl (by decide)) ?_;refine jU 16 ?_;refine jq jrmf ?_
 refine jqm (jmcH 0 (valueL_ac (fv:=twoF least most) (by kernel_rfl) n l k 4 (octM least most) hl hb (fun b _=>g b)) ?_ (ho:=rfl) (he:=(.cons (se rfl cP) (.cons (se rfl cZ) (.cons (se rfl (CEnt.fn2' (CEnt.rp int_box) (CEnt.rp int_box))) .nil)))))
 rintro _ _ ⟨rfl,rfl⟩
 refine ⟨_,_,rfl,cZ,?_⟩
 refine jU 700051 ?_
 exact end_H (.inl rfl) rfl (res_1 rfl (arv_tmp rfl)) cZ
theorem text08_ac [OkT gs] (n:Nat) (l:List (List UInt8)) (k:Nat) (most:Int) (hl:0<l.length∧l.length≤1000000) (hb:(nowL l).length≤10000000) :
  AC gs Tryz.prog 121 [rdO n l k] [.op 0 (some n) 0,.c (.int .i64 most)]
   (fun r H'=>r=strC (if (nextR 12 l k).is=true∧askedM (nextR 12 l k).body most=0 then (if askedM (nextR 12 l k).body most=0 then (nextR 12 l k).body else []) else [])∧H'=[rdO n (nextR 12 l k).l (valK 12 l k fun b=>askedM b most)]):=by
 have g:∀ b:List UInt8,b.length≤65530→ACp gs Tryz.prog 195 (bsC b::(List.range 1).map (fl [.rp 1 fun _=>.c (.int .i64 most)])) (.tup 2 (fl [strC (if askedM b most=0 then b else []),.err (askedM b most)])):=fun b hb=>by
  refine ac_of 10 Tryz.func195 rfl rfl rfl (fun al w0 F0 St0=>?_)
  refine jU 60165116 ?_
  refine jqe (jecP (xget_ac b most (by omega)) ?_)
  refine jU 511900900 ?_
  refine jR jrt
 refine ac_of 8 Tryz.func121 rfl rfl rfl (fun al w0 F0 St0=>?_)
 refine jcr ?_
 refine jqe (jebx 1 fun p1=>?_)
 refine jU 51 ?_;refine jE (freeze 1 rfl) ?_;refine jE (thawP 3 (m:=1) rfl rfl (by decide)) ?_;refine jU 16 ?_;refine jq jrmf ?_
 refine jqm (jmcH 0 (valueS_ac (fv:=fl [.rp 1 fun _=>.c (.int .i64 most)]) (by kernel_rfl) n l k 12 (fun b=>(if askedM b most=0 then b else [],askedM b most)) hl hb g) ?_ (ho:=rfl) (he:=(.cons (se rfl cP) (.cons (se rfl cZ) (.cons (se rfl (CEnt.fn1 (CEnt.rp int_box))) .nil)))))
 rintro _ _ ⟨rfl,rfl⟩
 refine ⟨_,_,rfl,cZ,?_⟩
 refine jU 700051 ?_
 exact end_H (.inl rfl) rfl (res_1 rfl (arv_tmp rfl)) cZ
end
section
variable {gs:List Nat} [Ok9 gs]
open Go.RowKit Cal

structure AA where
 kind:Int
 tag:Int
 least:Int
 most:Int
def askC (a:AA):CV:=.agg 4 (fl [.c (.int .i64 a.kind),.c (.int .i64 a.tag),.c (.int .i64 a.least),.c (.int .i64 a.most)])
def vN (n:Int):VV:=⟨0,n,false,[],[]⟩
def vI (b:Bool):VV:=⟨0,0,b,[],[]⟩
def vB (b:List UInt8):VV:=⟨0,0,false,b,[]⟩
def vT (t:List UInt8):VV:=⟨0,0,false,[],t⟩
def saidM (a:AA) (b:List UInt8):VV×Nat :=
 if a.kind=3 then (vN (rangeM b a.least a.most).1,(rangeM b a.least a.most).2) else
 if a.kind=4 then (vN (rangeM b a.least a.most).1,(rangeM b a.least a.most).2) else
 if a.kind=5 then (vI (isTrueM b).1,(isTrueM b).2) else
 if a.kind=6 then (vB (octM a.least a.most b).1,(octM a.least a.most b).2) else
 if a.kind=7 then (vT (if askedM b a.most=0 then b else []),askedM b a.most) else
 if a.kind=8 then (vT (ogetM b).1,(ogetM b).2) else
 if a.kind=9 then (vN (getV b),getE b) else (vN ((maskM b).1:Nat),(maskM b).2)
def tagA (a:AA):Int:=if a.kind=3 then 2 else if a.kind=4 then 10 else if a.kind=5 then 1 else if a.kind=6 then 4 else if a.kind=7 then 12 else if a.kind=8 then 6 else if a.kind=9 then 24 else 3
structure R8R where
 l:List (List UInt8)
 k:Nat
 v:VV
def readV (tag:Int) (said:List UInt8→VV×Nat) (l:List (List UInt8)) (k:Nat):R8R :=
 ⟨(nextR tag l k).l,valK tag l k fun b=>(said b).2,if (nextR tag l k).is=true∧(said (nextR tag l k).body).2=0 then (said (nextR tag l k).body).1 else VV.none⟩
def readR (a:AA) (l:List (List UInt8)) (k:Nat):R8R :=
 if a.kind=1 then ⟨enterL a.tag l k,(enterR a.tag l k).k,vI (enterR a.tag l k).is⟩ else
 if a.kind=2 then ⟨leaveL l k,leaveK l k,VV.none⟩ else
 if a.kind=11 then ⟨(nextR 0 l k).l,(nextR 0 l k).k,vB (nextR 0 l k).raw⟩ else readV (tagA a) (saidM a) l k
theorem readR_g {α:Type} (c:α→VV) (z:α) (hz:c z=VV.none) {a:AA} {l:List (List UInt8)} {k:Nat} {t:Int} {f:List UInt8→α×Nat} (h1:a.kind≠1) (h2:a.kind≠2) (h3:a.kind≠11) (hs:saidM a=fun b=>(c (f b).1,(f b).2)) (ht:tagA a=t) :
  readR a l k=⟨(nextR t l k).l,valK t l k fun b=>(f b).2,c (if (nextR t l k).is=true∧(f (nextR t l k).body).2=0 then (f (nextR t l k).body).1 else z)⟩:=by
 subst ht
 unfold readR
 rw [if_neg h1,if_neg h2,if_neg h3]
 unfold readV
 rw [hs]
 simp only
 split
 ·rfl
 ·rw [hz]
end
section
open Go.RowKit Cal
def muS (l:List (List UInt8)) (k:Nat):Nat:=sumL l+if k=0 then 1 else 0
theorem sumL_set (x:List UInt8):∀ {l:List (List UInt8)} {i:Nat},i<l.length→sumL (l.set i x)+(l.getD i []).length=sumL l+x.length
 | y::l,0,_=>by simp only [List.set_cons_zero,List.getD_cons_zero,sumL,List.map_cons,List.sum_cons];omega
 | y::l,i+1,h=>by
  have:=sumL_set x (l:=l) (i:=i) (by simpa using h)
  simp only [List.set_cons_succ,List.getD_cons_succ,sumL,List.map_cons,List.sum_cons] at this ⊢
  omega
theorem now_sum (l:List (List UInt8)):(nowL l).length≤sumL l:=by
 unfold nowL
 by_cases h:l.length-1<l.length
 ·have:=sumL_set [] h
  simp only [List.length_nil] at this
  omega
 ·rw [List.getD_eq_getElem?_getD,List.getElem?_eq_none (by omega)]
  simp
theorem next_mu {t:Int} {l:List (List UInt8)} {k:Nat} (hl:0<l.length):(k≠0→nextR t l k=⟨l,k,0,[],[],false⟩)∧(nextR t l k).l.length=l.length∧muS (nextR t l k).l (nextR t l k).k≤muS l k∧(k=0→muS (nextR t l k).l (nextR t l k).k<muS l k) ∧
  ((nextR t l k).is=true↔(nextR t l k).k=0)∧((nextR t l k).is=true→k=0)∧((nextR t l k).is=false→(nextR t l k).l=l):=by
 have hb:=nextM_bd (nowL l)
 have hs:=sumL_set (nextM (nowL l)).rest (show l.length-1<l.length by omega)
 unfold nextR
 by_cases h0:k≠0
 ·rw [if_pos h0]
  exact ⟨fun _=>rfl,rfl,Nat.le_refl _,fun h=>absurd h h0,by simp [h0],by simp,fun _=>rfl⟩
 ·have hk:k=0:=by omega
  subst hk
  rw [if_neg h0]
  by_cases h1:(nextM (nowL l)).e≠0
  ·rw [if_pos h1]
   refine ⟨fun h=>absurd rfl h,rfl,?_,fun _=>?_,by simp [h1],by simp,fun _=>rfl⟩ <;> (unfold muS;dsimp only;rw [if_neg h1];simp)
  ·rw [if_neg h1]
   by_cases h2:t≠0∧((nextM (nowL l)).tag:Int)≠t
   ·rw [if_pos h2]
    refine ⟨fun h=>absurd rfl h,rfl,?_,fun _=>?_,by simp,by simp,fun _=>rfl⟩ <;> (unfold muS;dsimp only;rw [if_neg (by decide)];simp)
   ·rw [if_neg h2]
    have hr:=hb.2.2.2.2.2 (by omega)
    have e:(l.getD (l.length-1) []).length=(nowL l).length:=rfl
    refine ⟨fun h=>absurd rfl h,by simp,?_,fun _=>?_,by simp,by simp,fun h=>absurd h (by simp)⟩ <;> (unfold muS;dsimp only;rw [if_pos rfl];omega)
theorem nextM_sum (b:List UInt8) (h:(nextM b).e=0):(nextM b).body.length+(nextM b).rest.length<b.length:=by
 have hm:=measM_rest (b.drop 1)
 revert h
 unfold nextM
 by_cases h0:b.length=0
 ·rw [if_pos h0];intro h;cases h
 ·rw [if_neg h0]
  by_cases h1:knownM ((b.getD 0 0).toNat:Nat)=false
  ·rw [if_pos h1];intro h;cases h
  ·rw [if_neg h1]
   dsimp only
   by_cases h2:(measM (b.drop 1)).e≠0
   ·rw [if_pos h2];intro h;exact absurd h h2
   ·rw [if_neg h2]
    by_cases h3:65530<(measM (b.drop 1)).n
    ·rw [if_pos h3];intro h;cases h
    ·rw [if_neg h3]
     by_cases h4:(measM (b.drop 1)).rest.length<(measM (b.drop 1)).n
     ·rw [if_pos h4];intro h;cases h
     ·rw [if_neg h4]
      intro _
      have:=hm.1
      rw [List.length_drop] at this
      simp only [List.length_take,List.length_drop]
      omega
theorem enter_mu {t:Int} {l:List (List UInt8)} {k:Nat} (hl:0<l.length):(k≠0→enterL t l k=l∧(enterR t l k).k=k)∧muS (enterL t l k) (enterR t l k).k≤muS l k∧(k=0→muS (enterL t l k) (enterR t l k).k<muS l k) ∧
  ((enterR t l k).k=0→(enterL t l k).length=l.length+1)∧((enterR t l k).k≠0→(enterL t l k).length=l.length)∧((enterR t l k).is=true↔(enterR t l k).k=0):=by
 have hq:∀ q,q=(if moreM l k=true∧madeM t=false then 5 else k)→(k≠0→q=k)∧(k=0→q=0∨q=5):=by
  rintro _ rfl
  refine ⟨fun h=>if_neg ?_,fun h=>?_⟩
  ·rintro ⟨h1,_⟩
   unfold moreM at h1
   simp [h] at h1
  ·subst h;split <;> simp
 unfold enterL enterR
 generalize hk:(if moreM l k=true∧madeM t=false then 5 else k)=q
 obtain ⟨q1,q2⟩:=hq q hk.symm
 obtain ⟨n1,n2,n3,n4,n5,n6,n7⟩:=next_mu (t:=t) (l:=l) (k:=q) hl
 by_cases hi:(nextR t l q).is=true
 ·have hk0:=n5.1 hi
  have hq0:=n6 hi
  subst hq0
  have hkz:k=0:=by rcases Nat.eq_zero_or_pos k with h|h;exact h;exact (q1 (by omega)).symm
  subst hkz
  have hb:muS ((nextR t l 0).l++[(nextR t l 0).body]) (nextR t l 0).k<muS l 0:=by
   rw [hk0]
   revert hi
   unfold nextR
   rw [if_neg (by decide)]
   by_cases h1:(nextM (nowL l)).e≠0
   ·rw [if_pos h1];intro h;cases h
   ·rw [if_neg h1]
    by_cases h2:t≠0∧((nextM (nowL l)).tag:Int)≠t
    ·rw [if_pos h2];intro h;cases h
    ·rw [if_neg h2]
     intro _
     have h3:=nextM_sum (nowL l) (by omega)
     have h4:=sumL_set (nextM (nowL l)).rest (show l.length-1<l.length by omega)
     have e:(l.getD (l.length-1) []).length=(nowL l).length:=rfl
     unfold muS
     dsimp only
     rw [sumL_app,if_pos rfl]
     simp only [sumL,List.map_cons,List.map_nil,List.sum_cons,List.sum_nil] at h4 ⊢
     omega
  rw [if_pos hi]
  refine ⟨fun h=>absurd rfl h,by omega,fun _=>hb,fun _=>by rw [List.length_append,n2];rfl,fun h=>absurd hk0 h,n5⟩
 ·have hi':(nextR t l q).is=false:=by simpa using hi
  have hl':=n7 hi'
  have hk0:(nextR t l q).k≠0:=fun h=>hi (n5.2 h)
  rw [if_neg hi,hl']
  refine ⟨fun h=>⟨rfl,?_⟩,?_,fun h=>?_,fun h=>absurd h hk0,fun _=>rfl,n5⟩
  ·have hq:=q1 h
   rw [n1 (by omega)]
   exact hq
  ·unfold muS;rw [if_neg hk0];simp
  ·unfold muS;rw [if_neg hk0,if_pos h];simp
theorem leave_mu {l:List (List UInt8)} {k:Nat} (hl:0<l.length):(k≠0→leaveL l k=l∧leaveK l k=k)∧muS (leaveL l k) (leaveK l k)≤muS l k∧(leaveK l k=0→k=0∧(leaveL l k).length+1=l.length∧1<l.length)∧(leaveK l k≠0→leaveL l k=l):=by
 have hk:(k≠0→leaveK l k=k):=fun h=>by unfold leaveK;rw [if_pos h]
 have h0:leaveK l k=0→k=0∧1<l.length:=fun h=>by
  unfold leaveK at h
  by_cases h1:k≠0
  ·rw [if_pos h1] at h;exact absurd h h1
  ·rw [if_neg h1] at h
   by_cases h2:l.length=1
   ·rw [if_pos h2] at h;cases h
   ·exact ⟨by omega,by omega⟩
 refine ⟨fun h=>⟨by unfold leaveL;rw [hk h,if_neg h],hk h⟩,?_,fun h=>?_,fun h=>by unfold leaveL;rw [if_neg h]⟩
 ·unfold leaveL
  by_cases h:leaveK l k=0
  ·have h1:=h0 h
   rw [if_pos h]
   unfold muS
   rw [if_pos h,if_pos h1.1]
   have h2:=sumL_take (ls:=l) (i:=l.length-1) (by omega)
   have h3:l.take (l.length-1+1)=l:=List.take_of_length_le (by omega)
   rw [h3] at h2
   omega
  ·rw [if_neg h]
   unfold muS
   rw [if_neg h]
   omega
 ·have h1:=h0 h
  unfold leaveL
  rw [if_pos h,List.length_take]
  exact ⟨h1.1,by omega,h1.2⟩
theorem read_mu (a:AA) {l:List (List UInt8)} {k:Nat} (hl:0<l.length):(k≠0→(readR a l k).l=l∧(readR a l k).k=k)∧muS (readR a l k).l (readR a l k).k≤muS l k∧(k=0→a.kind≠2→muS (readR a l k).l (readR a l k).k<muS l k) ∧
  (a.kind=1→((readR a l k).k=0→(readR a l k).l.length=l.length+1)∧((readR a l k).k≠0→(readR a l k).l.length=l.length)) ∧
  (a.kind=2→((readR a l k).k=0→(readR a l k).l.length+1=l.length∧1<l.length)∧((readR a l k).k≠0→(readR a l k).l.length=l.length)) ∧
  (a.kind≠1→a.kind≠2→(readR a l k).l.length=l.length)∧((readR a l k).k=0→k=0):=by
 unfold readR
 by_cases h1:a.kind=1
 ·rw [if_pos h1]
  obtain ⟨e1,e2,e3,e4,e5,e6⟩:=enter_mu (t:=a.tag) (l:=l) (k:=k) hl
  exact ⟨e1,e2,fun h _=>e3 h,fun _=>⟨e4,e5⟩,fun h=>by omega,fun h=>absurd h1 h,fun h=>Nat.eq_zero_of_not_pos fun hk=>by have h3:=(e1 (by omega)).2;have h4:(enterR a.tag l k).k=0:=h;omega⟩
 ·rw [if_neg h1]
  by_cases h2:a.kind=2
  ·rw [if_pos h2]
   obtain ⟨e1,e2,e3,e4⟩:=leave_mu (l:=l) (k:=k) hl
   exact ⟨e1,e2,fun _ h=>absurd h2 h,fun h=>by omega,fun _=>⟨fun h=>(e3 h).2,fun h=>by dsimp only;rw [e4 h]⟩,fun _ h=>absurd h2 h,fun h=>(e3 h).1⟩
  ·rw [if_neg h2]
   have key:∀ (t:Int) (e:Nat),(k≠0→e=(nextR t l k).k)→(e=0→(nextR t l k).k=0)→(k≠0→(nextR t l k).l=l∧e=k)∧muS (nextR t l k).l e≤muS l k∧(k=0→muS (nextR t l k).l e<muS l k)∧(nextR t l k).l.length=l.length∧(e=0→k=0):=fun t e h3 h4=>by
    obtain ⟨n1,n2,n3,n4,n5,n6,n7⟩:=next_mu (t:=t) (l:=l) (k:=k) hl
    have hm:muS (nextR t l k).l e≤muS (nextR t l k).l (nextR t l k).k:=by
     unfold muS
     by_cases h:e=0
     ·rw [if_pos h,if_pos (h4 h)];exact Nat.le_refl _
     ·rw [if_neg h];omega
    refine ⟨fun h=>⟨by rw [n1 h],by rw [h3 h,n1 h]⟩,by omega,fun h=>by have:=n4 h;omega,n2,fun h=>n6 (n5.2 (h4 h))⟩
   by_cases h3:a.kind=11
   ·rw [if_pos h3]
    obtain ⟨e1,e2,e3,e4,e5⟩:=key 0 (nextR 0 l k).k (fun _=>rfl) id
    exact ⟨e1,e2,fun h _=>e3 h,fun h=>absurd h h1,fun h=>absurd h h2,fun _ _=>e4,e5⟩
   ·rw [if_neg h3]
    unfold readV
    have hv:∀ f:List UInt8→Nat,(k≠0→valK (tagA a) l k f=(nextR (tagA a) l k).k)∧(valK (tagA a) l k f=0→(nextR (tagA a) l k).k=0):=fun f=>by
     obtain ⟨n1,n2,n3,n4,n5,n6,n7⟩:=next_mu (t:=tagA a) (l:=l) (k:=k) hl
     unfold valK
     refine ⟨fun h=>if_neg fun hi=>h (n6 hi),fun h=>?_⟩
     by_cases hi:(nextR (tagA a) l k).is=true
     ·exact n5.1 hi
     ·rw [if_neg hi] at h;exact h
    obtain ⟨e1,e2,e3,e4,e5⟩:=key (tagA a) (valK (tagA a) l k fun b=>(saidM a b).2) (hv _).1 (hv _).2
    exact ⟨e1,e2,fun h _=>e3 h,fun h=>absurd h h1,fun h=>absurd h h2,fun _ _=>e4,e5⟩
abbrev StepR (α:Type):=List (List UInt8)→Nat→(List (List UInt8)×Nat)×α
structure StepOk {α:Type} (sp:StepR α):Prop where
 mu:∀ l k,0<l.length→moreM l k=true→muS (sp l k).1.1 (sp l k).1.2<muS l k
 len:∀ l k,0<l.length→moreM l k=true→(sp l k).1.2=0→(sp l k).1.1.length=l.length
 grow:∀ l k,0<l.length→moreM l k=true→l.length≤(sp l k).1.1.length∧(sp l k).1.1.length≤l.length+16
section
variable {α:Type} (sp:StepR α) (l0:List (List UInt8)) (k0:Nat) (most:Int)
def stG:Nat→(List (List UInt8)×Nat)×List α
 | 0=>((l0,k0),[])
 | j+1=>((sp (stG j).1.1 (stG j).1.2).1,(stG j).2++[(sp (stG j).1.1 (stG j).1.2).2])
def goB (j:Nat):Bool:=moreM (stG sp l0 k0 j).1.1 (stG sp l0 k0 j).1.2 && decide ((j:Int)<most)
def firstG (p:Nat→Bool):Nat→Nat→Nat
 | 0,j=>j
 | n+1,j=>if p j=true then firstG p n (j+1) else j
theorem firstG_spec (p:Nat→Bool):∀ n j,(∀ i,i<j→p i=true)→(∀ i,i<firstG p n j→p i=true)∧(p (firstG p n j)=false∨firstG p n j=j+n)
 | 0,j,h=>⟨h,.inr rfl⟩
 | n+1,j,h=>by
  unfold firstG
  by_cases hp:p j=true
  ·rw [if_pos hp]
   obtain ⟨h1,h2⟩:=firstG_spec p n (j+1) (fun i hi=>if e:i=j then e ▸ hp else h i (by omega))
   exact ⟨h1,h2.imp id (fun e=>by omega)⟩
  ·rw [if_neg hp]
   exact ⟨h,.inl (by simpa using hp)⟩
def jG:Nat:=firstG (goB sp l0 k0 most) (muS l0 k0+1) 0
def endG:List (List UInt8)×Nat :=
 let s:=(stG sp l0 k0 (jG sp l0 k0 most)).1
 if moreM s.1 s.2=true then (leaveL s.1 3,leaveK s.1 3) else (leaveL s.1 s.2,leaveK s.1 s.2)
theorem stG_out:∀ j,(stG sp l0 k0 j).2.length=j
 | 0=>rfl
 | j+1=>by
  show (_++[_]).length=_
  rw [List.length_append,stG_out j];rfl
variable {sp l0 k0 most}
theorem stG_bd (ok:StepOk sp) (hl:0<l0.length):∀ j,(∀ i,i<j→goB sp l0 k0 most i=true)→muS (stG sp l0 k0 j).1.1 (stG sp l0 k0 j).1.2+j≤muS l0 k0∧((stG sp l0 k0 j).1.2=0→(stG sp l0 k0 j).1.1.length=l0.length)∧l0.length≤(stG sp l0 k0 j).1.1.length∧(stG sp l0 k0 j).1.1.length≤l0.length+16
 | 0,_=>⟨Nat.le_refl _,fun _=>rfl,Nat.le_refl _,by show l0.length≤l0.length+16;omega⟩
 | j+1,h=>by
  obtain ⟨h1,h2,h3,h4⟩:=stG_bd ok hl j fun i hi=>h i (by omega)
  have hg:=h j (by omega)
  unfold goB at hg
  rw [Bool.and_eq_true] at hg
  have hk:=(more_pos hg.1).1
  have hlen:=h2 hk
  have hp:0<(stG sp l0 k0 j).1.1.length:=by omega
  have m1:=ok.mu _ _ hp hg.1
  have m2:=ok.len _ _ hp hg.1
  have m3:=ok.grow _ _ hp hg.1
  show muS (sp (stG sp l0 k0 j).1.1 (stG sp l0 k0 j).1.2).1.1 (sp (stG sp l0 k0 j).1.1 (stG sp l0 k0 j).1.2).1.2+(j+1)≤_∧((sp (stG sp l0 k0 j).1.1 (stG sp l0 k0 j).1.2).1.2=0→(sp (stG sp l0 k0 j).1.1 (stG sp l0 k0 j).1.2).1.1.length=_)∧_≤(sp (stG sp l0 k0 j).1.1 (stG sp l0 k0 j).1.2).1.1.length∧(sp (stG sp l0 k0 j).1.1 (stG sp l0 k0 j).1.2).1.1.length≤_
  exact ⟨by omega,fun e=>by rw [m2 e,hlen],by omega,by omega⟩
theorem jG_stop (ok:StepOk sp) (hl:0<l0.length):(∀ i,i<jG sp l0 k0 most→goB sp l0 k0 most i=true)∧goB sp l0 k0 most (jG sp l0 k0 most)=false:=by
 obtain ⟨h1,h2⟩:=firstG_spec (goB sp l0 k0 most) (muS l0 k0+1) 0 (fun i hi=>absurd hi (Nat.not_lt_zero i))
 refine ⟨h1,?_⟩
 rcases h2 with h2|h2
 ·exact h2
 ·have:=(stG_bd ok hl _ h1).1
  rw [h2] at this
  omega
theorem jG_one (ok:StepOk sp) (hl:0<l0.length) {j:Nat} (h1:∀ i,i<j→goB sp l0 k0 most i=true) (h2:goB sp l0 k0 most j=false):jG sp l0 k0 most=j:=by
 obtain ⟨h3,h4⟩:=jG_stop (k0:=k0) (most:=most) ok hl
 rcases Nat.lt_trichotomy (jG sp l0 k0 most) j with h|h|h
 ·rw [h1 _ h] at h4;cases h4
 ·exact h
 ·rw [h3 _ h] at h2;cases h2
end
end
section
open Go.RowKit Cal
theorem b8_eq {n:Nat} {x:UInt8} (h:n % 256=x.toNat):b8 n=x:=UInt8.toNat_inj.1 (by rw [b8_mod,h])
theorem list_one {x:List UInt8} (h:x.length=1):x=[x.getD 0 0]:=by
 match x,h with
 | [a],_=>rfl
theorem list_two {x:List UInt8} (h:x.length=2):x=[x.getD 0 0,x.getD 1 0]:=by
 match x,h with
 | [a,b],_=>rfl
theorem list_three {x:List UInt8} (h:x.length=3):x=[x.getD 0 0,x.getD 1 0,x.getD 2 0]:=by
 match x,h with
 | [a,b,c],_=>rfl
theorem list_four {x:List UInt8} (h:x.length=4):x=[x.getD 0 0,x.getD 1 0,x.getD 2 0,x.getD 3 0]:=by
 match x,h with
 | [a,b,c,d],_=>rfl
theorem meas_canon {b:List UInt8} (h:(measM b).e=0):b=lenL (measM b).n++(measM b).rest:=by
 revert h
 unfold measM
 by_cases h0:b.length=0
 ·rw [if_pos h0];intro h;cases h
 ·rw [if_neg h0]
  dsimp only
  have hb:b=b.getD 0 0::b.drop 1:=by
   match b,h0 with
   | c::r,_=>rfl
  generalize hc:b.getD 0 0=c at hb ⊢
  generalize hr:b.drop 1=r at hb ⊢
  subst hb
  have hc8:=c.toNat_lt
  by_cases h1:c.toNat≤127
  ·rw [if_pos h1]
   intro _
   unfold lenL
   dsimp only
   rw [if_pos (by omega)]
   rw [b8_eq (show c.toNat % 256=c.toNat by omega)]
   rfl
  ·rw [if_neg h1]
   by_cases h2:c.toNat=128∨132<c.toNat
   ·rw [if_pos h2];intro h;cases h
   ·rw [if_neg h2]
    by_cases h3:r.length<c.toNat-128
    ·rw [if_pos h3];intro h;cases h
    ·rw [if_neg h3]
     by_cases h4:beN (r.take (c.toNat-128))≤127∨(r.getD 0 0).toNat=0
     ·rw [if_pos h4];intro h;cases h
     ·rw [if_neg h4]
      intro _
      dsimp only
      obtain ⟨h5,h6⟩:=not_or.1 h4
      have hd:c::r=c::(r.take (c.toNat-128)++r.drop (c.toNat-128)):=by rw [List.take_append_drop]
      have hl:(r.take (c.toNat-128)).length=c.toNat-128:=by rw [List.length_take];omega
      have h0r:(r.take (c.toNat-128)).getD 0 0=r.getD 0 0:=by
       simp only [List.getD_eq_getElem?_getD,List.getElem?_take]
       rw [if_pos (by omega)]
      rw [hd]
      rw [← h0r] at h6
      generalize r.drop (c.toNat-128)=q at *
      generalize r.take (c.toNat-128)=x at *
      have hcx:c=b8 c.toNat:=(b8_eq (by omega)).symm
      obtain e|e|e|e:c.toNat=129∨c.toNat=130∨c.toNat=131∨c.toNat=132:=by omega
      ·have hx:=list_one (x:=x) (by omega)
       generalize x.getD 0 0=x0 at hx h6
       subst hx
       have h7:=x0.toNat_lt
       simp only [beN,List.foldl_cons,List.foldl_nil,Nat.zero_mul,Nat.zero_add] at h5 ⊢
       unfold lenL
       rw [if_neg (by omega),if_pos (by omega),b8_eq (show x0.toNat % 256=x0.toNat by omega),hcx,e]
       rfl
      ·have hx:=list_two (x:=x) (by omega)
       generalize x.getD 0 0=x0 at hx h6
       generalize x.getD 1 0=x1 at hx
       subst hx
       have h7:=x0.toNat_lt
       have h8:=x1.toNat_lt
       simp only [beN,List.foldl_cons,List.foldl_nil,Nat.zero_mul,Nat.zero_add] at h5 ⊢
       unfold lenL
       rw [if_neg (by omega),if_neg (by omega),if_pos (by omega),b8_eq (show (x0.toNat * 256+x1.toNat) / 256 % 256=x0.toNat by omega),b8_eq (show (x0.toNat * 256+x1.toNat) % 256=x1.toNat by omega),hcx,e]
       rfl
      ·have hx:=list_three (x:=x) (by omega)
       generalize x.getD 0 0=x0 at hx h6
       generalize x.getD 1 0=x1 at hx
       generalize x.getD 2 0=x2 at hx
       subst hx
       have h7:=x0.toNat_lt
       have h8:=x1.toNat_lt
       have h9:=x2.toNat_lt
       simp only [beN,List.foldl_cons,List.foldl_nil,Nat.zero_mul,Nat.zero_add] at h5 ⊢
       unfold lenL
       rw [if_neg (by omega),if_neg (by omega),if_neg (by omega),if_pos (by omega),b8_eq (show ((x0.toNat * 256+x1.toNat) * 256+x2.toNat) / 65536 % 256=x0.toNat by omega),b8_eq (show ((x0.toNat * 256+x1.toNat) * 256+x2.toNat) / 256 % 256=x1.toNat by omega),b8_eq (show ((x0.toNat * 256+x1.toNat) * 256+x2.toNat) % 256=x2.toNat by omega),hcx,e]
       rfl
      ·have hx:=list_four (x:=x) (by omega)
       generalize x.getD 0 0=x0 at hx h6
       generalize x.getD 1 0=x1 at hx
       generalize x.getD 2 0=x2 at hx
       generalize x.getD 3 0=x3 at hx
       subst hx
       have h7:=x0.toNat_lt
       have h8:=x1.toNat_lt
       have h9:=x2.toNat_lt
       have h10:=x3.toNat_lt
       simp only [beN,List.foldl_cons,List.foldl_nil,Nat.zero_mul,Nat.zero_add] at h5 ⊢
       unfold lenL
       rw [if_neg (by omega),if_neg (by omega),if_neg (by omega),if_neg (by omega),b8_eq (show (((x0.toNat * 256+x1.toNat) * 256+x2.toNat) * 256+x3.toNat) / 16777216 % 256=x0.toNat by omega),b8_eq (show (((x0.toNat * 256+x1.toNat) * 256+x2.toNat) * 256+x3.toNat) / 65536 % 256=x1.toNat by omega),b8_eq (show (((x0.toNat * 256+x1.toNat) * 256+x2.toNat) * 256+x3.toNat) / 256 % 256=x2.toNat by omega),b8_eq (show (((x0.toNat * 256+x1.toNat) * 256+x2.toNat) * 256+x3.toNat) % 256=x3.toNat by omega),hcx,e]
       rfl
theorem nx_known {b:List UInt8} (h:(nextM b).e=0):knownM ((nextM b).tag:Nat)=true:=by
 revert h
 unfold nextM
 by_cases h0:b.length=0
 ·rw [if_pos h0];intro h;cases h
 ·rw [if_neg h0]
  by_cases h1:knownM ((b.getD 0 0).toNat:Nat)=false
  ·rw [if_pos h1];intro h;cases h
  ·rw [if_neg h1]
   dsimp only
   by_cases h2:(measM (b.drop 1)).e≠0
   ·rw [if_pos h2];intro h;exact absurd h h2
   ·rw [if_neg h2]
    by_cases h3:65530<(measM (b.drop 1)).n
    ·rw [if_pos h3];intro h;cases h
    ·rw [if_neg h3]
     by_cases h4:(measM (b.drop 1)).rest.length<(measM (b.drop 1)).n
     ·rw [if_pos h4];intro h;cases h
     ·rw [if_neg h4]
      intro _
      simpa using h1
theorem next_canon {b:List UInt8} (h:(nextM b).e=0):b=putL ((nextM b).tag:Nat) (nextM b).body++(nextM b).rest∧knownM ((nextM b).tag:Nat)=true∧(nextM b).body.length≤65530:=by
 refine ⟨?_,nx_known h,(nextM_bd b).2.2.1⟩
 revert h
 unfold nextM
 by_cases h0:b.length=0
 ·rw [if_pos h0];intro h;cases h
 ·rw [if_neg h0]
  by_cases h1:knownM ((b.getD 0 0).toNat:Nat)=false
  ·rw [if_pos h1];intro h;cases h
  ·rw [if_neg h1]
   dsimp only
   by_cases h2:(measM (b.drop 1)).e≠0
   ·rw [if_pos h2];intro h;exact absurd h h2
   ·rw [if_neg h2]
    have hm:=meas_canon (b:=b.drop 1) (by omega)
    by_cases h3:65530<(measM (b.drop 1)).n
    ·rw [if_pos h3];intro h;cases h
    ·rw [if_neg h3]
     by_cases h4:(measM (b.drop 1)).rest.length<(measM (b.drop 1)).n
     ·rw [if_pos h4];intro h;cases h
     ·rw [if_neg h4]
      intro _
      dsimp only
      have hb:b=b.getD 0 0::b.drop 1:=by
       match b,h0 with
       | c::r,_=>rfl
      have hc8:=(b.getD 0 0).toNat_lt
      have e:UInt8.ofNat (((b.getD 0 0).toNat:Nat):Int).toNat=b.getD 0 0:=by
       rw [Int.toNat_natCast,UInt8.ofNat_toNat]
      have hl:((measM (b.drop 1)).rest.take (measM (b.drop 1)).n).length=(measM (b.drop 1)).n:=by rw [List.length_take];omega
      unfold putL
      rw [e,hl,List.cons_append,List.append_assoc,List.take_append_drop,← hm]
      exact hb
theorem nextR_canon {t:Int} {l:List (List UInt8)} {k:Nat} (ht:t≠0) (h:(nextR t l k).k=0):k=0∧nowL l=putL t (nextR t l k).body++(nextM (nowL l)).rest∧(nextR t l k).l=l.set (l.length-1) (nextM (nowL l)).rest∧knownM t=true∧(nextR t l k).body.length≤65530∧(nextR t l k).is=true:=by
 revert h
 unfold nextR
 by_cases h0:k≠0
 ·rw [if_pos h0];intro h;exact absurd h h0
 ·rw [if_neg h0]
  by_cases h1:(nextM (nowL l)).e≠0
  ·rw [if_pos h1];intro h;exact absurd h h1
  ·rw [if_neg h1]
   by_cases h2:t≠0∧((nextM (nowL l)).tag:Int)≠t
   ·rw [if_pos h2];intro h;cases h
   ·rw [if_neg h2]
    intro _
    have h3:=next_canon (b:=nowL l) (by omega)
    have e:((nextM (nowL l)).tag:Int)=t:=Classical.byContradiction fun e=>h2 ⟨ht,e⟩
    rw [e] at h3
    exact ⟨by omega,h3.1,rfl,h3.2.1,h3.2.2,rfl⟩
theorem oget_canon {b:List UInt8} (h:(ogetM b).2=0):putM (ogetM b).1=b∧(parseM (ogetM b).1).2=0:=by
 unfold ogetM at h ⊢
 by_cases h0:(getA b).2=0
 ·rw [if_pos h0]
  obtain ⟨h1,h2⟩:=put_get (b:=b) (l:=(getA b).1) (by rw [← h0])
  have h3:=parse_text h2
  unfold putM
  dsimp only
  rw [h3]
  exact ⟨by rw [if_pos rfl];exact h1,rfl⟩
 ·rw [if_neg h0] at h;exact absurd h h0
theorem int_canon {b:List UInt8} (h:(getM b).2=0):putN (getM b).1=b:=by
 obtain ⟨h1,h2⟩:=getM_len h
 obtain ⟨h3,h4⟩:=getM_bd h
 rw [← putN_of h3 h4 h1]
 exact h2
theorem range_canon {b:List UInt8} {x y:Int} (h:(rangeM b x y).2=0):putN (rangeM b x y).1=b∧(getM b).2=0∧(rangeM b x y).1=(getM b).1∧x≤(getM b).1∧(getM b).1≤y:=by
 unfold rangeM at h ⊢
 by_cases h0:(getM b).2≠0
 ·rw [if_pos h0] at h;exact absurd h h0
 ·rw [if_neg h0] at h ⊢
  by_cases h1:(getM b).1<x∨y<(getM b).1
  ·rw [if_pos h1] at h;cases h
  ·rw [if_neg h1]
   exact ⟨int_canon (by omega),by omega,rfl,by omega,by omega⟩
end
section
open Go.RowKit Cal
structure Elt (x:List UInt8) (t:Nat) (b:List UInt8):Prop where
 nx:∀ r,nextM (x++r)=⟨0,t,b,r⟩
 pos:0<x.length
 wh:∀ lv,lv≤16→(wholeM lv t b).2=0∨(wholeM lv t b).2=6
def IsE (x:List UInt8):Prop:=∃ t b,Elt x t b
structure GoodW (s:W8):Prop where
 fr:∀ f ∈ s.fr,madeM f.1=true∧∀ y ∈ f.2,IsE y
 d:∃ xs:List (List UInt8),s.d=xs.flatten∧∀ x ∈ xs,IsE x
end
section
open Go.RowKit Cal
def doAll (vs:List VV) (s:W8):W8:=vs.foldl (fun s v=>doW v s) s
def rdoAll (vs:List VV) (r:R8):R8:=vs.foldl (fun r v=>rdoS v r) r
theorem doAll_app (a b:List VV) (s:W8):doAll (a++b) s=doAll b (doAll a s):=by unfold doAll;rw [List.foldl_append]
theorem rdoAll_app (a b:List VV) (r:R8):rdoAll (a++b) r=rdoAll b (rdoAll a r):=by unfold rdoAll;rw [List.foldl_append]
theorem inv_mono {i j:Nat} {r:R8} {s:W8} (h:Inv8 i r s) (hij:i≤j):Inv8 j r s :=
 ⟨h.same,by have:=h.w;omega,fun x hx=>by have:=h.rows x hx;omega,h.n⟩
theorem inv_all:∀ (vs:List VV) {i:Nat} {r:R8} {s:W8},Inv8 i r s→(∀ v ∈ vs,SmallV v)→Inv8 (i+vs.length) (rdoAll vs r) (doAll vs s)
 | [],i,r,s,h,_=>h
 | v::vs,i,r,s,h,hv=>by
  have:=inv_all vs (inv_do h (hv v List.mem_cons_self)) fun x hx=>hv x (List.mem_cons_of_mem _ hx)
  rw [List.length_cons,show i+(vs.length+1)=i+1+vs.length by omega]
  exact this
theorem doW_bad8 {v:VV} {s:W8} (h:s.k≠0):doW v s=s:=by
 have e1:∀ e,failW e s=s:=fun e=>by unfold failW;rw [if_neg h]
 unfold doW openW closeV rawW putW
 simp only [e1,h,ne_eq,not_false_iff,if_true,if_false,ite_self]
theorem rdo_bad {v:VV} {r:R8} (h:r.e≠0):rdoS v r=r:=by unfold rdoS;rw [if_pos h]
theorem rdoAll_bad:∀ (vs:List VV) {r:R8},r.e≠0→rdoAll vs r=r
 | [],r,_=>rfl
 | v::vs,r,h=>by
  show rdoAll vs (rdoS v r)=r
  rw [rdo_bad h]
  exact rdoAll_bad vs h
theorem failW_zero (s:W8):failW 0 s=s:=by
 unfold failW
 split
 ·rename_i h;rw [← h]
 ·rfl
theorem open_ok {t:Int} {s:W8} (hk:s.k=0) (ht:madeM t=true) (hl:s.fr.length<16):openW t s=⟨(t,[])::s.fr,s.d,0⟩:=by
 unfold openW
 rw [if_neg (by omega),if_neg (by rw [ht];decide),if_neg (by omega),hk]
theorem put_ok {t:Int} {b:List UInt8} {s:W8} (hk:s.k=0) (ht:knownM t=true) (hb:b.length≤65530):putW t b 0 s=addW (putL t b) s:=by
 unfold putW
 rw [failW_zero,if_neg (by omega),if_neg (by unfold putE;rw [if_neg (by rw [ht];decide),if_neg (by omega)];decide)]
theorem close_ok {t:Int} {ls:List (List UInt8)} {fr:List (Int×List (List UInt8))} {d:List UInt8} (ht:knownM t=true) (h9:t≠49) (hb:ls.flatten.length≤65530):closeV ⟨(t,ls)::fr,d,0⟩=addW (putL t ls.flatten) ⟨fr,d,0⟩:=by
 have hf:bodyF (t,ls)=ls.flatten:=by unfold bodyF;rw [if_neg h9]
 show putW t (bodyF (t,ls)) 0 ⟨fr,d,0⟩=_
 rw [hf,put_ok rfl ht hb]
def elB (x:Int×List UInt8):List UInt8:=putL x.1 x.2
structure Lev (d:Nat) (x:Int×List UInt8):Prop where
 known:knownM x.1=true
 len:x.2.length≤65530
 wh:∀ lv,d≤lv→(wholeM lv x.1.toNat x.2).2=0
theorem Lev.mono {d e:Nat} {x:Int×List UInt8} (h:Lev d x) (hd:d≤e):Lev e x:=⟨h.known,h.len,fun lv hl=>h.wh lv (by omega)⟩
theorem lev_plain {t:Int} {b:List UInt8} (hk:knownM t=true) (hm:madeM t=false) (hb:b.length≤65530):Lev 1 (t,b) :=
 ⟨hk,hb,fun lv _=>by rw [wholeM_not (by rw [Int.toNat_of_nonneg (known_bd hk).1];exact hm)]⟩
theorem elB_next {x:Int×List UInt8} (hk:knownM x.1=true) (hb:x.2.length≤65530) (r:List UInt8):nextM (elB x++r)=⟨0,x.1.toNat,x.2,r⟩:=next_put hk hb
theorem elB_pos (x:Int×List UInt8):0<(elB x).length:=by unfold elB putL;simp
theorem loop_els {d lv:Nat} {rec:Nat→List UInt8→Nat×Nat} (hlv:1<lv):∀ (xs:List (Int×List UInt8)) (fuel:Nat) (last:List UInt8) (dp:Nat),(∀ x ∈ xs,Lev d x∧(rec x.1.toNat x.2).2=0)→((xs.map elB).flatten).length≤fuel→(loopW rec false lv fuel (xs.map elB).flatten last dp).2=0
 | [],fuel,last,dp,_,_=>by
  show (loopW rec false lv fuel [] last dp).2=0
  rw [loopW_nil]
 | x::xs,fuel,last,dp,hx,hf=>by
  obtain ⟨h1,h2⟩:=hx x List.mem_cons_self
  rw [List.map_cons,List.flatten_cons] at hf ⊢
  have hp:=elB_pos x
  have hn:=elB_next h1.known h1.len (xs.map elB).flatten
  rw [List.length_append] at hf
  cases fuel with
  | zero=>omega
  | succ fuel =>
   unfold loopW
   rw [hn]
   dsimp only
   rw [if_neg (by rw [List.length_append];omega),if_neg (by decide),if_neg (by omega),if_neg (by rw [h2];decide),if_neg (by simp)]
   exact loop_els hlv xs fuel _ _ (fun y hy=>hx y (List.mem_cons_of_mem _ hy)) (by omega)
theorem lev_made {d:Nat} {t:Int} {xs:List (Int×List UInt8)} (hd:1≤d) (hm:madeM t=true) (h9:t≠49) (hx:∀ x ∈ xs,Lev d x) (hl:((xs.map elB).flatten).length≤65530):Lev (d+1) (t,(xs.map elB).flatten):=by
 have hk:=made_known hm
 refine ⟨hk,hl,fun lv h=>?_⟩
 obtain ⟨lv,rfl⟩:∃ m,lv=m+1:=⟨lv-1,by omega⟩
 have ht:((t.toNat:Nat):Int)=t:=Int.toNat_of_nonneg (known_bd hk).1
 show (wholeM (lv+1) t.toNat (xs.map elB).flatten).2=0
 unfold wholeM
 rw [ht,if_neg (by rw [hm];decide)]
 have e:decide (t.toNat=49)=false:=by rw [decide_eq_false_iff_not];omega
 rw [e]
 exact loop_els (d:=d) (by omega) xs _ _ _ (fun x h2=>⟨hx x h2,(hx x h2).wh lv (by omega)⟩) (Nat.le_refl _)
theorem lev_depth {d:Nat} {x:Int×List UInt8} (h:Lev d x) (hd:d≤16) (hl:(elB x).length≤65536):(depthM (elB x)).2=0:=by
 have hn:=elB_next h.known h.len []
 rw [List.append_nil] at hn
 unfold depthM
 rw [hn,if_neg (by omega)]
 dsimp only
 rw [if_neg (by decide),if_neg (by simp)]
 exact h.wh 16 hd
theorem nowL_snoc (ls:List (List UInt8)) (x:List UInt8):nowL (ls++[x])=x:=by unfold nowL;simp
theorem set_snoc (ls:List (List UInt8)) (x y:List UInt8):(ls++[x]).set ((ls++[x]).length-1) y=ls++[y]:=by simp
theorem nextR_fwd (ls:List (List UInt8)) {t:Int} {b:List UInt8} (r:List UInt8) (hk:knownM t=true) (hb:b.length≤65530):∃ tg raw,nextR t (ls++[putL t b++r]) 0=⟨ls++[r],0,tg,b,raw,true⟩:=by
 have hn:=next_put (r:=r) hk hb
 have h0:=(known_bd hk).1
 unfold nextR
 rw [nowL_snoc,hn,set_snoc,if_neg (by decide),if_neg (by simp),if_neg (by dsimp only;rw [Int.toNat_of_nonneg h0];simp)]
 exact ⟨_,_,rfl⟩
theorem nextR_back {ls:List (List UInt8)} {x:List UInt8} {t:Int} {k:Nat} (ht:t≠0) (h:(nextR t (ls++[x]) k).k=0):k=0∧knownM t=true∧∃ b r tg raw,x=putL t b++r∧b.length≤65530∧nextR t (ls++[x]) k=⟨ls++[r],0,tg,b,raw,true⟩:=by
 obtain ⟨h1,h2,h3,h4,h5,h6⟩:=nextR_canon ht h
 rw [nowL_snoc] at h2 h3
 rw [set_snoc] at h3
 refine ⟨h1,h4,(nextR t (ls++[x]) k).body,(nextM x).rest,(nextR t (ls++[x]) k).tag,(nextR t (ls++[x]) k).raw,h2,h5,?_⟩
 rw [← h3]
 conv=>rhs;arg 2;rw [← h]
 conv=>rhs;arg 6;rw [← h6]
theorem enter_fwd (ls:List (List UInt8)) {t:Int} {b:List UInt8} (r:List UInt8) (hm:madeM t=true) (hb:b.length≤65530):enterL t (ls++[putL t b++r]) 0=ls++[r]++[b]∧(enterR t (ls++[putL t b++r]) 0).k=0∧(enterR t (ls++[putL t b++r]) 0).is=true:=by
 obtain ⟨tg,raw,hN⟩:=nextR_fwd ls r (made_known hm) hb
 have hE:enterR t (ls++[putL t b++r]) 0=⟨ls++[r],0,tg,b,raw,true⟩:=by
  unfold enterR
  rw [if_neg (by rintro ⟨_,h⟩;rw [hm] at h;cases h),hN]
 unfold enterL
 rw [hE,if_pos rfl]
 exact ⟨rfl,rfl,rfl⟩
theorem enter_back {ls:List (List UInt8)} {x:List UInt8} {t:Int} {k:Nat} (ht:t≠0) (h:(enterR t (ls++[x]) k).k=0):k=0∧∃ b r,x=putL t b++r∧b.length≤65530∧enterL t (ls++[x]) k=ls++[r]++[b]∧(enterR t (ls++[x]) k).is=true:=by
 have hc:k=0∧enterR t (ls++[x]) k=nextR t (ls++[x]) k:=by
  unfold enterR at h ⊢
  by_cases hc:moreM (ls++[x]) k=true∧madeM t=false
  ·rw [if_pos hc] at h
   exact absurd (nextR_back ht h).1 (by decide)
  ·rw [if_neg hc] at h ⊢
   exact ⟨(nextR_back ht h).1,rfl⟩
 obtain ⟨hk,hE⟩:=hc
 rw [hE] at h
 obtain ⟨_,_,b,r,tg,raw,h1,h2,h3⟩:=nextR_back ht h
 refine ⟨hk,b,r,h1,h2,?_,?_⟩
 ·unfold enterL
  rw [hE,h3,if_pos rfl]
 ·rw [hE,h3]
theorem read_enter (a:AA) (ha:a.kind=1) (l:List (List UInt8)) (k:Nat):(readR a l k).l=enterL a.tag l k∧(readR a l k).k=(enterR a.tag l k).k:=by unfold readR;rw [if_pos ha];exact ⟨rfl,rfl⟩
theorem read_leave (a:AA) (ha:a.kind=2) (l:List (List UInt8)) (k:Nat):(readR a l k).l=leaveL l k∧(readR a l k).k=leaveK l k:=by unfold readR;rw [if_neg (by omega),if_pos ha];exact ⟨rfl,rfl⟩
theorem leave_fwd {ls:List (List UInt8)} (h:0<ls.length):leaveL (ls++[[]]) 0=ls∧leaveK (ls++[[]]) 0=0:=by
 have hk:leaveK (ls++[[]]) 0=0:=by
  unfold leaveK
  rw [if_neg (by decide),if_neg (by rw [List.length_append,List.length_singleton];omega),nowL_snoc,if_neg (by decide)]
 unfold leaveL
 rw [hk,if_pos rfl]
 exact ⟨by simp,rfl⟩
theorem leave_back {ls:List (List UInt8)} {x:List UInt8} {k:Nat} (h:leaveK (ls++[x]) k=0):k=0∧x=[]∧0<ls.length∧leaveL (ls++[x]) k=ls:=by
 have h0:=h
 unfold leaveK at h
 by_cases h1:k≠0
 ·rw [if_pos h1] at h;exact absurd h h1
 ·rw [if_neg h1] at h
  by_cases h2:(ls++[x]).length=1
  ·rw [if_pos h2] at h;cases h
  ·rw [if_neg h2,nowL_snoc] at h
   by_cases h3:0<x.length
   ·rw [if_pos h3] at h;cases h
   ·refine ⟨by omega,List.eq_nil_of_length_eq_zero (by omega),by rw [List.length_append,List.length_singleton] at h2;omega,?_⟩
    unfold leaveL
    rw [h0,if_pos rfl]
    simp
theorem read_fwd (a:AA) (ls:List (List UInt8)) {b:List UInt8} (r:List UInt8) (ha:3≤a.kind∧a.kind≤10) (hb:b.length≤65530) (h:(saidM a b).2=0):readR a (ls++[putL (tagA a) b++r]) 0=⟨ls++[r],0,(saidM a b).1⟩:=by
 have hk:knownM (tagA a)=true:=by
  unfold tagA
  repeat' split
  all_goals decide
 obtain ⟨tg,raw,hN⟩:=nextR_fwd ls r hk hb
 unfold readR readV valK
 rw [if_neg (by omega),if_neg (by omega),if_neg (by omega),hN]
 dsimp only
 rw [if_pos rfl,if_pos ⟨rfl,h⟩,h]
theorem read_back {a:AA} {ls:List (List UInt8)} {x:List UInt8} {k:Nat} (ha:3≤a.kind∧a.kind≤10) (h:(readR a (ls++[x]) k).k=0):k=0∧∃ b r,x=putL (tagA a) b++r∧b.length≤65530∧(saidM a b).2=0∧readR a (ls++[x]) k=⟨ls++[r],0,(saidM a b).1⟩:=by
 have ht:tagA a≠0:=by
  unfold tagA
  repeat' split
  all_goals decide
 have e:readR a (ls++[x]) k=readV (tagA a) (saidM a) (ls++[x]) k:=by unfold readR;rw [if_neg (by omega),if_neg (by omega),if_neg (by omega)]
 have hn:(nextR (tagA a) (ls++[x]) k).k=0:=by
  rw [e] at h
  unfold readV valK at h
  dsimp only at h
  by_cases hi:(nextR (tagA a) (ls++[x]) k).is=true
  ·exact (next_mu (by simp)).2.2.2.2.1.1 hi
  ·rw [if_neg hi] at h;exact h
 obtain ⟨h1,h2,b,r,tg,raw,h3,h4,h5⟩:=nextR_back ht hn
 rw [e] at h ⊢
 unfold readV valK at h ⊢
 rw [h5] at h ⊢
 dsimp only at h ⊢
 rw [if_pos rfl] at h
 exact ⟨h1,b,r,h3,h4,h,by rw [if_pos rfl,if_pos ⟨rfl,h⟩,h]⟩
theorem end_back {l:List (List UInt8)} {k:Nat} (hl:0<l.length) (h:endK l k=0):k=0∧l=[[]]:=by
 unfold endK at h
 by_cases h1:k≠0
 ·rw [if_pos h1] at h;exact absurd h h1
 ·rw [if_neg h1] at h
  by_cases h2:1<l.length
  ·rw [if_pos h2] at h;cases h
  ·rw [if_neg h2] at h
   by_cases h3:0<(l.getD 0 []).length
   ·rw [if_pos h3] at h;cases h
   ·refine ⟨by omega,?_⟩
    obtain ⟨x,rfl⟩:=List.length_eq_one_iff.1 (show l.length=1 by omega)
    have:x=[]:=List.eq_nil_of_length_eq_zero (by simpa using h3)
    rw [this]
end
section
open Go.RowKit Cal
structure StepFB {α:Type} (sp:StepR α) (enc:α→List UInt8) (good:α→Prop):Prop where
 fwd:∀ (ls:List (List UInt8)) a r,good a→sp (ls++[enc a++r]) 0=((ls++[r],0),a)
 back:∀ (ls:List (List UInt8)) x k,(sp (ls++[x]) k).1.2=0→k=0∧∃ a r,good a∧x=enc a++r∧sp (ls++[x]) k=((ls++[r],0),a)
 pos:∀ a,good a→0<(enc a).length
section
variable {α:Type} {sp:StepR α} {enc:α→List UInt8} {good:α→Prop}
theorem st_fwd (h:StepFB sp enc good) (ls:List (List UInt8)):∀ (xs:List α) (j:Nat),(∀ a ∈ xs,good a)→j≤xs.length→stG sp (ls++[(xs.map enc).flatten]) 0 j=((ls++[((xs.drop j).map enc).flatten],0),xs.take j)
 | xs,0,_,_=>by simp [stG]
 | xs,j+1,hg,hj=>by
  have ih:=st_fwd h ls xs j hg (by omega)
  have e:((xs.drop j).map enc).flatten=enc xs[j]++((xs.drop (j+1)).map enc).flatten:=by
   rw [List.drop_eq_getElem_cons (show j<xs.length by omega),List.map_cons,List.flatten_cons]
  have h2:=h.fwd ls xs[j] ((xs.drop (j+1)).map enc).flatten (hg _ (List.getElem_mem _))
  unfold stG
  rw [ih]
  dsimp only
  rw [e,h2]
  dsimp only
  rw [← List.take_succ_eq_append_getElem (show j<xs.length by omega)]
theorem row_fwd (ok:StepOk sp) (h:StepFB sp enc good) {tag most:Int} (ls:List (List UInt8)) {xs:List α} (r:List UInt8) (hm:madeM tag=true) (hg:∀ a ∈ xs,good a) (hl:(xs.length:Int)≤most) (hb:((xs.map enc).flatten).length≤65530) :
  endG sp (enterL tag (ls++[putL tag (xs.map enc).flatten++r]) 0) (enterR tag (ls++[putL tag (xs.map enc).flatten++r]) 0).k most=(ls++[r],0) ∧
  (stG sp (enterL tag (ls++[putL tag (xs.map enc).flatten++r]) 0) (enterR tag (ls++[putL tag (xs.map enc).flatten++r]) 0).k (jG sp (enterL tag (ls++[putL tag (xs.map enc).flatten++r]) 0) (enterR tag (ls++[putL tag (xs.map enc).flatten++r]) 0).k most)).2=xs:=by
 obtain ⟨e1,e2,e3⟩:=enter_fwd ls r hm hb
 rw [e1,e2]
 have hst:=fun j hj=>st_fwd h (ls++[r]) xs j hg hj
 have hJ:jG sp (ls++[r]++[(xs.map enc).flatten]) 0 most=xs.length:=by
  refine jG_one ok (by simp) (fun i hi=>?_) ?_
  ·unfold goB
   rw [hst i (by omega)]
   dsimp only
   unfold moreM
   rw [nowL_snoc]
   have hd:((xs.drop i).map enc).flatten=enc xs[i]++((xs.drop (i+1)).map enc).flatten:=by
    rw [List.drop_eq_getElem_cons (show i<xs.length by omega),List.map_cons,List.flatten_cons]
   have hp:=h.pos xs[i] (hg _ (List.getElem_mem _))
   rw [hd]
   simp only [List.length_append,Bool.and_eq_true,decide_eq_true_eq]
   refine ⟨⟨trivial,?_⟩,?_⟩
   ·omega
   ·omega
  ·unfold goB
   rw [hst _ (Nat.le_refl _)]
   dsimp only
   unfold moreM
   rw [nowL_snoc,List.drop_length]
   simp
 have hs:=hst _ (Nat.le_refl _)
 rw [List.drop_length,List.take_length] at hs
 have hs':stG sp (ls++[r]++[(xs.map enc).flatten]) 0 xs.length=((ls++[r]++[[]],0),xs):=hs
 have hlv:=leave_fwd (ls:=ls++[r]) (by simp)
 refine ⟨?_,?_⟩
 ·unfold endG
  rw [hJ,hs']
  dsimp only
  rw [if_neg (by unfold moreM;rw [nowL_snoc];simp),hlv.1,hlv.2]
 ·rw [hJ,hs']
theorem st_back (h:StepFB sp enc good) {most:Int} {k0:Nat} (ls:List (List UInt8)) (x:List UInt8):∀ j,(∀ i,i<j→goB sp (ls++[x]) k0 most i=true)→(stG sp (ls++[x]) k0 j).1.2=0→∃ y,(stG sp (ls++[x]) k0 j).1.1=ls++[y]∧x=((stG sp (ls++[x]) k0 j).2.map enc).flatten++y∧∀ a ∈ (stG sp (ls++[x]) k0 j).2,good a
 | 0,_,hk=>⟨x,rfl,rfl,fun a ha=>by cases ha⟩
 | j+1,hgo,hk=>by
  have hg:=hgo j (by omega)
  unfold goB at hg
  rw [Bool.and_eq_true] at hg
  have hkj:=(more_pos hg.1).1
  obtain ⟨y,h1,h2,h3⟩:=st_back h (most:=most) ls x j (fun i hi=>hgo i (by omega)) hkj
  have hk':(sp (stG sp (ls++[x]) k0 j).1.1 (stG sp (ls++[x]) k0 j).1.2).1.2=0:=hk
  rw [h1] at hk'
  obtain ⟨_,a,r,h4,h5,h6⟩:=h.back ls y _ hk'
  refine ⟨r,?_,?_,?_⟩
  ·show (sp (stG sp (ls++[x]) k0 j).1.1 (stG sp (ls++[x]) k0 j).1.2).1.1=_
   rw [h1,h6]
  ·show x=(((stG sp (ls++[x]) k0 j).2++[(sp (stG sp (ls++[x]) k0 j).1.1 (stG sp (ls++[x]) k0 j).1.2).2]).map enc).flatten++r
   rw [h1,h6,List.map_append,List.flatten_append,List.append_assoc]
   rw [h5] at h2
   simpa using h2
  ·intro b hb
   have hb':b ∈ (stG sp (ls++[x]) k0 j).2++[(sp (stG sp (ls++[x]) k0 j).1.1 (stG sp (ls++[x]) k0 j).1.2).2]:=hb
   rw [h1,h6] at hb'
   rcases List.mem_append.1 hb' with hb'|hb'
   ·exact h3 b hb'
   ·rw [List.mem_singleton.1 hb'];exact h4
theorem row_back (ok:StepOk sp) (h:StepFB sp enc good) {tag most:Int} {k:Nat} (ls:List (List UInt8)) (x:List UInt8) (ht:tag≠0) (he:(endG sp (enterL tag (ls++[x]) k) (enterR tag (ls++[x]) k).k most).2=0) :
  k=0∧∃ xs r,(∀ a ∈ xs,good a)∧(xs=[]∨(xs.length:Int)≤most)∧((xs.map enc).flatten).length≤65530∧x=putL tag (xs.map enc).flatten++r∧endG sp (enterL tag (ls++[x]) k) (enterR tag (ls++[x]) k).k most=(ls++[r],0) ∧
   (stG sp (enterL tag (ls++[x]) k) (enterR tag (ls++[x]) k).k (jG sp (enterL tag (ls++[x]) k) (enterR tag (ls++[x]) k).k most)).2=xs:=by
 have hlen:0<(enterL tag (ls++[x]) k).length:=by
  obtain ⟨_,_,_,e4,e5,_⟩:=enter_mu (t:=tag) (l:=ls++[x]) (k:=k) (by simp)
  by_cases h0:(enterR tag (ls++[x]) k).k=0
  ·rw [e4 h0];omega
  ·rw [e5 h0];simp
 obtain ⟨hgo,hstop⟩:=jG_stop (k0:=(enterR tag (ls++[x]) k).k) (most:=most) ok hlen
 have hbd:=stG_bd (k0:=(enterR tag (ls++[x]) k).k) (most:=most) ok hlen
 have hE:endG sp (enterL tag (ls++[x]) k) (enterR tag (ls++[x]) k).k most=(leaveL (stG sp (enterL tag (ls++[x]) k) (enterR tag (ls++[x]) k).k (jG sp (enterL tag (ls++[x]) k) (enterR tag (ls++[x]) k).k most)).1.1 (stG sp (enterL tag (ls++[x]) k) (enterR tag (ls++[x]) k).k (jG sp (enterL tag (ls++[x]) k) (enterR tag (ls++[x]) k).k most)).1.2,leaveK (stG sp (enterL tag (ls++[x]) k) (enterR tag (ls++[x]) k).k (jG sp (enterL tag (ls++[x]) k) (enterR tag (ls++[x]) k).k most)).1.1 (stG sp (enterL tag (ls++[x]) k) (enterR tag (ls++[x]) k).k (jG sp (enterL tag (ls++[x]) k) (enterR tag (ls++[x]) k).k most)).1.2):=by
  unfold endG at he ⊢
  dsimp only at he ⊢
  split at he
  ·exfalso
   dsimp only at he
   unfold leaveK at he
   rw [if_pos (by decide)] at he
   cases he
  ·rename_i hm
   rw [if_neg hm]
 rw [hE] at he
 dsimp only at he
 have hkJ:(stG sp (enterL tag (ls++[x]) k) (enterR tag (ls++[x]) k).k (jG sp (enterL tag (ls++[x]) k) (enterR tag (ls++[x]) k).k most)).1.2=0:=by
  refine Nat.eq_zero_of_not_pos fun hp=>?_
  have hp':(stG sp (enterL tag (ls++[x]) k) (enterR tag (ls++[x]) k).k (jG sp (enterL tag (ls++[x]) k) (enterR tag (ls++[x]) k).k most)).1.2≠0:=by omega
  unfold leaveK at he
  rw [if_pos hp'] at he
  exact hp' he
 have hk0:(enterR tag (ls++[x]) k).k=0:=by
  rcases Nat.eq_zero_or_pos (jG sp (enterL tag (ls++[x]) k) (enterR tag (ls++[x]) k).k most) with hz|hz
  ·rw [hz] at hkJ;exact hkJ
  ·have hg:=hgo 0 hz
   unfold goB at hg
   rw [Bool.and_eq_true] at hg
   exact (more_pos hg.1).1
 obtain ⟨hk,b,r,h1,h2,h3,h4⟩:=enter_back ht hk0
 have hJlen:jG sp (enterL tag (ls++[x]) k) (enterR tag (ls++[x]) k).k most=0∨((jG sp (enterL tag (ls++[x]) k) (enterR tag (ls++[x]) k).k most:Nat):Int)≤most:=by
  rcases Nat.eq_zero_or_pos (jG sp (enterL tag (ls++[x]) k) (enterR tag (ls++[x]) k).k most) with hz|hz
  ·exact .inl hz
  ·have hg:=hgo (jG sp (enterL tag (ls++[x]) k) (enterR tag (ls++[x]) k).k most-1) (by omega)
   unfold goB at hg
   rw [Bool.and_eq_true,decide_eq_true_eq] at hg
   exact .inr (by omega)
 rw [hE]
 rw [hk0,h3] at hgo hkJ he hJlen ⊢
 obtain ⟨y,h5,h6,h7⟩:=st_back h (ls++[r]) b _ hgo hkJ
 have hso:=stG_out sp (ls++[r]++[b]) 0 (jG sp (ls++[r]++[b]) 0 most)
 generalize jG sp (ls++[r]++[b]) 0 most=J at *
 rw [h5] at he
 obtain ⟨_,h8,_,h9⟩:=leave_back he
 subst h8
 rw [List.append_nil] at h6
 refine ⟨hk,(stG sp (ls++[r]++[b]) 0 J).2,r,h7,?_,by rw [← h6];exact h2,by rw [← h6];exact h1,?_,rfl⟩
 ·rcases hJlen with h|h
  ·exact .inl (List.eq_nil_of_length_eq_zero (by omega))
  ·exact .inr (by rw [hso];exact h)
 ·rw [h5,h9,he]
end
end
section
open Go.RowKit Cal
theorem fig_eq {n p:Int} {c:UInt8} (h:n / p % 10=(c.toNat:Int)-48) (h2:48≤(c.toNat:Int)):figc n p=c:=by
 unfold figc
 refine UInt8.toNat_inj.1 ?_
 have h3:=c.toNat_lt
 rw [UInt8.toNat_ofNat']
 omega
theorem moment_canon {b:List UInt8} (h:getE b=0):bodyL (ofM (getV b))=b∧inT (getV b):=by
 have hf:formP b:=by
  unfold getE at h
  by_cases hf:formP b
  ·exact hf
  ·rw [if_neg hf] at h;cases h
 have hr:RightP (getD6 b):=by
  unfold getE at h
  rw [if_pos hf] at h
  by_cases hr:RightP (getD6 b)
  ·exact hr
  ·rw [if_neg hr] at h;cases h
 have hv:getV b=secM (getD6 b):=by unfold getV;rw [if_pos ⟨hf,hr⟩]
 have hb:=sec_bd hr
 have ho:ofM (getV b)=getD6 b:=by
  unfold ofM
  rw [hv,if_pos hb,of_sec hr]
 rw [ho,hv]
 refine ⟨?_,hb⟩
 obtain ⟨hl,hz,hd⟩:=hf
 have key:∀ i,i<15→(bodyL (getD6 b)).getD i 0=b.getD i 0:=by
  have d0:=hd 0 (by decide);have d1:=hd 1 (by decide);have d2:=hd 2 (by decide);have d3:=hd 3 (by decide);have d4:=hd 4 (by decide);have d5:=hd 5 (by decide);have d6:=hd 6 (by decide)
  have d7:=hd 7 (by decide);have d8:=hd 8 (by decide);have d9:=hd 9 (by decide);have d10:=hd 10 (by decide);have d11:=hd 11 (by decide);have d12:=hd 12 (by decide);have d13:=hd 13 (by decide)
  unfold isDg at d0 d1 d2 d3 d4 d5 d6 d7 d8 d9 d10 d11 d12 d13
  have ey:(getD6 b).y=1000 * dg b 0+100 * dg b 1+10 * dg b 2+dg b 3:=by show 100 * (10 * dg b 0+dg b 1)+(10 * dg b 2+dg b 3)=_;omega
  have em:(getD6 b).m=10 * dg b 4+dg b 5:=rfl
  have ed:(getD6 b).d=10 * dg b 6+dg b 7:=rfl
  have eh:(getD6 b).h=10 * dg b 8+dg b 9:=rfl
  have ei:(getD6 b).mi=10 * dg b 10+dg b 11:=rfl
  have es:(getD6 b).s=10 * dg b 12+dg b 13:=rfl
  unfold dg at ey em ed eh ei es
  intro i hi
  rcases i with _|_|_|_|_|_|_|_|_|_|_|_|_|_|_|i
  ·exact fig_eq (n:=(getD6 b).y) (p:=1000) (c:=b.getD 0 0) (by omega) (by omega)
  ·exact fig_eq (n:=(getD6 b).y) (p:=100) (c:=b.getD 1 0) (by omega) (by omega)
  ·exact fig_eq (n:=(getD6 b).y) (p:=10) (c:=b.getD 2 0) (by omega) (by omega)
  ·exact fig_eq (n:=(getD6 b).y) (p:=1) (c:=b.getD 3 0) (by omega) (by omega)
  ·exact fig_eq (n:=(getD6 b).m) (p:=10) (c:=b.getD 4 0) (by omega) (by omega)
  ·exact fig_eq (n:=(getD6 b).m) (p:=1) (c:=b.getD 5 0) (by omega) (by omega)
  ·exact fig_eq (n:=(getD6 b).d) (p:=10) (c:=b.getD 6 0) (by omega) (by omega)
  ·exact fig_eq (n:=(getD6 b).d) (p:=1) (c:=b.getD 7 0) (by omega) (by omega)
  ·exact fig_eq (n:=(getD6 b).h) (p:=10) (c:=b.getD 8 0) (by omega) (by omega)
  ·exact fig_eq (n:=(getD6 b).h) (p:=1) (c:=b.getD 9 0) (by omega) (by omega)
  ·exact fig_eq (n:=(getD6 b).mi) (p:=10) (c:=b.getD 10 0) (by omega) (by omega)
  ·exact fig_eq (n:=(getD6 b).mi) (p:=1) (c:=b.getD 11 0) (by omega) (by omega)
  ·exact fig_eq (n:=(getD6 b).s) (p:=10) (c:=b.getD 12 0) (by omega) (by omega)
  ·exact fig_eq (n:=(getD6 b).s) (p:=1) (c:=b.getD 13 0) (by omega) (by omega)
  ·exact (UInt8.toNat_inj.1 (show (90:UInt8).toNat=(b.getD 14 0).toNat by have e:(90:UInt8).toNat=90:=rfl;omega))
  ·omega
 refine List.ext_getElem (by rw [hl];rfl) fun i h1 h2=>?_
 have:=key i (by omega)
 rw [List.getD_eq_getElem?_getD,List.getD_eq_getElem?_getD,List.getElem?_eq_getElem h1,List.getElem?_eq_getElem h2] at this
 exact this
theorem bodyV_bd {v:VV} (hn:-9223372036854775808≤v.n∧v.n≤9223372036854775807) (ht:v.t.length≤300):(bodyV v).2.1.length≤max 300 v.b.length:=by
 by_cases h6:v.kind=6
 ·have e:bodyV v=(4,v.b,0):=by unfold bodyV;rw [if_neg (by omega),if_neg (by omega),if_neg (by omega),if_pos h6]
  rw [e]
  show v.b.length≤_
  omega
 ·have hs:SmallV ⟨v.kind,v.n,v.is,[],v.t⟩:=⟨hn,by simp,ht⟩
  have:=bodyV_small hs
  have e:bodyV ⟨v.kind,v.n,v.is,[],v.t⟩=bodyV v:=by
   unfold bodyV
   dsimp only
   rw [if_neg h6,if_neg h6]
  rw [e] at this
  omega
theorem inv_doU {i:Nat} {r:R8} {s:W8} (h:Inv8 i r s) {v:VV} {u:Nat} (hn:-9223372036854775808≤v.n∧v.n≤9223372036854775807) (ht:v.t.length≤300) (hk:3≤v.kind∧v.kind≤10) (hu:1≤u) (hb:v.b.length+10≤400 * u):Inv8 (i+u) (rdoS v r) (doW v s):=by
 have hs:=same_do h.same v
 have hw:wtW (doW v s)≤wtW s+400 * u:=by
  have e:doW v s=putW (bodyV v).1 (bodyV v).2.1 (bodyV v).2.2 s:=by
   unfold doW
   rw [if_neg (by omega),if_neg (by omega),if_neg (by omega)]
  have h1:=wt_put (bodyV v).1 (bodyV v).2.1 (bodyV v).2.2 s
  have h2:=bodyV_bd hn ht
  rw [e]
  omega
 have hg:=grown_do v r
 have h0:=h.w
 have hl:(rdoS v r).tags.length≤16:=by rw [hs.tags];simpa using hs.lim
 refine ⟨hs,by omega,fun x hx=>?_,?_⟩
 ·rcases hg.2 x hx with h1|h1|⟨y,b,h1,h2,h3⟩
  ·have:=h.rows x h1;omega
  ·subst h1;simp [sumL]
  ·have ha:=active_sum hs
   rw [← h3] at ha
   refine ⟨?_,by omega⟩
   rw [h2,List.length_append,List.length_singleton]
   rcases h1 with h1|h1
   ·have:=h.rows y h1;omega
   ·subst h1;simp;omega
 ·have:=hg.1
  have:=h.n
  omega
end
section
open Go.RowKit Cal
def elemV (v:VV):List UInt8:=putL (bodyV v).1 (bodyV v).2.1
def goodV (v:VV):Bool:=(decide (3≤v.kind) && decide (v.kind≤10)) && decide ((bodyV v).2.2=0)
def rowsW (vs:List VV):List (List UInt8):=(vs.filter goodV).map elemV
theorem bodyV_kind {v:VV} (h:3≤v.kind∧v.kind≤10):(v.kind=3∧bodyV v=(2,putN v.n,0))∨(v.kind=4∧bodyV v=(10,putN v.n,0))∨(v.kind=5∧bodyV v=(1,[if v.is then 255 else 0],0))∨(v.kind=6∧bodyV v=(4,v.b,0)) ∨
  (v.kind=7∧bodyV v=(12,if askedM v.t v.n=0 then v.t else [],askedM v.t v.n))∨(v.kind=8∧bodyV v=(6,putM v.t,(parseM v.t).2))∨(v.kind=9∧bodyV v=(24,if inT v.n then bodyL (ofM v.n) else [],ofE v.n))∨(v.kind=10∧bodyV v=(3,bitsL v.n,bitsE v.n)):=by
 obtain h|h|h|h|h|h|h|h:v.kind=3∨v.kind=4∨v.kind=5∨v.kind=6∨v.kind=7∨v.kind=8∨v.kind=9∨v.kind=10:=by omega
 ·exact .inl ⟨h,by unfold bodyV;rw [if_pos h]⟩
 ·exact .inr (.inl ⟨h,by unfold bodyV;rw [if_neg (by omega),if_pos h]⟩)
 ·exact .inr (.inr (.inl ⟨h,by unfold bodyV;rw [if_neg (by omega),if_neg (by omega),if_pos h]⟩))
 ·exact .inr (.inr (.inr (.inl ⟨h,by unfold bodyV;rw [if_neg (by omega),if_neg (by omega),if_neg (by omega),if_pos h]⟩)))
 ·exact .inr (.inr (.inr (.inr (.inl ⟨h,by unfold bodyV;rw [if_neg (by omega),if_neg (by omega),if_neg (by omega),if_neg (by omega),if_pos h]⟩))))
 ·exact .inr (.inr (.inr (.inr (.inr (.inl ⟨h,by unfold bodyV;rw [if_neg (by omega),if_neg (by omega),if_neg (by omega),if_neg (by omega),if_neg (by omega),if_pos h]⟩)))))
 ·exact .inr (.inr (.inr (.inr (.inr (.inr (.inl ⟨h,by unfold bodyV;rw [if_neg (by omega),if_neg (by omega),if_neg (by omega),if_neg (by omega),if_neg (by omega),if_neg (by omega),if_pos h]⟩))))))
 ·exact .inr (.inr (.inr (.inr (.inr (.inr (.inr ⟨h,by unfold bodyV;rw [if_neg (by omega),if_neg (by omega),if_neg (by omega),if_neg (by omega),if_neg (by omega),if_neg (by omega),if_neg (by omega)]⟩))))))
theorem tagV {v:VV} (h:3≤v.kind∧v.kind≤10):knownM (bodyV v).1=true∧madeM (bodyV v).1=false∧(bodyV v).1≠0:=by
 obtain ⟨_,e⟩|⟨_,e⟩|⟨_,e⟩|⟨_,e⟩|⟨_,e⟩|⟨_,e⟩|⟨_,e⟩|⟨_,e⟩:=bodyV_kind h <;> (rw [e];dsimp only;decide)
theorem doW_put {v:VV} (h:3≤v.kind∧v.kind≤10) (s:W8):doW v s=putW (bodyV v).1 (bodyV v).2.1 (bodyV v).2.2 s:=by
 unfold doW
 rw [if_neg (by omega),if_neg (by omega),if_neg (by omega)]
def listB (vs:List VV):List UInt8:=putL 48 (rowsW vs).flatten
def askV (v:VV):AA:=⟨v.kind,0,-9223372036854775808,9223372036854775807⟩
def sameV (v x:VV):Prop:=(v.kind=5→x.is=v.is)∧(v.kind=6→x.b=v.b)∧(v.kind=7∨v.kind=8→x.t=v.t)∧(v.kind=3∨v.kind=4∨v.kind=9∨v.kind=10→x.n=v.n)
end
section
variable {gs:List Nat} [OkG gs]

def lsC (l:List (List UInt8)):CV:=.rs 1 l.length fun i _=>strC (l.getD i [])
def subjC (s:S3):CV:=.agg 3 (fl [.c (.int .i64 s.1),strC s.2.1,strC s.2.2])
def wF (j:Nat):CV:=strC (wordL.getD j [])
theorem wF_of (j:Nat) (hj:j<5):CEnt (fl [strC [110,111,100,101],strC [119,111,114,107,108,111,97,100],strC [111,112,101,114,97,116,111,114],strC [98,111,111,116],strC [99,97]] j) (wF j):=by
 rcases j with _|_|_|_|_|j <;> first|exact cZ|omega
theorem words_ac {gs:List Nat}:ACp gs Tryz.prog 219 [] (lsC wordL):=by
 refine ac_of 2 Tryz.func219 rfl rfl rfl (fun al w0 F0 St0=>?_)
 refine jU 6516 ?_
 refine jqe (jebl 5 1 zr9 fun p1=>?_)
 refine jU 51 ?_;refine jE (blk_ent 0 (m:=5) (F:=wF) rfl (by decide) (fun _=>rfl) (fun j hj=>wF_of j hj)) ?_;refine jE (freeze 0 rfl) ?_;refine jE (thaw 0 (fun a _=>strC (wordL.getD a [])) rfl rfl (by decide) (fun a b ha hb=>CEnt.of_eq (by rw [show 0+(a * 1+b)=a by omega];rfl))) ?_
 refine jR (jrt (hv:=cZ))
theorem word_ac {gs:List Nat} (k:Int):ACp gs Tryz.prog 181 [.c (.int .i64 k)] (strC (wordM k)):=by
 refine ac_of 14 Tryz.func181 rfl rfl rfl (fun al w0 F0 St0=>?_)
 refine jU 12167516 ?_;refine jqsp 5 (fun g13=>?_) fun g13=>?_
 ·refine jU 51690005800044 ?_
  refine jR (jtr (jrt (hv:=?_)))
  refine CEnt.strL ?_
  unfold wordM
  by_cases h:k<1
  ·rw [if_pos h]
  ·rw [if_neg h,List.getD_eq_getElem?_getD,List.getElem?_eq_none (by show 5≤_;omega)];rfl
 refine jU 550021 ?_;refine jcc (fun h13=>?_) fun h13=>?_
 ·refine jU 516 ?_
  refine jR (jtr (jrt (hv:=?_)))
  refine CEnt.strL ?_
  unfold wordM
  by_cases h:k<1
  ·rw [if_pos h]
  ·rw [if_neg h,List.getD_eq_getElem?_getD,List.getElem?_eq_none (by show 5≤_;omega)];rfl
 refine jU 6810 ?_
 refine jqe (jebl 5 1 zr9 fun p1=>?_)
 refine jU 91 ?_;refine seq_ent (blk_ent 0 (m:=5) (F:=wF) rfl (by decide) (fun _=>rfl) (fun j hj=>wF_of j hj)) ?_;refine jq (jri (i:=(k-1).toNat) (hz:=by omega)) ?_;refine jU 5150 ?_
 refine jR (jrt (hv:=?_))
 refine CEnt.strL ?_
 unfold wordM
 rw [if_neg (by omega)]
def idxT (l:List (List UInt8)) (x:List UInt8):Int:=if x ∈ l then (l.idxOf x:Nat) else -1
theorem indexS_ac {gs:List Nat} (l:List (List UInt8)) (x:List UInt8):ACp gs Tryz.prog 232 [lsC l,strC x] (.c (.int .i64 (idxT l x))):=by
 refine ac_len 0 rfl fun hlen=>?_
 refine ac_of 19 Tryz.func232 rfl rfl rfl (fun al w0 F0 St0=>?_)
 refine jU 20513167516 ?_;refine l_loop (α:=Nat) [4,5,8,9,10,11,12,13,14,15,16,17,18] (fun i=>[(8,.c (.int .i64 (i:Nat)))]) (fun _=>[]) (fun i=>i≤l.length∧x ∉ l.take i) (fun i=>l.length-i) (0) ?_ (fun _=>rfl) ?_ ?_ ?_
 ·exact ⟨by omega,by simp⟩
 ·(repeat (first|exact EntE.nil|refine EntE.cons cZ ?_))
 ·(repeat (exact HEnt.nil))
 ·rintro i ⟨hi,he⟩
  refine jU 7526 ?_;refine jcc (fun h97=>?_) fun h97=>?_
  rotate_left
  ·refine jU 51684000200020006000 ?_
   refine jR (jrt (hv:=?_))
   refine cI ?_
   have:l.take i=l:=List.take_of_length_le (by omega)
   rw [this] at he
   unfold idxT
   rw [if_neg he]
  refine jU 5600006070011165116207810 ?_;refine jcc (fun h98=>?_) fun h98=>?_
  ·refine jU 5116 ?_
   refine jR (jbr (jtr (jtr (jbr (jtr (jrt (hv:=?_)))))))
   refine cI ?_
   have hlt:i<l.length:=by omega
   have e:l.getD i []=l[i]:=by simp [List.getD,hlt]
   have hm:x ∈ l:=by rw [h98,e];exact List.getElem_mem hlt
   have hx:l.idxOf x=i:=by
    have e2:l=l.take i++l[i]::l.drop (i+1):=by rw [← List.drop_eq_getElem_cons hlt,List.take_append_drop]
    rw [e2,List.idxOf_append,if_neg he,h98,e]
    rw [← List.drop_eq_getElem_cons hlt,List.drop_eq_getElem_cons hlt,List.idxOf_cons_self,List.length_take]
    omega
   unfold idxT
   rw [if_pos hm,hx]
  refine jU 8519200840010 ?_;refine jlend (i+1) ?_ ?_
  ·exact ⟨by omega,fun hm=>by
    rw [List.take_succ_eq_append_getElem (by omega)] at hm
    rcases List.mem_append.1 hm with h|h
    ·exact he h
    ·have e:l.getD i []=l[i]:=by simp [List.getD,show i<l.length by omega]
     simp at h
     rw [e] at h98
     exact h98 h⟩
  ·omega
theorem idx_wordL (x:List UInt8):idxT wordL x+1=idxW x:=by unfold idxT idxW;split <;> simp
theorem nright_ac {gs:List Nat} (s:S3):ACp gs Tryz.prog 109 [subjC s] (.c (.bool (rightS s))):=by
 refine ac_of 26 Tryz.func109 rfl rfl rfl (fun al w0 F0 St0=>?_)
 refine jcr ?_
 refine jqe (jebx 3 fun p1=>?_)
 refine jU 1250906751 ?_;refine jqsp 6 (fun g27=>?_) fun g27=>?_
 ·refine jU 516900058000444418000444 ?_
  refine jR (jtr (jrt (hv:=?_)))
  refine cB ?_
  unfold rightS
  (simp_all;omega)
 refine jU 150025090 ?_;refine jqsp 11 (fun g27_2=>?_) fun g27_2=>?_
 ·refine jU 5169000580004444 ?_
  refine jR (jtr (jrt (hv:=?_)))
  refine cB ?_
  unfold rightS
  (simp_all;omega)
 refine jU 501000 ?_
 refine jqe (jecP (label_ac s.2.2) ?_)
 refine jU 550030 ?_;refine jcc (fun h27=>?_) fun h27=>?_
 ·refine jU 516 ?_
  refine jR (jtr (jrt (hv:=?_)))
  refine cB ?_
  unfold rightS
  (simp_all;done)
 refine jU 52509067810 ?_;refine jcc (fun h30=>?_) fun h30=>?_
 ·refine jU 501006 ?_
  refine jqe (jecP (label_ac s.2.1) ?_)
  refine jU 51 ?_
  refine jR (jtr (jrt (hv:=?_)))
  refine cB ?_
  unfold rightS
  (simp_all;done)
 refine jU 5160000501006810 ?_
 refine jR (jrt (hv:=?_))
 refine cB ?_
 unfold rightS
 (simp_all;done)
theorem rright_ac {gs:List Nat} (s:S3):ACp gs Tryz.prog 111 [subjC s] (.c (.bool (rightS s))):=by
 have hw:wordM s.1=[]↔¬ (1≤s.1∧s.1≤5):=wordM_nil s.1
 refine ac_of 22 Tryz.func111 rfl rfl rfl (fun al w0 F0 St0=>?_)
 refine jcr ?_
 refine jqe (jebx 3 fun p1=>?_)
 refine jU 50906751 ?_
 refine jqe (jecP (word_ac s.1) ?_)
 refine jU 160000 ?_;refine jqsp 7 (fun g21=>?_) fun g21=>?_
 ·refine jU 5169000580004444 ?_
  refine jR (jtr (jrt (hv:=?_)))
  refine cB ?_
  unfold rightS
  (simp_all;omega)
 refine jU 501000 ?_
 refine jqe (jecP (rlabel_ac s.2.2) ?_)
 refine jU 550030 ?_;refine jcc (fun h21=>?_) fun h21=>?_
 ·refine jU 516 ?_
  refine jR (jtr (jrt (hv:=?_)))
  refine cB ?_
  unfold rightS
  (simp_all;done)
 refine jU 52509067810 ?_;refine jcc (fun h24=>?_) fun h24=>?_
 ·refine jU 501006 ?_
  refine jqe (jecP (rlabel_ac s.2.1) ?_)
  refine jU 51 ?_
  refine jR (jtr (jrt (hv:=?_)))
  refine cB ?_
  unfold rightS
  (simp_all;done)
 refine jU 5160000501006810 ?_
 refine jR (jrt (hv:=?_))
 refine cB ?_
 unfold rightS
 (simp_all;done)
end
section
variable {gs:List Nat} [OkG gs]

theorem lab_len {l:List UInt8} (h:labM l=true):l.length≤24:=(labM_iff.1 h).2.1
theorem word_len (k:Int):(wordM k).length≤8:=by
 by_cases h:1≤k∧k≤5
 ·rcases kinds h.1 h.2 with rfl|rfl|rfl|rfl|rfl <;> decide
 ·rw [(wordM_nil k).2 h];simp
theorem word_get {k:Int} (h1:1≤k) (h5:k≤5):wordL.getD (k-1).toNat []=wordM k:=by unfold wordM;rw [if_neg (by omega)]
theorem right_k {s:S3} (h:rightS s=true):1≤s.1∧s.1≤5∧s.2.2.length≤24∧s.2.1.length≤24:=by
 obtain ⟨h1,h5,hn,h2,hs⟩:=(right_iff s).1 h
 refine ⟨h1,h5,lab_len hn,?_⟩
 by_cases hk:s.1=2
 ·exact lab_len (h2 hk)
 ·rw [hs hk];simp
theorem CEnt.rsL {k n m:Nat} {f g:Nat→Nat→CV} (h:n=m) (hf:f=g):CEnt (.rs k n f) (.rs k m g):=by subst h hf;exact cZ
def partE (p:P2) (j:Nat):CV:=if j=0 then strC p.1 else strC p.2
def partF:List P2→Nat→CV:=rowF 2 partE ([],[])
def partsC (l:List P2):CV:=.rs 2 l.length fun i j=>partE (l.getD i ([],[])) j
theorem partF_one (p:P2) (j:Nat) (hj:j<2):CEnt (fl [strC p.1,strC p.2] j) (partF [p] j):=by
 rcases j with _|_|j <;> first|exact cZ|omega
theorem nparts_ac (s:S3):ACp gs Tryz.prog 170 [subjC s] (.tup 2 (fl [partsC (if rightS s=true then partsS s else []),.err (if rightS s=true then 0 else 9)])):=by
 have hwl:=word_len s.1
 refine ac_of 32 Tryz.func170 rfl rfl rfl (fun al w0 F0 St0=>?_)
 refine jcr ?_
 refine jqe (jebx 3 fun p1=>?_)
 refine jU 67511 ?_;refine jqo (jrdoA 3) ?_
 refine jqe (jecP (nright_ac s) ?_)
 refine jU 530 ?_;refine jcc (fun h38=>?_) fun h38=>?_
 ·refine jcs ?_;refine jcd (.rd 0 (.rd 1 (.rd 2 .done))) ?_;refine jyq (jrde 8) ?_;refine jU 8807070 ?_
  refine jR (jtr (jrt (hv:=?_)))
  have hr:rightS s=false:=by simpa using h38
  exact cT (CEnt.nilS' (by rw [if_neg (by simp [hr])];rfl)) (CEnt.errN (by rw [if_neg (by simp [hr])]))
 refine jU 7810 ?_
 have hr:rightS s=true:=by simpa using h38
 obtain ⟨k1,k5,n1,n2⟩:=right_k hr
 have hg:=word_get k1 k5
 refine jcd (.rd 1 (.rd 2 (.rd 3 (.one 0 (.rd 4 (.rd 5 (.rd 6 (.one 7 (.rd 8 .done))))))))) ?_;refine jU 900000 ?_;refine jyo (jrdo (hn:=by omega)) ?_;refine jyq (jra (hS:=by show _∧_;omega)) ?_
 refine jye (jecP words_ac ?_)
 refine jyq (jri (i:=(s.1-1).toNat) (hz:=by omega) (hS:=by (show _<(5:Nat);omega))) ?_;refine jyq (jrdr (hn:=by omega)) ?_;refine jyq (rd_build (n:=2) rfl zr212 pl212 rfl rfl) ?_
 refine jye (jebl 2 2 zr212 fun p2=>?_)
 refine jU 788070 ?_;refine jE (blk_ent 1 (m:=2) (F:=partF [(oidK,wordM s.1)]) rfl (by decide) (fun _=>rfl) (fun j hj=>by rw [← hg];exact partF_one (oidK,_) j hj)) ?_;refine jU 560000501006 ?_;refine jcc (fun h42=>?_) fun h42=>?_
 rotate_left
 ·refine jU 50100016810 ?_;refine jq (rd_build (n:=2) rfl zr212 pl212 rfl rfl) ?_
  refine jqe (jebl 2 2 zr212 fun p3=>?_)
  refine jqm (m_appendC (rowC_row 2 partE ([],[])) (l2:=[(oidN,s.2.2)]) rfl rfl rfl rfl (by exact Nat.le_refl _) (fun _ _=>cZ) (src_os rfl (.inl rfl) (by decide)) rfl (fun j hj=>by rcases j with _|_|j <;> first|exact cZ|(exfalso;simp at hj <;> omega)) Tryz.underlying210 nu210 sz212 zr212 by212 rfl (by (simp;done)) (by (simp;done)) (leaf_flk rfl rfl) rfl rfl rfl (fun p4=>?_))
  refine jU 511 ?_;refine jE (freeze 1 rfl) ?_;refine jE (thaw 2 (fun i j=>partE ((partsS s).getD i ([],[])) j) rfl rfl (by exact Nat.le_refl _) (fun a b ha hb=>CEnt.of_eq (by rw [Nat.zero_add];refine (rowF_at (k:=2) hb).trans ?_;unfold partsS;(rw [if_pos (by simpa using h42)];rfl)))) ?_
  refine jR (jrt (hv:=?_))
  refine cT (CEnt.rsL ?_ ?_) (CEnt.nilE (by rw [if_pos hr]))
  ·rw [if_pos hr];unfold partsS;(rw [if_pos (by simpa using h42)];rfl)
  ·rw [if_pos hr]
 refine jU 501001200 ?_;refine jq (rd_build (n:=2) rfl zr212 pl212 rfl rfl) ?_
 refine jqe (jebl 2 2 zr212 fun p3=>?_)
 refine jqm (m_appendC (rowC_row 2 partE ([],[])) (l2:=[(oidS,s.2.1)]) rfl rfl rfl rfl (by exact Nat.le_refl _) (fun _ _=>cZ) (src_os rfl (.inl rfl) (by decide)) rfl (fun j hj=>by rcases j with _|_|j <;> first|exact cZ|(exfalso;simp at hj <;> omega)) Tryz.underlying210 nu210 sz212 zr212 by212 rfl (by (simp;done)) (by (simp;done)) (leaf_flk rfl rfl) rfl rfl rfl (fun p4=>?_))
 refine jU 50100016851 ?_;refine jq (rd_build (n:=2) rfl zr212 pl212 rfl rfl) ?_
 refine jqe (jebl 2 2 zr212 fun p5=>?_)
 refine jqm (m_appendC (rowC_row 2 partE ([],[])) (l2:=[(oidN,s.2.2)]) rfl rfl rfl rfl (by exact Nat.le_refl _) (fun _ _=>cZ) (src_os rfl (.inl rfl) (by decide)) rfl (fun j hj=>by rcases j with _|_|j <;> first|exact cZ|(exfalso;simp at hj <;> omega)) Tryz.underlying210 nu210 sz212 zr212 by212 rfl (by (simp;done)) (by (simp;done)) (leaf_flk rfl rfl) rfl rfl rfl (fun p6=>?_))
 refine jU 511 ?_;refine jE (freeze 1 rfl) ?_;refine jE (thaw 2 (fun i j=>partE ((partsS s).getD i ([],[])) j) rfl rfl (by exact Nat.le_refl _) (fun a b ha hb=>CEnt.of_eq (by rw [Nat.zero_add];refine (rowF_at (k:=2) hb).trans ?_;unfold partsS;(rw [if_neg h42];rfl)))) ?_
 refine jR (jrt (hv:=?_))
 refine cT (CEnt.rsL ?_ ?_) (CEnt.nilE (by rw [if_pos hr]))
 ·rw [if_pos hr];unfold partsS;(rw [if_neg h42];rfl)
 ·rw [if_pos hr]
theorem rparts_ac {gs:List Nat} (s:S3) (hr:rightS s=true):ACp gs Tryz.prog 158 [subjC s] (partsC (partsS s)):=by
 have hp:=parts_ref hr
 refine ac_of 24 Tryz.func158 rfl rfl rfl (fun al w0 F0 St0=>?_)
 refine jcr ?_
 refine jqe (jebx 3 fun p1=>?_)
 refine jU 5090651 ?_
 refine jqe (jecP (word_ac s.1) ?_)
 refine jq (rd_build (n:=2) rfl zr212 pl212 rfl rfl) ?_
 refine jqe (jebl 2 2 zr212 fun p2=>?_)
 refine jU 751 ?_;refine jE (blk_ent 1 (m:=2) (F:=partF [(oidK,wordM s.1)]) rfl (by decide) (fun _=>rfl) (fun j hj=>partF_one (oidK,_) j hj)) ?_;refine jU 5250906 ?_;refine jcc (fun h33=>?_) fun h33=>?_
 rotate_left
 ·refine jU 50100016810 ?_;refine jq (rd_build (n:=2) rfl zr212 pl212 rfl rfl) ?_
  refine jqe (jebl 2 2 zr212 fun p3=>?_)
  refine jqm (m_appendC (rowC_row 2 partE ([],[])) (l2:=[(oidN,s.2.2)]) rfl rfl rfl rfl (by exact Nat.le_refl _) (fun _ _=>cZ) (src_os rfl (.inl rfl) (by decide)) rfl (fun j hj=>by rcases j with _|_|j <;> first|exact cZ|(exfalso;simp at hj <;> omega)) Tryz.underlying210 nu210 sz212 zr212 by212 rfl (by (simp;done)) (by (simp;done)) (leaf_flk rfl rfl) rfl rfl rfl (fun p4=>?_))
  refine jU 51 ?_;refine jE (freeze 1 rfl) ?_;refine jE (thaw 2 (fun i j=>partE ((partsS s).getD i ([],[])) j) rfl rfl (by exact Nat.le_refl _) (fun a b ha hb=>CEnt.of_eq (by rw [Nat.zero_add];refine (rowF_at (k:=2) hb).trans ?_;rw [hp];(rw [if_neg h33];rfl)))) ?_
  refine jR (jrt (hv:=?_))
  refine CEnt.rsL ?_ rfl
  rw [hp];(rw [if_neg h33];rfl)
 refine jU 501001200 ?_;refine jq (rd_build (n:=2) rfl zr212 pl212 rfl rfl) ?_
 refine jqe (jebl 2 2 zr212 fun p3=>?_)
 refine jqm (m_appendC (rowC_row 2 partE ([],[])) (l2:=[(oidS,s.2.1)]) rfl rfl rfl rfl (by exact Nat.le_refl _) (fun _ _=>cZ) (src_os rfl (.inl rfl) (by decide)) rfl (fun j hj=>by rcases j with _|_|j <;> first|exact cZ|(exfalso;simp at hj <;> omega)) Tryz.underlying210 nu210 sz212 zr212 by212 rfl (by (simp;done)) (by (simp;done)) (leaf_flk rfl rfl) rfl rfl rfl (fun p4=>?_))
 refine jU 50100016851 ?_;refine jq (rd_build (n:=2) rfl zr212 pl212 rfl rfl) ?_
 refine jqe (jebl 2 2 zr212 fun p5=>?_)
 refine jqm (m_appendC (rowC_row 2 partE ([],[])) (l2:=[(oidN,s.2.2)]) rfl rfl rfl rfl (by exact Nat.le_refl _) (fun _ _=>cZ) (src_os rfl (.inl rfl) (by decide)) rfl (fun j hj=>by rcases j with _|_|j <;> first|exact cZ|(exfalso;simp at hj <;> omega)) Tryz.underlying210 nu210 sz212 zr212 by212 rfl (by (simp;done)) (by (simp;done)) (leaf_flk rfl rfl) rfl rfl rfl (fun p6=>?_))
 refine jU 51 ?_;refine jE (freeze 1 rfl) ?_;refine jE (thaw 2 (fun i j=>partE ((partsS s).getD i ([],[])) j) rfl rfl (by exact Nat.le_refl _) (fun a b ha hb=>CEnt.of_eq (by rw [Nat.zero_add];refine (rowF_at (k:=2) hb).trans ?_;rw [hp];(rw [if_pos h33];rfl)))) ?_
 refine jR (jrt (hv:=?_))
 refine CEnt.rsL ?_ rfl
 rw [hp];(rw [if_pos h33];rfl)
theorem p2_getD {l:List P2} {i:Nat} (h:i<l.length):l.getD i ([],[])=l[i]:=by simp [List.getD,h]
theorem equalP_ac {gs:List Nat} (l r:List P2):ACp gs Tryz.prog 233 [partsC l,partsC r] (.c (.bool (decide (l=r)))):=by
 refine ac_len 0 rfl fun hlen=>?_
 refine ac_of 26 Tryz.func233 rfl rfl rfl (fun al w0 F0 St0=>?_)
 refine jU 52313167516 ?_;refine jcc (fun h21=>?_) fun h21=>?_
 ·refine jU 516 ?_
  refine jR (jtr (jrt (hv:=?_)))
  refine cB ?_
  refine (decide_eq_false fun h=>?_).symm
  rw [h] at h21;omega
 refine jU 20513167810 ?_;refine l_loop (α:=Nat) [4,5,13,14,15,16,17,18,19,20,21,22,23,24,25] (fun i=>[(13,.c (.int .i64 (i:Nat)))]) (fun _=>[]) (fun i=>i≤l.length∧l.take i=r.take i) (fun i=>l.length-i) (0) ?_ (fun _=>rfl) ?_ ?_ ?_
 ·exact ⟨by omega,by simp⟩
 ·(repeat (first|exact EntE.nil|refine EntE.cons cZ ?_))
 ·(repeat (exact HEnt.nil))
 ·rintro i ⟨hi,he⟩
  refine jU 7526 ?_;refine jcc (fun h24=>?_) fun h24=>?_
  rotate_left
  ·refine jU 51684000200020006000 ?_
   refine jR (jrt (hv:=?_))
   refine cB ?_
   refine (decide_eq_true ?_).symm
   have e1:l.take i=l:=List.take_of_length_le (by omega)
   have e2:r.take i=r:=List.take_of_length_le (by omega)
   rw [← e1,he,e2]
  refine jU 75116207810 ?_;refine jcd (.rd 0 (.rd 1 (.rd 2 (.rd 3 (.rd 4 (.rd 5 (.rd 6 (.rd 7 (.rd 8 .done))))))))) ?_;refine jU 900007070 ?_;refine jyq (jrdrA 2) ?_;refine jU 900007070 ?_;refine jyq (jrdrA 2) ?_;refine jyq (rd_neAgg rfl rfl rfl Tryz.underlying212 (by kernel_rfl) (by kernel_rfl) (.str Tryz.underlying9 (by decide) rfl rfl (.str Tryz.underlying9 (by decide) rfl rfl .nil)) rfl) ?_;refine jU 880 ?_;refine jcc (fun h25=>?_) fun h25=>?_
  ·refine jU 516 ?_
   refine jR (jbr (jtr (jtr (jbr (jtr (jrt (hv:=?_)))))))
   refine cB ?_
   refine (decide_eq_false fun h=>h25 ?_).symm
   rw [h];simp
  refine jU 8519200840010 ?_;refine jlend (i+1) ?_ ?_
  ·refine ⟨by omega,?_⟩
   rw [List.take_succ_eq_append_getElem (show i<l.length by omega),List.take_succ_eq_append_getElem (show i<r.length by omega),he,← p2_getD,← p2_getD]
   have h25':(l.getD i ([],[]))=(r.getD i ([],[])):=by
    have:=Classical.byContradiction h25
    exact Prod.ext (ba_inj.1 this.1) (ba_inj.1 this.2.1)
   rw [h25']
  ·omega
end
section
variable {gs:List Nat} [OkG gs]

def sF (s:S3):Nat→CV:=fl [.c (.int .i64 s.1),strC s.2.1,strC s.2.2]
theorem sF_k (s:S3) (x:Int) (j:Nat) (hj:j<3):CEnt (updF (sF s) 0 [.c (.int .i64 x)] j) (sF (x,s.2.1,s.2.2) j):=by
 rcases j with _|_|_|j <;> exact cZ
theorem sF_s (s:S3) (x:List UInt8) (j:Nat) (hj:j<3):CEnt (updF (sF s) 1 [strC x] j) (sF (s.1,x,s.2.2) j):=by
 rcases j with _|_|_|j <;> exact cZ
theorem sF_n (s:S3) (x:List UInt8) (j:Nat) (hj:j<3):CEnt (updF (sF s) 2 [strC x] j) (sF (s.1,s.2.1,x) j):=by
 rcases j with _|_|_|j <;> exact cZ
theorem guess_take {l:List P2} {i:Nat} (h:i<l.length):guessP (l.take (i+1))=stepP (guessP (l.take i)) (l.getD i ([],[])):=by
 unfold guessP
 rw [List.take_succ_eq_append_getElem h,List.foldl_append,p2_getD h]
 rfl
theorem nof_ac (l:List P2) (hl:l.length≤1000000):ACp gs Tryz.prog 190 [partsC l] (.tup 2 (fl [subjC (ofP l).1,.err (ofP l).2])):=by
 refine ac_of 52 Tryz.func190 rfl rfl rfl (fun al w0 F0 St0=>?_)
 refine jcr ?_
 refine jqe (jeal (n:=3) zr36 rfl fun p1=>?_)
 refine jU 651 ?_
 refine jqe (jeal (n:=3) zr36 rfl fun p2=>?_)
 refine jU 205131675 ?_;refine l_loop (α:=Nat) [6,11,12,13,14,15,16,17,18,19,20,21,22,23,24,25,26,27,28,29,30,31,32,33,34,35] (fun i=>[(11,.c (.int .i64 (i:Nat)))]) (fun i=>[(p1,.blk 3 fun _=>.top),(p2,.blk 3 (sF (guessP (l.take i))))]) (fun i=>i≤l.length) (fun i=>l.length-i) (0) ?_ (fun _=>rfl) ?_ ?_ ?_
 ·exact Nat.zero_le _
 ·exact .cons cZ .nil
 ·exact .blk rfl (fun _ _=>CEnt.top _) (.blk rfl (fun j hj=>by rcases j with _|_|_|j <;> first|exact cZ|omega) .nil)
 ·rintro i (hi:i≤l.length)
  refine jU 7526 ?_;refine jcc (fun h51=>?_) fun h51=>?_
  rotate_left
  ·refine jU 84000200020006000 ?_
   have ei:l.take i=l:=List.take_of_length_le (by omega)
   rw [ei]
   refine jcr ?_;refine jqo (jrdoA 3) ?_
   refine jqe (jecP (nparts_ac (guessP l)) ?_)
   refine jU 15000001675119009001 ?_;refine jqsp 43 (fun g62=>?_) fun g62=>?_
   ·refine jU 79000580004444 ?_;refine jcdZ (.rd 0 (.rd 1 (.one 2 (.rd 3 .done)))) ?_;refine jzq (rd_build (n:=3) rfl zr36 pl36 rfl rfl) ?_;refine jzq (jrde 8) ?_
    refine jzm (jmst 3 ?_)
    refine jU 8700000400000 ?_
    refine jR (jtr (jrt (hres:=res_2 rfl (javA 3) javt) (hv:=?_)))
    have hp:ofP l=(zeroS,9):=by
     unfold ofP
     refine if_neg fun hh=>?_
     simp_all
    rw [hp];exact cT (CEnt.agg3 cZ cZ cZ) cZ
   refine jU 11 ?_
   refine jqe (jecP (equalP_ac (if rightS (guessP l)=true then partsS (guessP l) else []) l) ?_)
   refine jU 550030 ?_;refine jcc (fun h62=>?_) fun h62=>?_
   ·refine jcs ?_;refine jcdZ (.rd 0 (.rd 1 (.one 2 (.rd 3 .done)))) ?_;refine jzq (rd_build (n:=3) rfl zr36 pl36 rfl rfl) ?_;refine jzq (jrde 8) ?_
    refine jzm (jmst 3 ?_)
    refine jU 8700000400000 ?_
    refine jR (jtr (jrt (hres:=res_2 rfl (javA 3) javt) (hv:=?_)))
    have hp:ofP l=(zeroS,9):=by
     unfold ofP
     refine if_neg fun hh=>?_
     simp_all
    rw [hp];exact cT (CEnt.agg3 cZ cZ cZ) cZ
   refine jU 6810 ?_;refine jqo (jrdoA 3) ?_
   refine jqm (jmst 3 ?_)
   refine jU 51 ?_
   refine jR (jrt (hres:=res_2 rfl (javA 3) javt) (hv:=?_))
   have hr:rightS (guessP l)=true:=by
    cases hb:rightS (guessP l) with
    | true=>rfl
    | false=>simp_all
   have ht:partsS (guessP l)=l:=by simp_all
   have hp:ofP l=(guessP l,0):=by unfold ofP;rw [if_pos ⟨hr,ht⟩]
   rw [hp]
   exact cT (CEnt.agg3 cZ cZ cZ) CEnt.nil
  refine jU 7006207810 ?_;refine jq (jrdrA 2) ?_
  refine jqe (jeal (n:=2) zr212 rfl fun p3=>?_)
  refine jqm (jmst 2 ?_)
  refine jU 51600006205509065 ?_;refine jcc (fun h53=>?_) fun h53=>?_
  ·refine jcdB 6 (.rd 1 (.rd 2 (.one 0 (.one 3 (.rd 4 (.rd 5 .done)))))) ?_;refine jU 100008000000 ?_
   refine jye (jecP words_ac ?_)
   refine jye (jecP (indexS_ac wordL (l.getD i ([],[])).2) ?_)
   refine jyq (rd_addW rfl rfl rfl ((idxW (l.getD i ([],[])).2)) ((by rw [idx_wordL];exact wrap_id (k:=.i64) (by show _∧_;have:=idxW_bd (l.getD i ([],[])).2;omega)))) ?_;refine jU 80900000 ?_
   show ASeq _ _ _ _ _ _
   refine jqm (jmst 1 ?_)
   refine jU 851920084004005 ?_
   refine jlend (i+1) ?_ ?_ (h5:=?_) (h7:=?_)
   ·show i+1≤l.length;omega
   ·show l.length-(i+1)<l.length-i;omega
   ·exact .cons (cI (by omega)) .nil
   ·have ht:=guess_take (l:=l) (i:=i) (by omega)
    unfold stepP at ht
    rw [show oidK=[49,46,51,46,57,57,57,57,46,49,46,49] from rfl,show oidS=[49,46,51,46,57,57,57,57,46,49,46,50] from rfl,show oidN=[49,46,51,46,57,57,57,57,46,49,46,51] from rfl] at ht
    first
    |(rw [if_pos h53] at ht;rw [ht];refine .same (.blk rfl (fun j hj=>?_) .nil);have:=sF_k (guessP (l.take i)) (idxW (l.getD i ([],[])).2) j hj;exact this)
    |(rw [if_neg h53,if_pos h55] at ht;rw [ht];exact .same (.blk rfl (fun j hj=>sF_s _ _ j hj) .nil))
    |(rw [if_neg h53,if_neg h55,if_pos h57] at ht;rw [ht];exact .same (.blk rfl (fun j hj=>sF_n _ _ j hj) .nil))
    |(rw [if_neg h53,if_neg h55,if_neg h57] at ht;rw [ht];exact .same (.same .nil))
  refine jU 51600006 ?_;refine jcc (fun h55=>?_) fun h55=>?_
  ·refine jU 10050100200 ?_
   refine jqm (jmst 1 ?_)
   refine jU 851920084004005 ?_
   refine jlend (i+1) ?_ ?_ (h5:=?_) (h7:=?_)
   ·show i+1≤l.length;omega
   ·show l.length-(i+1)<l.length-i;omega
   ·exact .cons (cI (by omega)) .nil
   ·have ht:=guess_take (l:=l) (i:=i) (by omega)
    unfold stepP at ht
    rw [show oidK=[49,46,51,46,57,57,57,57,46,49,46,49] from rfl,show oidS=[49,46,51,46,57,57,57,57,46,49,46,50] from rfl,show oidN=[49,46,51,46,57,57,57,57,46,49,46,51] from rfl] at ht
    first
    |(rw [if_pos h53] at ht;rw [ht];refine .same (.blk rfl (fun j hj=>?_) .nil);have:=sF_k (guessP (l.take i)) (idxW (l.getD i ([],[])).2) j hj;exact this)
    |(rw [if_neg h53,if_pos h55] at ht;rw [ht];exact .same (.blk rfl (fun j hj=>sF_s _ _ j hj) .nil))
    |(rw [if_neg h53,if_neg h55,if_pos h57] at ht;rw [ht];exact .same (.blk rfl (fun j hj=>sF_n _ _ j hj) .nil))
    |(rw [if_neg h53,if_neg h55,if_neg h57] at ht;rw [ht];exact .same (.same .nil))
  refine jU 51600006 ?_;refine jcc (fun h57=>?_) fun h57=>?_
  rotate_left
  ·refine jU 8519200840040010 ?_
   refine jlend (i+1) ?_ ?_ (h5:=?_) (h7:=?_)
   ·show i+1≤l.length;omega
   ·show l.length-(i+1)<l.length-i;omega
   ·exact .cons (cI (by omega)) .nil
   ·have ht:=guess_take (l:=l) (i:=i) (by omega)
    unfold stepP at ht
    rw [show oidK=[49,46,51,46,57,57,57,57,46,49,46,49] from rfl,show oidS=[49,46,51,46,57,57,57,57,46,49,46,50] from rfl,show oidN=[49,46,51,46,57,57,57,57,46,49,46,51] from rfl] at ht
    first
    |(rw [if_pos h53] at ht;rw [ht];refine .same (.blk rfl (fun j hj=>?_) .nil);have:=sF_k (guessP (l.take i)) (idxW (l.getD i ([],[])).2) j hj;exact this)
    |(rw [if_neg h53,if_pos h55] at ht;rw [ht];exact .same (.blk rfl (fun j hj=>sF_s _ _ j hj) .nil))
    |(rw [if_neg h53,if_neg h55,if_pos h57] at ht;rw [ht];exact .same (.blk rfl (fun j hj=>sF_n _ _ j hj) .nil))
    |(rw [if_neg h53,if_neg h55,if_neg h57] at ht;rw [ht];exact .same (.same .nil))
  refine jU 100050100200 ?_
  refine jqm (jmst 1 ?_)
  refine jU 851920084004005 ?_
  refine jlend (i+1) ?_ ?_ (h5:=?_) (h7:=?_)
  ·show i+1≤l.length;omega
  ·show l.length-(i+1)<l.length-i;omega
  ·exact .cons (cI (by omega)) .nil
  ·have ht:=guess_take (l:=l) (i:=i) (by omega)
   unfold stepP at ht
   rw [show oidK=[49,46,51,46,57,57,57,57,46,49,46,49] from rfl,show oidS=[49,46,51,46,57,57,57,57,46,49,46,50] from rfl,show oidN=[49,46,51,46,57,57,57,57,46,49,46,51] from rfl] at ht
   first
   |(rw [if_pos h53] at ht;rw [ht];refine .same (.blk rfl (fun j hj=>?_) .nil);have:=sF_k (guessP (l.take i)) (idxW (l.getD i ([],[])).2) j hj;exact this)
   |(rw [if_neg h53,if_pos h55] at ht;rw [ht];exact .same (.blk rfl (fun j hj=>sF_s _ _ j hj) .nil))
   |(rw [if_neg h53,if_neg h55,if_pos h57] at ht;rw [ht];exact .same (.blk rfl (fun j hj=>sF_n _ _ j hj) .nil))
   |(rw [if_neg h53,if_neg h55,if_neg h57] at ht;rw [ht];exact .same (.same .nil))
end
section
variable {gs:List Nat} [OkG gs]
end
section
variable {gs:List Nat} [OkG gs]
end
end Am
end Go.Proofs.YthlpfjnkieaeeaaGreatDoor
