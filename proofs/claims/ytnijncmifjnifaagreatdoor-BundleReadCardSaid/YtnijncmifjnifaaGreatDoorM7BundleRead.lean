/- What the law leans on, part 7: W07v, W08l, W04s, W05, W05b, W05c, W05d, W05e, Laid, Tab, V8, P07e, W07p, P07c, W07, L07, P09n, W07l, W07q, W08m, W08n, W08v, W08w, W08x, P08b -/
import Derived.Test.YtnijncmifjnifaaGreatDoorM6BundleRead
import Derived.Test.YtnijncmifjnifaaGreatDoorRows
import Derived.LaidLaws
import Derived.MakeChecks
import Derived.Lib.LaidU8T
import Derived.Shelf.Unicode.ValidAny

set_option maxRecDepth 100000
namespace Go.Proofs.YtnijncmifjnifaaGreatDoor
set_option linter.unusedVariables false
namespace Am
open Go.RowKit
section
theorem sort8_ac {gs:List Nat} (g:Option Nat) (ls:List (List UInt8)) (hl:ls.length≤1000000000):AC gs Tryz.prog 165 [(g,.blk ls.length (lbF ls))] [.os 0 g 0 ls.length 1,.c (.func (.func 166) #[] #[])] (fun r H'=>r=.c (.tuple #[])∧H'=[(g,.blk ls.length (lbF (sortL ls)))]) :=
 sort8_of (fun p cap fv w=>AnyF.slices_SortFunc_none (P:=Tryz.prog) (ρ:=Tryz.sortB_ren) { Tryz.sortB with } p cap fv w)
  (fun m enc h1 cf hO blk cap d w hc hH hb hs=>Any.slices_SortFunc (P:=Tryz.prog) (ρ:=Tryz.sortB_ren) Tryz.sortB enc h1 cf hO 166 #[] blk 0 cap d w (fun args W=>run_enter (by kernel_rfl) args W) hc hH hb hs)
  (fun w v1 v2 l r h1 h2=>compare8_run h1 h2) g ls hl
theorem sumL_sort (ls:List (List UInt8)):sumL (sortL ls)=sumL ls:=((sortL_perm ls).map List.length).sum_nat
theorem set_ac {gs:List Nat} (ls:List (List UInt8)) (hl:ls.length≤1000000) (hs:sumL ls≤10000000000):ACp gs Tryz.prog 136 [lbC ls] (bsC (sortL ls).flatten):=by
 have hsl:=sortL_length ls
 refine jF5 16516 10 Tryz.func136 fun al w0 F0 St0=>?_
 refine jqe (jecO (cloneL_ac ls hl) (fun p1=>?_))
 refine jU 1651 ?_;refine jF2 5 0 (sort8_ac p1 ls (by omega)) ?_;refine jE (freeze 0 rfl) ?_;refine jE (thaw 3 (fun b _=>bsC ((sortL ls).getD b [])) rfl rfl (by omega) (fun a b ha hb=>lb_thaw a b (by omega) hb)) ?_;refine jE (weaken 3 (lbC (sortL ls)) (CEnt.rs hsl.symm fun i j _ _=>cZ)) ?_;refine jU 16 ?_;refine jF1 51 (concat8_ac (sortL ls) (by rw [sumL_sort];exact hs) (by omega)) ?_
 refine jR (jrt (hv:=cZ))
theorem gt_cmp (a b:List UInt8):(!(Op.bytesLess a b || a == b))=decide (0<cmpL a b):=by
 rw [← cmpL_lt]
 have hs:=cmpL_swap a b
 rcases Int.lt_trichotomy (cmpL a b) 0 with h|h|h
 ·simp [h];omega
 ·have:=cmpL_zero h
  subst this
  simp [h]
 ·have hne:¬ a=b:=fun e=>by subst e;rw [cmpL_self] at h;omega
  simp [hne,show ¬ cmpL a b<0 by omega,h]
theorem lb_take {X:List (List UInt8)} {k j:Nat} (h:j<k):bsC (X.getD (0+j / 1) [])=lbF (X.take k) j:=by
 unfold lbF
 simp [List.getD,h]
theorem lb_drop {X:List (List UInt8)} {k j:Nat}:bsC (X.getD (k+j / 1) [])=lbF (X.drop k) j:=by
 unfold lbF
 simp [List.getD,List.getElem?_drop]
theorem insert_sorted {X l:List (List UInt8)} {x:List UInt8} {k:Nat} (hX:X=sortL l) (hk:k≤X.length) (hlo:k=0∨leL (X.getD (k-1) []) x=true) (hhi:∀ j,k≤j→j<X.length→leL x (X.getD j [])=true):X.take k++[x]++X.drop k=sortL (l++[x]):=by
 have hs:X.Pairwise fun a b=>leL a b=true:=hX ▸ sortL_sorted l
 have hp:X.Perm l:=hX ▸ sortL_perm l
 refine sortL_of ?_ ?_
 ·have h1:(X.take k++[x]++X.drop k).Perm (X.take k++X.drop k++[x]):=by
   rw [List.append_assoc,List.append_assoc]
   exact List.Perm.append_left _ List.perm_append_comm
  rw [List.take_append_drop] at h1
  exact h1.trans (hp.append_right [x])
 ·have hlow:∀ a ∈ X.take k,leL a x=true:=fun a ha=>by
   obtain ⟨i,hi,rfl⟩:=List.mem_iff_getElem.1 ha
   rw [List.length_take] at hi
   rw [List.getElem_take]
   rcases hlo with h0|h0
   ·omega
   ·by_cases e:i=k-1
    ·have:X.getD (k-1) []=X[i]'(by omega):=by subst e;simp [List.getD,show k-1<X.length by omega]
     rwa [this] at h0
    ·refine leL_trans _ _ _ ?_ h0
     have:=List.pairwise_iff_getElem.1 hs i (k-1) (by omega) (by omega) (by omega)
     rwa [show X.getD (k-1) []=X[k-1]'(by omega) by simp [List.getD,show k-1<X.length by omega]]
  have hhigh:∀ a ∈ X.drop k,leL x a=true:=fun a ha=>by
   obtain ⟨i,hi,rfl⟩:=List.mem_iff_getElem.1 ha
   rw [List.length_drop] at hi
   rw [List.getElem_drop]
   have:=hhi (k+i) (by omega) (by omega)
   rwa [show X.getD (k+i) []=X[k+i]'(by omega) by simp [List.getD,show k+i<X.length by omega]] at this
  rw [List.pairwise_append,List.pairwise_append]
  refine ⟨⟨hs.take,List.pairwise_cons.2 ⟨fun _ h=>by simp at h,.nil⟩,fun a ha b hb=>?_⟩,hs.drop,fun a ha b hb=>?_⟩
  ·rw [List.mem_singleton.1 hb];exact hlow a ha
  ·rcases List.mem_append.1 ha with ha|ha
   ·exact leL_trans _ _ _ (hlow a ha) (hhigh b hb)
   ·rw [List.mem_singleton.1 ha];exact hhigh b hb
set_option maxHeartbeats 1000000 in
theorem rsorted07_ac {gs:List Nat} (ls:List (List UInt8)) (hl:ls.length≤1000000):ACp gs Tryz.prog 108 [lbC ls] (lbC (sortL ls)):=by
 refine jF5 6516 48 Tryz.func108 fun al w0 F0 St0=>?_;refine jF6 2051316751 0 1 zr58 fun p1=>?_
 refine jlp (α:=Nat×List (List UInt8)×Option Nat) [3,3,5,7,11,46] (fun (i,X,g)=>[(11,.c (.int .i64 (i:Nat))),(3,.os 0 g 0 X.length 1)]) (fun (i,X,g)=>[(g,.blk X.length (lbF X))]) (fun (i,X,g)=>i≤ls.length∧X=sortL (ls.take i)) (fun (i,X,g)=>ls.length-i) (0,[],p1) (h0:=⟨Nat.zero_le _,by simp [sortL]⟩) (hH:=.blk rfl (fun j hj=>absurd hj (Nat.not_lt_zero j)) .nil) (hr:=?_)
 rintro ⟨i,X,g⟩ ⟨(hi:i≤ls.length),hX⟩
 have hXl:X.length=i:=by rw [hX,sortL_length,List.length_take];omega
 obtain ⟨x,hx⟩:∃ x,x=ls.getD i []:=⟨_,rfl⟩
 refine jU 7526 ?_;refine jF3 51607006207810 511684000200020006000 (fun h115=>?_) fun h115=>?_
 rotate_left
 ·have hiL:i=ls.length:=by omega
  rw [hiL,List.take_length] at hX
  refine jE (freeze 0 rfl) ?_;refine jE (thaw 2 (fun b _=>bsC (X.getD b [])) rfl rfl (by omega) (fun a b ha hb=>lb_thaw a b ha hb)) ?_;refine jU 80007000 ?_
  rw [← hX];exact cZ
 refine jE (freeze 0 rfl) ?_;refine jE (thaw 3 (fun b _=>bsC (X.getD b [])) rfl rfl (by omega) (fun a b ha hb=>lb_thaw a b ha hb)) ?_;refine jE (pick_ent (H':=[]) [] (by decide) rfl) ?_;refine jU 20751316 ?_;refine jE (weaken 5 (bsC x) (CEnt.bs hx.symm)) ?_
 refine jlp (α:=Nat) [6,6,17,31] (fun k=>[(6,.c (.int .i64 (k:Nat)))]) (fun _=>[]) (fun k=>k≤X.length∧∀ j,k≤j→j<X.length→leL x (X.getD j [])=true) (fun k=>k) X.length (h0:=⟨Nat.le_refl _,fun j h1 h2=>by omega⟩) (hr:=?_)
 rintro k ⟨hk,hgt⟩
 refine jU 77 ?_;refine jcd (oN 0 13) ?_;refine jU 7080070 ?_;refine jysp 19 (fun g117=>?_) fun g117=>?_
 rotate_left
 ·refine jU 84000200020006000300880300000600600600600600600600600600 ?_
  have hlo:k=0∨leL (X.getD (k-1) []) x=true:=by
   first
    |(left;omega)
    |(right;have hh:=h117;rw [gt_cmp,decide_eq_false_iff_not] at hh;have:=cmpL_swap (X.getD (k-1) []) x;rw [leL_cmp];omega)
  refine jcr ?_;refine jF6 11 0 1 zr58 fun p2=>?_;refine jq (jrsr (hl:=(bd_none _ _)) (hu:=(bd_some rfl (show _=((k:Nat):Int) by omega)))) ?_
  refine jqm (m_appendC rowC_lb (l:=[]) (l2:=X.take k) rfl rfl rfl rfl (Nat.le_of_eq (Nat.zero_mul _)) (fun j hj=>absurd hj (by simp)) (src_rs rfl) (by rw [List.length_take];omega) (fun j hj=>CEnt.of_eq (lb_take (by rw [List.length_take] at hj;omega))) Tryz.underlying96 nu96 sz58 zr58 by58 rfl (by simp;omega) (by simp;omega) (fun j hj=>rfl) rfl rfl (Nat.mul_one _) (fun p3=>?_))
  refine jU 11651 ?_
  refine jqe (jebl 1 1 zr58 fun p4=>?_)
  refine jqm (m_appendC rowC_lb (l:=[]++X.take k) (l2:=[x]) rfl rfl (by simp) rfl (by simp) (fun j hj=>cZ) (src_os rfl (.inl rfl) (by decide)) rfl (fun j hj=>by obtain rfl:j=0:=(by simp at hj;omega);exact cZ) Tryz.underlying96 nu96 sz58 zr58 by58 rfl (by simp;omega) (by simp;omega) (fun j hj=>by obtain rfl:j=0:=(by omega);rfl) rfl rfl (Nat.mul_one _) (fun p5=>?_))
  refine jU 11120051 ?_;refine jq (jrsr (hl:=(bd_some rfl (show _=((k:Nat):Int) by omega))) (hu:=(bd_none _ _))) ?_
  refine jqm (m_appendC rowC_lb (l:=[]++X.take k++[x]) (l2:=X.drop k) rfl rfl (by simp) rfl (by simp) (fun j hj=>cZ) (src_rs rfl) (by rw [List.length_drop]) (fun j hj=>CEnt.of_eq lb_drop) Tryz.underlying96 nu96 sz58 zr58 by58 rfl (by simp;omega) (by simp;omega) (fun j hj=>rfl) rfl rfl (Nat.mul_one _) (fun p6=>?_))
  refine jU 8519200840051 ?_
  refine jlend (i+1,X.take k++[x]++X.drop k,p6) (h1:=?_) (h7:=by exact .same .nil)
  ·exact ⟨by omega,by
    have e:ls.take (i+1)=ls.take i++[x]:=by rw [hx,List.take_succ_eq_append_getElem (by omega)];simp [List.getD,show i<ls.length by omega]
    rw [e]
    exact insert_sorted hX hk hlo (fun j h1 h2=>hgt j h1 h2)⟩
 refine jU 300007070 ?_;refine jyq (jri (i:=(k-1)) (hz:=by omega)) ?_;refine jU 30000000703000000070000 ?_;refine jyq jrcs ?_;refine jU 8803000000 ?_;refine jF3 8400519120020810 84000200020006000 (fun h117=>?_) fun h117=>?_
 ·refine jlend (k-1) (h1:=?_)
  ·exact ⟨by omega,fun j h1 h2=>by
    by_cases e:j=k-1
    ·subst e
     have:=h117
     rw [gt_cmp,decide_eq_true_eq] at this
     rw [leL_cmp];omega
    ·exact hgt j (by omega) h2⟩
 have hlo:k=0∨leL (X.getD (k-1) []) x=true:=by
  first
   |(left;omega)
   |(right;have hh:=h117;rw [gt_cmp,decide_eq_false_iff_not] at hh;have:=cmpL_swap (X.getD (k-1) []) x;rw [leL_cmp];omega)
 refine jcr ?_;refine jF6 11 0 1 zr58 fun p2=>?_;refine jq (jrsr (hl:=(bd_none _ _)) (hu:=(bd_some rfl (show _=((k:Nat):Int) by omega)))) ?_
 refine jqm (m_appendC rowC_lb (l:=[]) (l2:=X.take k) rfl rfl rfl rfl (Nat.le_of_eq (Nat.zero_mul _)) (fun j hj=>absurd hj (by simp)) (src_rs rfl) (by rw [List.length_take];omega) (fun j hj=>CEnt.of_eq (lb_take (by rw [List.length_take] at hj;omega))) Tryz.underlying96 nu96 sz58 zr58 by58 rfl (by simp;omega) (by simp;omega) (fun j hj=>rfl) rfl rfl (Nat.mul_one _) (fun p3=>?_))
 refine jU 11651 ?_
 refine jqe (jebl 1 1 zr58 fun p4=>?_)
 refine jqm (m_appendC rowC_lb (l:=[]++X.take k) (l2:=[x]) rfl rfl (by simp) rfl (by simp) (fun j hj=>cZ) (src_os rfl (.inl rfl) (by decide)) rfl (fun j hj=>by obtain rfl:j=0:=(by simp at hj;omega);exact cZ) Tryz.underlying96 nu96 sz58 zr58 by58 rfl (by simp;omega) (by simp;omega) (fun j hj=>by obtain rfl:j=0:=(by omega);rfl) rfl rfl (Nat.mul_one _) (fun p5=>?_))
 refine jU 11120051 ?_;refine jq (jrsr (hl:=(bd_some rfl (show _=((k:Nat):Int) by omega))) (hu:=(bd_none _ _))) ?_
 refine jqm (m_appendC rowC_lb (l:=[]++X.take k++[x]) (l2:=X.drop k) rfl rfl (by simp) rfl (by simp) (fun j hj=>cZ) (src_rs rfl) (by rw [List.length_drop]) (fun j hj=>CEnt.of_eq lb_drop) Tryz.underlying96 nu96 sz58 zr58 by58 rfl (by simp;omega) (by simp;omega) (fun j hj=>rfl) rfl rfl (Nat.mul_one _) (fun p6=>?_))
 refine jU 8519200840051 ?_
 refine jlend (i+1,X.take k++[x]++X.drop k,p6) (h1:=?_) (h7:=by exact .same .nil)
 ·exact ⟨by omega,by
   have e:ls.take (i+1)=ls.take i++[x]:=by rw [hx,List.take_succ_eq_append_getElem (by omega)];simp [List.getD,show i<ls.length by omega]
   rw [e]
   exact insert_sorted hX hk hlo (fun j h1 h2=>hgt j h1 h2)⟩
end
section
variable {gs:List Nat} [Ok9 gs]

theorem nilO8:CEnt (.c (.slice none 0 0)) (.os 0 none 0 0 1):=fun al St w v h=>⟨rfl,h⟩
theorem know_os {G:Gh} {s:AS} (d:Nat) {i off n k:Nat} (hl:look s.env s.b d=.os i none off n k):∀ a w,Rel G s a w→n=0:=fun a w ⟨St,hr⟩=>by
 have:=evR hr (x:=.tmp d) hl
 exact this.1
theorem cloneO_ac {gs:List Nat} (l:List UInt8) (g:Option Nat) (hl:l.length≤100000000):AC gs Tryz.prog 75 [(g,.blk l.length (byF l))] [.os 0 g 0 l.length 1] (fun r H'=>r=bsC l∧H'=[(g,.blk l.length (byF l))]):=by
 refine jF5 167516 8 Tryz.func75 fun al w0 F0 St0=>?_;refine jq (rd_eqSO rfl rfl rfl Tryz.underlying58) ?_;refine jU 5 ?_;refine jF3 0 6810 (fun h357=>?_) fun h357=>?_
 ·obtain rfl:g=none:=by cases g <;> simp at h357 ⊢
  refine code_knowG (know_os 0 rfl) fun hn=>?_;refine jU 30007000516 ?_
  exact end_ownV (.inl rfl) [0] (by decide) rfl (res_1 rfl (arv_tmp rfl)) (CEnt.nilS' hn) ⟨rfl,rfl⟩
 refine jF6 1 0 1 zr5 fun p1=>?_
 refine jqm (jab (l:=[]) fun p2=>?_)
 refine jU 51 ?_;refine jE (freeze 1 rfl) ?_;refine jE (thawB 2 ([]++l) rfl rfl (by rfl) rfl) ?_;refine jU 7000 ?_
 exact end_ownV (.inl rfl) [0] (by decide) rfl (res_1 rfl (arv_tmp rfl)) (CEnt.bs (List.nil_append l)) ⟨rfl,rfl⟩
theorem body08_ac {gs:List Nat} (tag:Int) (ls:List (List UInt8)) (hl:ls.length≤1000000) (hs:sumL ls≤10000000000):ACp gs Tryz.prog 103 [.agg 2 (fl [.c (.int .i64 tag),lbC ls])] (bsC (bodyF (tag,ls))):=by
 refine ac_oF 12 Tryz.func103 fun al w0 F0 St0=>?_;refine jcr ?_
 refine jqe (jebx 2 fun p1=>?_)
 refine jU 5250906751 ?_;refine jF3 501006 501006810 (fun h23=>?_) fun h23=>?_
 ·refine jF1 51 (set_ac ls hl hs) ?_
  refine jR (jtr (jrt (hv:=CEnt.bs (by unfold bodyF;rw [if_pos h23]))))
 refine jF1 51 (concat8_ac ls hs hl) ?_
 refine jR (jrt (hv:=CEnt.bs (by unfold bodyF;rw [if_neg h23])))
theorem openW_ac (n:Nat) (s:W8) (tag:Int) (hs:OkW s):AC gs Tryz.prog 57 [wrO n s] [.op 0 (some n) 0,.c (.int .i64 tag)] (fun r H'=>r=.c (.tuple #[])∧H'=[wrO n (openW tag s)]):=by
 have hsn:=hs.n
 refine jF5 20 40 Tryz.func57 fun al w0 F0 St0=>?_;refine code_openW 0 rfl fun go gd zs hzs=>?_
 have hzl:=fr_len hzs
 refine jU 515000005010004016 ?_;refine jF3 40010 16 (fun h69=>?_) fun h69=>?_
 ·have hP:openW tag s=s:=by unfold openW;rw [if_pos (by omega)]
  rw [hP]
  exact end_pack (gd:=fun z:WZ8 s.fr=>z.1.1) (E:=wrE s) (.inr rfl) _ ⟨(n,go,gd,zs),hzs⟩ [0,1,2,3] (by decide) rfl (res_0 rfl) ⟨rfl,rfl⟩
 refine jF1 5130 (made_ac tag) ?_;refine jF3 1200 512350904016 (fun h70=>?_) fun h70=>?_
 ·refine jq (jrde 4) ?_;refine jU 100040 ?_
  refine jqm (jmstF 1 (wrB ⟨s.fr,s.d,5⟩ 1 2 go gd) ?_ ?_)
  ·exact jal
  refine jU 4005 ?_
  have hP:openW tag s=⟨s.fr,s.d,5⟩:=by unfold openW;rw [if_neg (by omega),if_pos (by simp [madeM] at h70 ⊢;omega)]
  rw [hP]
  exact end_pack (gd:=fun z:WZ8 s.fr=>z.1.1) (E:=wrE ⟨s.fr,s.d,5⟩) (.inr rfl) _ ⟨(n,go,gd,zs),hzs⟩ [0,1,2,3] (by decide) rfl (res_0 rfl) ⟨rfl,rfl⟩
 refine jF3 1200 0 (fun h72=>?_) fun h72=>?_
 ·refine jq (jrde 5) ?_;refine jU 100040 ?_
  refine jqm (jmstF 1 (wrB ⟨s.fr,s.d,6⟩ 1 2 go gd) ?_ ?_)
  ·exact jal
  refine jU 4005 ?_
  have hP:openW tag s=⟨s.fr,s.d,6⟩:=by unfold openW;rw [if_neg (by omega),if_neg (by simp [madeM] at h70 ⊢;omega),if_pos (by omega)]
  rw [hP]
  exact end_pack (gd:=fun z:WZ8 s.fr=>z.1.1) (E:=wrE ⟨s.fr,s.d,6⟩) (.inr rfl) _ ⟨(n,go,gd,zs),hzs⟩ [0,1,2,3] (by decide) rfl (res_0 rfl) ⟨rfl,rfl⟩
 refine jE (ent_none (lbF [])) ?_;refine jE (bag_push 3 4 rfl rfl rfl) ?_;refine jnm ?_;refine jU 150904011200 ?_;refine jq (rd_build (n:=2) rfl zr150 pl150 rfl rfl) ?_
 refine jqe (jebl 2 2 zr150 fun p1=>?_)
 refine seq_ent (weakH 5 2 (rowF 2 frF frD [((tag,[]),none)]) rfl (Nat.le_refl _) (fun j hj=>by rcases j with _|_|j <;> first|exact cZ|exact nilO8|omega)) ?_
 refine jqm (m_appendC (rowC_row 2 frF frD) (l:=zs.reverse) (l2:=[((tag,[]),none)]) rfl rfl (by simp [hzl]) rfl (by simp [hzl]) (fun _ _=>cZ) (src_os rfl (.inl rfl) (by decide)) rfl (fun j hj=>by rw [Nat.zero_add];exact cZ) Tryz.underlying102 nu102 sz150 zr150 by150 rfl (by simp;omega) (by simp;omega) (fun j hj=>by rcases j with _|_|j <;> first|rfl|omega) rfl rfl rfl (fun p2=>?_))
 refine jU 9040 ?_
 refine jqm (jmstF 1 (wrB ⟨(tag,[])::s.fr,s.d,s.k⟩ 1 2 p2 gd) ?_ ?_)
 ·exact (fun j hj=>by rcases j with _|_|_|j <;> first|exact cO (by simp [hzl])|exact cZ)
 refine jU 4005 ?_
 have hP:openW tag s=⟨(tag,[])::s.fr,s.d,s.k⟩:=by unfold openW;rw [if_neg (by omega),if_neg (by simp [madeM] at h70 ⊢;omega),if_neg (by omega)]
 rw [hP]
 refine end_hr (H':=?H2) ?hh ?hb
 case hh=>intro _ _ _ _ _ hx;exact closeWh n ⟨(tag,[])::s.fr,s.d,s.k⟩ (((tag,[]),none)::zs) 0 1 2 3 (by simp [hzs]) rfl rfl rfl rfl (by decide) (by exact cO rfl) (by exact cO rfl) (by exact cZ) (by simp [hzl]) (fun a _=>by rw [List.reverse_cons];exact cZ) (Nat.le_refl _) (fun _ _=>cZ) hx
 case hb=>exact end_own (.inr rfl) _ [_] [0] (by decide) rfl (res_0 rfl) ⟨rfl,rfl⟩
theorem sum_perm {a b:List (List UInt8)} (h:a.Perm b):sumL a=sumL b:=by
 unfold sumL
 exact (h.map List.length).sum_nat
theorem bodyF_len (x:Int×List (List UInt8)):(bodyF x).length=sumL x.2:=by
 unfold bodyF
 split
 ·rw [flat_len];exact sum_perm (sortL_perm _)
 ·rw [flat_len]
theorem OkW.tail {x:Int×List (List UInt8)} {r:List (Int×List (List UInt8))} {s:W8} (h:OkW s) (hf:s.fr=x::r):OkW ⟨r,s.d,s.k⟩:=⟨by have:=h.n;rw [hf] at this;simp at this ⊢;omega,fun y hy=>h.k y (by rw [hf];exact List.mem_cons_of_mem _ hy),h.d⟩
theorem closeW_ac (n:Nat) (s:W8) (hs:OkW s):AC gs Tryz.prog 62 [wrO n s] [.op 0 (some n) 0] (fun r H'=>r=.c (.tuple #[])∧H'=[wrO n (closeV s)]):=by
 have hsn:=hs.n
 refine ac_oF 45 Tryz.func62 fun al w0 F0 St0=>?_;refine code_openW 0 rfl fun go gd zs hzs=>?_
 have hzl:=fr_len hzs
 refine jU 51500000501000401620519350904016 ?_;refine jF3 40010 51216 (fun h83=>?_) fun h83=>?_
 ·have hP:closeV s=s:=by unfold closeV;rw [if_pos (by omega)]
  rw [hP]
  exact end_pack (gd:=fun z:WZ8 s.fr=>z.1.1) (E:=wrE s) (.inr rfl) _ ⟨(n,go,gd,zs),hzs⟩ [0,1,2,3] (by decide) rfl (res_0 rfl) ⟨rfl,rfl⟩
 refine jF3 1200 0 (fun h84=>?_) fun h84=>?_
 ·refine jq (jrde 23) ?_;refine jU 100040 ?_
  refine jqm (jmstF 1 (wrB ⟨s.fr,s.d,24⟩ 1 2 go gd) ?_ ?_)
  ·exact jal
  refine jU 4005 ?_
  have hf0:s.fr=[]:=List.eq_nil_of_length_eq_zero (by omega)
  have hP:closeV s=⟨s.fr,s.d,24⟩:=by unfold closeV;rw [if_neg (by omega),hf0]
  rw [hP]
  exact end_pack (gd:=fun z:WZ8 s.fr=>z.1.1) (E:=wrE ⟨s.fr,s.d,24⟩) (.inr rfl) _ ⟨(n,go,gd,zs),hzs⟩ [0,1,2,3] (by decide) rfl (res_0 rfl) ⟨rfl,rfl⟩
 obtain ⟨x,zr,rfl⟩:∃ x zr,zs=x::zr:=by
   cases zs with
   | nil=>simp at hzl;omega
   | cons x zr=>exact ⟨x,zr,rfl⟩
 have hfr:s.fr=x.1::zr.map Prod.fst:=by rw [← hzs];rfl
 have hxk:=hs.k x.1 (by rw [hfr];exact List.mem_cons_self)
 have hzl:s.fr.length=zr.length+1:=by rw [← hzl];rfl
 refine jE (bag_pop 3 rfl) ?_;refine jU 150904016 ?_;refine jq (jri (i:=(s.fr.length-1)) (hz:=by omega)) ?_;refine jqo (jrdoA 2) ?_;refine seq_ent (freeze 4 rfl) ?_;refine seq_ent (thawA 16 4 (fun a _=>bsC (x.1.2.getD a [])) (.c (.int .i64 x.1.1)) rfl rfl (by show CEnt (rowF 2 frF frD (x::zr).reverse (0+(s.fr.length-1) * 2+0)) _;rw [top_at (by omega) hzl];exact cZ) (by show CEnt (rowF 2 frF frD (x::zr).reverse (0+(s.fr.length-1) * 2+1)) _;rw [top_at (by omega) hzl];exact cZ) (by simp) (fun a b ha hb=>by obtain rfl:b=0:=(by omega);rw [Nat.zero_add,Nat.mul_one,Nat.add_zero];exact cZ)) ?_
 refine jqe (jeal (n:=2) zr150 rfl fun p1=>?_)
 refine jF7 15090401165 2 ?_;refine jq jrso ?_;refine jU 9040 ?_;refine seq_ent (weakH 1 ((s.fr.length-1) * 2) (rowF 2 frF frD zr.reverse) rfl (by omega) (fun j hj=>by rw [row_low (by omega)];exact cZ)) ?_
 refine jqm (jmstF 1 (wrB ⟨zr.map Prod.fst,s.d,s.k⟩ 1 2 go gd) ?_ ?_)
 ·exact (fun j hj=>by rcases j with _|_|_|j <;> first|exact cO (by simp;omega)|exact cZ)
 refine jU 5 ?_;refine jE (closeW n ⟨zr.map Prod.fst,s.d,s.k⟩ zr 0 1 2 3 rfl rfl rfl rfl rfl (by decide) (cO rfl) (cO rfl) cZ (by simp;omega) (fun _ _=>cZ) (Nat.le_refl _) (fun _ _=>cZ)) ?_;refine jnm ?_;refine jE (freeze 5 rfl) ?_;refine jE (thawP 3 (m:=2) rfl rfl (by decide)) ?_
 have hto:=hs.tail hfr
 refine jcdB 5 (oT [0,2,4,6,9] .done) ?_;refine jU 7000090000070 ?_;refine jyq (jrdrA 2) ?_
 refine jye (jecP (body08_ac x.1.1 x.1.2 hxk.1 (by omega)) ?_)
 refine jyd ?_
 show ASeq _ _ _ _ _ _
 refine jF2 4005 0 (putW_ac n ⟨zr.map Prod.fst,s.d,s.k⟩ x.1.1 (bodyF x.1) 0 hto (by rw [bodyF_len];exact hxk.2)) ?_
 have hP:closeV s=putW x.1.1 (bodyF x.1) 0 ⟨zr.map Prod.fst,s.d,s.k⟩:=by unfold closeV;rw [if_neg (by omega),hfr]
 rw [hP]
 exact end_own (.inr rfl) _ [_] [0] (by decide) rfl (res_0 rfl) ⟨rfl,rfl⟩
end
section
variable {gs:List Nat} [Ok2 gs]

def figR (l:List UInt8):Nat×Bool:=if (figM l).2=0 then ((figM l).1,true) else (0,false)
end
section
variable {gs:List Nat} [Ok2 gs]

def outA (n:Int):Bool:=decide (n<0) || decide (2147483647<n)
end
section
variable {gs:List Nat} [Ok2 gs]

def seqF (f:FuncId) (c:UInt8) (g:Option Nat):CV:=.fn f 3 (fl [.rp 1 fun _=>strC [c],.op 0 g 0,.rp 1 fun _=>.c (.int .i64 0)])
end
section
variable {gs:List Nat} [Ok2 gs]

theorem getD_mem' {α:Type} {l:List α} {k:Nat} (d:α) (h:k<l.length):l.getD k d ∈ l:=by
 simp [List.getD,h]
end
section
variable {gs:List Nat} [Ok2 gs]

theorem isNaNI_ac {gs:List Nat} (c:Int):ACp gs Tryz.prog 114 [.c (.int .i64 c)] (.c (.bool false)):=by
 refine jF5 512116516 6 Tryz.func114 fun al w0 F0 St0=>?_
 refine jR (jrt (hv:=cB (by simp)))
def cmpI (a b:Int):Int:=if a<b then -1 else if b<a then 1 else 0
theorem cmpI_ac {gs:List Nat} (a b:Int):ACp gs Tryz.prog 72 [.c (.int .i64 a),.c (.int .i64 b)] (.c (.int .i64 (cmpI a b))):=by
 refine jF5 16516 20 Tryz.func72 fun al w0 F0 St0=>?_;refine jF1 1651 (isNaNI_ac a) ?_;refine jF1 516751 (isNaNI_ac b) ?_;refine jF3 5167 5167810 (fun h43=>?_) fun h43=>?_
 ·refine jF3 8000300030007000516 800030007000516810 (fun h44=>?_) fun h44=>?_
  ·(exfalso;simp at *;done)
  (exfalso;simp at *;done)
 refine jF3 800030007000516 521167810 (fun h49=>?_) fun h49=>?_
 ·(exfalso;simp at *;done)
 refine jF3 800030007000516 521167810 (fun h52=>?_) fun h52=>?_
 ·(refine cI ?_;unfold cmpI;split <;> omega)
 refine jF3 800030007000516 80007000516810 (fun h55=>?_) fun h55=>?_
 ·(refine cI ?_;unfold cmpI;split <;> omega)
 (refine cI ?_;unfold cmpI;split <;> omega)
def underM (s t:List UInt8):Bool:=decide ((parseM s).2=0) && decide ((parseM t).2=0) && underA (parseM s).1 (parseM t).1
end
section
variable {gs:List Nat} [Ok2 gs]

theorem parse_ok {s:List UInt8} (h:(parseM s).2=0):rightA (parseM s).1=true:=(parse_right (s:=s) (l:=(parseM s).1) (by rw [← h])).1
theorem sep_flat_len {l:List Int} (h:∀ n ∈ l,0≤n∧n≤2147483647):((l.map fun n=>sepL n.toNat).flatten).length≤5 * l.length:=by
 induction l with
 | nil=>simp
 | cons a l ih =>
  have h1:=sepL_len (n:=a.toNat) (by have:=h a (by simp);omega)
  have h2:=ih fun n hn=>h n (by simp [hn])
  simp at h2 ⊢
  omega
theorem put_len (s:List UInt8):(putM s).length≤100:=by
 unfold putM
 split
 ·rename_i h
  obtain ⟨hl2,hl16,hall,ha,hb⟩:=right_at (parse_ok h)
  unfold putA
  have h0:=hall _ (getD_mem' (l:=(parseM s).1) (k:=0) 0 (by omega))
  have h1:=hall _ (getD_mem' (l:=(parseM s).1) (k:=1) 0 (by omega))
  have e1:=sepL_len (n:=(40 * (parseM s).1.getD 0 0+(parseM s).1.getD 1 0).toNat) (by omega)
  have e2:=sep_flat_len (l:=(parseM s).1.drop 2) (fun n hn=>hall n (List.mem_of_mem_drop hn))
  rw [List.length_drop] at e2
  rw [List.length_append]
  omega
 ·simp
end
end Am
end Go.Proofs.YtnijncmifjnifaaGreatDoor
namespace Go.Proofs.YtnijncmifjnifaaGreatDoor
set_option linter.unusedVariables false
open Go.RowKit Go.ChangeShapes

def isErr (x:String×DataW Unit):Bool:=match x.2 with
 | .iface nm (.ptr (.agg [.lit (.string _)])) => nm == "*errors.errorString"
 | _=>false
theorem isErr_out {x : String × DataW Unit} (h : isErr x = true) : ∃ text, x.2 = .iface "*errors.errorString" (.ptr (.agg [.lit (.string text)])) := by
 grind [isErr]

theorem laid_list {P:Program} {W:World} {nm:String} {ti tp te ts:TypeId} {ms:Array (String×TypeId)} {f:Field}
  (hi:P.underlying ti=some (.interface ms)) (hrow:∀ u,P.typeName? 3 u=some nm→u=tp)
  (hp:P.underlying tp=some (.pointer te)) (he:P.underlying te=some (.struct #[f])) (hft:f.type=ts) (hfo:f.offset=0) (hs:P.underlying ts=some .string) (hc:P.cellsOf te=1) (hcs:P.cellsOf ts=1) :
  ∀ (L:List (String×DataW Unit)) (ps:List MemPlace),DataW.LaidVars P W L ps →
   (∀ b off,MemPlace.cell b off ∈ ps→(∃ c t,W.heap[b]?=some (.cells c t (0,0)))∧∀ u v,W.cell? ⟨b,off,none⟩=some (.iface u v)→Value.okWide P W .any 0 u v)→ps.Nodup →
   (∀ x ∈ L,isErr x=true→(∃ text,x.2=.iface nm (.ptr (.agg [.lit (.string text)])))∧∀ g,P.globalNamed x.1=some g→(P.globals[g]?).map (·.type)=some ti) →
   ∃ al:List Addr,al.length=(L.filter isErr).length∧al.Nodup∧(∀ a ∈ al,a.spot=none∧MemPlace.cell a.block a.off ∈ ps) ∧
    ∀ (i:Nat) (x:String×DataW Unit) (a:Addr),(L.filter isErr)[i]?=some x→al[i]?=some a→∃ g,P.globalNamed x.1=some g∧W.cell? ⟨g,0,none⟩=some (.iface tp (.pointer (some a)))
 | [],ps,_,_,_,_=>⟨[],rfl,List.nodup_nil,by simp,by simp⟩
 |(n,d)::r,ps,hv,hrows,hnd,hL=>by
  obtain ⟨g,t,cs,fuel,p,q,hg,ht,hvar,hd,hrest,rfl⟩:=hv
  have hnq:q.Nodup:=List.Nodup.sublist (List.sublist_append_right _ _) hnd
  obtain ⟨al,h1,h2,h3,h4⟩:=laid_list hi hrow hp he hft hfo hs hc hcs r q hrest (fun b off hm=>hrows b off (List.mem_append_right _ hm)) hnq (fun x hx=>hL x (List.mem_cons_of_mem _ hx))
  by_cases hE:isErr (n,d)=true
  case neg =>
   grind
  obtain ⟨⟨text,hx⟩,hty⟩:=hL (n,d) (List.mem_cons_self ..) hE
  rw [List.filter_cons_of_pos hE]
  simp only at hx
  subst hx
  obtain rfl:=Option.some.inj ((hty g hg).symm.trans ht)
  obtain ⟨l⟩:=cs
  have hcell0:∀ v,l=[v]→W.cell? ⟨g,0,none⟩=some v:=fun v e=>by
   subst e
   simpa using World.var?_cell hg hvar 0
  obtain ⟨a,s,rfl,ha,_,_,rfl⟩:=errorString_of_trod hi hrow hp he hft hfo hs hc hcs hd (fun u v e=>by
   grind [MemPlace.row])
  have hsp:a.spot=none:=World.cell?_spot ha
  have hpl:MemPlace.cell a.block a.off ∈ MemPlace.row a 1:=by simp [MemPlace.row]
  refine ⟨a::al,by simp [h1],List.nodup_cons.2 ⟨fun hm=>?_,h2⟩,?_,?_⟩
  ·grind
  ·grind
  grind

theorem starRow (u : TypeId) (h : Tryz.prog.typeName? 3 u = some "*errors.errorString") : u = 252 := by
 have e : "*errors.errorString" = "*" ++ "errors.errorString" := by decide +kernel
 exact typeName_ptr_named (nm := "errors.errorString") (by rw [← e]; kernel_rfl) (by kernel_rfl) (by decide) u (by rw [← e]; exact h)
theorem cellsErr:Tryz.prog.cellsOf 276=1:=by kernel_rfl
theorem cellsStr:Tryz.prog.cellsOf 9=1:=by kernel_rfl

theorem sent_of_laid {W:World} {L:List (String×DataW Unit)} {g0:List Nat} (h:laidMetH Tryz.prog L W) (h1:(L.all fun x=>x.2.handleName?.isNone)=true)
  (h3:((L.filter isErr).map fun x=>Tryz.prog.globalNamed x.1)=(errG g0).map some) (h4:((errG g0).map fun g=>(Tryz.prog.globals[g]?).map (·.type))=List.replicate (errG g0).length (some 37))
  (ht:tabA ∈ lst g0→tabB ∈ lst g0→Lib.Utf8Tabs tabA tabB W) (hAB:((lst g0).contains tabA)=((lst g0).contains tabB))
  (hX:∀ t ∈ tabX,t.1 ∈ lst g0→∀ (i:Nat) (v:Value),t.2[i]?=some v→W.cell? ⟨t.1,i,none⟩=some v):∃ al,SentL W g0 al:=by
 rw [MakeChecks.laidMetH_plain _ _ _ h1] at h
 obtain ⟨ps,hv,hnd,hrows⟩:=h
 have hlen:(L.filter isErr).length=(errG g0).length:=by simpa using congrArg List.length h3
 have hgl:∀ (i:Nat) (x:String×DataW Unit),(L.filter isErr)[i]?=some x→∃ g,(errG g0)[i]?=some g∧Tryz.prog.globalNamed x.1=some g:=by
  intro i x hx
  have:=congrArg (fun l=>l[i]?) h3
  simp only [List.getElem?_map,hx,Option.map_some] at this
  obtain ⟨g,hg,e⟩:=Option.map_eq_some_iff.1 this.symm
  exact ⟨g,hg,e.symm⟩
 obtain ⟨al,l1,l2,l3,l4⟩:=laid_list Tryz.underlying37 starRow Tryz.underlying252 Tryz.underlying276 rfl rfl Tryz.underlying9 cellsErr cellsStr L ps hv hrows hnd
  (fun x hx hE=>⟨isErr_out hE,fun g hg=>by
   obtain ⟨i,hi⟩:=List.mem_iff_getElem?.1 (List.mem_filter.2 ⟨hx,hE⟩)
   obtain ⟨g',hg',e⟩:=hgl i x hi
   obtain rfl:=Option.some.inj (e.symm.trans hg)
   have:=congrArg (fun l=>l[i]?) h4
   grind⟩)
 have hvar:∀ i g,(errG g0)[i]?=some g→W.cell? ⟨g,0,none⟩=some (ev al (i+1)):=by
  intro i g hg
  have hlt:i<(errG g0).length:=(List.getElem?_eq_some_iff.1 hg).1
  obtain ⟨x,hx⟩:∃ x,(L.filter isErr)[i]?=some x:=⟨(L.filter isErr)[i],List.getElem?_eq_getElem (by omega)⟩
  obtain ⟨a,ha⟩:∃ a,al[i]?=some a:=⟨al[i],List.getElem?_eq_getElem (by omega)⟩
  obtain ⟨g',hg',e⟩:=hgl i x hx
  obtain rfl:=Option.some.inj (hg.symm.trans hg')
  obtain ⟨g2,e2,hc⟩:=l4 i x a hx ha
  obtain rfl:=Option.some.inj (e.symm.trans e2)
  rw [hc]
  simp [ev,ha]
 refine ⟨al,by omega,fun i j g g' hi _ hj _ e=>(List.getElem?_inj (by grind) l2).1 e,fun i g hi _=>hvar i g hi,fun a ha=>(hrows a.block a.off (l3 a ha).2).1,ht,hX,fun g hg=>?_⟩
 by_cases hTX:(tabX.any fun t=>Nat.beq g t.1)=true
 ·obtain ⟨t,ht1,ht2⟩:=List.any_eq_true.1 hTX
  have ht2:=Nat.eq_of_beq_eq_true ht2
  subst ht2
  have hne:∀ t ∈ tabX,∃ v,t.2[0]?=some v:=by
   intro t ht
   simp only [tabX,List.mem_cons,List.not_mem_nil,or_false] at ht
   rcases ht with rfl|rfl <;> exact ⟨_,rfl⟩
  obtain ⟨v,hv⟩:=hne t ht1
  exact World.block_lt_of_cell? W _ (hX t ht1 hg 0 v hv)
 by_cases hT:(Nat.beq g tabA || Nat.beq g tabB)=true
 ·have hc:tabA ∈ lst g0∧tabB ∈ lst g0:=by
   rcases Bool.or_eq_true_iff.1 hT with e|e
   ·simp_all
   ·simp_all
  have hU:=ht hc.1 hc.2
  rcases Bool.or_eq_true_iff.1 hT with e|e
  ·have:=Nat.eq_of_beq_eq_true e
   subst this
   exact World.block_lt_of_cell? W _ (hU.1 0 (by decide))
  ·have:=Nat.eq_of_beq_eq_true e
   subst this
   exact World.block_lt_of_cell? W _ (hU.2 0 (by decide)).1
 ·have hm:g ∈ errG g0:=List.mem_filter.2 ⟨(lst_mem.1 hg).1,by
   grind [isTab]⟩
  obtain ⟨i,hi⟩:=List.mem_iff_getElem?.1 hm
  exact World.block_lt_of_cell? W _ (hvar i g hi)
theorem bs_of_trod {P:Program} {W:World} {T E:TypeId} {ao:Option Addr} {len cap:Nat} {H:Type} {enc:TypeId×Value→H} {d:DataW H} {ps:List MemPlace}
  (hT:P.underlying T=some (.slice E)) (hE:P.underlying E=some (.int .u8)) (hc:P.cellsOf E=1)
  (h:DataW.Trod enc P W 0 (fun _=>true) true T (.slice ao len cap) d ps):∃ l,Bs W (.slice ao len cap) l:=by
 obtain ⟨fuel,hf⟩:=h
 rcases open_ints hT hE hc hf with ⟨hcs,_⟩|⟨x,l,c,zs,hcs,_,hl,hm,hz,_,hcell,hwz⟩
 ·simp [Value.cells] at hcs
  obtain ⟨rfl,rfl,rfl⟩:=hcs
  exact ⟨[],Bs.nil W⟩
 ·simp [Value.cells] at hcs
  obtain ⟨rfl,rfl,rfl⟩:=hcs
  have hz':zs.length=cap:=by simpa using hz
  have hlen:((zs.take len).map fun z=>UInt8.ofNat z.toNat).length=len:=by simp;omega
  have key:∀ i,i<len→W.cell? (x.add i)=some (.int .u8 ((((zs.take len).map fun z=>UInt8.ofNat z.toNat).getD i 0).toNat:Nat)):=by
   intro i hi
   rw [hcell i (by omega)]
   have hzi:zs[i]?=some (zs.getD i 0):=by simp [List.getD,show i<zs.length by omega]
   have hwf:=hwz (zs.getD i 0) (List.mem_of_getElem? hzi)
   have hb:=bounds_u8 hwf
   have e:((zs.take len).map fun z=>UInt8.ofNat z.toNat).getD i 0=UInt8.ofNat (zs.getD i 0).toNat:=by
    simp [List.getD,hi,show i<zs.length by omega]
   rw [e,UInt8.toNat_ofNat']
   congr 2
   omega
  obtain ⟨b,o,sp⟩:=x
  have hm':cap≤9223372036854775807:=by unfold maxLen at hm;omega
  by_cases h0:len=0
  ·subst h0
   exact ⟨[],_,cap,rfl,by simp,hm',by simp,fun y hy=>by
    simp_all⟩
  ·have hsp:sp=none:=by
    have:=World.cell?_spot (key 0 (by omega))
    simpa [Addr.add] using this
   subst hsp
   refine ⟨(zs.take len).map fun z=>UInt8.ofNat z.toNat,?_⟩
   grind [Bs.of_cells,Addr.add_lit]
end Go.Proofs.YtnijncmifjnifaaGreatDoor
namespace Go.Proofs.YtnijncmifjnifaaGreatDoor
set_option linter.unusedVariables false
open Go.RowKit Go.ChangeShapes
def tabRen:Go.Shelf.Ren:=⟨fun n=>n,fun|5=>5|119=>229|138=>231|139=>232|n=>n,fun|3=>29|4=>30|n=>n⟩
theorem tabTypes:U8Types Tryz.prog tabRen where
 t5:=Tryz.underlying5
 t119:=Tryz.underlying229
 t138:=Tryz.underlying231
 t139:=Tryz.underlying232
theorem tabExtra:U8Extra Tryz.prog tabRen where
 n3:=by kernel_rfl
 n4:=by kernel_rfl
 y3:=by kernel_rfl
 y4:=by kernel_rfl
 c5:=by kernel_rfl
 c119:=by kernel_rfl
 c138:=by kernel_rfl
theorem tabs_of_laid {W : World} {L : List (String × DataW Unit)} (h : laidMetH Tryz.prog L W) (h1 : (L.all fun x => x.2.handleName?.isNone) = true) {i j : Nat} (hi : L[i]? = some ("unicode/utf8.first", Lib.firstData)) (hj : L[j]? = some ("unicode/utf8.acceptRanges", Lib.acceptData)) : Lib.Utf8Tabs tabA tabB W := by
 rw [MakeChecks.laidMetH_plain _ _ _ h1] at h
 obtain ⟨ps,hv,hnd,hrows⟩:=h
 exact utf8Tabs_of_readsT (ρ:=tabRen) tabTypes tabExtra (Lib.LaidVars_reads hv _ _ (List.mem_of_getElem? hi)) (Lib.LaidVars_reads hv _ _ (List.mem_of_getElem? hj))
end Go.Proofs.YtnijncmifjnifaaGreatDoor
namespace Go.Proofs.YtnijncmifjnifaaGreatDoor
set_option linter.unusedVariables false
open Go.RowKit Go.ChangeShapes
def u8ren:Go.Shelf.Ren:=⟨fun|196=>177|259=>185|n=>n,fun|0=>0|3=>3|4=>4|5=>5|9=>9|12=>12|46=>52|53=>208|119=>229|138=>231|139=>232|n=>n,fun|3=>29|4=>30|n=>n⟩
theorem u8lays:Go.Proofs.Lays.n196 Tryz.prog u8ren:={
 mixed:=by kernel_rfl
 f196:=Tryz.func177.trans (congrArg some (by kernel_rfl))
 f259:=Tryz.func185.trans (congrArg some (by kernel_rfl))
 t0:=Tryz.underlying0
 a0:=Tryz.isAgg0
 z0:=Tryz.sizeOf0
 v0:=Tryz.zeroValue0
 t3:=Tryz.underlying3
 a3:=Tryz.isAgg3
 z3:=Tryz.sizeOf3
 v3:=Tryz.zeroValue3
 t4:=Tryz.underlying4
 a4:=Tryz.isAgg4
 z4:=Tryz.sizeOf4
 v4:=Tryz.zeroValue4
 t5:=Tryz.underlying5
 a5:=Tryz.isAgg5
 z5:=Tryz.sizeOf5
 v5:=Tryz.zeroValue5
 t9:=Tryz.underlying9
 a9:=Tryz.isAgg9
 z9:=Tryz.sizeOf9
 v9:=Tryz.zeroValue9
 t12:=Tryz.underlying12
 a12:=Tryz.isAgg12
 z12:=Tryz.sizeOf12
 v12:=Tryz.zeroValue12
 t46:=Tryz.underlying52
 a46:=Tryz.isAgg52
 z46:=Tryz.sizeOf52
 v46:=Tryz.zeroValue52
 t53:=Tryz.underlying208
 a53:=Tryz.isAgg208
 z53:=Tryz.sizeOf208
 v53:=Tryz.zeroValue208
 t119:=Tryz.underlying229
 a119:=Tryz.isAgg229
 z119:=Tryz.sizeOf229
 t138:=Tryz.underlying231
 a138:=Tryz.isAgg231
 z138:=Tryz.sizeOf231
 v138:=Tryz.zeroValue231
 t139:=Tryz.underlying232
 a139:=Tryz.isAgg232
 z139:=Tryz.sizeOf232
 v139:=Tryz.zeroValue232
 g3:=by kernel_rfl
 g4:=by kernel_rfl }
namespace Am
class OkT (l:List Nat):Prop where
 a:tabA ∈ lst l
 b:tabB ∈ lst l
instance okTT:OkT gsT:=⟨by decide,by decide⟩
theorem valid_ac {gs:List Nat} [OkT gs] (l:List UInt8) (hl:l.length≤9223372036854775807):ACp gs Tryz.prog 177 [strC l] (.c (.bool (Lib.validD l))) :=
 ac_old fun al w St vals hs hv hr=>by
  have h0:vals.getD 0 undef=.string ⟨l.toArray⟩:=hr 0
  rw [vals1 hv,h0]
  exact Any.utf8_ValidString u8lays ⟨l.toArray⟩ w hl (hs.tab OkT.a OkT.b)
end Am
end Go.Proofs.YtnijncmifjnifaaGreatDoor
namespace Go.Proofs.YtnijncmifjnifaaGreatDoor
set_option linter.unusedVariables false
namespace Am
open Go.RowKit
section
open Go.RowKit Go.Lib
def RefSt (b n c least:Nat):Prop :=
 (n=0∧c=b∧least=0∧b<128∧32≤b∧b≠127)∨(n=1∧c+192=b∧least=128∧b<224)∨(n=2∧c+224=b∧least=2048∧b<240)∨(n=3∧c+240=b∧least=65536∧b<248)
def cR (d:List UInt8) (c0:Nat):Nat→Nat
 | 0=>c0
 | j+1=>cR d c0 j * 64+bt d (j+1)-128
theorem cR_bd {d:List UInt8} {c0 j:Nat} (hj:j≤3) (h0:c0<128) (h:∀ q,1≤q→q≤j→128≤bt d q∧bt d q≤191):cR d c0 j<33554432∧(j≤2→cR d c0 j<524288):=by
 have h1:=h 1 (by omega)
 have h2:=h 2 (by omega)
 have h3:=h 3 (by omega)
 have e0:cR d c0 0=c0:=rfl
 have e1:cR d c0 1=c0 * 64+bt d 1-128:=rfl
 have e2:cR d c0 2=(c0 * 64+bt d 1-128) * 64+bt d 2-128:=rfl
 have e3:cR d c0 3=((c0 * 64+bt d 1-128) * 64+bt d 2-128) * 64+bt d 3-128:=rfl
 grind
theorem ref_cont {d:List UInt8} {n c least j:Nat} (hd:d≠[]) (hR:RefSt (bt d 0) n c least) (hj:j<n) (hl:d.length=1+j∨bt d (j+1)<128∨191<bt d (j+1)):plainM d=false:=by
 refine ref_bad hd ?_
 unfold RefSt at hR
 rcases hR with hR|hR|hR|hR
 ·omega
 ·grind [dec_two]
 ·grind [dec_three]
 grind [dec_four]
theorem ref_end {d:List UInt8} {n c least:Nat} (hd:d≠[]) (hR:RefSt (bt d 0) n c least) (hl:1+n≤d.length) (h:∀ q,1≤q→q≤n→128≤bt d q∧bt d q≤191) :
  plainM d=if cR d c n<least∨1114111<cR d c n∨(55296≤cR d c n∧cR d c n<57344) then false else plainM (d.drop (1+n)):=by
 have h1:=h 1 (by omega)
 have h2:=h 2 (by omega)
 have h3:=h 3 (by omega)
 unfold RefSt at hR
 rcases hR with ⟨rfl,rfl,rfl,hR⟩|⟨rfl,hc,rfl,hR⟩|⟨rfl,hc,rfl,hR⟩|⟨rfl,hc,rfl,hR⟩
 ·rw [ref_ascii hd (by omega),if_neg (by omega),if_neg (by show ¬ (bt d 0<0∨1114111<bt d 0∨(55296≤bt d 0∧bt d 0<57344));omega)]
 ·have e:cR d c 1=(bt d 0-192) * 64+bt d 1-128:=by show c * 64+bt d 1-128=_;omega
  grind [dec_two,ref_bad,ref_good]
 ·have e:cR d c 2=((bt d 0-224) * 64+bt d 1-128) * 64+bt d 2-128:=by show (c * 64+bt d 1-128) * 64+bt d 2-128=_;omega
  grind [dec_three,ref_bad,ref_good]
 ·have e:cR d c 3=(((bt d 0-240) * 64+bt d 1-128) * 64+bt d 2-128) * 64+bt d 3-128:=by show ((c * 64+bt d 1-128) * 64+bt d 2-128) * 64+bt d 3-128=_;omega
  grind [dec_four,ref_bad,ref_good]
theorem bt_drop (l:List UInt8) (i j:Nat):bt (l.drop i) j=bt l (i+j):=by simp [bt,List.getD]
theorem dec_at (l:List UInt8) (i:Nat):Utf8.decode ⟨l.toArray⟩ i=dec1 (l.drop i):=by
 unfold dec1
 rw [Lib.decode_at,ba_bang,ba_bang,ba_bang,ba_bang,bt_drop,bt_drop,bt_drop,bt_drop,List.length_drop]
 rfl
theorem dec1_le {d:List UInt8} (hd:d≠[]):(dec1 d).2≤d.length:=by
 grind [List.length_pos_iff,dec1,Lib.decodeN]
end
section
theorem plain07_ac {gs:List Nat} [OkT gs] (l:List UInt8) (hl:l.length≤1000000000):ACp gs Tryz.prog 152 [strC l] (.c (.bool (plainM l))):=by
 refine jF5 167516 18 Tryz.func152 fun al w0 F0 St0=>?_
 refine jqe (e_range rfl rfl Tryz.underlying9 rfl rfl (fun p1=>?_))
 refine jU 205 ?_
 refine jlp (α:=Nat) [2,2,4,4,7,15] (fun i=>[]) (fun i=>[(some p1,.obj (iterOP ⟨l.toArray⟩ i))]) (fun i=>i≤l.length∧noBadM (l.drop i)=noBadM l) (fun i=>l.length-i) 0 (h0:=⟨Nat.zero_le _,rfl⟩) (hH:=.same .nil) (hr:=?_)
 rintro i ⟨hi,he⟩
 refine jcr ?_
 refine seq_md (wanted_none rfl) (m_next rfl rfl rfl rfl rfl (fun n23=>?_) (fun n23=>?_))
 ·refine jU 51900620810900075900 ?_
  have hd:=dec_at l i
  have hlt:i<l.length:=n23
  have hne:l.drop i≠[]:=by intro e;have:=congrArg List.length e;simp at this;omega
  have hw:=dec1_width (l.drop i)
  have hwl:=dec1_le hne
  simp only [List.length_drop] at hwl
  rw [← hd] at hw hwl
  refine jU 1216 ?_;refine jF4 8000300050003000500070005169000510000000044 550021 12 (fun g24=>?_) fun g24=>?_
  ·refine cB ?_
   rw [plainM_two,← he,noBadM_step hne,← hd,if_pos ?_]
   ·rfl
   ·unfold badR;simp only [Bool.or_eq_true,decide_eq_true_eq];omega
  refine jF3 800030005000300050007000516 840010 (fun h24=>?_) fun h24=>?_
  rotate_left
  ·refine jlend (i+(Utf8.decode ⟨l.toArray⟩ i).2) (h1:=?_) (h7:=by exact .same .nil)
   ·refine ⟨by omega,?_⟩
    have hb:¬ badR (Utf8.decode ⟨l.toArray⟩ i).1=true:=by unfold badR;simp only [Bool.or_eq_true,decide_eq_true_eq];omega
    rw [← he,noBadM_step hne,← hd,if_neg hb,List.drop_drop]
  refine cB ?_
  rw [plainM_two,← he,noBadM_step hne,← hd,if_pos ?_]
  ·rfl
  ·unfold badR;simp only [Bool.or_eq_true,decide_eq_true_eq];omega
 ·refine jU 168400020002000600030075900 ?_;refine jF1 8000700051 (valid_ac l (by omega)) ?_;refine cB ?_
  have e:l.drop i=[]:=List.drop_eq_nil_of_le (Nat.le_of_not_lt n23)
  rw [plainM_two,← he,e]
  rfl


set_option maxHeartbeats 4000000 in
theorem rplain_ac {gs:List Nat} (l:List UInt8) (hl:l.length≤1000000000):ACp gs Tryz.prog 156 [strC l] (.c (.bool (plainM l))):=by
 refine jF5 207516516 94 Tryz.func156 fun al w0 F0 St0=>?_
 refine jlp (α:=Nat) [2,93] (fun i=>[(3,.c (.int .i64 (i:Nat)))]) (fun _=>[]) (fun i=>i≤l.length∧plainM (l.drop i)=plainM l) (fun i=>l.length-i) 0 (h0:=⟨Nat.zero_le _,rfl⟩) (hr:=?_)
 rintro i ⟨hi,he⟩
 refine jU 52400001167 ?_;refine jF3 8000000011620810 8000700051684000200020006000 (fun h9=>?_) fun h9=>?_
 rotate_left
 ·refine cB ?_
  rw [← he,List.drop_eq_nil_of_le (by omega)]
  rfl
 first|refine jq (jrv8 .i64) ?_|refine jq (jrv .u8 .i64) ?_|refine jq (jrvW .u8 .i64) ?_
 refine jU 5111 ?_
 have hlt:i<l.length:=by omega
 have hne:l.drop i≠[]:=by intro e;have:=congrArg List.length e;simp at this;omega
 obtain ⟨b,hb⟩:∃ b,b=bt (l.drop i) 0:=⟨_,rfl⟩
 have hbl:b<256:=by rw [hb];exact bt_lt _ _
 refine jjn (α:=Nat×Nat×Nat) [2,2,4,6,15,46] (fun (n,c,z)=>[(4,.c (.int .i64 (c:Nat))),(5,.c (.int .i64 (n:Nat))),(6,.c (.int .i64 (z:Nat)))]) (fun _=>[]) (fun (n,c,z)=>RefSt (bt (l.drop i) 0) n c z) ?_ ?_
 ·refine jE (weaken 4 (.c (.int .i64 (b:Nat))) (cI (by rw [hb,bt_drop];rfl))) ?_;refine jU 5216 ?_;refine jF3 1216 1216 (fun h11=>?_) fun h11=>?_
  ·refine jF4 80003000500030005000300070005169000510000000044 550021 19 (fun g12=>?_) fun g12=>?_
   ·refine cB ?_
    rw [← he,ref_ascii hne (by rw [← hb];omega),if_pos (by rw [← hb];omega)]
   refine jF3 8000300050003000500030007000516 810 (fun h12=>?_) fun h12=>?_
   rotate_left
   ·refine jjend (0,b,0) (h1:=?_)
    ·show RefSt (bt (l.drop i) 0) _ _ _
     rw [← hb];unfold RefSt;omega
   refine cB ?_
   rw [← he,ref_ascii hne (by rw [← hb];omega),if_pos (by rw [← hb];omega)]
  refine jF4 510000000021 1216300550044 25 (fun g15=>?_) fun g15=>?_
  rotate_left
  ·refine jF4 510000000021 1216300550044 33 (fun g17=>?_) fun g17=>?_
   rotate_left
   ·refine jF4 510000000021 8000300050003000500030007000516300550044 41 (fun g19=>?_) fun g19=>?_
    rotate_left
    ·refine cB ?_
     rw [← he,ref_bad hne (dec_head_bad (by rw [← hb];omega) (by rw [← hb];omega))]
    refine jF3 8511191200 8000300050003000500030007000516 (fun h19=>?_) fun h19=>?_
    rotate_left
    ·refine cB ?_
     rw [← he,ref_bad hne (dec_head_bad (by rw [← hb];omega) (by rw [← hb];omega))]
    refine jjend (3,b-240,65536) (h1:=?_)
    ·show RefSt (bt (l.drop i) 0) _ _ _
     rw [← hb];unfold RefSt;omega
   refine jF3 8511191200 1216 (fun h17=>?_) fun h17=>?_
   ·refine jjend (3,b-240,65536) (h1:=?_)
    ·show RefSt (bt (l.drop i) 0) _ _ _
     rw [← hb];unfold RefSt;omega
   refine jF4 510000000021 8000300050003000500030007000516300550044 41 (fun g19=>?_) fun g19=>?_
   rotate_left
   ·refine cB ?_
    rw [← he,ref_bad hne (dec_head_bad (by rw [← hb];omega) (by rw [← hb];omega))]
   refine jF3 8511191200 8000300050003000500030007000516 (fun h19=>?_) fun h19=>?_
   rotate_left
   ·refine cB ?_
    rw [← he,ref_bad hne (dec_head_bad (by rw [← hb];omega) (by rw [← hb];omega))]
   refine jjend (3,b-240,65536) (h1:=?_)
   ·show RefSt (bt (l.drop i) 0) _ _ _
    rw [← hb];unfold RefSt;omega
  refine jF3 8511191200 1216 (fun h15=>?_) fun h15=>?_
  ·refine jjend (1,b-192,128) (h1:=?_)
   ·show RefSt (bt (l.drop i) 0) _ _ _
    rw [← hb];unfold RefSt;omega
  refine jF4 510000000021 1216300550044 33 (fun g17=>?_) fun g17=>?_
  rotate_left
  ·refine jF4 510000000021 8000300050003000500030007000516300550044 41 (fun g19=>?_) fun g19=>?_
   rotate_left
   ·refine cB ?_
    rw [← he,ref_bad hne (dec_head_bad (by rw [← hb];omega) (by rw [← hb];omega))]
   refine jF3 8511191200 8000300050003000500030007000516 (fun h19=>?_) fun h19=>?_
   rotate_left
   ·refine cB ?_
    rw [← he,ref_bad hne (dec_head_bad (by rw [← hb];omega) (by rw [← hb];omega))]
   refine jjend (3,b-240,65536) (h1:=?_)
   ·show RefSt (bt (l.drop i) 0) _ _ _
    rw [← hb];unfold RefSt;omega
  refine jF3 8511191200 1216 (fun h17=>?_) fun h17=>?_
  ·refine jjend (2,b-224,2048) (h1:=?_)
   ·show RefSt (bt (l.drop i) 0) _ _ _
    rw [← hb];unfold RefSt;omega
  refine jF4 510000000021 8000300050003000500030007000516300550044 41 (fun g19=>?_) fun g19=>?_
  rotate_left
  ·refine cB ?_
   rw [← he,ref_bad hne (dec_head_bad (by rw [← hb];omega) (by rw [← hb];omega))]
  refine jF3 8511191200 8000300050003000500030007000516 (fun h19=>?_) fun h19=>?_
  rotate_left
  ·refine cB ?_
   rw [← he,ref_bad hne (dec_head_bad (by rw [← hb];omega) (by rw [← hb];omega))]
  refine jjend (3,b-240,65536) (h1:=?_)
  ·show RefSt (bt (l.drop i) 0) _ _ _
   rw [← hb];unfold RefSt;omega
 rintro ⟨n0,c0,least⟩ hR0
 have hR:RefSt (bt (l.drop i) 0) n0 c0 least:=hR0
 clear hR0
 have hRb:=hR
 rw [← hb] at hRb
 unfold RefSt at hRb
 have hn3:n0≤3:=by omega
 have hc128:c0<128:=by omega
 have hl6:least≤65536:=by omega
 clear hRb
 refine jU 20751916 ?_
 refine jlp (α:=Nat) [2,5,49,78] (fun j=>[(3,.c (.int .i64 (((i+1+j:Nat):Int)))),(4,.c (.int .i64 (cR (l.drop i) c0 j:Nat))),(5,.c (.int .i64 ((n0-j:Nat):Int)))]) (fun _=>[]) (fun j=>j≤n0∧i+1+j≤l.length∧∀ q,1≤q→q≤j→128≤bt (l.drop i) q∧bt (l.drop i) q≤191) (fun j=>n0-j) 0 (h0:=⟨Nat.zero_le _,by omega,fun q h1 h2=>by omega⟩) (hr:=?_)
 rintro j ⟨hj,hil,hq⟩
 have hcb:=cR_bd (d:=l.drop i) (c0:=c0) (j:=j) (by omega) hc128 hq
 refine jU 52167 ?_;refine jF3 7207810 84000200020006000 (fun h25=>?_) fun h25=>?_
 rotate_left
 ·have hjn:j=n0:=by omega
  subst hjn
  obtain ⟨C,hjn⟩:∃ C,C=cR (l.drop i) c0 j:=⟨_,rfl⟩
  rw [← hjn] at hcb
  refine jE (weaken 4 (.c (.int .i64 (C:Nat))) (cI (by rw [hjn]))) ?_;refine jU 12116 ?_;refine jF4 80003000500030005000700051690005100000000444444110000000044 150021 82 (fun g32=>?_) fun g32=>?_
  ·refine cB ?_
   rw [← he,ref_end hne hR (by rw [List.length_drop];omega) hq,if_pos (by rw [← hjn];omega)]
  refine jF4 80003000500030005000700051690005100000000444444 121 86 (fun g32_2=>?_) fun g32_2=>?_
  ·refine cB ?_
   rw [← he,ref_end hne hR (by rw [List.length_drop];omega) hq,if_pos (by rw [← hjn];omega)]
  refine jF4 550010000000021 840010300550050044 89 (fun g32_3=>?_) fun g32_3=>?_
  rotate_left
  ·refine jlend (i+(1+j)) (h1:=?_)
   ·refine ⟨by omega,?_⟩
    rw [← he,ref_end hne hR (by rw [List.length_drop];omega) hq,if_neg (by rw [← hjn];omega),List.drop_drop]
  refine jF3 800030005000300050007000516 840010 (fun h32=>?_) fun h32=>?_
  rotate_left
  ·refine jlend (i+(1+j)) (h1:=?_)
   ·refine ⟨by omega,?_⟩
    rw [← he,ref_end hne hR (by rw [List.length_drop];omega) hq,if_neg (by rw [← hjn];omega),List.drop_drop]
  refine cB ?_
  rw [← he,ref_end hne hR (by rw [List.length_drop];omega) hq,if_pos (by rw [← hjn];omega)]
 obtain ⟨x,hx⟩:∃ x,x=bt (l.drop i) (j+1):=⟨_,rfl⟩
 have hx2:(l.getD (i+1+j) 0).toNat=x:=by rw [hx,bt_drop,show i+(j+1)=i+1+j by omega];rfl
 have hxl:x<256:=by rw [hx];exact bt_lt _ _
 refine jU 1240000116 ?_;refine jF4 80003000500030005000300050003000300050003000700051690005100000000444411000000004444 150028000000011 57 (fun g26=>?_) fun g26=>?_
 ·refine cB ?_
  rw [← he,ref_cont hne hR (show j<n0 by omega) (by rw [← hx,List.length_drop];omega)]
 refine jF4 800030005000300050003000500030003000500030007000516900051000000004444 550028000000011 63 (fun g26_2=>?_) fun g26_2=>?_
 ·refine cB ?_
  rw [← he,ref_cont hne hR (show j<n0 by omega) (by rw [← hx,List.length_drop];omega)]
 refine jF3 800030005000300050003000500030003000500030007000516 8000000011916810 (fun h26=>?_) fun h26=>?_
 ·refine cB ?_
  rw [← he,ref_cont hne hR (show j<n0 by omega) (by rw [← hx,List.length_drop];omega)]
 first|refine jq (jrv8 .i64) ?_|refine jq (jrv .u8 .i64) ?_|refine jq (jrvW .u8 .i64) ?_
 refine jU 85191200840051912005199 ?_
 refine jlend (j+1) (h1:=?_) (h5:=by exact .cons (cI (by omega)) (.cons (cI (by show _=((cR (l.drop i) c0 j * 64+bt (l.drop i) (j+1)-128:Nat):Int);rw [← hx];omega)) (.cons (cI (by omega)) .nil)))
 ·refine ⟨by omega,by omega,fun q h1 h2=>?_⟩
  by_cases e:q=j+1
  ·rw [e,← hx];omega
  ·exact hq q h1 (by omega)
end
section
def bitsR (b:List UInt8):Nat:=rev8 (b.getD 1 0).toNat+256 * (if b.length=3 then rev8 (b.getD 2 0).toNat else 0)
theorem shr128' {z:Int} (q:Nat) (hz:z=(q:Int)) (h:q<8):Int.fdiv 128 (2 ^ (min z.toNat 8))=((2 ^ (7-q):Nat):Int):=by
 subst hz
 have:=all_lt (n:=8) (p:=fun q=>Int.fdiv 128 (2 ^ (min ((q:Nat):Int).toNat 8)) == ((2 ^ (7-q):Nat):Int)) (by decide) h
 exact eq_of_beq this
theorem shr_natI {M b:Nat} {z:Int} (q:Nat) (hz:z=(q:Int)) (h:q≤b):Int.fdiv ((M:Nat):Int) (2 ^ (min z.toNat b))=((M / 2 ^ q:Nat):Int):=by
 grind
def turnM (m:Nat):Nat→Nat
 | 0=>rev16 m
 | j+1=>turnM m j % 256 * 256
def outL (m:Nat):Nat→List UInt8
 | 0=>[UInt8.ofNat ((8-bl m % 8) % 8)]
 | j+1=>outL m j++[UInt8.ofNat (turnM m j / 256)]
def bp (M:Nat):Nat→Nat
 | 0=>0
 | i+1=>if M / 2 ^ i % 2=1 then i+1 else bp M i
theorem bp_is (M i:Nat):IsBl (M % 2 ^ i) (bp M i)∧bp M i≤i:=by
 induction i with
 | zero=>exact ⟨⟨by simp [Nat.mod_one,bp],.inl rfl⟩,Nat.le_refl _⟩
 | succ i ih=>grind [isBl_step,bp]
theorem bp_end {M:Nat} (h:M<32768):bp M 15=bl M:=by
 have h1:=(bp_is M 15).1
 grind [isBl_unique,bl_is]
theorem gF_on' {M n i:Nat} (hb:M / 2 ^ i % 2=1) (hi:i<15) (h:M<32768):gF M n i (1+i / 8)+2 ^ (7-i % 8)<256:=by
 have h1:=gF_on (n:=n) (j:=1+i / 8) hb (by omega) (by omega)
 grind [gF_lt]
def turnedM (b:List UInt8):Nat:=(b.getD 1 0).toNat % 256 * 256+(if b.length=3 then (b.getD 2 0).toNat else 0)
end
section
variable {gs:List Nat} [Ok9 gs]


def rF (M n i:Nat) (j:Nat):CV:=.c (.int .u8 ((gF M n i j:Nat):Int))
theorem rflags_ac {gs:List Nat} (m:Nat) (hm:m<32768):ACp gs Tryz.prog 147 [.c (.int .i64 (m:Nat))] (bsC (flagsL m)):=by
 have hb:=(bl_is (m:=m) (by omega)).2
 have hfl:=flags_len (m:=m) (by omega)
 refine jF5 205167516516 57 Tryz.func147 fun al w0 F0 St0=>?_
 refine jlp (α:=Nat) [3,4,7,18] (fun i=>[(3,.c (.int .i64 (bp m i:Nat))),(4,.c (.int .i64 (i:Nat)))]) (fun _=>[]) (fun i=>i≤15) (fun i=>15-i) 0 (hr:=?_)
 rintro i (hi:i≤15)
 have hbp:=(bp_is m i).2
 obtain ⟨q,hq⟩:∃ q,q=m / 2 ^ i:=⟨_,rfl⟩
 refine jU 52167 ?_;refine jF3 116207810 84000200020006000 (fun h70=>?_) fun h70=>?_
 ·refine jq (jrv .i64 .u64) ?_;refine jq (rd_shr rfl rfl rfl (by (omega)) (((q:Nat):Int)) ((by rw [hq];exact shr_natI i rfl (by show i≤64;omega)))) ?_;refine jU 521000000 ?_;refine jF3 8519120084005191200 85191200840010 (fun h71=>?_) fun h71=>?_
  rotate_left
  ·exact jlend (i+1) (h5:=by exact .cons (cI (by show _=((if m / 2 ^ i % 2=1 then i+1 else bp m i:Nat):Int);rw [← hq];(rw [if_neg (by omega)]))) (.cons (cI (by omega)) .nil))
  exact jlend (i+1) (h5:=by exact .cons (cI (by show _=((if m / 2 ^ i % 2=1 then i+1 else bp m i:Nat):Int);rw [← hq];(rw [if_pos (by omega)];omega))) (.cons (cI (by omega)) .nil))
 have e15:i=15:=by omega
 refine jE (weaken 3 (.c (.int .i64 (bl m:Nat))) (cI (by rw [e15,bp_end hm]))) ?_;refine jU 9600000916 ?_
 refine jqe (e_make (F:=(fun _=>.c (.int .u8 0))) rfl rfl rfl (show _=(((flagsL m).length:Nat):Int) by omega) (show _=(((flagsL m).length:Nat):Int) by omega) (by (omega)) Tryz.underlying58 sz5 zr5 by5 (by (omega)) (by (omega)) (fun j hj=>by show CEnt (.c ((#[Value.int .u8 0])[j % 1]!)) _;rw [Nat.mod_one];exact cZ) rfl rfl (fun p1=>?_))
 refine jU 9199311651 ?_;refine jq (rd_convI rfl rfl Tryz.underlying3 Tryz.underlying5 ((((8-bl m % 8) % 8:Nat):Int)) ((by rw [IntKind.wrap_u8];omega))) ?_;refine jU 2000000 ?_
 refine jqm (jmstF 1 (rF m (bl m) 0) ?_ ?_)
 ·exact (fun j hj=>CEnt.of_eq (by refine (updF_one _ 0 (.c (.int .u8 (((8-bl m % 8) % 8:Nat):Int))) j).trans ?_;unfold rF;split <;> rename_i e <;> first|(rw [e];rfl)|(rw [gF_zero e];rfl)))
 refine jU 2051675 ?_
 refine jlp (α:=Nat) [6,6,33,55] (fun i=>[(6,.c (.int .i64 (i:Nat)))]) (fun i=>[(p1,.blk ((flagsL m).length * 1) (rF m (bl m) i))]) (fun i=>i≤bl m) (fun i=>bl m-i) 0 (hH:=.same .nil) (hr:=?_)
 rintro i' (hi':i'≤bl m)
 obtain ⟨q',hq'⟩:∃ q,q=m / 2 ^ i':=⟨_,rfl⟩
 refine jU 521167 ?_;refine jF3 116207810 84000200020006000 (fun h77=>?_) fun h77=>?_
 rotate_left
 ·have e:i'=bl m:=by omega
  subst e
  refine jE (blk_ent 0 (m:=(flagsL m).length) (F:=byF (flagsL m)) rfl (by omega) (fun _=>by omega) (fun j hj=>cI (by rw [gF_end (by omega) (by omega)]))) ?_;refine jU 5116 ?_;refine jE (freeze 0 rfl) ?_;refine jE (thawB 2 (flagsL m) rfl rfl (by rfl) rfl) ?_
  refine jR (jrt (hv:=cZ))
 refine jq (jrv .i64 .u64) ?_;refine jq (rd_shr rfl rfl rfl (by (omega)) (((q':Nat):Int)) ((by rw [hq'];exact shr_natI i' rfl (by show i'≤64;omega)))) ?_;refine jU 521000000 ?_;refine jF3 0 85191200840010 (fun h78=>?_) fun h78=>?_
 rotate_left
 ·refine jlend (i'+1) (h7:=?_)
  ·exact .blk rfl (fun j hj=>cI (by rw [gF_off (by omega)])) .nil
 have hm15:i'<15:=by have:=(bp_is m 15).2;rw [bp_end hm] at this;omega
 have hb1:m / 2 ^ i' % 2=1:=by omega
 have hgo:=gF_on' (n:=bl m) hb1 hm15 hm
 obtain ⟨P,hP⟩:∃ P,P=gF m (bl m) i' (1+i' / 8)+2 ^ (7-i' % 8):=⟨_,rfl⟩
 rw [← hP] at hgo
 refine jU 960000011200 ?_;refine jq (jri (i:=(1+i' / 8)) (hz:=by omega)) ?_;refine jU 1000000150 ?_;refine jq (jrv .i64 .u64) ?_;refine jq (rd_shr rfl rfl rfl (by (omega)) (((2 ^ (7-i' % 8):Nat):Int)) (shr128' (i' % 8) (by omega) (by omega))) ?_;refine jq (rd_addW rfl rfl rfl (((P:Nat):Int)) ((by rw [IntKind.wrap_u8,← Int.natCast_add,← hP];omega))) ?_;refine jq (jri (i:=(1+i' / 8)) (hz:=by omega)) ?_
 refine jqm (jmstF 1 (rF m (bl m) (i'+1)) ?_ ?_)
 ·exact (fun j hj=>CEnt.of_eq (by refine (updF_one _ (1+i' / 8) (.c (.int .u8 ((P:Nat):Int))) j).trans ?_;unfold rF;rw [gF_on hb1 (by omega) (by omega)];split <;> rename_i e <;> first|(rw [hP,e])|rfl))
 refine jU 8519120084005 ?_
 refine jlend (i'+1) (h7:=?_)
 ·exact .same .nil
end
section
variable {gs:List Nat} [OkG gs]
set_option linter.unusedVariables false
end
section
def lch (c:UInt8):Bool:=(decide (97≤c.toNat) && decide (c.toNat≤122)) || (decide (48≤c.toNat) && decide (c.toNat≤57)) || decide (c.toNat=45)
def labM (l:List UInt8):Bool:=decide (l≠[]) && decide (l.length≤24) && decide (l.getD 0 0≠45) && decide (l.getD (l.length-1) 0≠45) && l.all lch
theorem lab_free {l:List UInt8} (h:labM l=true):(58:UInt8) ∉ l∧(47:UInt8) ∉ l∧l≠[]:=by
 simp only [labM,Bool.and_eq_true,decide_eq_true_eq,List.all_eq_true] at h
 obtain ⟨⟨⟨⟨h1,_⟩,_⟩,_⟩,h2⟩:=h
 exact ⟨fun hm=>by have:=h2 _ hm;revert this;decide,fun hm=>by have:=h2 _ hm;revert this;decide,h1⟩
abbrev S3:=Int×List UInt8×List UInt8
def wordL:List (List UInt8):=[[110,111,100,101],[119,111,114,107,108,111,97,100],[111,112,101,114,97,116,111,114],[98,111,111,116],[99,97]]
def wordM (k:Int):List UInt8:=if k<1 then [] else wordL.getD (k-1).toNat []
def rightS (s:S3):Bool:=decide (1≤s.1) && decide (s.1≤5) && labM s.2.2 && (if s.1=2 then labM s.2.1 else decide (s.2.1=[]))
theorem right_iff (s:S3):rightS s=true↔1≤s.1∧s.1≤5∧labM s.2.2=true∧(s.1=2→labM s.2.1=true)∧(s.1≠2→s.2.1=[]):=by
 grind [rightS]
theorem kinds {k:Int} (h1:1≤k) (h5:k≤5):k=1∨k=2∨k=3∨k=4∨k=5:=by omega
theorem word_free {k:Int} (h1:1≤k) (h5:k≤5):(58:UInt8) ∉ wordM k:=by
 rcases kinds h1 h5 with rfl|rfl|rfl|rfl|rfl <;> decide
theorem word_idx {k:Int} (h1:1≤k) (h5:k≤5):((wordL.idxOf (wordM k):Nat):Int)+1=k∧wordM k ∈ wordL:=by
 rcases kinds h1 h5 with rfl|rfl|rfl|rfl|rfl <;> decide
def cutM (c:UInt8):List UInt8→List UInt8×List UInt8×Bool
 | []=>([],[],false)
 | x::l=>if x=c then ([],l,true) else (x::(cutM c l).1,(cutM c l).2.1,(cutM c l).2.2)
theorem cut_at {c:UInt8}:∀ {p:List UInt8} (r:List UInt8),c ∉ p→cutM c (p++c::r)=(p,r,true)
 | [],r,_=>by simp [cutM]
 | x::l,r,h=>by
  have h1:x≠c:=fun e=>h (by simp [e])
  have h2:c ∉ l:=fun e=>h (by simp [e])
  rw [List.cons_append,cutM,if_neg h1,cut_at r h2]
theorem cut_none {c:UInt8}:∀ {p:List UInt8},c ∉ p→cutM c p=(p,[],false)
 | [],_=>rfl
 | x::l,h=>by
  have h1:x≠c:=fun e=>h (by simp [e])
  have h2:c ∉ l:=fun e=>h (by simp [e])
  rw [cutM,if_neg h1,cut_none h2]
def textS (s:S3):List UInt8:=wordM s.1++58::(if s.2.1=[] then s.2.2 else s.2.1++47::s.2.2)
def idxW (w:List UInt8):Int:=if w ∈ wordL then (wordL.idxOf w:Nat)+1 else 0
def guessT (t:List UInt8):S3 :=
 if (cutM 47 (cutM 58 t).2.1).2.2=true then (idxW (cutM 58 t).1,(cutM 47 (cutM 58 t).2.1).1,(cutM 47 (cutM 58 t).2.1).2.1) else (idxW (cutM 58 t).1,[],(cutM 58 t).2.1)
theorem guess_text {s:S3} (h:rightS s=true):guessT (textS s)=s:=by
 obtain ⟨h1,h5,hn,h2,hs⟩:=(right_iff s).1 h
 obtain ⟨k,sp,nm⟩:=s
 have e:=cut_at (if sp=[] then nm else sp++47::nm) (word_free h1 h5)
 have hi:=word_idx h1 h5
 unfold guessT textS
 simp only [e]
 have hk:idxW (wordM k)=k:=by unfold idxW;rw [if_pos hi.2];exact hi.1
 by_cases hk2:k=2
 ·simp_all [lab_free,cut_at]
 simp_all [cut_none,lab_free]
def zeroS:S3:=(0,[],[])
def parseT (t:List UInt8):S3×Nat:=if rightS (guessT t)=true∧textS (guessT t)=t then (guessT t,0) else (zeroS,9)
def asKind (t:List UInt8) (k:Int):S3 :=
 if k=2∧(cutM 47 (t.drop ((wordM k).length+1))).2.2=true then (k,(cutM 47 (t.drop ((wordM k).length+1))).1,(cutM 47 (t.drop ((wordM k).length+1))).2.1) else (k,[],t.drop ((wordM k).length+1))
def isKind (t:List UInt8) (k:Int):Prop:=(wordM k).length+1≤t.length∧t.take ((wordM k).length+1)=wordM k++[58]∧rightS (asKind t k)=true∧textS (asKind t k)=t
def oidB:List UInt8:=[49,46,51,46,57,57,57,57,46,49,46]
def oidK:List UInt8:=oidB++[49]
def oidS:List UInt8:=oidB++[50]
def oidN:List UInt8:=oidB++[51]
abbrev P2:=List UInt8×List UInt8
def partsS (s:S3):List P2:=if s.2.1=[] then [(oidK,wordM s.1),(oidN,s.2.2)] else [(oidK,wordM s.1),(oidS,s.2.1),(oidN,s.2.2)]
def stepP (s:S3) (p:P2):S3:=if p.1=oidK then (idxW p.2,s.2.1,s.2.2) else if p.1=oidS then (s.1,p.2,s.2.2) else if p.1=oidN then (s.1,s.2.1,p.2) else s
def guessP (l:List P2):S3:=l.foldl stepP zeroS
theorem guess_parts {s:S3} (h:rightS s=true):guessP (partsS s)=s:=by
 obtain ⟨h1,h5,hn,h2,hs⟩:=(right_iff s).1 h
 obtain ⟨k,sp,nm⟩:=s
 have hk:idxW (wordM k)=k:=by
  have hi:=word_idx h1 h5
  unfold idxW;rw [if_pos hi.2];exact hi.1
 have ks:oidS≠oidK:=by decide
 have kn:oidN≠oidK:=by decide
 have sn:oidN≠oidS:=by decide
 grind [partsS,guessP,stepP,zeroS]
def ofP (l:List P2):S3×Nat:=if rightS (guessP l)=true∧partsS (guessP l)=l then (guessP l,0) else (zeroS,9)
theorem ofP_iff (l:List P2) (s:S3):ofP l=(s,0)↔rightS s=true∧partsS s=l:=by
 grind [ofP,guess_parts]
def asKindP (l:List P2) (k:Int):S3:=(k,(if k=2∧1<l.length then (l.getD 1 ([],[])).2 else []),(if 0<l.length then (l.getD (l.length-1) ([],[])).2 else []))
def isKindP (l:List P2) (k:Int):Prop:=rightS (asKindP l k)=true∧partsS (asKindP l k)=l
theorem parts_ref {s:S3} (h:rightS s=true):partsS s=if s.1=2 then [(oidK,wordM s.1),(oidS,s.2.1),(oidN,s.2.2)] else [(oidK,wordM s.1),(oidN,s.2.2)]:=by
 obtain ⟨h1,h5,hn,h2,hs⟩:=(right_iff s).1 h
 unfold partsS
 by_cases hk2:s.1=2
 ·simp_all [lab_free]
 simp_all
end
section
theorem hasPre_ac {gs:List Nat} (a b:List UInt8):ACp gs Tryz.prog 104 [strC a,strC b] (.c (.bool (Lib.hasPrefix a b))) :=
 ac_old fun al w St vals hs hv hr=>by
  rw [vals2 hv,show vals.getD 0 undef=.string ⟨a.toArray⟩ from hr 0,show vals.getD 1 undef=.string ⟨b.toArray⟩ from hr 1]
  exact (Tryz.strings_HasPrefix _ _ w).mono (by rintro e w' ⟨rfl,rfl⟩;exact ⟨rfl,Below.refl _ _⟩)
theorem hasSuf_ac {gs:List Nat} (a b:List UInt8) (h:a.length≤9223372036854775807):ACp gs Tryz.prog 105 [strC a,strC b] (.c (.bool (Lib.hasSuffix a b))) :=
 ac_old fun al w St vals hs hv hr=>by
  rw [vals2 hv,show vals.getD 0 undef=.string ⟨a.toArray⟩ from hr 0,show vals.getD 1 undef=.string ⟨b.toArray⟩ from hr 1]
  exact (Tryz.strings_HasSuffix ⟨a.toArray⟩ _ w h).mono (by rintro e w' ⟨rfl,rfl⟩;exact ⟨rfl,Below.refl _ _⟩)
theorem idxB_ac {gs:List Nat} (a:List UInt8) (c:UInt8):ACp gs Tryz.prog 106 [strC a,.c (.int .u8 (c.toNat:Nat))] (.c (.int .i64 (Lib.indexByte a c))) :=
 ac_old fun al w St vals hs hv hr=>by
  rw [vals2 hv,show vals.getD 0 undef=.string ⟨a.toArray⟩ from hr 0,show vals.getD 1 undef=.int .u8 (c.toNat:Nat) from hr 1]
  exact (Tryz.strings_IndexByte _ _ w).mono (by rintro e w' ⟨rfl,rfl⟩;exact ⟨by simp,Below.refl _ _⟩)
def letL:List UInt8:=[97,98,99,100,101,102,103,104,105,106,107,108,109,110,111,112,113,114,115,116,117,118,119,120,121,122,48,49,50,51,52,53,54,55,56,57]
theorem lch_let (c:UInt8):(decide (c.toNat=45) || !decide (Lib.indexByte letL c<0))=lch c:=by
 have key:∀ n:Fin 256,(decide ((UInt8.ofNat n.val).toNat=45) || !decide (Lib.indexByte letL (UInt8.ofNat n.val)<0))=lch (UInt8.ofNat n.val):=by decide +kernel
 have:=key ⟨c.toNat,c.toNat_lt⟩
 simpa using this
theorem pre_hyp (l:List UInt8):Lib.hasPrefix l [45]=decide (l≠[]∧l.getD 0 0=45):=by
 cases l with
 | nil=>decide
 | cons a l =>
  by_cases h:a=45
  ·subst h;simp [Lib.hasPrefix]
  ·have:¬ (45:UInt8)=a:=fun e=>h e.symm
   simp [Lib.hasPrefix,List.isPrefixOf,h,this]
theorem suf_hyp (l:List UInt8):Lib.hasSuffix l [45]=decide (l≠[]∧l.getD (l.length-1) 0=45):=by
 by_cases h0:l=[]
 ·subst h0;decide
 ·obtain ⟨q,c,rfl⟩:∃ q c,l=q++[c]:=⟨l.dropLast,l.getLast h0,(List.dropLast_concat_getLast h0).symm⟩
  have e:(q++[c]).getD ((q++[c]).length-1) 0=c:=by simp [List.getD]
  rw [e]
  unfold Lib.hasSuffix
  rw [Bool.eq_iff_iff,List.isSuffixOf_iff_suffix]
  simp only [decide_eq_true_eq]
  constructor
  ·rintro ⟨t,ht⟩
   exact ⟨h0,(by have:=congrArg List.getLast? ht;simp at this;exact this.symm)⟩
  ·rintro ⟨_,rfl⟩;exact ⟨q,rfl⟩
theorem take_all {l:List UInt8} {i:Nat} (hi:i<l.length) (p:UInt8→Bool):(l.take (i+1)).all p=((l.take i).all p && p (l.getD i 0)):=by
 rw [List.take_succ_eq_append_getElem hi,List.all_append]
 simp [List.getD,hi]
theorem all_no {l:List UInt8} {i:Nat} (hi:i<l.length) (p:UInt8→Bool) (h:p (l.getD i 0)=false):l.all p=false:=by
 rw [List.all_eq_false]
 refine ⟨l[i],List.getElem_mem hi,?_⟩
 have:l.getD i 0=l[i]:=by simp [List.getD,hi]
 rw [← this,h];exact Bool.noConfusion
theorem lab_eq (l:List UInt8):labM l=(decide (l≠[]) && decide (l.length≤24) && !Lib.hasPrefix l [45] && !Lib.hasSuffix l [45] && l.all lch):=by
 unfold labM
 rw [pre_hyp,suf_hyp]
 by_cases h:l=[]
 ·simp [h]
 ·simp [h]
theorem labM_iff {l:List UInt8}:labM l=true↔1≤l.length∧l.length≤24∧(l.getD 0 0).toNat≠45∧(l.getD (l.length-1) 0).toNat≠45∧l.all lch=true:=by
 have e:∀ c:UInt8,c≠45↔c.toNat≠45:=fun c=>not_congr (by rw [← UInt8.toNat_inj];rfl)
 simp only [labM,Bool.and_eq_true,decide_eq_true_eq,e,and_assoc]
 have:l≠[]↔1≤l.length:=List.length_pos_iff.symm
 rw [this]
theorem label_ac {gs:List Nat} (l:List UInt8):ACp gs Tryz.prog 64 [strC l] (.c (.bool (labM l))):=by
 refine jF5 160000167516 37 Tryz.func64 fun al w0 F0 St0=>?_;refine jF4 80003000700051690005100000000441100000000441100000000444 15002400001 6 (fun g33=>?_) fun g33=>?_
 ·refine cB ?_
  rw [lab_eq]
  (simp_all;done)
 refine jF4 8000300070005169000510000000044110000000044 1 11 (fun g33_2=>?_) fun g33_2=>?_
 ·refine cB ?_
  rw [lab_eq]
  (simp_all;omega)
 refine jF1 1500 (hasPre_ac l [45]) ?_;refine jF4 8000300070005169000510000000044 1 15 (fun g33_3=>?_) fun g33_3=>?_
 ·refine cB ?_
  rw [lab_eq]
  (simp_all;done)
 refine jF1 5500 (hasSuf_ac l [45] (by omega)) ?_;refine jF3 800030007000516 205140000167810 (fun h33=>?_) fun h33=>?_
 ·refine cB ?_
  rw [lab_eq]
  (simp_all;done)
 refine jlp (α:=Nat) [2,3,21,36] (fun i=>[(21,.c (.int .i64 (i:Nat)))]) (fun _=>[]) (fun i=>i≤l.length∧(l.take i).all lch=true) (fun i=>l.length-i) 0 (h0:=⟨Nat.zero_le _,by simp⟩) (hr:=?_)
 rintro i ⟨hi,he⟩
 refine jU 7526 ?_;refine jF3 75116207810 8000700051684000200020006000 (fun h36=>?_) fun h36=>?_
 rotate_left
 ·refine cB ?_
  have e:l.take i=l:=List.take_of_length_le (by omega)
  rw [e] at he
  rw [lab_eq,he]
  simp_all
  try omega
 refine jcd (oT [0,2,4,6,8,10,12,14,16,19,20,22] .done) ?_;refine jU 7070 ?_;refine jyq jrix ?_;refine jyq (jrix (i:=0)) ?_;refine jU 70800 ?_;refine jysp 29 (fun g37=>?_) fun g37=>?_
 rotate_left
 ·refine jU 600600600 ?_;refine jys1 ?_;refine jU 8519200840010300880300000600 ?_
  refine jlend (i+1) (h1:=?_)
  ·refine ⟨by omega,?_⟩
   rw [take_all (by omega),he,Bool.true_and,← lch_let]
   simp_all
   try omega
 refine jU 7070 ?_;refine jyq jrix ?_
 refine jye (jecP (idxB_ac letL (l.getD i 0)) ?_)
 refine jU 8803000000800 ?_;refine jF3 8000300050003000300050007000516 8519200840010 (fun h37=>?_) fun h37=>?_
 ·refine cB ?_
  rw [lab_eq,all_no (p:=lch) (show i<l.length by omega) (by rw [← lch_let];simp_all;try omega),Bool.and_false]
 refine jlend (i+1) (h1:=?_)
 ·refine ⟨by omega,?_⟩
  rw [take_all (by omega),he,Bool.true_and,← lch_let]
  simp_all
  try omega
theorem rlabel_ac {gs:List Nat} (l:List UInt8):ACp gs Tryz.prog 66 [strC l] (.c (.bool (labM l))):=by
 refine jF5 1240000167516 53 Tryz.func66 fun al w0 F0 St0=>?_;refine jF4 8000300070005169000510000000044444411000000004441100000000444 15002400001 8 (fun g41=>?_) fun g41=>?_
 ·refine cB ?_
  refine (Bool.eq_false_iff.2 fun h=>?_).symm
  obtain ⟨k1,k2,k3,k4,_⟩:=labM_iff.1 h
  omega
 refine jF4 800030007000516900051000000004444441100000000444 1 13 (fun g41_2=>?_) fun g41_2=>?_
 ·refine cB ?_
  refine (Bool.eq_false_iff.2 fun h=>?_).symm
  obtain ⟨k1,k2,k3,k4,_⟩:=labM_iff.1 h
  omega
 refine jq (jrix (i:=0)) ?_;refine jU 15002 ?_;refine jF4 80003000700051690005100000000444444 94000011 18 (fun g41_3=>?_) fun g41_3=>?_
 ·refine cB ?_
  refine (Bool.eq_false_iff.2 fun h=>?_).symm
  obtain ⟨k1,k2,k3,k4,_⟩:=labM_iff.1 h
  omega
 refine jq (jrix (i:=(l.length-1)) (hz:=by omega)) ?_;refine jU 55002 ?_;refine jF3 800030007000516 205167810 (fun h41=>?_) fun h41=>?_
 ·refine cB ?_
  refine (Bool.eq_false_iff.2 fun h=>?_).symm
  obtain ⟨k1,k2,k3,k4,_⟩:=labM_iff.1 h
  omega
 refine jlp (α:=Nat) [2,4,26,52] (fun i=>[(3,.c (.int .i64 (i:Nat)))]) (fun _=>[]) (fun i=>i≤l.length∧(l.take i).all lch=true) (fun i=>l.length-i) 0 (h0:=⟨Nat.zero_le _,by simp⟩) (hr:=?_)
 rintro i ⟨hi,he⟩
 refine jU 52400001167 ?_;refine jF3 5180000000116207810 8000700051684000200020006000 (fun h44=>?_) fun h44=>?_
 rotate_left
 ·refine cB ?_
  have e:l.take i=l:=List.take_of_length_le (by omega)
  rw [e] at he
  exact (labM_iff.2 ⟨by omega,by omega,by omega,by omega,he⟩).symm
 obtain ⟨x,hx⟩:∃ x,x=(l.getD i 0).toNat:=⟨_,rfl⟩
 refine jE (weaken 4 (.c (.int .u8 (x:Nat))) (cI (by rw [hx]))) ?_;refine jU 1216 ?_;refine jF4 121110000000044 150021 37 (fun g46=>?_) fun g46=>?_
 ·refine jF4 510000000021110000000010000000044 110000000050021 44 (fun g46_2=>?_) fun g46_2=>?_
  ·refine jF3 8000300050003000300050007000516 85191200840010 (fun h46=>?_) fun h46=>?_
   ·refine cB ?_
    unfold labM
    rw [all_no (p:=lch) (show i<l.length by omega) (by unfold lch;rw [← hx];simp;omega),Bool.and_false]
   refine jlend (i+1) (h1:=?_)
   ·refine ⟨by omega,?_⟩
    rw [take_all (by omega),he,Bool.true_and]
    unfold lch
    rw [← hx]
    simp
    omega
  refine jF4 510000000021 85191200840010300550044 49 (fun g46_3=>?_) fun g46_3=>?_
  rotate_left
  ·refine jlend (i+1) (h1:=?_)
   ·refine ⟨by omega,?_⟩
    rw [take_all (by omega),he,Bool.true_and]
    unfold lch
    rw [← hx]
    simp
    omega
  refine jF3 8000300050003000300050007000516 85191200840010 (fun h46=>?_) fun h46=>?_
  ·refine cB ?_
   unfold labM
   rw [all_no (p:=lch) (show i<l.length by omega) (by unfold lch;rw [← hx];simp;omega),Bool.and_false]
  refine jlend (i+1) (h1:=?_)
  ·refine ⟨by omega,?_⟩
   rw [take_all (by omega),he,Bool.true_and]
   unfold lch
   rw [← hx]
   simp
   omega
 refine jF4 121 851912008400103005500441500444444 41 (fun g46_2=>?_) fun g46_2=>?_
 rotate_left
 ·refine jlend (i+1) (h1:=?_)
  ·refine ⟨by omega,?_⟩
   rw [take_all (by omega),he,Bool.true_and]
   unfold lch
   rw [← hx]
   simp
   omega
 refine jF4 510000000021110000000010000000044 110000000050021 44 (fun g46_3=>?_) fun g46_3=>?_
 ·refine jF3 8000300050003000300050007000516 85191200840010 (fun h46=>?_) fun h46=>?_
  ·refine cB ?_
   unfold labM
   rw [all_no (p:=lch) (show i<l.length by omega) (by unfold lch;rw [← hx];simp;omega),Bool.and_false]
  refine jlend (i+1) (h1:=?_)
  ·refine ⟨by omega,?_⟩
   rw [take_all (by omega),he,Bool.true_and]
   unfold lch
   rw [← hx]
   simp
   omega
 refine jF4 510000000021 85191200840010300550044 49 (fun g46_4=>?_) fun g46_4=>?_
 rotate_left
 ·refine jlend (i+1) (h1:=?_)
  ·refine ⟨by omega,?_⟩
   rw [take_all (by omega),he,Bool.true_and]
   unfold lch
   rw [← hx]
   simp
   omega
 refine jF3 8000300050003000300050007000516 85191200840010 (fun h46=>?_) fun h46=>?_
 ·refine cB ?_
  unfold labM
  rw [all_no (p:=lch) (show i<l.length by omega) (by unfold lch;rw [← hx];simp;omega),Bool.and_false]
 refine jlend (i+1) (h1:=?_)
 ·refine ⟨by omega,?_⟩
  rw [take_all (by omega),he,Bool.true_and]
  unfold lch
  rw [← hx]
  simp
  omega
end
section
variable {gs:List Nat} [Ok9 gs]

theorem asked_ac [OkT gs] (l:List UInt8) (most:Int) (hl:l.length≤1000000000):ACp gs Tryz.prog 118 [strC l,.c (.int .i64 most)] (.err (askedM l most)):=by
 refine jF5 516000016207516 20 Tryz.func118 fun al w0 F0 St0=>?_;refine jF3 0 51214000016 (fun h47=>?_) fun h47=>?_
 ·refine jcr ?_;refine jq (jrde 1) ?_;refine jU 51 ?_
  refine jR (jbr (jtr (jrt (hv:=CEnt.errN (by unfold askedM;rw [if_pos (by simpa using h47)])))))
 refine jF3 0 16 (fun h49=>?_) fun h49=>?_
 ·refine jcr ?_;refine jq (jrde 2) ?_;refine jU 51 ?_
  refine jR (jbr (jtr (jrt (hv:=CEnt.errN (by unfold askedM;rw [if_neg (by simpa using h47),if_pos h49])))))
 refine jF1 5130 (plain07_ac l hl) ?_;refine jF3 0 516840010 (fun h51=>?_) fun h51=>?_
 ·refine jcr ?_;refine jq (jrde 7) ?_;refine jU 51 ?_
  refine jR (jbr (jtr (jrt (hv:=CEnt.errN (by unfold askedM;rw [if_neg (by simpa using h47),if_neg h49,if_pos (by simpa using h51)])))))
 refine jR (jrt (hv:=CEnt.nilE (by unfold askedM;rw [if_neg (by simpa using h47),if_neg h49,if_neg (by simpa using h51)])))
theorem asked_bd (l:List UInt8) (most:Int):askedM l most≤8:=by
 unfold askedM
 repeat' split
 all_goals omega
theorem xput_ac [OkT gs] (l:List UInt8) (most:Int) (hl:l.length≤1000000000):ACp gs Tryz.prog 98 [strC l,.c (.int .i64 most)] (.tup 2 (fl [bsC (if askedM l most=0 then l else []),.err (askedM l most)])):=by
 refine jF5 11675116 15 Tryz.func98 fun al w0 F0 St0=>?_;refine jF1 55000001651 (asked_ac l most hl) ?_;refine jF3 51116 16810 (fun h59=>?_) fun h59=>?_
 ·refine jR (jtr (jrt (hv:=cT (CEnt.nilS' (by rw [if_neg h59];rfl)) cZ)))
 refine jqe (jecv ?_)
 refine jU 80007000511 ?_
 have h:askedM l most=0:=by omega
 exact cT (CEnt.bs (by rw [if_pos h])) (CEnt.nilE h)
theorem xget_ac [OkT gs] (l:List UInt8) (most:Int) (hl:l.length≤1000000000):ACp gs Tryz.prog 85 [bsC l,.c (.int .i64 most)] (.tup 2 (fl [strC (if askedM l most=0 then l else []),.err (askedM l most)])):=by
 refine jF5 165116 17 Tryz.func85 fun al w0 F0 St0=>?_
 first|refine jq jrbs ?_|refine jqo jrbo ?_|refine jq jrbn ?_
 refine jU 116751 ?_;refine jF1 55000001651 (asked_ac l most hl) ?_;refine jF3 51116 8000700051116810 (fun h68=>?_) fun h68=>?_
 ·refine jR (jtr (jrt (hv:=cT (CEnt.strL (by rw [if_neg h68])) cZ)))
 have h:askedM l most=0:=by omega
 exact cT (CEnt.strL (by rw [if_pos h])) (CEnt.nilE h)
theorem rasked_ac {gs:List Nat} (l:List UInt8) (most:Int) (hl:l.length≤1000000000):ACp gs Tryz.prog 126 [strC l,.c (.int .i64 most)] (.c (.int .i64 (askedM l most:Nat))):=by
 refine jF5 5240000167516 15 Tryz.func126 fun al w0 F0 St0=>?_;refine jF3 516 52140000167810 (fun h55=>?_) fun h55=>?_
 ·refine jR (jtr (jrt (hv:=cI (by unfold askedM;rw [if_pos (by omega)];rfl))))
 refine jF3 516 167810 (fun h58=>?_) fun h58=>?_
 ·refine jR (jtr (jrt (hv:=cI (by unfold askedM;rw [if_neg (by omega),if_pos h58];rfl))))
 refine jF1 530 (rplain_ac l hl) ?_;refine jF3 516 516810 (fun h61=>?_) fun h61=>?_
 ·refine jR (jtr (jrt (hv:=cI (by unfold askedM;rw [if_neg (by omega),if_neg h58,if_pos (by simpa using h61)];rfl))))
 refine jR (jrt (hv:=cI (by unfold askedM;rw [if_neg (by omega),if_neg h58,if_neg (by simpa using h61)];rfl)))
end
section
variable {gs:List Nat} [Ok9 gs]
open Go.RowKit Cal

theorem doneW_ac (n:Nat) (s:W8) (hs:OkW s):AC gs Tryz.prog 63 [wrO n s] [.op 0 (some n) 0] (fun r H'=>r=.tup 2 (fl [bsC (doneB s),.err (doneK s)])∧H'=[wrO n s]):=by
 have hsd:=hs.d
 have bad:∀ {e},doneK s=e→e≠0→doneB s=[]:=fun h h0=>by unfold doneB;rw [h,if_neg h0]
 refine jF5 2075116 35 Tryz.func63 fun al w0 F0 St0=>?_;refine code_openW 0 rfl fun go gd zs hzs=>?_;refine jU 515000005010004016 ?_;refine jF3 0 512350904016 (fun h140=>?_) fun h140=>?_
 ·refine jcs ?_;refine jcd (oN 0 6) ?_;refine jU 5000070 ?_;refine jyq (jrfa 2 1 false) ?_;refine jU 300050007000880707010000 ?_
  have e:doneK s=s.k:=by unfold doneK;rw [if_pos (by omega)]
  exact end_packV (gd:=fun z:WZ8 s.fr=>z.1.1) (E:=wrE s) (.inl rfl) ⟨(n,go,gd,zs),hzs⟩ [0,1,2,3] (by decide) rfl (res_2 rfl javt javt) (cT (by rw [bad e (by omega)];exact cN) (CEnt.err e.symm))
 refine jF3 0 5123501004016 (fun h142=>?_) fun h142=>?_
 ·refine jcs ?_;refine jcd (oN 0 3) ?_;refine jyq (jrde 23) ?_;refine jU 3000500070008807070 ?_
  have e:doneK s=24:=by unfold doneK;rw [if_neg (by omega),if_pos (by intro h;rw [h] at h142;simp at h142)]
  exact end_packV (gd:=fun z:WZ8 s.fr=>z.1.1) (E:=wrE s) (.inl rfl) ⟨(n,go,gd,zs),hzs⟩ [0,1,2,3] (by decide) rfl (res_2 rfl javt javt) (cT (by rw [bad e (by omega)];exact cN) (CEnt.err e.symm))
 refine jF3 0 501004016840010 (fun h144=>?_) fun h144=>?_
 ·refine jcs ?_;refine jcd (oN 0 3) ?_;refine jyq (jrde 2) ?_;refine jU 3000500070008807070 ?_
  have hf0:s.fr=[]:=List.eq_nil_of_length_eq_zero (by omega)
  have e:doneK s=3:=by unfold doneK;rw [if_neg (by omega),if_neg (by simp [hf0]),if_pos (by omega)]
  exact end_packV (gd:=fun z:WZ8 s.fr=>z.1.1) (E:=wrE s) (.inl rfl) ⟨(n,go,gd,zs),hzs⟩ [0,1,2,3] (by decide) rfl (res_2 rfl javt javt) (cT (by rw [bad e (by omega)];exact cN) (CEnt.err e.symm))
 refine jF2 7000511 2 (cloneO_ac s.d gd (by omega)) ?_
 have hf0:s.fr=[]:=List.eq_nil_of_length_eq_zero (by omega)
 have e:doneK s=0:=by unfold doneK;rw [if_neg (by omega),if_neg (by simp [hf0]),if_neg (by omega)]
 exact end_packV (gd:=fun z:WZ8 s.fr=>z.1.1) (E:=wrE s) (.inl rfl) ⟨(n,go,gd,zs),hzs⟩ [0,1,2,3] (by decide) rfl (res_2 rfl javt javt) (cT (CEnt.bs (by unfold doneB;rw [if_pos e])) (CEnt.nilE e))
theorem intW_ac (n:Nat) (s:W8) (z:Int) (hz:-9223372036854775808≤z∧z≤9223372036854775807) (hs:OkW s):AC gs Tryz.prog 58 [wrO n s] [.op 0 (some n) 0,.c (.int .i64 z)] (fun r H'=>r=.c (.tuple #[])∧H'=[wrO n (putW 2 (putN z) 0 s)]):=by
 have hl:=(putN_len z hz.1 hz.2).2
 refine jF5 11200 8 Tryz.func58 fun al w0 F0 St0=>?_
 refine jqe (jecP (wput_ac z hz.1 hz.2) ?_)
 refine jF2 5 0 (putW_ac n s 2 (putN z) 0 hs (by omega)) ?_
 exact jnh
theorem octetsW_ac (n:Nat) (s:W8) (b:List UInt8) (hb:b.length≤1000000) (hs:OkW s):AC gs Tryz.prog 101 [wrO n s] [.op 0 (some n) 0,bsC b] (fun r H'=>r=.c (.tuple #[])∧H'=[wrO n (putW 4 b 0 s)]):=by
 refine jF5 11200 7 Tryz.func101 fun al w0 F0 St0=>?_;refine jF2 5 0 (putW_ac n s 4 b 0 hs hb) ?_
 exact jnh
theorem textW_ac [OkT gs] (n:Nat) (s:W8) (t:List UInt8) (most:Int) (ht:t.length≤1000000) (hs:OkW s):AC gs Tryz.prog 59 [wrO n s] [.op 0 (some n) 0,strC t,.c (.int .i64 most)] (fun r H'=>r=.c (.tuple #[])∧H'=[wrO n (putW 12 (if askedM t most=0 then t else []) (askedM t most) s)]):=by
 have hl:(if askedM t most=0 then t else []).length≤1000000:=by split <;> first|omega|simp
 refine jF5 116 18 Tryz.func59 fun al w0 F0 St0=>?_;refine jF1 1112005119009001 (xput_ac t most (by omega)) ?_;refine jF2 5 0 (putW_ac n s 12 (if askedM t most=0 then t else []) (askedM t most) hs hl) ?_
 exact jnh
theorem momentW_ac (n:Nat) (s:W8) (z:Int) (hs:OkW s):AC gs Tryz.prog 102 [wrO n s] [.op 0 (some n) 0,.c (.int .i64 z)] (fun r H'=>r=.c (.tuple #[])∧H'=[wrO n (putW 24 (if inT z then bodyL (ofM z) else []) (ofE z) s)]):=by
 have hbl:(if inT z then bodyL (ofM z) else []).length≤1000000:=by
  split
  ·exact Nat.le_trans (Nat.le_of_eq (show (bodyL (ofM z)).length=15 from rfl)) (by decide)
  ·simp
 refine jF5 16 15 Tryz.func102 fun al w0 F0 St0=>?_;refine jF1 1112005119009001 (put_ac z) ?_;refine jF2 5 0 (putW_ac n s 24 (if inT z then bodyL (ofM z) else []) (ofE z) hs hbl) ?_
 exact jnh
end
section
variable {gs:List Nat} [Ok9 gs]
open Go.RowKit Cal

def w0W:W8:=⟨[],[],0⟩
theorem take_set_out {α:Type} (l:List α) (n i:Nat) (x:α) (h:n≤i):(l.set i x).take n=l.take n:=by
 rw [List.take_set,List.set_eq_of_length_le]
 rw [List.length_take];omega
theorem newW {G:Gh} {env:List (Nat×CV)} {b0:Nat→CV} {H:List (Option Nat×Res)} (n i:Nat) {f:Nat→CV} (hi:H[i]?=some (some n,.blk 3 f)) (h0:CEnt (f 0) (.c (.slice none 0 0))) (h1:CEnt (f 1) (.c (.slice none 0 0))) (h2:CEnt (f 2) (.err 0)):EntS G ⟨env,b0,H⟩ ⟨env,b0,H.set i (wrO n w0W)⟩:=by
 have hil:=(List.getElem?_eq_some_iff.1 hi).1
 have os0:∀ {j k:Nat},CEnt (.c (.slice none 0 0)) (.os j none 0 0 k):=fun al St w v h=>⟨rfl,h⟩
 intro St a w hr
 obtain ⟨S1,s1,r1⟩:=ent_none (G:=G) (s:=⟨env,b0,H⟩) (rowF 2 frF frD []) St a w hr
 obtain ⟨S2,s2,r2⟩:=ent_none (G:=G) (s:=⟨env,b0,H++[(none,.blk 0 (rowF 2 frF frD []))]⟩) (byF []) S1 a w r1
 obtain ⟨S3,s3,r3⟩:=bag_new (G:=G) (env:=env) (b0:=b0) (H:=H++[(none,.blk 0 (rowF 2 frF frD []))]++[(none,.blk 0 (byF []))]) S2 a w r2
 obtain ⟨S4,s4,r4⟩:=closeW (G:=G) (env:=env) (b0:=b0) (H:=H++[(none,.blk 0 (rowF 2 frF frD []))]++[(none,.blk 0 (byF []))]++[bagE []]) n w0W [] i H.length (H.length+1) (H.length+2) rfl (go:=none) (gd:=none) (No:=0) (Nd:=0) (f:=f) (Fo:=rowF 2 frF frD []) (Fd:=byF [])
  (by rw [List.append_assoc,List.append_assoc,List.getElem?_append_left hil];exact hi) (by simp) (by simp []) (by simp []) (by simp;omega) (h0.trans os0) (h1.trans os0) h2 (Nat.le_refl _) (fun a h=>absurd h (Nat.not_lt_zero a)) (Nat.le_refl _) (fun a h=>absurd h (Nat.not_lt_zero a)) S3 a w r3
 obtain ⟨S5,s5,r5⟩:=pick_ent (G:=G) (H':=H.set i (wrO n w0W)) (List.range H.length) (range_nodup _) (by
  rw [pickL_range _ _ (by simp)]
  simp only [List.append_assoc]
  rw [take_set_out _ _ _ _ (by omega),take_set_out _ _ _ _ (by omega),take_set_out _ _ _ _ (by omega),List.take_set,List.take_left]) S4 a w r4
 exact ⟨S5,fun b hb=>s5 b (s4 b (s3 b (s2 b (s1 b hb)))),r5⟩
theorem ok0:OkW w0W:=⟨by decide,fun _ h=>(by cases h),by decide⟩
def w1W:W8:=⟨[(48,[])],[],0⟩
def w2W:W8:=⟨[(48,[[2,1,5]])],[],0⟩
def w3W:W8:=⟨[],[48,3,2,1,5],0⟩
def valC (v:VV):CV:=.agg 5 (fl [.c (.int .i64 v.kind),.c (.int .i64 v.n),.c (.bool v.is),bsC v.b,strC v.t])
structure OkV (v:VV):Prop where
 n:-9223372036854775808≤v.n∧v.n≤9223372036854775807
 b:v.b.length≤1000000
 t:v.t.length≤1000000
end
section
variable {gs:List Nat} [Ok9 gs]
open Go.RowKit Cal

theorem rput08_ac {gs:List Nat} (n:Nat) (s:R8) (tag:Int) (b:List UInt8) (hs:OkR s) (ht:0≤tag∧tag<256) (hb:b.length≤1000000):AC gs Tryz.prog 109 [rwO n s] [.op 0 (some n) 0,.c (.int .i64 tag),bsC b] (fun r H'=>r=.c (.tuple #[])∧H'=[rwO n (rputS tag b s)]):=by
 refine jF5 523167 17 Tryz.func109 fun al w0 F0 St0=>?_;refine jF3 0 111200810 (fun h64=>?_) fun h64=>?_
 rotate_left
 ·refine jqe (jecP (rput_ac tag b ht (by omega)) ?_)
  refine jF2 5 0 (radd08_ac n s (putL tag b) hs) ?_
  have hP:rputS tag b s=raddS (putL tag b) s:=by unfold rputS;rw [if_neg (by omega)]
  rw [hP]
  exact end_own (.inr rfl) _ [_] [0] (by decide) rfl (res_0 rfl) ⟨rfl,rfl⟩
 refine code_openRW 0 rfl fun gr=>?_;refine jU 10004016 ?_
 refine jqm (jmstF 1 (rwB ⟨s.tags,s.rows,3⟩ 1 gr) ?_ ?_)
 ·exact jal
 refine jU 300070005 ?_
 have hP:rputS tag b s=⟨s.tags,s.rows,3⟩:=by unfold rputS;rw [if_pos (by omega)]
 rw [hP]
 exact end_closeRW (.inl rfl) n ⟨s.tags,s.rows,3⟩ 1 (res_0 rfl) cZ rfl rfl rfl (by exact cZ) (by exact cO rfl) (by exact cZ) (Nat.le_refl _) (fun _ _=>by exact cZ)
def BodyQ (v:VV):CV→List (Option Nat×Res)→Prop:=fun r H'=>(∃ b,r=.tup 3 (fl [.c (.int .i64 (bodyV v).1),bsC b,.c (.int .i64 ((bodyV v).2.2:Nat))])∧((bodyV v).2.2=0→b=(bodyV v).2.1))∧H'=[]
theorem bodyQ {v:VV} {t:Int} {b b':List UInt8} {e:Nat} (h:bodyV v=(t,b,e)) (hb:e=0→b'=b):BodyQ v (.tup 3 (fl [.c (.int .i64 t),bsC b',.c (.int .i64 (e:Nat))])) []:=by
 refine ⟨⟨b',by rw [h],fun h0=>by rw [h] at h0 ⊢;exact hb h0⟩,rfl⟩
end
section
variable {gs:List Nat} [Ok9 gs]
open Go.RowKit Cal

structure OkRD (s:R8):Prop where
 ok:OkR s
 sum:∀ j,sumL (s.rows.getD j [])≤1000000
 tag:∀ x ∈ s.tags,0≤x∧x<256
 lt:s.tags.length≠0→s.tags.length<s.rows.length
theorem rdone08_ac {gs:List Nat} (n:Nat) (s:R8) (hs:OkRD s):AC gs Tryz.prog 70 [rwO n s] [.op 0 (some n) 0] (fun r H'=>r=.tup 2 (fl [bsC (rdoneB s),.c (.int .i64 (rdoneE s:Nat))])∧H'=[rwO n s]):=by
 have hk0:=okR_at hs.ok 0
 have hs0:=hs.sum 0
 have bad:∀ {e},rdoneE s=e→e≠0→rdoneB s=[]:=fun h h0=>by unfold rdoneB;rw [h,if_neg h0]
 refine jF5 75116 48 Tryz.func70 fun al w0 F0 St0=>?_;refine code_openRW 0 rfl fun gr=>?_;refine jU 525010004016 ?_;refine jF3 0 523509040167810 (fun h133=>?_) fun h133=>?_
 ·refine jcs ?_;refine jcd (oN 0 6) ?_;refine jU 5000070 ?_;refine jyq (jrfa 2 1 false) ?_;refine jU 30007000880707010000 ?_
  have e:rdoneE s=s.e:=by unfold rdoneE;rw [if_pos (by omega)]
  exact end_closeRW (.inl rfl) n s 1 (res_2 rfl javt javt) (cT (by rw [bad e (by omega)];exact cN) (cI (by rw [e]))) rfl rfl rfl (by exact cZ) (by exact cO rfl) (by exact cZ) (Nat.le_refl _) (fun _ _=>by exact cZ)
 refine jF3 300070005116 6810 (fun h136=>?_) fun h136=>?_
 ·have e:rdoneE s=24:=by unfold rdoneE;rw [if_neg (by omega),if_pos (by omega)]
  exact end_closeRW (.inl rfl) n s 1 (res_2 rfl javt javt) (cT (by rw [bad e (by omega)];exact cN) (cI (by rw [e];rfl))) rfl rfl rfl (by exact cZ) (by exact cO rfl) (by exact cZ) (Nat.le_refl _) (fun _ _=>by exact cZ)
 refine jF6 523501004016751 0 1 zr5 fun p1=>?_;refine jF3 20513502000000501004016 7810 (fun h140=>?_) fun h140=>?_
 rotate_left
 ·first
   |(have hiE:i=(s.rows.getD 0 []).length:=by omega
     subst hiE
     dsimp only
     rw [List.take_length] at *
     have hfl:=flat_len (s.rows.getD 0 []))
   |(have h00:s.rows.getD 0 []=[]:=by rw [List.getD_eq_getElem?_getD,List.getElem?_eq_none (by omega)];rfl
     have hfl:((s.rows.getD 0 []).flatten).length=0:=by rw [h00];rfl)
  refine jU 52316 ?_;refine jF3 300070005116 51116810 (fun h145=>?_) fun h145=>?_
  ·first
    |(exfalso;simp at h145;done)
    |(have e:rdoneE s=3:=by unfold rdoneE;rw [if_neg (by omega),if_neg (by omega),if_pos (by omega)]
      exact end_closeRW (.inl rfl) n s 1 (res_2 rfl javt javt) (cT (by rw [bad e (by omega)];exact cN) (cI (by rw [e];rfl))) rfl rfl rfl (by exact cZ) (by exact cO rfl) (by exact cZ) (Nat.le_refl _) (fun _ _=>by exact cZ))
  refine jE (freeze 2 rfl) ?_
  first
   | refine jE (thawB 2 ((s.rows.getD 0 []).flatten) rfl rfl rfl rfl) ?_
   | refine jE (thawBL 2 [] rfl rfl rfl rfl .nil) ?_
  refine jU 7000 ?_
  have e:rdoneE s=0:=by unfold rdoneE;rw [if_neg (by omega),if_neg (by omega),if_neg (by omega)]
  exact end_closeRW (.inl rfl) n s 1 (res_2 rfl javt javt) (cT (CEnt.bs (by unfold rdoneB;rw [if_pos e];(rw [h00];rfl))) (cI (by rw [e];rfl))) rfl rfl rfl (by exact cZ) (by exact cO rfl) (by exact cZ) (Nat.le_refl _) (fun _ _=>by exact cZ)
 refine jlp (α:=Nat×Option Nat) [4,4,6,6,36,43] (fun (i,g)=>[(4,.os 2 g 0 (((s.rows.getD 0 []).take i).flatten).length 1),(36,.c (.int .i64 (i:Nat)))]) (fun (i,g)=>[(some n,.blk 3 (rwB s 1 gr)),(gr,.blk s.rows.length (rowsF s.rows)),(g,.blk (((s.rows.getD 0 []).take i).flatten).length (byF ((s.rows.getD 0 []).take i).flatten))]) (fun i=>i.1≤(s.rows.getD 0 []).length) (fun i=>(s.rows.getD 0 []).length-i.1) (0,p1) (hH:=.same (.same (.blk rfl (fun j hj=>absurd hj (Nat.not_lt_zero j)) .nil))) (hr:=?_)
 rintro ⟨i,g⟩ (hi:i≤(s.rows.getD 0 []).length)
 refine jU 7526 ?_;refine jF3 51607006207810 784000200020006000 (fun h141=>?_) fun h141=>?_
 ·have hf1:=sumL_take (ls:=s.rows.getD 0 []) (i:=i) (by omega)
  have hf2:=sumL_le (s.rows.getD 0 []) (i+1)
  have hf3:=flat_len ((s.rows.getD 0 []).take i)
  refine jU 11200 ?_
  refine jqm (jab fun p2=>?_)
  refine jU 8519200840051 ?_
  refine jlend (i+1,p2) (h5:=?_) (h7:=?_)
  ·simp only [flat_take (show i<(s.rows.getD 0 []).length by omega)]
   exact .cons (cO rfl) (.cons (cI (by omega)) .nil)
  ·simp only [flat_take (show i<(s.rows.getD 0 []).length by omega)]
   exact .same (.same (.same .nil))
 first
  |(have hiE:i=(s.rows.getD 0 []).length:=by omega
    subst hiE
    dsimp only
    rw [List.take_length] at *
    have hfl:=flat_len (s.rows.getD 0 []))
  |(have h00:s.rows.getD 0 []=[]:=by rw [List.getD_eq_getElem?_getD,List.getElem?_eq_none (by omega)];rfl
    have hfl:((s.rows.getD 0 []).flatten).length=0:=by rw [h00];rfl)
 refine jU 52316 ?_;refine jF3 300070005116 51116810 (fun h145=>?_) fun h145=>?_
 ·first
   |(exfalso;simp at h145;done)
   |(have e:rdoneE s=3:=by unfold rdoneE;rw [if_neg (by omega),if_neg (by omega),if_pos (by omega)]
     exact end_closeRW (.inl rfl) n s 1 (res_2 rfl javt javt) (cT (by rw [bad e (by omega)];exact cN) (cI (by rw [e];rfl))) rfl rfl rfl (by exact cZ) (by exact cO rfl) (by exact cZ) (Nat.le_refl _) (fun _ _=>by exact cZ))
 refine jE (freeze 2 rfl) ?_
 first
  | refine jE (thawB 2 ((s.rows.getD 0 []).flatten) rfl rfl rfl rfl) ?_
  | refine jE (thawBL 2 [] rfl rfl rfl rfl .nil) ?_
 refine jU 7000 ?_
 have e:rdoneE s=0:=by unfold rdoneE;rw [if_neg (by omega),if_neg (by omega),if_neg (by omega)]
 exact end_closeRW (.inl rfl) n s 1 (res_2 rfl javt javt) (cT (CEnt.bs (by unfold rdoneB;rw [if_pos e];done)) (cI (by rw [e];rfl))) rfl rfl rfl (by exact cZ) (by exact cO rfl) (by exact cZ) (Nat.le_refl _) (fun _ _=>by exact cZ)
end
section
variable {gs:List Nat} [Ok9 gs]
open Go.RowKit Cal

theorem okRD_tail {s:R8} (h:OkRD s):OkR ⟨s.tags.take (s.tags.length-1),s.rows,s.e⟩:=⟨by have:=h.ok.n;simp only [List.length_take];omega,h.ok.r,h.ok.k⟩
theorem bodyF_if (t:Int) (l:List (List UInt8)):bodyF (t,l)=if t=49 then (sortL l).flatten else l.flatten:=rfl
theorem in_take {l:List Int} {i:Nat} (h:i<l.length-1):inF l i=inF (l.take (l.length-1)) i:=by
 simp only [inF,List.getD_eq_getElem?_getD,List.getElem?_take,h,if_true]
def lsF (t:Int) (l:List (List UInt8)):List (List UInt8):=if t=49 then sortL l else l
theorem lsF_body (t:Int) (l:List (List UInt8)):bodyF (t,l)=(lsF t l).flatten:=by unfold lsF;rw [bodyF_if];split <;> rfl
theorem lsF_len (t:Int) (l:List (List UInt8)):(lsF t l).length=l.length∧sumL (lsF t l)=sumL l:=by
 unfold lsF
 split
 ·exact ⟨sortL_length l,sum_perm (sortL_perm l)⟩
 ·exact ⟨rfl,rfl⟩
theorem body_tag (v:VV):0≤(bodyV v).1∧(bodyV v).1<256:=by
 unfold bodyV
 repeat' split
 all_goals (constructor <;> dsimp only <;> omega)
theorem bodyV_len {v:VV} (h:OkV v):(bodyV v).2.1.length≤1000000:=by
 have h1:=h.b
 have h2:=h.t
 have h3:=(putN_len v.n h.n.1 h.n.2).2
 have h4:=put_len v.t
 unfold bodyV
 split
 ·show (putN v.n).length≤_;omega
 ·split
  ·show (putN v.n).length≤_;omega
  ·split
   ·show [if v.is then (255:UInt8) else 0].length≤_;simp
   ·split
    ·exact h1
    ·split
     ·show (if askedM v.t v.n=0 then v.t else []).length≤_;split <;> first|omega|simp
     ·split
      ·show (putM v.t).length≤_;omega
      ·split
       ·show (if inT v.n then bodyL (ofM v.n) else []).length≤_
        split
        ·exact Nat.le_trans (Nat.le_of_eq (show (bodyL (ofM v.n)).length=15 from rfl)) (by decide)
        ·simp
       ·show (bitsL v.n).length≤_
        unfold bitsL
        split
        ·simp
        ·rw [flags_len (by omega)]
         have:=(bl_is (m:=v.n.toNat) (by omega)).2
         omega
set_option maxHeartbeats 4000000 in
theorem rdoWB_ac {gs:List Nat} (n:Nat) (s:R8) (v:VV) (hs:OkRD s) (hv:OkV v) (hB:v.kind≠1→v.kind≠2→v.kind≠11→AC gs Tryz.prog 111 [] [valC v] (BodyQ v)):AC gs Tryz.prog 68 [rwO n s] [.op 0 (some n) 0,valC v] (fun r H'=>r=.c (.tuple #[])∧H'=[rwO n (rdoS v s)]):=by
 have hsn:=hs.ok.n
 have hsr:=hs.ok.r
 have hvb:=hv.b
 have hkk:=okR_at hs.ok s.tags.length
 have hss:=hs.sum s.tags.length
 refine ac_oF 183 Tryz.func68 fun al w0 F0 St0=>?_;refine jcr ?_
 refine jqe (jebx 5 fun p1=>?_)
 refine jU 75 ?_;refine code_openRW 0 rfl fun gr=>?_;refine jE (freeze 1 rfl) ?_;refine jE (thawP 3 (m:=5) rfl rfl (by decide)) ?_;refine jnm ?_;refine jU 525010004016 ?_;refine jF3 30007000 512620560906810 (fun h81=>?_) fun h81=>?_
 ·rw [show rdoS v s=s by unfold rdoS;rw [if_pos (by omega)]]
  exact end_closeRW (.inl rfl) n s 2 (res_0 rfl) cZ rfl rfl rfl (by exact cZ) (by exact cO rfl) (by exact cZ) (Nat.le_refl _) (fun _ _=>by exact cZ)
 refine jF3 601006 5126 (fun h85=>?_) fun h85=>?_
 ·refine jF1 530 (rmade_ac v.n) ?_;refine jF3 1000401200 52350904016 (fun h86=>?_) fun h86=>?_
  ·refine jqm (jmstF 1 (rwB ⟨s.tags,s.rows,5⟩ 2 gr) ?_ ?_)
   ·exact jal
   refine jU 4005 ?_
   rw [show rdoS v s=⟨s.tags,s.rows,5⟩ by unfold rdoS;rw [if_neg (by omega),if_pos (by omega)];unfold ropenS;rw [if_pos (by simp [madeM] at h86 ⊢;omega)]]
   exact end_closeRW (.inr rfl) n ⟨s.tags,s.rows,5⟩ 2 (res_0 rfl) cZ rfl rfl rfl (by exact cZ) (by exact cO rfl) (by exact cZ) (Nat.le_refl _) (fun _ _=>by exact cZ)
  refine jF3 1000401200 207 (fun h88=>?_) fun h88=>?_
  ·refine jqm (jmstF 1 (rwB ⟨s.tags,s.rows,6⟩ 2 gr) ?_ ?_)
   ·exact jal
   refine jU 4005 ?_
   rw [show rdoS v s=⟨s.tags,s.rows,6⟩ by unfold rdoS;rw [if_neg (by omega),if_pos (by omega)];unfold ropenS;rw [if_neg (by simp [madeM] at h86 ⊢;omega),if_pos (by omega)]]
   exact end_closeRW (.inr rfl) n ⟨s.tags,s.rows,6⟩ 2 (res_0 rfl) cZ rfl rfl rfl (by exact cZ) (by exact cO rfl) (by exact cZ) (Nat.le_refl _) (fun _ _=>by exact cZ)
  refine jlp (α:=Nat×Option Nat) [56,76] (fun i=>[]) (fun (i,g)=>[(some n,.blk 3 (rwB (moreS s i) 2 g)),(p1,.frz 5 (fl [.c (.int .i64 v.kind),.c (.int .i64 v.n),.c (.bool v.is),bsC v.b,strC v.t])),(g,.blk (moreS s i).rows.length (rowsF (moreS s i).rows))]) (fun i=>i.1≤s.tags.length+2-s.rows.length) (fun i=>s.tags.length+2-s.rows.length-i.1) (0,gr) (hH:=?_) (hr:=?_)
  ·(show HEnt _ [(some n,Res.blk 3 (rwB (moreS s 0) 2 gr)),_,(gr,.blk (moreS s 0).rows.length (rowsF (moreS s 0).rows))];rw [show moreS s 0=s by unfold moreS;simp];exact HEnt.refl _)
  rintro ⟨i,g⟩ (hi:i≤s.tags.length+2-s.rows.length)
  have hml:(moreS s i).rows.length=s.rows.length+i:=by simp [moreS]
  have hmt:(moreS s i).tags.length=s.tags.length:=rfl
  refine jU 77 ?_;refine jcd (oN 0 12) ?_;refine jU 8808003000020000100009000005000070200001000080000005000070 ?_;refine jF3 50100401120020810 784000200020006000 (fun h91=>?_) fun h91=>?_
  ·refine jqe (jebl 1 1 zr96 fun p2=>?_)
   refine seq_ent (weakH 3 1 (rowsF [[]]) rfl (Nat.le_refl _) (fun j hj=>by rcases j with _|j <;> first|exact CEnt.nilS _ _|omega)) ?_
   refine jqm (m_appendC rowC_rows (l2:=[[]]) rfl rfl rfl rfl (Nat.le_of_eq (Nat.mul_one _)) (fun _ _=>cZ) (src_os rfl (.inl rfl) (by decide)) rfl (fun j hj=>by rw [Nat.zero_add];exact cZ) Tryz.underlying113 nu113 sz96 zr96 by96 rfl (by simp;omega) (by simp;omega) (fun j hj=>rfl) rfl rfl (Nat.mul_one _) (fun p3=>?_))
   refine jU 10040 ?_
   refine jqm (jmstF 1 (rwB (moreS s (i+1)) 2 p3) ?_ ?_)
   ·exact (fun j hj=>by rcases j with _|_|_|j <;> first|exact cZ|exact cO (by rw [more_succ]))
   refine jU 84005 ?_
   refine jlend (i+1,p3) (h1:=?_) (h2:=?_) (h7:=?_)
   ·(show i+1≤_;omega)
   ·(show _-(i+1)<_-i;omega)
   ·simp only [more_succ];exact HEnt.refl _
  have hiE:i=s.tags.length+2-s.rows.length:=by omega
  have hpl:=pad_len (s.tags.length+2) s.rows
  dsimp only
  rw [more_pad s i _ hiE]
  rw [more_pad s i _ hiE] at hml
  have hLl:([]++s.tags++[v.n]).length=s.tags.length+1:=by simp
  refine jcdZ (oT [0,4,6,8,10,14,16] (.two 1 (.two 6 (oT [19,21,22,24,27] .done) 9 (oT [13,21,22,24,27] .done)) 9 (oT [3,13,21,22,24,27] .done))) ?_;refine jU 6000000050000000100000009000000400000400000 ?_;refine jzq jrdr ?_;refine jztwo ?_ ?_
  ·refine jze (jebl 0 1 zr3 fun p2=>?_)
   refine jztwo ?_ ?_
   ·refine jzm (jac 8 rowC_in (l:=[]) (hN':=Nat.mul_one _) fun p3=>?_)
    refine jze (jebl 1 1 zr3 fun p4=>?_)
    refine jzm (jac 8 rowC_in (l2:=[v.n]) (hN':=Nat.mul_one _) fun p5=>?_)
    refine jU 100000009000000 ?_
    refine jzm (jmst 1 ?_)
    refine jU 8700000 ?_
    first
     |(refine jE (freeze 3 rfl) ?_;refine jE (thawC 0 0 3 (rwB ⟨([]++s.tags++[v.n]),padR (s.tags.length+2) s.rows,s.e⟩ 2 g) (fun i _=>inF ([]++s.tags++[v.n]) i) rfl rfl cZ cZ (fun j hj h0=>by rcases j with _|_|_|j <;> first|omega|exact cZ) (by simp) (fun a c ha hc=>by obtain rfl:c=0:=(by omega);rw [Nat.zero_add,Nat.mul_one,Nat.add_zero];exact cZ)) ?_;refine jnm ?_)
     |(refine jE (freeze 4 rfl) ?_;refine jE (thawC 0 0 4 (rwB ⟨([]++s.tags++[v.n]),padR (s.tags.length+2) s.rows,s.e⟩ 2 g) (fun i _=>inF ([]++s.tags++[v.n]) i) rfl rfl cZ cZ (fun j hj h0=>by rcases j with _|_|_|j <;> first|omega|exact cZ) (by simp) (fun a c ha hc=>by obtain rfl:c=0:=(by omega);rw [Nat.zero_add,Nat.mul_one,Nat.add_zero];exact cZ)) ?_;refine jnm ?_)
    refine jcdB 10 (oN 0 10) ?_;refine jU 200001000090000050000701000080000005000070 ?_;refine jyq (jri (i:=([]++s.tags++[v.n]).length) (hz:=by (simp only [List.length_append,List.length_cons,List.length_nil];omega))) ?_;refine jyd ?_
    show ASeq _ _ _ _ _ _
    refine jqm (jmstF 1 (rowsF ((padR (s.tags.length+2) s.rows).set ([]++s.tags++[v.n]).length [])) ?_ ?_)
    ·exact (fun j hj=>rows_set (CEnt.nilS _ _) hj)
    refine jU 4005 ?_
    rw [show rdoS v s=⟨([]++s.tags++[v.n]),(padR (s.tags.length+2) s.rows).set (s.tags.length+1) [],s.e⟩ by unfold rdoS;rw [if_neg (by omega),if_pos (by omega)];unfold ropenS;rw [if_neg (by simp [madeM] at h86 ⊢;omega),if_neg (by omega)];rfl]
    exact end_closeRW (.inr rfl) n ⟨([]++s.tags++[v.n]),(padR (s.tags.length+2) s.rows).set (s.tags.length+1) [],s.e⟩ 2 (res_0 rfl) cZ rfl rfl rfl (by exact cZ) (by exact cO (by simp)) (by exact cZ) (by simp) (fun _ _=>by rw [hLl];exact cZ)
   ·refine jze (jebl 1 1 zr3 fun p3=>?_)
    refine jzm (jac 8 rowC_in (l:=[]) (hN':=Nat.mul_one _) fun p4=>?_)
    refine jzm (jac 8 rowC_in (l2:=[v.n]) (hN':=Nat.mul_one _) fun p5=>?_)
    refine jU 100000009000000 ?_
    refine jzm (jmst 1 ?_)
    refine jU 8700000 ?_
    first
     |(refine jE (freeze 3 rfl) ?_;refine jE (thawC 0 0 3 (rwB ⟨([]++s.tags++[v.n]),padR (s.tags.length+2) s.rows,s.e⟩ 2 g) (fun i _=>inF ([]++s.tags++[v.n]) i) rfl rfl cZ cZ (fun j hj h0=>by rcases j with _|_|_|j <;> first|omega|exact cZ) (by simp) (fun a c ha hc=>by obtain rfl:c=0:=(by omega);rw [Nat.zero_add,Nat.mul_one,Nat.add_zero];exact cZ)) ?_;refine jnm ?_)
     |(refine jE (freeze 4 rfl) ?_;refine jE (thawC 0 0 4 (rwB ⟨([]++s.tags++[v.n]),padR (s.tags.length+2) s.rows,s.e⟩ 2 g) (fun i _=>inF ([]++s.tags++[v.n]) i) rfl rfl cZ cZ (fun j hj h0=>by rcases j with _|_|_|j <;> first|omega|exact cZ) (by simp) (fun a c ha hc=>by obtain rfl:c=0:=(by omega);rw [Nat.zero_add,Nat.mul_one,Nat.add_zero];exact cZ)) ?_;refine jnm ?_)
    refine jcdB 10 (oN 0 10) ?_;refine jU 200001000090000050000701000080000005000070 ?_;refine jyq (jri (i:=([]++s.tags++[v.n]).length) (hz:=by (simp only [List.length_append,List.length_cons,List.length_nil];omega))) ?_;refine jyd ?_
    show ASeq _ _ _ _ _ _
    refine jqm (jmstF 1 (rowsF ((padR (s.tags.length+2) s.rows).set ([]++s.tags++[v.n]).length [])) ?_ ?_)
    ·exact (fun j hj=>rows_set (CEnt.nilS _ _) hj)
    refine jU 4005 ?_
    rw [show rdoS v s=⟨([]++s.tags++[v.n]),(padR (s.tags.length+2) s.rows).set (s.tags.length+1) [],s.e⟩ by unfold rdoS;rw [if_neg (by omega),if_pos (by omega)];unfold ropenS;rw [if_neg (by simp [madeM] at h86 ⊢;omega),if_neg (by omega)];rfl]
    exact end_closeRW (.inr rfl) n ⟨([]++s.tags++[v.n]),(padR (s.tags.length+2) s.rows).set (s.tags.length+1) [],s.e⟩ 2 (res_0 rfl) cZ rfl rfl rfl (by exact cZ) (by exact cO (by simp)) (by exact cZ) (by simp) (fun _ _=>by rw [hLl];exact cZ)
  ·refine jze (jebl 1 1 zr3 fun p2=>?_)
   refine jze (jebl 0 1 zr3 fun p3=>?_)
   refine jzm (jac 8 rowC_in (l:=[]) (hN':=Nat.mul_one _) fun p4=>?_)
   refine jzm (jac 8 rowC_in (l2:=[v.n]) (hN':=Nat.mul_one _) fun p5=>?_)
   refine jU 100000009000000 ?_
   refine jzm (jmst 1 ?_)
   refine jU 8700000 ?_
   first
    |(refine jE (freeze 3 rfl) ?_;refine jE (thawC 0 0 3 (rwB ⟨([]++s.tags++[v.n]),padR (s.tags.length+2) s.rows,s.e⟩ 2 g) (fun i _=>inF ([]++s.tags++[v.n]) i) rfl rfl cZ cZ (fun j hj h0=>by rcases j with _|_|_|j <;> first|omega|exact cZ) (by simp) (fun a c ha hc=>by obtain rfl:c=0:=(by omega);rw [Nat.zero_add,Nat.mul_one,Nat.add_zero];exact cZ)) ?_;refine jnm ?_)
    |(refine jE (freeze 4 rfl) ?_;refine jE (thawC 0 0 4 (rwB ⟨([]++s.tags++[v.n]),padR (s.tags.length+2) s.rows,s.e⟩ 2 g) (fun i _=>inF ([]++s.tags++[v.n]) i) rfl rfl cZ cZ (fun j hj h0=>by rcases j with _|_|_|j <;> first|omega|exact cZ) (by simp) (fun a c ha hc=>by obtain rfl:c=0:=(by omega);rw [Nat.zero_add,Nat.mul_one,Nat.add_zero];exact cZ)) ?_;refine jnm ?_)
   refine jcdB 10 (oN 0 10) ?_;refine jU 200001000090000050000701000080000005000070 ?_;refine jyq (jri (i:=([]++s.tags++[v.n]).length) (hz:=by (simp only [List.length_append,List.length_cons,List.length_nil];omega))) ?_;refine jyd ?_
   show ASeq _ _ _ _ _ _
   refine jqm (jmstF 1 (rowsF ((padR (s.tags.length+2) s.rows).set ([]++s.tags++[v.n]).length [])) ?_ ?_)
   ·exact (fun j hj=>rows_set (CEnt.nilS _ _) hj)
   refine jU 4005 ?_
   rw [show rdoS v s=⟨([]++s.tags++[v.n]),(padR (s.tags.length+2) s.rows).set (s.tags.length+1) [],s.e⟩ by unfold rdoS;rw [if_neg (by omega),if_pos (by omega)];unfold ropenS;rw [if_neg (by simp [madeM] at h86 ⊢;omega),if_neg (by omega)];rfl]
   exact end_closeRW (.inr rfl) n ⟨([]++s.tags++[v.n]),(padR (s.tags.length+2) s.rows).set (s.tags.length+1) [],s.e⟩ 2 (res_0 rfl) cZ rfl rfl rfl (by exact cZ) (by exact cO (by simp)) (by exact cZ) (by simp) (fun _ _=>by rw [hLl];exact cZ)
 refine jF3 5216751350904016 5126 (fun h97=>?_) fun h97=>?_
 rotate_left
 ·refine jF3 6050000006 0 (fun h114=>?_) fun h114=>?_
  ·refine jF1 521675119009001 (rcheck_ac v.b hvb) ?_;refine jF3 100040116 1200810 (fun h116=>?_) fun h116=>?_
   ·refine jqm (jmstF 1 (rwB ⟨s.tags,s.rows,(depthM v.b).2⟩ 2 gr) ?_ ?_)
    ·exact jal
    refine jU 5000300070005 ?_
    rw [show rdoS v s=⟨s.tags,s.rows,(depthM v.b).2⟩ by unfold rdoS;rw [if_neg (by omega),if_neg (by omega),if_neg (by omega),if_pos (by omega),if_pos (by omega)]]
    exact end_closeRW (.inl rfl) n ⟨s.tags,s.rows,(depthM v.b).2⟩ 2 (res_0 rfl) cZ rfl rfl rfl (by exact cZ) (by exact cO rfl) (by exact cZ) (Nat.le_refl _) (fun _ _=>by exact cZ)
   refine jF6 605000000 0 1 zr5 fun p2=>?_
   refine jqm (jab (l:=[]) fun p3=>?_)
   refine seq_ent (freeze 3 rfl) ?_;refine seq_ent (thawB 181 ([]++v.b) rfl rfl rfl rfl) ?_;refine seq_ent (closeRW n s 0 2 rfl rfl rfl cZ (cO rfl) cZ (Nat.le_refl _) (fun _ _=>cZ)) ?_;refine jF2 4005 0 (radd08_ac n s ([]++v.b) hs.ok) ?_
   rw [show rdoS v s=raddS ([]++v.b) s by unfold rdoS;rw [if_neg (by omega),if_neg (by omega),if_neg (by omega),if_pos (by omega),if_neg (by omega)];rfl]
   exact end_own (.inr rfl) _ [_] [0] (by decide) rfl (res_0 rfl) ⟨rfl,rfl⟩
  refine jcr ?_;refine jq (jrdrA 5) ?_
  refine jqe (jecS (hB (by omega) (by omega) (by omega)) ?_)
  rintro _ _ ⟨⟨bb,rfl,hbb⟩,rfl⟩
  refine jU 5216751119009009001 ?_;refine jF3 100040116 810 (fun h123=>?_) fun h123=>?_
  ·refine jqm (jmstF 1 (rwB ⟨s.tags,s.rows,(bodyV v).2.2⟩ 2 gr) ?_ ?_)
   ·exact jal
   refine jU 5000300070005 ?_
   rw [show rdoS v s=⟨s.tags,s.rows,(bodyV v).2.2⟩ by unfold rdoS;rw [if_neg (by omega),if_neg (by omega),if_neg (by omega),if_neg (by omega),if_pos (by omega)]]
   exact end_closeRW (.inl rfl) n ⟨s.tags,s.rows,(bodyV v).2.2⟩ 2 (res_0 rfl) cZ rfl rfl rfl (by exact cZ) (by exact cO rfl) (by exact cZ) (Nat.le_refl _) (fun _ _=>by exact cZ)
  have hb0:bb=(bodyV v).2.1:=hbb (by omega)
  subst hb0
  refine jE (closeRW n s 0 2 rfl rfl rfl cZ (cO rfl) cZ (Nat.le_refl _) (fun _ _=>cZ)) ?_;refine jnm ?_;refine jU 111200 ?_;refine jF2 4005 0 (rput08_ac n s (bodyV v).1 (bodyV v).2.1 hs.ok (body_tag v) (bodyV_len hv)) ?_
  rw [show rdoS v s=rputS (bodyV v).1 (bodyV v).2.1 s by unfold rdoS;rw [if_neg (by omega),if_neg (by omega),if_neg (by omega),if_neg (by omega),if_neg (by omega)]]
  exact end_own (.inr rfl) _ [_] [0] (by decide) rfl (res_0 rfl) ⟨rfl,rfl⟩
 refine jF3 10004016 810 (fun h99=>?_) fun h99=>?_
 ·refine jqm (jmstF 1 (rwB ⟨s.tags,s.rows,24⟩ 2 gr) ?_ ?_)
  ·exact jal
  refine jU 5000300070005 ?_
  rw [show rdoS v s=⟨s.tags,s.rows,24⟩ by unfold rdoS;rw [if_neg (by omega),if_neg (by omega),if_pos (by omega)];unfold rcloseS;rw [if_pos (by omega)]]
  exact end_closeRW (.inl rfl) n ⟨s.tags,s.rows,24⟩ 2 (res_0 rfl) cZ rfl rfl rfl (by exact cZ) (by exact cO rfl) (by exact cZ) (Nat.le_refl _) (fun _ _=>by exact cZ)
 have hlt:=hs.lt (by omega)
 have hmem:(s.tags.getD (s.tags.length-1) 0) ∈ s.tags:=getD_mem' 0 (by omega)
 have htg:=hs.tag _ hmem
 have hll:=lsF_len (s.tags.getD (s.tags.length-1) 0) (s.rows.getD s.tags.length [])
 refine jU 9150904016751507001501004016 ?_;refine jq (jri (i:=(s.tags.length-1)) (hz:=by omega)) ?_;refine jU 5260 ?_;refine jF3 1200 810 (fun h104=>?_) fun h104=>?_
 rotate_left
 ·first
   | refine jE (weaken 5 (lbC (lsF (s.tags.getD (s.tags.length-1) 0) (s.rows.getD s.tags.length []))) (by unfold lsF;rw [if_pos h104];exact cZ)) ?_
   | refine jE (weaken 5 (lbC (lsF (s.tags.getD (s.tags.length-1) 0) (s.rows.getD s.tags.length []))) (by unfold lsF;rw [if_neg h104];exact cZ)) ?_
  refine jcr ?_;refine jF6 2051316751 0 1 zr5 fun p2=>?_
  refine jlp (α:=Nat×Option Nat) [6,6,8,8,133,140] (fun (i,g)=>[(6,.os 3 g 0 (((lsF (s.tags.getD (s.tags.length-1) 0) (s.rows.getD s.tags.length [])).take i).flatten).length 1),(133,.c (.int .i64 (i:Nat)))]) (fun (i,g)=>[(some n,.blk 3 (rwB s 2 gr)),(p1,.frz 5 (fl [.c (.int .i64 v.kind),.c (.int .i64 v.n),.c (.bool v.is),bsC v.b,strC v.t])),(gr,.blk s.rows.length (rowsF s.rows)),(g,.blk (((lsF (s.tags.getD (s.tags.length-1) 0) (s.rows.getD s.tags.length [])).take i).flatten).length (byF ((lsF (s.tags.getD (s.tags.length-1) 0) (s.rows.getD s.tags.length [])).take i).flatten))]) (fun i=>i.1≤(lsF (s.tags.getD (s.tags.length-1) 0) (s.rows.getD s.tags.length [])).length) (fun i=>(lsF (s.tags.getD (s.tags.length-1) 0) (s.rows.getD s.tags.length [])).length-i.1) (0,p2) (hH:=.same (.same (.same (.blk rfl (fun j hj=>absurd hj (Nat.not_lt_zero j)) .nil)))) (hr:=?_)
  rintro ⟨i,g⟩ (hi:i≤(lsF (s.tags.getD (s.tags.length-1) 0) (s.rows.getD s.tags.length [])).length)
  refine jU 7526 ?_;refine jF3 51607006207810 84000200020006000 (fun h108=>?_) fun h108=>?_
  ·have hf1:=sumL_take (ls:=(lsF (s.tags.getD (s.tags.length-1) 0) (s.rows.getD s.tags.length []))) (i:=i) (by omega)
   have hf2:=sumL_le (lsF (s.tags.getD (s.tags.length-1) 0) (s.rows.getD s.tags.length [])) (i+1)
   have hf3:=flat_len ((lsF (s.tags.getD (s.tags.length-1) 0) (s.rows.getD s.tags.length [])).take i)
   refine jU 11200 ?_
   refine jqm (jab fun p3=>?_)
   refine jU 8519200840051 ?_
   refine jlend (i+1,p3) (h5:=?_) (h7:=?_)
   ·simp only [flat_take (show i<(lsF (s.tags.getD (s.tags.length-1) 0) (s.rows.getD s.tags.length [])).length by omega)]
    exact .cons (cO rfl) (.cons (cI (by omega)) .nil)
   ·simp only [flat_take (show i<(lsF (s.tags.getD (s.tags.length-1) 0) (s.rows.getD s.tags.length [])).length by omega)]
    exact .same (.same (.same (.same .nil)))
  have hiE:i=(lsF (s.tags.getD (s.tags.length-1) 0) (s.rows.getD s.tags.length [])).length:=by omega
  subst hiE
  dsimp only
  rw [List.take_length]
  refine jU 9150904016 ?_;refine jq (jri (i:=(s.tags.length-1)) (hz:=by omega)) ?_;refine jU 915090401165160 ?_;refine jq (jrsr (hl:=(bd_none _ _)) (hu:=(bd_some rfl (show _=(((s.tags.length-1):Nat):Int) by omega)))) ?_;refine jU 9040 ?_
  refine jqm (jmstF 1 (rwB ⟨s.tags.take (s.tags.length-1),s.rows,s.e⟩ 2 gr) ?_ ?_)
  ·exact (fun j hj=>by rcases j with _|_|_|j <;> first|exact CEnt.rs (by rw [List.length_take];omega) (fun i q hi hq=>CEnt.of_eq (by rw [Nat.zero_add];exact in_take hi))|exact cZ)
  refine jU 5 ?_;refine jE (freeze 3 rfl) ?_;refine jE (thawB 6 ((lsF (s.tags.getD (s.tags.length-1) 0) (s.rows.getD s.tags.length [])).flatten) rfl rfl rfl rfl) ?_;refine jE (closeRW n ⟨s.tags.take (s.tags.length-1),s.rows,s.e⟩ 0 2 rfl rfl rfl cZ (cO rfl) cZ (Nat.le_refl _) (fun _ _=>cZ)) ?_;refine jnm ?_;refine jU 111200 ?_;refine jF2 4005 0 (rput08_ac n ⟨s.tags.take (s.tags.length-1),s.rows,s.e⟩ (s.tags.getD (s.tags.length-1) 0) ((lsF (s.tags.getD (s.tags.length-1) 0) (s.rows.getD s.tags.length [])).flatten) (okRD_tail hs) htg (by rw [flat_len];omega)) ?_
  rw [show rdoS v s=rputS (s.tags.getD (s.tags.length-1) 0) ((lsF (s.tags.getD (s.tags.length-1) 0) (s.rows.getD s.tags.length [])).flatten) ⟨s.tags.take (s.tags.length-1),s.rows,s.e⟩ by unfold rdoS;rw [if_neg (by omega),if_neg (by omega),if_pos (by omega)];unfold rcloseS;rw [if_neg (by omega),lsF_body]]
  exact end_own (.inr rfl) _ [_] [0] (by decide) rfl (res_0 rfl) ⟨rfl,rfl⟩
 refine jF1 851 (rsorted07_ac (s.rows.getD s.tags.length []) hkk) ?_
 first
  | refine jE (weaken 5 (lbC (lsF (s.tags.getD (s.tags.length-1) 0) (s.rows.getD s.tags.length []))) (by unfold lsF;rw [if_pos h104];exact cZ)) ?_
  | refine jE (weaken 5 (lbC (lsF (s.tags.getD (s.tags.length-1) 0) (s.rows.getD s.tags.length []))) (by unfold lsF;rw [if_neg h104];exact cZ)) ?_
 refine jcr ?_;refine jF6 2051316751 0 1 zr5 fun p2=>?_
 refine jlp (α:=Nat×Option Nat) [6,6,8,8,133,140] (fun (i,g)=>[(6,.os 3 g 0 (((lsF (s.tags.getD (s.tags.length-1) 0) (s.rows.getD s.tags.length [])).take i).flatten).length 1),(133,.c (.int .i64 (i:Nat)))]) (fun (i,g)=>[(some n,.blk 3 (rwB s 2 gr)),(p1,.frz 5 (fl [.c (.int .i64 v.kind),.c (.int .i64 v.n),.c (.bool v.is),bsC v.b,strC v.t])),(gr,.blk s.rows.length (rowsF s.rows)),(g,.blk (((lsF (s.tags.getD (s.tags.length-1) 0) (s.rows.getD s.tags.length [])).take i).flatten).length (byF ((lsF (s.tags.getD (s.tags.length-1) 0) (s.rows.getD s.tags.length [])).take i).flatten))]) (fun i=>i.1≤(lsF (s.tags.getD (s.tags.length-1) 0) (s.rows.getD s.tags.length [])).length) (fun i=>(lsF (s.tags.getD (s.tags.length-1) 0) (s.rows.getD s.tags.length [])).length-i.1) (0,p2) (hH:=.same (.same (.same (.blk rfl (fun j hj=>absurd hj (Nat.not_lt_zero j)) .nil)))) (hr:=?_)
 rintro ⟨i,g⟩ (hi:i≤(lsF (s.tags.getD (s.tags.length-1) 0) (s.rows.getD s.tags.length [])).length)
 refine jU 7526 ?_;refine jF3 51607006207810 84000200020006000 (fun h108=>?_) fun h108=>?_
 ·have hf1:=sumL_take (ls:=(lsF (s.tags.getD (s.tags.length-1) 0) (s.rows.getD s.tags.length []))) (i:=i) (by omega)
  have hf2:=sumL_le (lsF (s.tags.getD (s.tags.length-1) 0) (s.rows.getD s.tags.length [])) (i+1)
  have hf3:=flat_len ((lsF (s.tags.getD (s.tags.length-1) 0) (s.rows.getD s.tags.length [])).take i)
  refine jU 11200 ?_
  refine jqm (jab fun p3=>?_)
  refine jU 8519200840051 ?_
  refine jlend (i+1,p3) (h5:=?_) (h7:=?_)
  ·simp only [flat_take (show i<(lsF (s.tags.getD (s.tags.length-1) 0) (s.rows.getD s.tags.length [])).length by omega)]
   exact .cons (cO rfl) (.cons (cI (by omega)) .nil)
  ·simp only [flat_take (show i<(lsF (s.tags.getD (s.tags.length-1) 0) (s.rows.getD s.tags.length [])).length by omega)]
   exact .same (.same (.same (.same .nil)))
 have hiE:i=(lsF (s.tags.getD (s.tags.length-1) 0) (s.rows.getD s.tags.length [])).length:=by omega
 subst hiE
 dsimp only
 rw [List.take_length]
 refine jU 9150904016 ?_;refine jq (jri (i:=(s.tags.length-1)) (hz:=by omega)) ?_;refine jU 915090401165160 ?_;refine jq (jrsr (hl:=(bd_none _ _)) (hu:=(bd_some rfl (show _=(((s.tags.length-1):Nat):Int) by omega)))) ?_;refine jU 9040 ?_
 refine jqm (jmstF 1 (rwB ⟨s.tags.take (s.tags.length-1),s.rows,s.e⟩ 2 gr) ?_ ?_)
 ·exact (fun j hj=>by rcases j with _|_|_|j <;> first|exact CEnt.rs (by rw [List.length_take];omega) (fun i q hi hq=>CEnt.of_eq (by rw [Nat.zero_add];exact in_take hi))|exact cZ)
 refine jU 5 ?_;refine jE (freeze 3 rfl) ?_;refine jE (thawB 6 ((lsF (s.tags.getD (s.tags.length-1) 0) (s.rows.getD s.tags.length [])).flatten) rfl rfl rfl rfl) ?_;refine jE (closeRW n ⟨s.tags.take (s.tags.length-1),s.rows,s.e⟩ 0 2 rfl rfl rfl cZ (cO rfl) cZ (Nat.le_refl _) (fun _ _=>cZ)) ?_;refine jnm ?_;refine jU 111200 ?_;refine jF2 4005 0 (rput08_ac n ⟨s.tags.take (s.tags.length-1),s.rows,s.e⟩ (s.tags.getD (s.tags.length-1) 0) ((lsF (s.tags.getD (s.tags.length-1) 0) (s.rows.getD s.tags.length [])).flatten) (okRD_tail hs) htg (by rw [flat_len];omega)) ?_
 rw [show rdoS v s=rputS (s.tags.getD (s.tags.length-1) 0) ((lsF (s.tags.getD (s.tags.length-1) 0) (s.rows.getD s.tags.length [])).flatten) ⟨s.tags.take (s.tags.length-1),s.rows,s.e⟩ by unfold rdoS;rw [if_neg (by omega),if_neg (by omega),if_pos (by omega)];unfold rcloseS;rw [if_neg (by omega),lsF_body]]
 exact end_own (.inr rfl) _ [_] [0] (by decide) rfl (res_0 rfl) ⟨rfl,rfl⟩
end
section
open Go.RowKit Cal
structure SmallV (v:VV):Prop where
 n:-9223372036854775808≤v.n∧v.n≤9223372036854775807
 b:v.b.length≤300
 t:v.t.length≤300
theorem SmallV.ok {v:VV} (h:SmallV v):OkV v:=⟨h.n,by have:=h.b;omega,by have:=h.t;omega⟩
def frW (fr:List (Int×List (List UInt8))):Nat:=(fr.map fun x=>sumL x.2+6).sum
def wtW (s:W8):Nat:=s.d.length+frW s.fr
theorem frW_cons (x:Int×List (List UInt8)) (fr:List (Int×List (List UInt8))):frW (x::fr)=sumL x.2+6+frW fr:=by simp [frW]
theorem sumL_snoc (l:List (List UInt8)) (b:List UInt8):sumL (l++[b])=sumL l+b.length:=by rw [sumL_app];simp [sumL]
theorem putL_len (tag:Int) (b:List UInt8):(putL tag b).length≤b.length+6:=by
 grind [putL,lenL_bd]
theorem wt_add (b:List UInt8) (s:W8):wtW (addW b s)=wtW s+b.length:=by
 grind [wtW,addW,frW_cons,sumL_snoc]
theorem wt_fail (e:Nat) (s:W8):wtW (failW e s)=wtW s:=by unfold failW;split <;> rfl
theorem wt_put (tag:Int) (b:List UInt8) (e:Nat) (s:W8):wtW (putW tag b e s)≤wtW s+b.length+6:=by
 grind [putW,wt_fail,wtW,wt_add,putL_len]
theorem bodyV_small {v:VV} (h:SmallV v):(bodyV v).2.1.length≤300:=by
 have h1:=h.b
 have h2:=h.t
 have h3:=(putN_len v.n h.n.1 h.n.2).2
 have h4:=put_len v.t
 unfold bodyV
 split
 ·grind
 ·split
  ·grind
  ·split
   ·simp_all
   ·split
    ·exact h1
    ·split
     ·grind
     ·split
      ·grind
      ·split
       ·show (if inT v.n then bodyL (ofM v.n) else []).length≤_
        split
        ·exact Nat.le_trans (Nat.le_of_eq (show (bodyL (ofM v.n)).length=15 from rfl)) (by decide)
        ·simp
       grind [bitsL,flags_len,bl_is]
theorem wt_do {v:VV} (h:SmallV v) (s:W8):wtW (doW v s)≤wtW s+400:=by
 have hb:=h.b
 grind [doW,openW,wtW,frW_cons,sumL,closeV,wt_put,bodyF_len,rawW,wt_add,wt_fail,bodyV_small]
theorem pad_mem {m:Nat} {r:List (List (List UInt8))} {x:List (List UInt8)} (h:x ∈ padR m r):x ∈ r∨x=[]:=by
 grind [padR]
theorem at_mem (r:List (List (List UInt8))) (j:Nat):r.getD j [] ∈ r∨r.getD j []=[]:=by
 grind
def Grown (r r':R8):Prop:=(r'.rows.length≤max r.rows.length (r'.tags.length+1))∧∀ x ∈ r'.rows,x ∈ r.rows∨x=[]∨∃ y b,(y ∈ r.rows∨y=[])∧x=y++[b]∧x=r'.rows.getD r'.tags.length []
theorem grown_rows {r r':R8} (h:r'.rows=r.rows):Grown r r':=⟨by rw [h];omega,fun x hx=>.inl (h ▸ hx)⟩
theorem grown_add (b:List UInt8) (r:R8):Grown r (raddS b r):=by
 have hp:r.tags.length<(padR (r.tags.length+1) r.rows).length:=by rw [pad_len];omega
 refine ⟨?_,fun x hx=>?_⟩
 ·show (List.set _ _ _).length≤max _ (r.tags.length+1)
  rw [List.length_set,pad_len]
  omega
 ·rcases List.mem_or_eq_of_mem_set hx with h|h
  ·grind [pad_mem]
  ·refine .inr (.inr ⟨_,b,?_,h,?_⟩)
   ·rw [pad_get];exact at_mem _ _
   ·show x=List.getD (List.set _ _ _) r.tags.length []
    simp_all
theorem grown_put (t:Int) (b:List UInt8) (r:R8):Grown r (rputS t b r):=by
 grind [rputS,grown_rows,grown_add]
theorem grown_do (v:VV) (r:R8):Grown r (rdoS v r):=by
 unfold rdoS
 split
 ·exact grown_rows rfl
 ·split
  ·unfold ropenS
   split
   ·exact grown_rows rfl
   ·split
    ·exact grown_rows rfl
    ·refine ⟨?_,fun x hx=>?_⟩
     ·grind [pad_len]
     grind [pad_mem]
  ·split
   ·unfold rcloseS
    split
    ·exact grown_rows rfl
    ·exact grown_put _ _ ⟨_,r.rows,r.e⟩
   grind [grown_rows,grown_add,grown_put]
theorem frW_mem {fr:List (Int×List (List UInt8))} {x:Int×List (List UInt8)} (h:x ∈ fr):sumL x.2≤frW fr:=by
 induction fr with
 | nil=>cases h
 | cons y fr ih =>
  grind [frW_cons]
theorem active_sum {r:R8} {s:W8} (h:Same8 r s):sumL (r.rows.getD r.tags.length [])≤wtW s:=by
 have hl:r.tags.length=s.fr.length:=by rw [h.tags];simp
 obtain ⟨fr,d,k⟩:=s
 cases fr with
 | nil =>
  rw [hl]
  show sumL (r.rows.getD 0 [])≤_
  rw [← flat_len,h.row0]
  unfold wtW
  omega
 | cons x fr =>
  have hr:=h.row fr.length (by simp)
  grind [wtW,frW]
structure Inv8 (i:Nat) (r:R8) (s:W8):Prop where
 same:Same8 r s
 w:wtW s≤400 * i
 rows:∀ x ∈ r.rows,x.length≤i∧sumL x≤400 * i
 n:r.rows.length≤18
theorem inv_zero:Inv8 0 ⟨[],[],0⟩ ⟨[],[],0⟩:=⟨same_zero,by decide,fun _ h=>(by cases h),by decide⟩
theorem inv_do {i:Nat} {r:R8} {s:W8} (h:Inv8 i r s) {v:VV} (hv:SmallV v):Inv8 (i+1) (rdoS v r) (doW v s):=by
 have hs:=same_do h.same v
 have hw:=wt_do hv s
 have hg:=grown_do v r
 have h0:=h.w
 have hl:(rdoS v r).tags.length≤16:=by rw [hs.tags];simpa using hs.lim
 refine ⟨hs,by omega,fun x hx=>?_,?_⟩
 ·rcases hg.2 x hx with h1|h1|⟨y,b,h1,h2,h3⟩
  ·have:=h.rows x h1;omega
  ·subst h1;simp [sumL]
  ·have ha:=active_sum hs
   rw [← h3] at ha
   refine ⟨?_,by omega⟩
   rw [h2,List.length_append,List.length_singleton]
   rcases h1 with h1|h1
   ·have:=h.rows y h1;omega
   ·subst h1;simp
 ·have:=hg.1
  have:=h.n
  omega
theorem inv_fail {i:Nat} {r:R8} {s:W8} (h:Inv8 i r s) (e:Nat):Inv8 i ⟨r.tags,r.rows,if r.e=0 then e else r.e⟩ (failW e s):=by
 have hs:=h.same
 refine ⟨?_,by rw [wt_fail];exact h.w,h.rows,h.n⟩
 unfold failW
 rw [hs.e]
 split
 ·exact ⟨hs.tags,rfl,hs.row0,hs.row,hs.len,hs.known,hs.lim⟩
 ·exact ⟨hs.tags,rfl,hs.row0,hs.row,hs.len,hs.known,hs.lim⟩
theorem inv_okW {i:Nat} {r:R8} {s:W8} (h:Inv8 i r s) (hi:i≤1000):OkW s:=by
 have hw:=h.w
 refine ⟨h.same.lim,fun x hx=>?_,by unfold wtW at hw;omega⟩
 obtain ⟨j,hj⟩:=List.mem_iff_getElem?.1 hx
 have hjl:=(List.getElem?_eq_some_iff.1 hj).1
 have hr:=h.same.row (s.fr.length-1-j) (by omega)
 have e:(s.fr.map Prod.snd).reverse.getD (s.fr.length-1-j) []=x.2:=by
  rw [List.getD_eq_getElem?_getD,List.getElem?_reverse (by simp;omega)]
  simp only [List.length_map,List.getElem?_map]
  rw [show s.fr.length-1-(s.fr.length-1-j)=j by omega,hj]
  rfl
 rw [e] at hr
 have hs:=frW_mem hx
 unfold wtW at hw
 refine ⟨?_,by omega⟩
 rcases at_mem r.rows (s.fr.length-1-j+1) with h1|h1
 ·have:=(h.rows _ h1).1
  grind
 simp_all
theorem inv_okR {i:Nat} {r:R8} {s:W8} (h:Inv8 i r s) (hi:i≤1000):OkRD r:=by
 have hl:r.tags.length=s.fr.length:=by rw [h.same.tags];simp
 have hlim:=h.same.lim
 have hn:=h.n
 refine ⟨⟨by omega,by omega,fun x hx=>by have:=h.rows x hx;omega⟩,fun j=>?_,fun x hx=>?_,h.same.len⟩
 ·rcases at_mem r.rows j with h1|h1
  ·have:=h.rows _ h1;omega
  ·rw [h1];simp [sumL]
 ·rw [h.same.tags] at hx
  obtain ⟨y,hy,rfl⟩:=List.mem_map.1 (List.mem_reverse.1 hx)
  exact known_bd (made_known (h.same.known y hy))
end
end Am
end Go.Proofs.YtnijncmifjnifaaGreatDoor
