/- What the law leans on, part 6: P08r, P08c, P08d, P08h, P08i, P09s, ErrN, W08y, AmN, W09s, W09t, W05r, P08k, W08q, W08r, W08s, W08t, W05i, W08s7, W09u, L09w -/
import Derived.Test.YteolfpolmioalaaGreatDoorM5NamesWrites

set_option maxRecDepth 100000
namespace Go.Proofs.YteolfpolmioalaaGreatDoor
set_option linter.unusedVariables false
namespace Am
section
open Go.RowKit Cal
def muS (l:List (List UInt8)) (k:Nat):Nat:=sumL l+if k=0 then 1 else 0
theorem sumL_set (x:List UInt8):∀ {l:List (List UInt8)} {i:Nat},i<l.length→sumL (l.set i x)+(l.getD i []).length=sumL l+x.length
 | y::l,0,_=>by simp only [List.set_cons_zero,List.getD_cons_zero,sumL,List.map_cons,List.sum_cons];omega
 | y::l,i+1,h=>by
  have:=sumL_set x (l:=l) (i:=i) (by simpa using h)
  simp only [List.set_cons_succ,List.getD_cons_succ,sumL,List.map_cons,List.sum_cons] at this ⊢
  omega
theorem now_sum (l:List (List UInt8)):(nowL l).length≤sumL l:=by
 unfold nowL
 by_cases h:l.length-1<l.length
 ·have:=sumL_set [] h
  simp only [List.length_nil] at this
  omega
 ·rw [List.getD_eq_getElem?_getD,List.getElem?_eq_none (by omega)]
  simp
theorem next_mu {t:Int} {l:List (List UInt8)} {k:Nat} (hl:0<l.length):(k≠0→nextR t l k=⟨l,k,0,[],[],false⟩)∧(nextR t l k).l.length=l.length∧muS (nextR t l k).l (nextR t l k).k≤muS l k∧(k=0→muS (nextR t l k).l (nextR t l k).k<muS l k) ∧
  ((nextR t l k).is=true↔(nextR t l k).k=0)∧((nextR t l k).is=true→k=0)∧((nextR t l k).is=false→(nextR t l k).l=l):=by
 have hb:=nextM_bd (nowL l)
 have hs:=sumL_set (nextM (nowL l)).rest (show l.length-1<l.length by omega)
 unfold nextR
 by_cases h0:k≠0
 ·rw [if_pos h0]
  exact ⟨fun _=>rfl,rfl,Nat.le_refl _,fun h=>absurd h h0,by simp [h0],by simp,fun _=>rfl⟩
 ·have hk:k=0:=by omega
  subst hk
  rw [if_neg h0]
  by_cases h1:(nextM (nowL l)).e≠0
  ·rw [if_pos h1]
   refine ⟨fun h=>absurd rfl h,rfl,?_,fun _=>?_,by simp [h1],by simp,fun _=>rfl⟩ <;> (unfold muS;dsimp only;rw [if_neg h1];simp)
  ·rw [if_neg h1]
   by_cases h2:t≠0∧((nextM (nowL l)).tag:Int)≠t
   ·rw [if_pos h2]
    refine ⟨fun h=>absurd rfl h,rfl,?_,fun _=>?_,by simp,by simp,fun _=>rfl⟩ <;> (unfold muS;dsimp only;rw [if_neg (by decide)];simp)
   ·rw [if_neg h2]
    have hr:=hb.2.2.2.2.2 (by omega)
    have e:(l.getD (l.length-1) []).length=(nowL l).length:=rfl
    refine ⟨fun h=>absurd rfl h,by simp,?_,fun _=>?_,by simp,by simp,fun h=>absurd h (by simp)⟩ <;> (unfold muS;dsimp only;rw [if_pos rfl];omega)
theorem nextM_sum (b:List UInt8) (h:(nextM b).e=0):(nextM b).body.length+(nextM b).rest.length<b.length:=by
 have hm:=measM_rest (b.drop 1)
 revert h
 unfold nextM
 by_cases h0:b.length=0
 ·rw [if_pos h0];intro h;cases h
 ·rw [if_neg h0]
  by_cases h1:knownM ((b.getD 0 0).toNat:Nat)=false
  ·rw [if_pos h1];intro h;cases h
  ·rw [if_neg h1]
   dsimp only
   by_cases h2:(measM (b.drop 1)).e≠0
   ·rw [if_pos h2];intro h;exact absurd h h2
   ·rw [if_neg h2]
    by_cases h3:65530<(measM (b.drop 1)).n
    ·rw [if_pos h3];intro h;cases h
    ·rw [if_neg h3]
     by_cases h4:(measM (b.drop 1)).rest.length<(measM (b.drop 1)).n
     ·rw [if_pos h4];intro h;cases h
     ·rw [if_neg h4]
      intro _
      have:=hm.1
      rw [List.length_drop] at this
      simp only [List.length_take,List.length_drop]
      omega
theorem enter_mu {t:Int} {l:List (List UInt8)} {k:Nat} (hl:0<l.length):(k≠0→enterL t l k=l∧(enterR t l k).k=k)∧muS (enterL t l k) (enterR t l k).k≤muS l k∧(k=0→muS (enterL t l k) (enterR t l k).k<muS l k) ∧
  ((enterR t l k).k=0→(enterL t l k).length=l.length+1)∧((enterR t l k).k≠0→(enterL t l k).length=l.length)∧((enterR t l k).is=true↔(enterR t l k).k=0):=by
 have hq:∀ q,q=(if moreM l k=true∧madeM t=false then 5 else k)→(k≠0→q=k)∧(k=0→q=0∨q=5):=by
  rintro _ rfl
  refine ⟨fun h=>if_neg ?_,fun h=>?_⟩
  ·rintro ⟨h1,_⟩
   unfold moreM at h1
   simp [h] at h1
  ·subst h;split <;> simp
 unfold enterL enterR
 generalize hk:(if moreM l k=true∧madeM t=false then 5 else k)=q
 obtain ⟨q1,q2⟩:=hq q hk.symm
 obtain ⟨n1,n2,n3,n4,n5,n6,n7⟩:=next_mu (t:=t) (l:=l) (k:=q) hl
 by_cases hi:(nextR t l q).is=true
 ·have hk0:=n5.1 hi
  have hq0:=n6 hi
  subst hq0
  have hkz:k=0:=by rcases Nat.eq_zero_or_pos k with h|h;exact h;exact (q1 (by omega)).symm
  subst hkz
  have hb:muS ((nextR t l 0).l++[(nextR t l 0).body]) (nextR t l 0).k<muS l 0:=by
   rw [hk0]
   revert hi
   unfold nextR
   rw [if_neg (by decide)]
   by_cases h1:(nextM (nowL l)).e≠0
   ·rw [if_pos h1];intro h;cases h
   ·rw [if_neg h1]
    by_cases h2:t≠0∧((nextM (nowL l)).tag:Int)≠t
    ·rw [if_pos h2];intro h;cases h
    ·rw [if_neg h2]
     intro _
     have h3:=nextM_sum (nowL l) (by omega)
     have h4:=sumL_set (nextM (nowL l)).rest (show l.length-1<l.length by omega)
     have e:(l.getD (l.length-1) []).length=(nowL l).length:=rfl
     unfold muS
     dsimp only
     rw [sumL_app,if_pos rfl]
     simp only [sumL,List.map_cons,List.map_nil,List.sum_cons,List.sum_nil] at h4 ⊢
     omega
  rw [if_pos hi]
  refine ⟨fun h=>absurd rfl h,by omega,fun _=>hb,fun _=>by rw [List.length_append,n2];rfl,fun h=>absurd hk0 h,n5⟩
 ·have hi':(nextR t l q).is=false:=by simpa using hi
  have hl':=n7 hi'
  have hk0:(nextR t l q).k≠0:=fun h=>hi (n5.2 h)
  rw [if_neg hi,hl']
  refine ⟨fun h=>⟨rfl,?_⟩,?_,fun h=>?_,fun h=>absurd h hk0,fun _=>rfl,n5⟩
  ·have hq:=q1 h
   rw [n1 (by omega)]
   exact hq
  ·unfold muS;rw [if_neg hk0];simp
  ·unfold muS;rw [if_neg hk0,if_pos h];simp
theorem leave_mu {l:List (List UInt8)} {k:Nat} (hl:0<l.length):(k≠0→leaveL l k=l∧leaveK l k=k)∧muS (leaveL l k) (leaveK l k)≤muS l k∧(leaveK l k=0→k=0∧(leaveL l k).length+1=l.length∧1<l.length)∧(leaveK l k≠0→leaveL l k=l):=by
 have hk:(k≠0→leaveK l k=k):=fun h=>by unfold leaveK;rw [if_pos h]
 have h0:leaveK l k=0→k=0∧1<l.length:=fun h=>by
  unfold leaveK at h
  by_cases h1:k≠0
  ·rw [if_pos h1] at h;exact absurd h h1
  ·rw [if_neg h1] at h
   by_cases h2:l.length=1
   ·rw [if_pos h2] at h;cases h
   ·exact ⟨by omega,by omega⟩
 refine ⟨fun h=>⟨by unfold leaveL;rw [hk h,if_neg h],hk h⟩,?_,fun h=>?_,fun h=>by unfold leaveL;rw [if_neg h]⟩
 ·unfold leaveL
  by_cases h:leaveK l k=0
  ·have h1:=h0 h
   rw [if_pos h]
   unfold muS
   rw [if_pos h,if_pos h1.1]
   have h2:=sumL_take (ls:=l) (i:=l.length-1) (by omega)
   have h3:l.take (l.length-1+1)=l:=List.take_of_length_le (by omega)
   rw [h3] at h2
   omega
  ·rw [if_neg h]
   unfold muS
   rw [if_neg h]
   omega
 ·have h1:=h0 h
  unfold leaveL
  rw [if_pos h,List.length_take]
  exact ⟨h1.1,by omega,h1.2⟩
theorem read_mu (a:AA) {l:List (List UInt8)} {k:Nat} (hl:0<l.length):(k≠0→(readR a l k).l=l∧(readR a l k).k=k)∧muS (readR a l k).l (readR a l k).k≤muS l k∧(k=0→a.kind≠2→muS (readR a l k).l (readR a l k).k<muS l k) ∧
  (a.kind=1→((readR a l k).k=0→(readR a l k).l.length=l.length+1)∧((readR a l k).k≠0→(readR a l k).l.length=l.length)) ∧
  (a.kind=2→((readR a l k).k=0→(readR a l k).l.length+1=l.length∧1<l.length)∧((readR a l k).k≠0→(readR a l k).l.length=l.length)) ∧
  (a.kind≠1→a.kind≠2→(readR a l k).l.length=l.length)∧((readR a l k).k=0→k=0):=by
 unfold readR
 by_cases h1:a.kind=1
 ·rw [if_pos h1]
  obtain ⟨e1,e2,e3,e4,e5,e6⟩:=enter_mu (t:=a.tag) (l:=l) (k:=k) hl
  exact ⟨e1,e2,fun h _=>e3 h,fun _=>⟨e4,e5⟩,fun h=>by omega,fun h=>absurd h1 h,fun h=>Nat.eq_zero_of_not_pos fun hk=>by have h3:=(e1 (by omega)).2;have h4:(enterR a.tag l k).k=0:=h;omega⟩
 ·rw [if_neg h1]
  by_cases h2:a.kind=2
  ·rw [if_pos h2]
   obtain ⟨e1,e2,e3,e4⟩:=leave_mu (l:=l) (k:=k) hl
   exact ⟨e1,e2,fun _ h=>absurd h2 h,fun h=>by omega,fun _=>⟨fun h=>(e3 h).2,fun h=>by dsimp only;rw [e4 h]⟩,fun _ h=>absurd h2 h,fun h=>(e3 h).1⟩
  ·rw [if_neg h2]
   have key:∀ (t:Int) (e:Nat),(k≠0→e=(nextR t l k).k)→(e=0→(nextR t l k).k=0)→(k≠0→(nextR t l k).l=l∧e=k)∧muS (nextR t l k).l e≤muS l k∧(k=0→muS (nextR t l k).l e<muS l k)∧(nextR t l k).l.length=l.length∧(e=0→k=0):=fun t e h3 h4=>by
    obtain ⟨n1,n2,n3,n4,n5,n6,n7⟩:=next_mu (t:=t) (l:=l) (k:=k) hl
    have hm:muS (nextR t l k).l e≤muS (nextR t l k).l (nextR t l k).k:=by
     unfold muS
     by_cases h:e=0
     ·rw [if_pos h,if_pos (h4 h)];exact Nat.le_refl _
     ·rw [if_neg h];omega
    refine ⟨fun h=>⟨by rw [n1 h],by rw [h3 h,n1 h]⟩,by omega,fun h=>by have:=n4 h;omega,n2,fun h=>n6 (n5.2 (h4 h))⟩
   by_cases h3:a.kind=11
   ·rw [if_pos h3]
    obtain ⟨e1,e2,e3,e4,e5⟩:=key 0 (nextR 0 l k).k (fun _=>rfl) id
    exact ⟨e1,e2,fun h _=>e3 h,fun h=>absurd h h1,fun h=>absurd h h2,fun _ _=>e4,e5⟩
   ·rw [if_neg h3]
    unfold readV
    have hv:∀ f:List UInt8→Nat,(k≠0→valK (tagA a) l k f=(nextR (tagA a) l k).k)∧(valK (tagA a) l k f=0→(nextR (tagA a) l k).k=0):=fun f=>by
     obtain ⟨n1,n2,n3,n4,n5,n6,n7⟩:=next_mu (t:=tagA a) (l:=l) (k:=k) hl
     unfold valK
     refine ⟨fun h=>if_neg fun hi=>h (n6 hi),fun h=>?_⟩
     by_cases hi:(nextR (tagA a) l k).is=true
     ·exact n5.1 hi
     ·rw [if_neg hi] at h;exact h
    obtain ⟨e1,e2,e3,e4,e5⟩:=key (tagA a) (valK (tagA a) l k fun b=>(saidM a b).2) (hv _).1 (hv _).2
    exact ⟨e1,e2,fun h _=>e3 h,fun h=>absurd h h1,fun h=>absurd h h2,fun _ _=>e4,e5⟩
abbrev StepR (α:Type):=List (List UInt8)→Nat→(List (List UInt8)×Nat)×α
structure StepOk {α:Type} (sp:StepR α):Prop where
 mu:∀ l k,0<l.length→moreM l k=true→muS (sp l k).1.1 (sp l k).1.2<muS l k
 len:∀ l k,0<l.length→moreM l k=true→(sp l k).1.2=0→(sp l k).1.1.length=l.length
 grow:∀ l k,0<l.length→moreM l k=true→l.length≤(sp l k).1.1.length∧(sp l k).1.1.length≤l.length+16
section
variable {α:Type} (sp:StepR α) (l0:List (List UInt8)) (k0:Nat) (most:Int)
def stG:Nat→(List (List UInt8)×Nat)×List α
 | 0=>((l0,k0),[])
 | j+1=>((sp (stG j).1.1 (stG j).1.2).1,(stG j).2++[(sp (stG j).1.1 (stG j).1.2).2])
def goB (j:Nat):Bool:=moreM (stG sp l0 k0 j).1.1 (stG sp l0 k0 j).1.2 && decide ((j:Int)<most)
def firstG (p:Nat→Bool):Nat→Nat→Nat
 | 0,j=>j
 | n+1,j=>if p j=true then firstG p n (j+1) else j
theorem firstG_spec (p:Nat→Bool):∀ n j,(∀ i,i<j→p i=true)→(∀ i,i<firstG p n j→p i=true)∧(p (firstG p n j)=false∨firstG p n j=j+n)
 | 0,j,h=>⟨h,.inr rfl⟩
 | n+1,j,h=>by
  unfold firstG
  by_cases hp:p j=true
  ·rw [if_pos hp]
   obtain ⟨h1,h2⟩:=firstG_spec p n (j+1) (fun i hi=>if e:i=j then e ▸ hp else h i (by omega))
   exact ⟨h1,h2.imp id (fun e=>by omega)⟩
  ·rw [if_neg hp]
   exact ⟨h,.inl (by simpa using hp)⟩
def jG:Nat:=firstG (goB sp l0 k0 most) (muS l0 k0+1) 0
def endG:List (List UInt8)×Nat :=
 let s:=(stG sp l0 k0 (jG sp l0 k0 most)).1
 if moreM s.1 s.2=true then (leaveL s.1 3,leaveK s.1 3) else (leaveL s.1 s.2,leaveK s.1 s.2)
theorem stG_out:∀ j,(stG sp l0 k0 j).2.length=j
 | 0=>rfl
 | j+1=>by
  show (_++[_]).length=_
  rw [List.length_append,stG_out j];rfl
variable {sp l0 k0 most}
theorem stG_bd (ok:StepOk sp) (hl:0<l0.length):∀ j,(∀ i,i<j→goB sp l0 k0 most i=true)→muS (stG sp l0 k0 j).1.1 (stG sp l0 k0 j).1.2+j≤muS l0 k0∧((stG sp l0 k0 j).1.2=0→(stG sp l0 k0 j).1.1.length=l0.length)∧l0.length≤(stG sp l0 k0 j).1.1.length∧(stG sp l0 k0 j).1.1.length≤l0.length+16
 | 0,_=>⟨Nat.le_refl _,fun _=>rfl,Nat.le_refl _,by show l0.length≤l0.length+16;omega⟩
 | j+1,h=>by
  obtain ⟨h1,h2,h3,h4⟩:=stG_bd ok hl j fun i hi=>h i (by omega)
  have hg:=h j (by omega)
  unfold goB at hg
  rw [Bool.and_eq_true] at hg
  have hk:=(more_pos hg.1).1
  have hlen:=h2 hk
  have hp:0<(stG sp l0 k0 j).1.1.length:=by omega
  have m1:=ok.mu _ _ hp hg.1
  have m2:=ok.len _ _ hp hg.1
  have m3:=ok.grow _ _ hp hg.1
  show muS (sp (stG sp l0 k0 j).1.1 (stG sp l0 k0 j).1.2).1.1 (sp (stG sp l0 k0 j).1.1 (stG sp l0 k0 j).1.2).1.2+(j+1)≤_∧((sp (stG sp l0 k0 j).1.1 (stG sp l0 k0 j).1.2).1.2=0→(sp (stG sp l0 k0 j).1.1 (stG sp l0 k0 j).1.2).1.1.length=_)∧_≤(sp (stG sp l0 k0 j).1.1 (stG sp l0 k0 j).1.2).1.1.length∧(sp (stG sp l0 k0 j).1.1 (stG sp l0 k0 j).1.2).1.1.length≤_
  exact ⟨by omega,fun e=>by rw [m2 e,hlen],by omega,by omega⟩
theorem jG_stop (ok:StepOk sp) (hl:0<l0.length):(∀ i,i<jG sp l0 k0 most→goB sp l0 k0 most i=true)∧goB sp l0 k0 most (jG sp l0 k0 most)=false:=by
 obtain ⟨h1,h2⟩:=firstG_spec (goB sp l0 k0 most) (muS l0 k0+1) 0 (fun i hi=>absurd hi (Nat.not_lt_zero i))
 refine ⟨h1,?_⟩
 rcases h2 with h2|h2
 ·exact h2
 ·have:=(stG_bd ok hl _ h1).1
  rw [h2] at this
  omega
theorem jG_one (ok:StepOk sp) (hl:0<l0.length) {j:Nat} (h1:∀ i,i<j→goB sp l0 k0 most i=true) (h2:goB sp l0 k0 most j=false):jG sp l0 k0 most=j:=by
 obtain ⟨h3,h4⟩:=jG_stop (k0:=k0) (most:=most) ok hl
 rcases Nat.lt_trichotomy (jG sp l0 k0 most) j with h|h|h
 ·rw [h1 _ h] at h4;cases h4
 ·exact h
 ·rw [h3 _ h] at h2;cases h2
end
end
section
open Go.RowKit Cal

end
section
open Go.RowKit Cal
structure Elt (x:List UInt8) (t:Nat) (b:List UInt8):Prop where
 nx:∀ r,nextM (x++r)=⟨0,t,b,r⟩
 pos:0<x.length
 wh:∀ lv,lv≤16→(wholeM lv t b).2=0∨(wholeM lv t b).2=6
def IsE (x:List UInt8):Prop:=∃ t b,Elt x t b
structure GoodW (s:W8):Prop where
 fr:∀ f ∈ s.fr,madeM f.1=true∧∀ y ∈ f.2,IsE y
 d:∃ xs:List (List UInt8),s.d=xs.flatten∧∀ x ∈ xs,IsE x
end
section
open Go.RowKit Cal
def doAll (vs:List VV) (s:W8):W8:=vs.foldl (fun s v=>doW v s) s
def rdoAll (vs:List VV) (r:R8):R8:=vs.foldl (fun r v=>rdoS v r) r
theorem doAll_app (a b:List VV) (s:W8):doAll (a++b) s=doAll b (doAll a s):=by unfold doAll;rw [List.foldl_append]
theorem rdoAll_app (a b:List VV) (r:R8):rdoAll (a++b) r=rdoAll b (rdoAll a r):=by unfold rdoAll;rw [List.foldl_append]
theorem inv_mono {i j:Nat} {r:R8} {s:W8} (h:Inv8 i r s) (hij:i≤j):Inv8 j r s :=
 ⟨h.same,by have:=h.w;omega,fun x hx=>by have:=h.rows x hx;omega,h.n⟩
theorem inv_all:∀ (vs:List VV) {i:Nat} {r:R8} {s:W8},Inv8 i r s→(∀ v ∈ vs,SmallV v)→Inv8 (i+vs.length) (rdoAll vs r) (doAll vs s)
 | [],i,r,s,h,_=>h
 | v::vs,i,r,s,h,hv=>by
  have:=inv_all vs (inv_do h (hv v List.mem_cons_self)) fun x hx=>hv x (List.mem_cons_of_mem _ hx)
  rw [List.length_cons,show i+(vs.length+1)=i+1+vs.length by omega]
  exact this
theorem doW_bad8 {v:VV} {s:W8} (h:s.k≠0):doW v s=s:=by
 have e1:∀ e,failW e s=s:=fun e=>by unfold failW;rw [if_neg h]
 unfold doW openW closeV rawW putW
 simp only [e1,h,ne_eq,not_false_iff,if_true,if_false,ite_self]
theorem rdo_bad {v:VV} {r:R8} (h:r.e≠0):rdoS v r=r:=by unfold rdoS;rw [if_pos h]
theorem rdoAll_bad:∀ (vs:List VV) {r:R8},r.e≠0→rdoAll vs r=r
 | [],r,_=>rfl
 | v::vs,r,h=>by
  show rdoAll vs (rdoS v r)=r
  rw [rdo_bad h]
  exact rdoAll_bad vs h
theorem failW_zero (s:W8):failW 0 s=s:=by
 unfold failW
 split
 ·rename_i h;rw [← h]
 ·rfl
def elB (x:Int×List UInt8):List UInt8:=putL x.1 x.2
structure Lev (d:Nat) (x:Int×List UInt8):Prop where
 known:knownM x.1=true
 len:x.2.length≤65530
 wh:∀ lv,d≤lv→(wholeM lv x.1.toNat x.2).2=0
theorem Lev.mono {d e:Nat} {x:Int×List UInt8} (h:Lev d x) (hd:d≤e):Lev e x:=⟨h.known,h.len,fun lv hl=>h.wh lv (by omega)⟩
theorem read_enter (a:AA) (ha:a.kind=1) (l:List (List UInt8)) (k:Nat):(readR a l k).l=enterL a.tag l k∧(readR a l k).k=(enterR a.tag l k).k:=by unfold readR;rw [if_pos ha];exact ⟨rfl,rfl⟩
theorem read_leave (a:AA) (ha:a.kind=2) (l:List (List UInt8)) (k:Nat):(readR a l k).l=leaveL l k∧(readR a l k).k=leaveK l k:=by unfold readR;rw [if_neg (by omega),if_pos ha];exact ⟨rfl,rfl⟩
end
section
open Go.RowKit Cal
structure StepFB {α:Type} (sp:StepR α) (enc:α→List UInt8) (good:α→Prop):Prop where
 fwd:∀ (ls:List (List UInt8)) a r,good a→sp (ls++[enc a++r]) 0=((ls++[r],0),a)
 back:∀ (ls:List (List UInt8)) x k,(sp (ls++[x]) k).1.2=0→k=0∧∃ a r,good a∧x=enc a++r∧sp (ls++[x]) k=((ls++[r],0),a)
 pos:∀ a,good a→0<(enc a).length
section
variable {α:Type} {sp:StepR α} {enc:α→List UInt8} {good:α→Prop}
end
end
section
open Go.RowKit Cal
def v8 (t:List UInt8):VV:=⟨8,0,false,[],t⟩
def v7 (t:List UInt8) (most:Int):VV:=⟨7,most,false,[],t⟩
def w1 (tag:Int):VV:=⟨1,tag,false,[],[]⟩
def w2:VV:=⟨2,0,false,[],[]⟩
def pv (p:P2):List VV:=[w1 48,v8 p.1,v7 p.2 64,w2]
def namesV (s:S3):List VV:=w1 48::((partsS s).flatMap pv++[w2])
def putS (s:S3) (w:W8):W8:=if rightS s=true then doAll (namesV s) w else failW 9 w
def rputS9 (s:S3) (r:R8):R8:=if rightS s=true then rdoAll (namesV s) r else ⟨r.tags,r.rows,if r.e=0 then 9 else r.e⟩
theorem do_w1 (tag:Int) (s:W8):doW (w1 tag) s=openW tag s:=by unfold doW;rw [if_pos (show (w1 tag).kind=1 from rfl)];rfl
theorem do_w2 (s:W8):doW w2 s=closeV s:=by unfold doW;rw [if_neg (show ¬ w2.kind=1 by decide),if_pos (show w2.kind=2 from rfl)]
theorem do_v8 (t:List UInt8) (s:W8):doW (v8 t) s=putW 6 (putM t) (parseM t).2 s:=by
 unfold doW
 rw [if_neg (show ¬ (v8 t).kind=1 by show ¬ (8:Int)=1;decide),if_neg (show ¬ (v8 t).kind=2 by show ¬ (8:Int)=2;decide),if_neg (show ¬ (v8 t).kind=11 by show ¬ (8:Int)=11;decide)]
 rfl
theorem do_v7 (t:List UInt8) (m:Int) (s:W8):doW (v7 t m) s=putW 12 (if askedM t m=0 then t else []) (askedM t m) s:=by
 unfold doW
 rw [if_neg (show ¬ (v7 t m).kind=1 by show ¬ (7:Int)=1;decide),if_neg (show ¬ (v7 t m).kind=2 by show ¬ (7:Int)=2;decide),if_neg (show ¬ (v7 t m).kind=11 by show ¬ (7:Int)=11;decide)]
 rfl
theorem lab_ascii {l:List UInt8} (h:labM l=true):(∀ c ∈ l,32≤c.toNat∧c.toNat<127)∧l≠[]∧l.length≤24:=by
 simp only [labM,Bool.and_eq_true,decide_eq_true_eq,List.all_eq_true] at h
 obtain ⟨⟨⟨⟨h1,h2⟩,_⟩,_⟩,h5⟩:=h
 refine ⟨fun c hc=>?_,h1,h2⟩
 have:=h5 c hc
 simp only [lch,Bool.or_eq_true,Bool.and_eq_true,decide_eq_true_eq] at this
 omega
theorem plain_ascii:∀ {l:List UInt8},(∀ c ∈ l,32≤c.toNat∧c.toNat<127)→plainM l=true
 | [],_=>rfl
 | c::l,h=>by
  have hc:=h c List.mem_cons_self
  have e:bt (c::l) 0=c.toNat:=rfl
  rw [ref_ascii (by simp) (by rw [e];omega),e,if_neg (by omega)]
  exact plain_ascii fun d hd=>h d (List.mem_cons_of_mem _ hd)
theorem asked_ascii {l:List UInt8} {m:Int} (h:∀ c ∈ l,32≤c.toNat∧c.toNat<127) (h0:l≠[]) (hm:(l.length:Int)≤m):askedM l m=0:=by
 have hp:=List.length_pos_iff.2 h0
 unfold askedM
 rw [if_neg (by omega),if_neg (by omega),if_neg (by rw [plain_ascii h];decide)]
def GoodP (p:P2):Prop:=(parseM p.1).2=0∧askedM p.2 64=0
def innerX (p:P2):List (Int×List UInt8):=[(6,putM p.1),(12,p.2)]
def partX (p:P2):Int×List UInt8:=(48,((innerX p).map elB).flatten)
def partB (p:P2):List UInt8:=elB (partX p)
def subX (s:S3):Int×List UInt8:=(48,(((partsS s).map partX).map elB).flatten)
def subB (s:S3):List UInt8:=elB (subX s)
theorem oids_good:(parseM oidK).2=0∧(parseM oidS).2=0∧(parseM oidN).2=0:=by decide +kernel
theorem word_ascii {k:Int} (h1:1≤k) (h5:k≤5):(∀ c ∈ wordM k,32≤c.toNat∧c.toNat<127)∧wordM k≠[]∧(wordM k).length≤8:=by
 obtain rfl|rfl|rfl|rfl|rfl:=kinds h1 h5 <;> decide
theorem good_parts {s:S3} (h:rightS s=true):(∀ p ∈ partsS s,GoodP p∧p.1.length=12∧p.2.length≤24)∧(partsS s).length≤3:=by
 obtain ⟨h1,h5,hn,h2,hs⟩:=(right_iff s).1 h
 have hw:=word_ascii h1 h5
 have hn':=lab_ascii hn
 have gk:GoodP (oidK,wordM s.1)∧(oidK,wordM s.1).1.length=12∧(oidK,wordM s.1).2.length≤24:=⟨⟨oids_good.1,asked_ascii hw.1 hw.2.1 (by have:=hw.2.2;show ((wordM s.1).length:Int)≤64;omega)⟩,rfl,by have:=hw.2.2;dsimp only;omega⟩
 have gn:GoodP (oidN,s.2.2)∧(oidN,s.2.2).1.length=12∧(oidN,s.2.2).2.length≤24:=⟨⟨oids_good.2.2,asked_ascii hn'.1 hn'.2.1 (by have:=hn'.2.2;show (s.2.2.length:Int)≤64;omega)⟩,rfl,hn'.2.2⟩
 rw [parts_ref h]
 by_cases hk:s.1=2
 ·have hsp:=lab_ascii (h2 hk)
  have gs:GoodP (oidS,s.2.1)∧(oidS,s.2.1).1.length=12∧(oidS,s.2.1).2.length≤24:=⟨⟨oids_good.2.1,asked_ascii hsp.1 hsp.2.1 (by have:=hsp.2.2;show (s.2.1.length:Int)≤64;omega)⟩,rfl,hsp.2.2⟩
  rw [if_pos hk]
  refine ⟨fun p hp=>?_,by simp⟩
  rcases List.mem_cons.1 hp with rfl|hp
  ·exact gk
  ·rcases List.mem_cons.1 hp with rfl|hp
   ·exact gs
   ·rw [List.mem_singleton.1 hp];exact gn
 ·rw [if_neg hk]
  refine ⟨fun p hp=>?_,by simp⟩
  rcases List.mem_cons.1 hp with rfl|hp
  ·exact gk
  ·rw [List.mem_singleton.1 hp];exact gn
def w00:W8:=⟨[],[],0⟩
theorem small_w1 {t:Int} (h:-9223372036854775808≤t∧t≤9223372036854775807):SmallV (w1 t):=⟨h,by simp [w1],by simp [w1]⟩
theorem small_w2:SmallV w2:=⟨by simp [w2],by simp [w2],by simp [w2]⟩
theorem small_v8 {t:List UInt8} (h:t.length≤300):SmallV (v8 t):=⟨by simp [v8],by simp [v8],h⟩
theorem small_v7 {t:List UInt8} (h:t.length≤300):SmallV (v7 t 64):=⟨by simp [v7],by simp [v7],h⟩
theorem small_pv {p:P2} (h1:p.1.length≤300) (h2:p.2.length≤300):∀ v ∈ pv p,SmallV v:=fun v hv=>by
 simp only [pv,List.mem_cons,List.not_mem_nil,or_false] at hv
 rcases hv with rfl|rfl|rfl|rfl
 ·exact small_w1 (by decide)
 ·exact small_v8 h1
 ·exact small_v7 h2
 ·exact small_w2
theorem pvs_len:∀ ps:List P2,(ps.flatMap pv).length=4 * ps.length
 | []=>rfl
 | p::ps=>by
  rw [List.flatMap_cons,List.length_append,pvs_len ps,List.length_cons]
  show 4+_=_
  omega
theorem inv_putS {i:Nat} {r:R8} {w:W8} (hI:Inv8 i r w) (s:S3):Inv8 (i+14) (rputS9 s r) (putS s w):=by
 unfold rputS9 putS
 by_cases h:rightS s=true
 ·rw [if_pos h,if_pos h]
  obtain ⟨h1,h2⟩:=good_parts h
  have hl:(namesV s).length≤14:=by
   unfold namesV
   rw [List.length_cons,List.length_append,pvs_len]
   simp only [List.length_singleton]
   omega
  refine inv_mono (inv_all (namesV s) hI fun v hv=>?_) (by omega)
  unfold namesV at hv
  rcases List.mem_cons.1 hv with rfl|hv
  ·exact small_w1 (by decide)
  ·rcases List.mem_append.1 hv with hv|hv
   ·obtain ⟨p,hp,hv⟩:=List.mem_flatMap.1 hv
    obtain ⟨_,h3,h4⟩:=h1 p hp
    exact small_pv (by omega) (by omega) v hv
   ·rw [List.mem_singleton.1 hv];exact small_w2
 ·rw [if_neg h,if_neg h]
  exact inv_mono (inv_fail hI 9) (by omega)
def aL:AA:=⟨1,48,0,0⟩
def aO:AA:=⟨8,0,0,0⟩
def aT:AA:=⟨7,0,0,64⟩
def aE:AA:=⟨2,0,0,0⟩
def partSp:StepR P2:=fun l k =>
 let r1:=readR aL l k
 let r2:=readR aO r1.l r1.k
 let r3:=readR aT r2.l r2.k
 let r4:=readR aE r3.l r3.k
 ((r4.l,r4.k),(r2.v.t,r3.v.t))
theorem part_ok:StepOk partSp:=by
 have key:∀ l k,0<l.length→moreM l k=true→muS (partSp l k).1.1 (partSp l k).1.2<muS l k∧((partSp l k).1.2=0→(partSp l k).1.1.length=l.length)∧l.length≤(partSp l k).1.1.length∧(partSp l k).1.1.length≤l.length+16:=by
  intro l k hl hm
  have hk:=(more_pos hm).1
  obtain ⟨a1,a2,a3,a4,a5,a6,a7⟩:=read_mu aL (l:=l) (k:=k) hl
  have a3':=a3 hk (by decide)
  obtain ⟨a41,a42⟩:=a4 rfl
  have p1:l.length≤(readR aL l k).l.length∧(readR aL l k).l.length≤l.length+1:=by
   by_cases h:(readR aL l k).k=0
   ·have:=a41 h;omega
   ·have:=a42 h;omega
  obtain ⟨b1,b2,b3,b4,b5,b6,b7⟩:=read_mu aO (l:=(readR aL l k).l) (k:=(readR aL l k).k) (by omega)
  have b6':=b6 (by decide) (by decide)
  obtain ⟨c1,c2,c3,c4,c5,c6,c7⟩:=read_mu aT (l:=(readR aO (readR aL l k).l (readR aL l k).k).l) (k:=(readR aO (readR aL l k).l (readR aL l k).k).k) (by omega)
  have c6':=c6 (by decide) (by decide)
  obtain ⟨d1,d2,d3,d4,d5,d6,d7⟩:=read_mu aE (l:=(readR aT (readR aO (readR aL l k).l (readR aL l k).k).l (readR aO (readR aL l k).l (readR aL l k).k).k).l) (k:=(readR aT (readR aO (readR aL l k).l (readR aL l k).k).l (readR aO (readR aL l k).l (readR aL l k).k).k).k) (by omega)
  obtain ⟨d51,d52⟩:=d5 rfl
  show muS (readR aE _ _).l (readR aE _ _).k<_∧((readR aE _ _).k=0→(readR aE _ _).l.length=_)∧_≤(readR aE _ _).l.length∧(readR aE _ _).l.length≤_
  refine ⟨by omega,fun h=>?_,?_,?_⟩
  ·have:=d51 h
   have:=a41 (b7 (c7 (d7 h)))
   omega
  ·by_cases h:(readR aE (readR aT (readR aO (readR aL l k).l (readR aL l k).k).l (readR aO (readR aL l k).l (readR aL l k).k).k).l (readR aT (readR aO (readR aL l k).l (readR aL l k).k).l (readR aO (readR aL l k).l (readR aL l k).k).k).k).k=0
   ·have:=d51 h
    have:=a41 (b7 (c7 (d7 h)))
    omega
   ·have:=d52 h;omega
  ·by_cases h:(readR aE (readR aT (readR aO (readR aL l k).l (readR aL l k).k).l (readR aO (readR aL l k).l (readR aL l k).k).k).l (readR aT (readR aO (readR aL l k).l (readR aL l k).k).l (readR aO (readR aL l k).l (readR aL l k).k).k).k).k=0
   ·have:=d51 h;omega
   ·have:=d52 h;omega
 exact ⟨fun l k h1 h2=>(key l k h1 h2).1,fun l k h1 h2=>(key l k h1 h2).2.1,fun l k h1 h2=>(key l k h1 h2).2.2⟩
def GoodR (p:P2):Prop:=GoodP p∧(putM p.1).length≤65530∧(((innerX p).map elB).flatten).length≤65530
def endP (l:List (List UInt8)) (k:Nat):List (List UInt8)×Nat:=endG partSp (enterL 48 l k) (enterR 48 l k).k 8
def listP (l:List (List UInt8)) (k:Nat):List P2:=(stG partSp (enterL 48 l k) (enterR 48 l k).k (jG partSp (enterL 48 l k) (enterR 48 l k).k 8)).2
def getS (l:List (List UInt8)) (k:Nat):(List (List UInt8)×Nat)×S3 :=
 if (endP l k).2≠0 then (endP l k,zeroS) else (((endP l k).1,(ofP (listP l k)).2),(ofP (listP l k)).1)
def readS (b:List UInt8):S3×Nat :=
 let g:=getS [b] (depthM b).2
 if endK g.1.1 g.1.2≠0 then (zeroS,endK g.1.1 g.1.2) else (g.2,0)
end
section
variable {gs:List Nat} [OkG gs]
open Go.RowKit
end
section
variable {gs:List Nat} [Ok9 gs]
open Go.RowKit Cal

def valF (v:VV):Nat→CV:=fl [.c (.int .i64 v.kind),.c (.int .i64 v.n),.c (.bool v.is),bsC v.b,strC v.t]
def vsC (vs:List VV):CV:=.rs 5 vs.length fun i j=>valF (vs.getD i VV.none) j
def bigV (v:VV):Bool:=decide (300<v.b.length) || decide (300<v.t.length)
def longM (vs:List VV):Bool:=decide (60<vs.length) || vs.any bigV
def r0W:R8:=⟨[],[],0⟩
theorem newRW {G:Gh} {env:List (Nat×CV)} {b0:Nat→CV} {H:List (Option Nat×Res)} (n i:Nat) {f:Nat→CV} (hi:H[i]?=some (some n,.blk 3 f)) (h0:CEnt (f 0) (.c (.slice none 0 0))) (h1:CEnt (f 1) (.c (.slice none 0 0))) (h2:CEnt (f 2) (.c (.int .i64 0))):EntS G ⟨env,b0,H⟩ ⟨env,b0,H.set i (rwO n r0W)⟩:=by
 have hil:=(List.getElem?_eq_some_iff.1 hi).1
 have os0:∀ {j k:Nat},CEnt (.c (.slice none 0 0)) (.os j none 0 0 k):=fun al St w v h=>⟨rfl,h⟩
 intro St a w hr
 obtain ⟨S1,s1,r1⟩:=ent_none (G:=G) (s:=⟨env,b0,H⟩) (rowsF []) St a w hr
 obtain ⟨S4,s4,r4⟩:=closeRW (G:=G) (env:=env) (b0:=b0) (H:=H++[(none,.blk 0 (rowsF []))]) n r0W i H.length (gr:=none) (N:=0) (f:=f) (F:=rowsF [])
  (by rw [List.getElem?_append_left hil];exact hi) (by simp) (by cases e:Nat.beq i H.length with|false=>rfl|true=>have:=Nat.eq_of_beq_eq_true e;omega) (h0.trans (CEnt.nilS _ _)) (h1.trans os0) h2 (Nat.le_refl _) (fun a h=>absurd h (Nat.not_lt_zero a)) S1 a w r1
 obtain ⟨S5,s5,r5⟩:=pick_ent (G:=G) (H':=H.set i (rwO n r0W)) (List.range H.length) (range_nodup _) (by
  rw [pickL_range _ _ (by simp)]
  rw [take_set_out _ _ _ _ (by omega),List.take_set,List.take_left]) S4 a w r4
 exact ⟨S5,fun b hb=>s5 b (s4 b (s1 b hb)),r5⟩
theorem bodyV_e (v:VV):(bodyV v).2.2≤28:=by
 have h1:=asked_bd v.t v.n
 have h2:(parseM v.t).2≤4:=by
  unfold parseM
  repeat' split
  all_goals (dsimp only;omega)
 unfold bodyV
 repeat' split
 all_goals (dsimp only;first|omega|(unfold ofE;split <;> omega)|(unfold bitsE;split <;> omega))
theorem fail_k {e:Nat} {s:W8} (he:e≤28) (h:s.k≤28):(failW e s).k≤28:=by unfold failW;split <;> first|exact he|exact h
theorem put_k {t:Int} {b:List UInt8} {e:Nat} {s:W8} (he:e≤28) (h:s.k≤28):(putW t b e s).k≤28:=by
 unfold putW
 split
 ·exact fail_k he h
 ·split
  ·exact putE_bd _ _
  ·rw [addW_k];exact h
theorem do_k (v:VV) {s:W8} (h:s.k≤28):(doW v s).k≤28:=by
 unfold doW
 split
 ·unfold openW;repeat' split
  all_goals first|exact h|exact Nat.le_of_ble_eq_true rfl
 ·split
  ·unfold closeV
   split
   ·exact h
   ·split
    ·show 24≤28;decide
    ·exact put_k (by decide) h
  ·split
   ·unfold rawW
    have hd:(depthM v.b).2≤28:=Nat.le_trans (depthM_bd v.b).2 (by decide)
    split
    ·rw [addW_k];exact h
    ·exact fail_k hd h
   ·exact put_k (bodyV_e v) h
theorem done_k {s:W8} (h:s.k≤28):doneK s≤28:=by
 unfold doneK
 repeat' split
 all_goals omega
end
section
open Go.RowKit
section
variable {P:Program} {G:Gh} {o:Oper} {env:List (Nat×CV)} {b0:Nat→CV} {H:List (Option Nat×Res)} {K:AS→Prop}
theorem m_callHV1 {f:FuncId} {v:Operand} {n d:Nat} {fv:Nat→CV} {xs:Array Operand} {ats:Array TypeId} {args:List CV} {Q:CV→List (Option Nat×Res)→Prop} {i:Nat} {x0:Option Nat×Res} (ho:o.op=.call ⟨.value v,xs,ats⟩) (hv:(⟨env,b0,H⟩:AS).eval v=.fn f n fv) (hc:calleeB P f=true) (hi:H[i]?=some x0) (hA:AC G.gs P f [x0] args Q)
  (he:EntL (xs.toList.map (⟨env,b0,H⟩:AS).eval++(List.range n).map fv) args) (hd:o.dst=some d) (hN:Nat.blt d G.N=true)
  (hK:∀ r H',Q r H'→∃ x,H'=[x]∧K ⟨(d,r)::env,b0,H.set i x⟩):AMd P G o ⟨env,b0,H⟩ K :=
 m_callHV ho hv hc hi hA he (dst_s hd hN) (fun r H' hq=>by obtain ⟨x,h1,h2⟩:=hK r H' hq;exact ⟨x,h1,by rw [with_some hd];exact h2⟩)
end
end
section
variable {gs:List Nat} [OkG gs] [OkT gs]
open Go.RowKit Cal

def partV (p:P2):CV:=.agg 2 (partE p)
set_option maxHeartbeats 1000000 in
theorem rowsP_ac {gs:List Nat} [Ok9 gs] {f:FuncId} (hc:calleeB Tryz.prog f=true) (n:Nat) (tag:Int) (ws:W8) (l:List P2) (sG:Nat→W8) (h0:OkW ws) (hs:sG 0=openW tag ws) (hok:∀ i,i≤l.length→OkW (sG i)) (hl:l.length≤1000000) (hf:∀ i,i<l.length→AC gs Tryz.prog f [wrO n (sG i)] [.op 0 (some n) 0,partV (l.getD i ([],[]))] (fun r H'=>r=.c (.tuple #[])∧H'=[wrO n (sG (i+1))])) :
  AC gs Tryz.prog 59 [wrO n ws] [.op 0 (some n) 0,.c (.int .i64 tag),partsC l,.fn f 0 fun _=>.top] (fun r H'=>r=.c (.tuple #[])∧H'=[wrO n (closeV (sG l.length))]):=by
 refine ac_of 26 Tryz.func59 rfl rfl rfl (fun al w0 F0 St0=>?_)
 refine jcr ?_;refine jq jrm ?_;refine jq jrm ?_
 refine jqm (jmcH 0 (openW_ac n ws tag h0) ?_)
 rintro _ _ ⟨rfl,rfl⟩
 refine ⟨_,_,rfl,cZ,?_⟩
 refine jN ?_;refine jcs ?_;refine jcr ?_;refine jq jrm ?_;refine jq jrl ?_;refine jq jrm ?_;refine jN ?_;refine jB ?_;refine l_loop (α:=Nat) [9,15,16,17,18,19,20,21,22,23] (fun i=>[(15,.c (.int .i64 (i:Nat)))]) (fun i=>[wrO n (sG i)]) (fun i=>i≤l.length) (fun i=>l.length-i) (0) ?_ (fun _=>rfl) ?_ ?_ ?_
 ·exact Nat.zero_le _
 ·exact .cons cZ .nil
 ·rw [hs];exact HEnt.refl _
 ·rintro i (hi:i≤l.length)
  refine jcr ?_;refine jq jrc ?_;refine jN ?_;refine jcs ?_;refine jcc (fun h305=>?_) fun h305=>?_
  rotate_left
  ·refine jX (jte (jte (jbx (jtn ?_))))
   have hie:i=l.length:=by omega
   subst hie
   refine jcg ?_;refine jq jrm ?_
   refine jqm (jmcH 0 (closeW_ac n (sG l.length) (hok _ (Nat.le_refl _))) ?_)
   rintro _ _ ⟨rfl,rfl⟩
   refine ⟨_,_,rfl,cZ,?_⟩
   refine jN ?_
   exact end_own (.inr rfl) _ [_] [0] (by decide) rfl (res_0 rfl) ⟨rfl,rfl⟩
  refine jS (jtn ?_)
  refine jcs ?_;refine jB ?_;refine jcr ?_;refine jq jri ?_;refine jq (jrdrA 2) ?_
  refine jqe (jeal (n:=2) zr91 rfl fun p2=>?_)
  refine jqm (jmstF 2 (partE (l.getD i ([],[]))) ?_ ?_)
  ·exact (fun j hj=>by rcases j with _|_|j <;> first|exact cZ|omega)
  refine jN ?_;refine jcg ?_;refine jq jrm ?_;refine jq jrm ?_;refine jqo (jrdoA 2) ?_
  refine jqm (m_callHV1 (i:=0) rfl rfl (by assumption) rfl (hf i (by omega)) (.cons CEnt.opI (.cons (CEnt.agg rfl (fun j hj=>CEnt.of_eq (by show partE _ (0+j)=partE _ j;rw [Nat.zero_add]))) .nil)) rfl rfl ?_)
  rintro _ _ ⟨rfl,rfl⟩
  refine ⟨_,rfl,?_⟩
  refine jN ?_
  refine jbn (jtn ?_)
  refine jcg ?_;refine jq jra ?_;refine jq jrm ?_;refine jN ?_;refine jtn ?_
  refine jlend (i+1) ?_ ?_ (h5:=?_) (h7:=?_)
  ·show i+1≤l.length;omega
  ·show l.length-(i+1)<l.length-i;omega
  ·exact .cons (CEnt.int (by omega)) .nil
  ·exact HEnt.refl _
theorem putP_ac (n:Nat) {i:Nat} {r:R8} {s:W8} (hI:Inv8 i r s) (hi:i≤900) (p:P2) (h1:p.1.length≤300) (h2:p.2.length≤300):AC gs Tryz.prog 60 [wrO n s] [.op 0 (some n) 0,partV p] (fun r H'=>r=.c (.tuple #[])∧H'=[wrO n (doAll (pv p) s)]):=by
 have I1:=inv_do hI (small_w1 (t:=48) (by decide))
 rw [do_w1] at I1
 have I2:=inv_do I1 (small_v8 h1)
 rw [do_v8] at I2
 have I3:=inv_do I2 (small_v7 h2)
 rw [do_v7] at I3
 have hD:doAll (pv p) s=closeV (putW 12 (if askedM p.2 64=0 then p.2 else []) (askedM p.2 64) (putW 6 (putM p.1) (parseM p.1).2 (openW 48 s))):=by
  show doW w2 (doW (v7 p.2 64) (doW (v8 p.1) (doW (w1 48) s)))=_
  rw [do_w1,do_v8,do_v7,do_w2]
 refine ac_of 16 Tryz.func60 rfl rfl rfl (fun al w0 F0 St0=>?_)
 refine jcr ?_
 refine jqe (jebx 2 fun p1=>?_)
 refine jN ?_;refine jcr ?_;refine jq jrm ?_
 refine jqm (jmcH 0 (openW_ac n s 48 (inv_okW hI (by omega))) ?_)
 rintro _ _ ⟨rfl,rfl⟩
 refine ⟨_,_,rfl,cZ,?_⟩
 refine jN ?_;refine jcr ?_;refine jq jrm ?_;refine jq (jrfa 0 1 false) ?_;refine jqo jrdo ?_
 refine jqm (jmcH 0 (oidW_ac n (openW 48 s) p.1 (by omega) (inv_okW I1 (by omega))) ?_)
 rintro _ _ ⟨rfl,rfl⟩
 refine ⟨_,_,rfl,cZ,?_⟩
 refine jN ?_;refine jcr ?_;refine jq jrm ?_;refine jq (jrfa 1 1 false) ?_;refine jqo jrdo ?_
 refine jqm (jmcH 0 (textW_ac n (putW 6 (putM p.1) (parseM p.1).2 (openW 48 s)) p.2 64 (by omega) (inv_okW I2 (by omega))) ?_)
 rintro _ _ ⟨rfl,rfl⟩
 refine ⟨_,_,rfl,cZ,?_⟩
 refine jN ?_;refine jcg ?_;refine jq jrm ?_
 refine jqm (jmcH 0 (closeW_ac n (putW 12 (if askedM p.2 64=0 then p.2 else []) (askedM p.2 64) (putW 6 (putM p.1) (parseM p.1).2 (openW 48 s))) (inv_okW I3 (by omega))) ?_)
 rintro _ _ ⟨rfl,rfl⟩
 refine ⟨_,_,rfl,cZ,?_⟩
 refine jN ?_
 rw [hD]
 exact end_own (.inr rfl) _ [_] [0] (by decide) rfl (res_0 rfl) ⟨rfl,rfl⟩
theorem putG_ac (n:Nat) {i:Nat} {r:R8} {w:W8} (hI:Inv8 i r w) (hi:i≤800) (s:S3) (L:List P2) (e:Nat) (hp:ACp gs Tryz.prog 14 [subjC s] (.tup 2 (fl [partsC L,.err e]))) (hL:∀ p ∈ L,p.1.length≤300∧p.2.length≤300) (hl:L.length≤8) :
  AC gs Tryz.prog 26 [wrO n w] [.op 0 (some n) 0,subjC s] (fun r H'=>r=.c (.tuple #[])∧H'=[wrO n (closeV (doAll (L.flatMap pv) (openW 48 (failW e w))))]):=by
 have I0:=inv_fail hI e
 have I1:=inv_do I0 (small_w1 (t:=48) (by decide))
 rw [do_w1] at I1
 have hG:∀ j,j≤L.length→∃ r',Inv8 (i+1+4 * j) r' (doAll ((L.take j).flatMap pv) (openW 48 (failW e w))):=fun j hj=>by
  refine ⟨_,inv_mono (inv_all ((L.take j).flatMap pv) I1 fun v hv=>?_) ?_⟩
  ·obtain ⟨p,hp,hv⟩:=List.mem_flatMap.1 hv
   have h:=hL p (List.mem_of_mem_take hp)
   exact small_pv h.1 h.2 v hv
  ·rw [pvs_len,List.length_take];omega
 have hS:∀ j,j<L.length→doAll ((L.take (j+1)).flatMap pv) (openW 48 (failW e w))=doAll (pv (L.getD j ([],[]))) (doAll ((L.take j).flatMap pv) (openW 48 (failW e w))):=fun j hj=>by
  rw [List.take_succ_eq_append_getElem hj,List.flatMap_append,doAll_app,List.getD_eq_getElem?_getD,List.getElem?_eq_getElem hj]
  simp
 have hok:∀ j,j≤L.length→OkW (doAll ((L.take j).flatMap pv) (openW 48 (failW e w))):=fun j hj=>by
  obtain ⟨r',h⟩:=hG j hj
  exact inv_okW h (by omega)
 have hf:∀ j,j<L.length→AC gs Tryz.prog 60 [wrO n (doAll ((L.take j).flatMap pv) (openW 48 (failW e w)))] [.op 0 (some n) 0,partV (L.getD j ([],[]))] (fun r H'=>r=.c (.tuple #[])∧H'=[wrO n (doAll ((L.take (j+1)).flatMap pv) (openW 48 (failW e w)))]):=fun j hj=>by
  obtain ⟨r',h⟩:=hG j (by omega)
  have hm:L.getD j ([],[]) ∈ L:=by
   rw [List.getD_eq_getElem?_getD,List.getElem?_eq_getElem hj]
   exact List.getElem_mem _
  rw [hS j hj]
  exact putP_ac n h (by omega) _ (hL _ hm).1 (hL _ hm).2
 have hR:=rowsP_ac (gs:=gs) (f:=60) (by kernel_rfl) n 48 (failW e w) L (fun j=>doAll ((L.take j).flatMap pv) (openW 48 (failW e w))) (inv_okW I0 (by omega)) rfl hok (by omega) hf
 rw [List.take_length] at hR
 refine ac_of 17 Tryz.func26 rfl rfl rfl (fun al w0 F0 St0=>?_)
 refine jcr ?_
 refine jqe (jebx 3 fun p1=>?_)
 refine jN ?_;refine jcr ?_;refine jqo (jrdoA 3) ?_
 refine jqe (jecP hp ?_)
 refine jq jrm ?_;refine jq jrx ?_;refine jq jrx ?_;refine jq jrm ?_;refine jq jrm ?_;refine jN ?_;refine jcr ?_;refine jq jrm ?_;refine jq jrm ?_
 refine jqm (jmcH 0 (failW_ac n w e) ?_)
 rintro _ _ ⟨rfl,rfl⟩
 refine ⟨_,_,rfl,cZ,?_⟩
 refine jN ?_;refine jcg ?_;refine jq jrm ?_;refine jq jrm ?_
 refine jqm (jmcH 0 hR ?_ (ho:=rfl) (he:=(.cons (se rfl CEnt.opI) (.cons (se rfl cZ) (.cons (se rfl cZ) (.cons (se rfl CEnt.fn0) .nil))))))
 rintro _ _ ⟨rfl,rfl⟩
 refine ⟨_,_,rfl,cZ,?_⟩
 refine jN ?_
 exact end_own (.inr rfl) _ [_] [0] (by decide) rfl (res_0 rfl) ⟨rfl,rfl⟩
theorem nput_ac (n:Nat) {i:Nat} {r:R8} {w:W8} (hI:Inv8 i r w) (hi:i≤800) (s:S3):AC gs Tryz.prog 26 [wrO n w] [.op 0 (some n) 0,subjC s] (fun r H'=>r=.c (.tuple #[])∧H'=[wrO n (putS s w)]):=by
 have hp:=nparts_ac (gs:=gs) s
 by_cases hr:rightS s=true
 ·rw [if_pos hr,if_pos hr] at hp
  obtain ⟨h1,h2⟩:=good_parts hr
  have h:=putG_ac n hI hi s _ _ hp (fun p hp=>by have:=h1 p hp;omega) (by omega)
  have e:putS s w=closeV (doAll ((partsS s).flatMap pv) (openW 48 (failW 0 w))):=by
   unfold putS
   rw [if_pos hr,failW_zero]
   show doAll ((partsS s).flatMap pv++[w2]) (doW (w1 48) w)=_
   rw [do_w1,doAll_app]
   exact do_w2 _
  rw [e]
  exact h
 ·rw [if_neg hr,if_neg hr] at hp
  have h:=putG_ac n hI hi s _ _ hp (fun p hp=>by cases hp) (by decide)
  have hk:(failW 9 w).k≠0:=by
   unfold failW
   split
   ·show (9:Nat)≠0;decide
   ·assumption
  have e:putS s w=closeV (doAll (([]:List P2).flatMap pv) (openW 48 (failW 9 w))):=by
   unfold putS
   rw [if_neg hr]
   show _=closeV (openW 48 (failW 9 w))
   rw [← do_w1,← do_w2,doW_bad8 hk,doW_bad8 hk]
  rw [e]
  exact h
def r00:R8:=⟨[],[],0⟩
theorem inv_00:Inv8 0 r00 w00:=inv_zero
end
section
variable {gs:List Nat} [OkG gs] [OkT gs]
open Go.RowKit Cal

set_option maxHeartbeats 2000000 in
theorem rowP_ac {gs:List Nat} [Ok9 gs] {f:FuncId} (hc:calleeB Tryz.prog f=true) (n:Nat) (l:List (List UInt8)) (k:Nat) (tag most:Int) {sp:StepR P2} (ok:StepOk sp) (hl:0<l.length∧l.length≤100000) (hb:sumL l≤100000) (hf:∀ l k,0<l.length∧l.length≤200000→sumL l≤100000→moreM l k=true→AC gs Tryz.prog f [rdO n l k] [.op 0 (some n) 0] (fun r H'=>r=partV (sp l k).2∧H'=[rdO n (sp l k).1.1 (sp l k).1.2])) :
  AC gs Tryz.prog 72 [rdO n l k] [.op 0 (some n) 0,.c (.int .i64 tag),.c (.int .i64 most),.fn f 0 fun _=>.top]
   (fun r H'=>r=partsC (if (endG sp (enterL tag l k) (enterR tag l k).k most).2=0 then (stG sp (enterL tag l k) (enterR tag l k).k (jG sp (enterL tag l k) (enterR tag l k).k most)).2 else [])∧H'=[rdO n (endG sp (enterL tag l k) (enterR tag l k).k most).1 (endG sp (enterL tag l k) (enterR tag l k).k most).2]):=by
 have he:=enter_mu (t:=tag) (l:=l) (k:=k) hl.1
 have hle:l.length≤(enterL tag l k).length∧(enterL tag l k).length≤l.length+1:=by
  by_cases h:(enterR tag l k).k=0
  ·have:=he.2.2.2.1 h;omega
  ·have:=he.2.2.2.2.1 h;omega
 have hsm:muS (enterL tag l k) (enterR tag l k).k≤100001:=by
  have h0:muS l k≤100001:=by unfold muS;split <;> omega
  exact Nat.le_trans he.2.1 h0
 have hse:sumL (enterL tag l k)≤100000:=by
  have h1:=he.2.1
  have h2:=he.2.2.1
  have h3:=he.1
  by_cases hk:k=0
  ·have h4:=h2 hk
   unfold muS at h4
   rw [if_pos hk] at h4
   split at h4 <;> omega
  ·rw [(h3 hk).1];exact hb
 have hnl:=now_sum l
 generalize hl0:enterL tag l k=l0 at *
 generalize hk0:(enterR tag l k).k=k0 at *
 have hso:=fun j=>stG_out sp l0 k0 j
 have hbd:=stG_bd (sp:=sp) (k0:=k0) (most:=most) ok (show 0<l0.length by omega)
 refine ac_of 36 Tryz.func72 rfl rfl rfl (fun al w0 F0 St0=>?_)
 refine jcr ?_;refine jq jrm ?_;refine jN ?_;refine jcr ?_;refine jq jrm ?_;refine jN ?_;refine jcr ?_;refine jq jrm ?_;refine jq jrm ?_
 refine jqm (jmcH 0 (enter_ac n l k tag (by omega) (by omega)) ?_)
 rintro _ _ ⟨rfl,rfl⟩
 refine ⟨_,_,rfl,cZ,?_⟩
 refine jN ?_;refine jcs ?_;refine jB ?_
 rw [hl0,hk0]
 refine jE (own_nil 9 2 (rowF 2 partE ([],[]) []) rfl) ?_;refine l_loop (α:=Nat×Option Nat) [9,13,14,15,16,17,18,19,20,21,22,23,24,25,26,27] (fun (j,g)=>[(9,.os 1 g 0 (stG sp l0 k0 j).2.length 2)]) (fun (j,g)=>[rdO n (stG sp l0 k0 j).1.1 (stG sp l0 k0 j).1.2,(g,.blk ((stG sp l0 k0 j).2.length * 2) (rowF 2 partE ([],[]) (stG sp l0 k0 j).2))]) (fun p=>∀ i,i<p.1→goB sp l0 k0 most i=true) (fun p=>muS (stG sp l0 k0 p.1).1.1 (stG sp l0 k0 p.1).1.2) ((0,none)) ?_ (fun _=>rfl) ?_ ?_ ?_
 ·exact fun i hi=>absurd hi (Nat.not_lt_zero i)
 ·exact .cons (CEnt.osI rfl) .nil
 ·exact HEnt.refl _
 ·rintro ⟨j,g⟩ (hj:∀ i,i<j→goB sp l0 k0 most i=true)
  obtain ⟨hmj,hlk,hlo,hhi⟩:=hbd j hj
  have hjl:0<(stG sp l0 k0 j).1.1.length∧(stG sp l0 k0 j).1.1.length≤200000:=by omega
  have hjo:=hso j
  have hjm:j≤100001:=by omega
  refine jcs ?_;refine jcr ?_;refine jq jrm ?_
  refine jqm (jmcH 0 (more_ac n (stG sp l0 k0 j).1.1 (stG sp l0 k0 j).1.2 (by omega)) ?_)
  rintro _ _ ⟨rfl,rfl⟩
  refine ⟨_,_,rfl,cZ,?_⟩
  refine jN ?_;refine jcc (fun h315=>?_) fun h315=>?_
  rotate_left
  ·refine jX (jte (jte (jbx (jtn ?_))))
   first
    |(have hmt:moreM (stG sp l0 k0 j).1.1 (stG sp l0 k0 j).1.2=true:=by simpa using h315
      have hkz:=(more_pos hmt).1
      rw [if_pos hkz]
      have hstop:jG sp l0 k0 most=j:=jG_one ok (by omega) hj (by unfold goB;rw [hmt,Bool.true_and,decide_eq_false_iff_not];omega)
      have hE:rdO n (leaveL (stG sp l0 k0 j).1.1 3) (leaveK (stG sp l0 k0 j).1.1 3)=rdO n (endG sp l0 k0 most).1 (endG sp l0 k0 most).2:=by
       unfold endG
       rw [hstop]
       dsimp only
       rw [if_pos hmt])
    |(have hmf:moreM (stG sp l0 k0 j).1.1 (stG sp l0 k0 j).1.2=false:=by simpa using h315
      have hstop:jG sp l0 k0 most=j:=jG_one ok (by omega) hj (by unfold goB;rw [hmf];rfl)
      have hE:rdO n (leaveL (stG sp l0 k0 j).1.1 (stG sp l0 k0 j).1.2) (leaveK (stG sp l0 k0 j).1.1 (stG sp l0 k0 j).1.2)=rdO n (endG sp l0 k0 most).1 (endG sp l0 k0 most).2:=by
       unfold endG
       rw [hstop]
       dsimp only
       rw [if_neg (by rw [hmf];simp)])
   refine jcr ?_;refine jq jrm ?_
   refine jqm (jmcH 0 (leave_ac n (stG sp l0 k0 j).1.1 _ (by omega)) ?_)
   rintro _ _ ⟨rfl,rfl⟩
   refine ⟨_,_,rfl,cZ,?_⟩
   refine jN ?_;refine jcs ?_
   dsimp only
   rw [hE,hstop]
   refine code_openR 0 rfl fun gl=>?_;refine jcr ?_;refine jq jrm ?_;refine jq jrnc ?_;refine jq (jrfa 1 1 false) ?_;refine jqo jrdo ?_;refine jq jre ?_;refine jN ?_;refine jcc (fun h323=>?_) fun h323=>?_
   ·refine jE (closeR n (endG sp l0 k0 most).2 (endG sp l0 k0 most).1 0 2 rfl rfl rfl (CEnt.osI rfl) cZ (Nat.le_refl _) (fun _ _=>cZ)) ?_;refine jcr ?_;refine jq jrm ?_;refine jN ?_
    refine jR (jtr ?_)
    exact end_ownV (.inl rfl) [0] (by decide) rfl (res_1 rfl (arv_tmp rfl)) (m:=partsC []) (CEnt.nilS' rfl) ⟨by rw [if_neg (by omega)],rfl⟩
   refine jS (jtn ?_)
   refine jE (closeR n (endG sp l0 k0 most).2 (endG sp l0 k0 most).1 0 2 rfl rfl rfl (CEnt.osI rfl) cZ (Nat.le_refl _) (fun _ _=>cZ)) ?_;refine jcr ?_;refine jq jrm ?_;refine jq jrm ?_;refine jN ?_;refine jE (freeze 1 rfl) ?_;refine jE (thaw 8 (fun a b=>partE ((stG sp l0 k0 j).2.getD a ([],[])) b) rfl rfl (by omega) (fun a b ha hb=>CEnt.of_eq (by rw [Nat.zero_add,rowF_at hb]))) ?_;refine jR ?_
   exact end_ownV (.inl rfl) [0] (by decide) rfl (res_1 rfl (arv_tmp rfl)) (m:=partsC (stG sp l0 k0 j).2) cZ ⟨by rw [if_pos (by omega)],rfl⟩
  refine jS (jtn ?_)
  refine jB ?_;refine jcs ?_;refine jcr ?_;refine jq jrm ?_;refine jq jrl ?_;refine jq jrm ?_;refine jq jrc ?_;refine jN ?_;refine jcc (fun h316=>?_) fun h316=>?_
  rotate_left
  ·refine jS (jtn ?_)
   have hmt0:moreM (stG sp l0 k0 j).1.1 (stG sp l0 k0 j).1.2=true:=by simpa using h315
   have hgo:goB sp l0 k0 most j=true:=by unfold goB;rw [hmt0,Bool.true_and,decide_eq_true_eq];omega
   refine jcg ?_;refine jq jrm ?_;refine jq jrm ?_;refine jq jrm ?_
   refine jqm (m_callHV1 (i:=0) rfl rfl (by assumption) rfl (hf (stG sp l0 k0 j).1.1 (stG sp l0 k0 j).1.2 hjl (by have h1:muS (stG sp l0 k0 j).1.1 (stG sp l0 k0 j).1.2=sumL (stG sp l0 k0 j).1.1+1:=(by unfold muS;rw [if_pos (more_pos hmt0).1]);omega) hmt0) (.cons CEnt.opI .nil) rfl rfl ?_)
   rintro _ _ ⟨rfl,rfl⟩
   refine ⟨_,rfl,?_⟩
   refine jqe (jebl 2 2 zr91 fun p3=>?_)
   refine jqm (m_appendC (rowC_row 2 partE ([],[])) (l2:=[(sp (stG sp l0 k0 j).1.1 (stG sp l0 k0 j).1.2).2]) rfl rfl rfl rfl (by exact Nat.le_refl _) (fun _ _=>cZ) (src_os rfl (.inl rfl) (by decide)) rfl (fun j hj=>by rcases j with _|_|j <;> first|exact cZ|exact CEnt.int (by omega)|(exfalso;simp at hj <;> omega)) Tryz.underlying38 nu38 sz91 zr91 by91 rfl (by (simp;omega)) (by (simp;omega)) (leaf_flk rfl rfl) rfl rfl rfl (fun p4=>?_))
   refine jq jrm ?_;refine jN ?_
   refine jbn (jtn ?_)
   refine jlend ((j+1,p4)) ?_ ?_ (h5:=?_) (h7:=?_)
   ·exact fun i hi=>if h:i<j then hj i h else (by obtain rfl:i=j:=(by have hi:i<j+1:=hi;omega);exact hgo)
   ·exact ok.mu _ _ (by omega) (by unfold goB at hgo;rw [Bool.and_eq_true] at hgo;exact hgo.1)
   ·exact .cons (CEnt.osI rfl) .nil
   ·exact HEnt.refl _
  refine jcr ?_;refine jq jrm ?_;refine jq (jrde 2) ?_
  refine jqm (jmcH 0 (fail08_ac n (stG sp l0 k0 j).1.1 (stG sp l0 k0 j).1.2 3) ?_)
  rintro _ _ ⟨rfl,rfl⟩
  refine ⟨_,_,rfl,cZ,?_⟩
  refine jN ?_
  refine jX (jte (jbx2 (jte (jbx (jtn ?_)))))
  first
   |(have hmt:moreM (stG sp l0 k0 j).1.1 (stG sp l0 k0 j).1.2=true:=by simpa using h315
     have hkz:=(more_pos hmt).1
     rw [if_pos hkz]
     have hstop:jG sp l0 k0 most=j:=jG_one ok (by omega) hj (by unfold goB;rw [hmt,Bool.true_and,decide_eq_false_iff_not];omega)
     have hE:rdO n (leaveL (stG sp l0 k0 j).1.1 3) (leaveK (stG sp l0 k0 j).1.1 3)=rdO n (endG sp l0 k0 most).1 (endG sp l0 k0 most).2:=by
      unfold endG
      rw [hstop]
      dsimp only
      rw [if_pos hmt])
   |(have hmf:moreM (stG sp l0 k0 j).1.1 (stG sp l0 k0 j).1.2=false:=by simpa using h315
     have hstop:jG sp l0 k0 most=j:=jG_one ok (by omega) hj (by unfold goB;rw [hmf];rfl)
     have hE:rdO n (leaveL (stG sp l0 k0 j).1.1 (stG sp l0 k0 j).1.2) (leaveK (stG sp l0 k0 j).1.1 (stG sp l0 k0 j).1.2)=rdO n (endG sp l0 k0 most).1 (endG sp l0 k0 most).2:=by
      unfold endG
      rw [hstop]
      dsimp only
      rw [if_neg (by rw [hmf];simp)])
  refine jcr ?_;refine jq jrm ?_
  refine jqm (jmcH 0 (leave_ac n (stG sp l0 k0 j).1.1 _ (by omega)) ?_)
  rintro _ _ ⟨rfl,rfl⟩
  refine ⟨_,_,rfl,cZ,?_⟩
  refine jN ?_;refine jcs ?_
  dsimp only
  rw [hE,hstop]
  refine code_openR 0 rfl fun gl=>?_;refine jcr ?_;refine jq jrm ?_;refine jq jrnc ?_;refine jq (jrfa 1 1 false) ?_;refine jqo jrdo ?_;refine jq jre ?_;refine jN ?_;refine jcc (fun h323=>?_) fun h323=>?_
  ·refine jE (closeR n (endG sp l0 k0 most).2 (endG sp l0 k0 most).1 0 2 rfl rfl rfl (CEnt.osI rfl) cZ (Nat.le_refl _) (fun _ _=>cZ)) ?_;refine jcr ?_;refine jq jrm ?_;refine jN ?_
   refine jR (jtr ?_)
   exact end_ownV (.inl rfl) [0] (by decide) rfl (res_1 rfl (arv_tmp rfl)) (m:=partsC []) (CEnt.nilS' rfl) ⟨by rw [if_neg (by omega)],rfl⟩
  refine jS (jtn ?_)
  refine jE (closeR n (endG sp l0 k0 most).2 (endG sp l0 k0 most).1 0 2 rfl rfl rfl (CEnt.osI rfl) cZ (Nat.le_refl _) (fun _ _=>cZ)) ?_;refine jcr ?_;refine jq jrm ?_;refine jq jrm ?_;refine jN ?_;refine jE (freeze 1 rfl) ?_;refine jE (thaw 8 (fun a b=>partE ((stG sp l0 k0 j).2.getD a ([],[])) b) rfl rfl (by omega) (fun a b ha hb=>CEnt.of_eq (by rw [Nat.zero_add,rowF_at hb]))) ?_;refine jR ?_
  exact end_ownV (.inl rfl) [0] (by decide) rfl (res_1 rfl (arv_tmp rfl)) (m:=partsC (stG sp l0 k0 j).2) cZ ⟨by rw [if_pos (by omega)],rfl⟩
theorem oidR_ac {gs:List Nat} [Ok9 gs] (n:Nat) (l:List (List UInt8)) (k:Nat) (hl:0<l.length∧l.length≤1000000) (hb:(nowL l).length≤10000000):AC gs Tryz.prog 112 [rdO n l k] [.op 0 (some n) 0] (fun r H'=>r=strC (readR aO l k).v.t∧H'=[rdO n (readR aO l k).l (readR aO l k).k]):=by
 have h:=oid08_ac (gs:=gs) n l k hl hb
 rw [readR_g vT [] rfl (t:=6) (f:=ogetM) (by decide) (by decide) (by decide) (by funext b;rfl) rfl]
 exact h
theorem textR_ac {gs:List Nat} [Ok9 gs] [OkT gs] (n:Nat) (l:List (List UInt8)) (k:Nat) (hl:0<l.length∧l.length≤1000000) (hb:(nowL l).length≤10000000):AC gs Tryz.prog 113 [rdO n l k] [.op 0 (some n) 0,.c (.int .i64 64)] (fun r H'=>r=strC (readR aT l k).v.t∧H'=[rdO n (readR aT l k).l (readR aT l k).k]):=by
 have h:=text08_ac (gs:=gs) n l k 64 hl hb
 rw [readR_g vT [] rfl (t:=12) (f:=fun b=>(if askedM b 64=0 then b else [],askedM b 64)) (by decide) (by decide) (by decide) (by funext b;rfl) rfl]
 exact h
theorem mu_sum {l:List (List UInt8)} {k B:Nat} (h:muS l k≤B):sumL l≤B:=by unfold muS at h;omega
theorem read_bd (a:AA) {l:List (List UInt8)} {k m B:Nat} (hl:0<l.length∧l.length≤m) (hb:muS l k≤B) (h2:a.kind≠2):(0<(readR a l k).l.length∧(readR a l k).l.length≤m+1)∧muS (readR a l k).l (readR a l k).k≤B:=by
 obtain ⟨a1,a2,a3,a4,a5,a6,a7⟩:=read_mu a (l:=l) (k:=k) hl.1
 refine ⟨?_,by omega⟩
 by_cases h1:a.kind=1
 ·obtain ⟨a41,a42⟩:=a4 h1
  by_cases h:(readR a l k).k=0
  ·have:=a41 h;omega
  ·have:=a42 h;omega
 ·have:=a6 h1 h2;omega
theorem now_le {l:List (List UInt8)} {k B:Nat} (h:muS l k≤B):(nowL l).length≤B:=Nat.le_trans (now_sum l) (mu_sum h)
theorem npart_ac {gs:List Nat} [Ok9 gs] [OkT gs] (n:Nat) (l:List (List UInt8)) (k:Nat) (hl:0<l.length∧l.length≤200000) (hb:sumL l≤100000):AC gs Tryz.prog 73 [rdO n l k] [.op 0 (some n) 0] (fun r H'=>r=partV (partSp l k).2∧H'=[rdO n (partSp l k).1.1 (partSp l k).1.2]):=by
 have m0:muS l k≤100001:=by unfold muS;split <;> omega
 obtain ⟨f1,f2⟩:=read_enter aL rfl l k
 obtain ⟨l1,m1⟩:=read_bd aL hl m0 (by decide)
 obtain ⟨l2,m2⟩:=read_bd aO l1 m1 (by decide)
 obtain ⟨l3,m3⟩:=read_bd aT l2 m2 (by decide)
 obtain ⟨f3,f4⟩:=read_leave aE rfl (readR aT (readR aO (readR aL l k).l (readR aL l k).k).l (readR aO (readR aL l k).l (readR aL l k).k).k).l (readR aT (readR aO (readR aL l k).l (readR aL l k).k).l (readR aO (readR aL l k).l (readR aL l k).k).k).k
 have n0:=now_le m0
 have n1:=now_le m1
 have n2:=now_le m2
 have n3:=now_le m3
 have hE:AC gs Tryz.prog 34 [rdO n l k] [.op 0 (some n) 0,.c (.int .i64 48)] (fun r H'=>r=.c (.bool (enterR 48 l k).is)∧H'=[rdO n (readR aL l k).l (readR aL l k).k]):=by
  rw [f1,f2]
  exact enter_ac n l k 48 (by omega) (by omega)
 have hL:=leave_ac (gs:=gs) n (readR aT (readR aO (readR aL l k).l (readR aL l k).k).l (readR aO (readR aL l k).l (readR aL l k).k).k).l (readR aT (readR aO (readR aL l k).l (readR aL l k).k).l (readR aO (readR aL l k).l (readR aL l k).k).k).k (by omega)
 rw [← f3,← f4] at hL
 refine ac_of 14 Tryz.func73 rfl rfl rfl (fun al w0 F0 St0=>?_)
 refine jcr ?_
 refine jqe (jeal (n:=2) zr91 rfl fun p1=>?_)
 refine jN ?_;refine jcr ?_;refine jq jrm ?_
 refine jqm (jmcH 0 hE ?_)
 rintro _ _ ⟨rfl,rfl⟩
 refine ⟨_,_,rfl,cZ,?_⟩
 refine jN ?_;refine jcr ?_;refine jq jrm ?_
 refine jqm (jmcH 0 (oidR_ac n (readR aL l k).l (readR aL l k).k (by omega) (by omega)) ?_)
 rintro _ _ ⟨rfl,rfl⟩
 refine ⟨_,_,rfl,cZ,?_⟩
 refine jq jrm ?_
 refine jqm (jmcH 0 (textR_ac n (readR aO (readR aL l k).l (readR aL l k).k).l (readR aO (readR aL l k).l (readR aL l k).k).k (by omega) (by omega)) ?_)
 rintro _ _ ⟨rfl,rfl⟩
 refine ⟨_,_,rfl,cZ,?_⟩
 refine jq (rd_build (n:=2) rfl zr91 pl91 rfl rfl) ?_
 refine jqe (jeal (n:=2) zr91 rfl fun p5=>?_)
 refine jqm (jmst 2 ?_)
 refine jN ?_;refine jcr ?_;refine jq jrm ?_
 refine jqm (jmcH 0 hL ?_)
 rintro _ _ ⟨rfl,rfl⟩
 refine ⟨_,_,rfl,cZ,?_⟩
 refine jN ?_;refine jcr ?_;refine jqo (jrdoA 2) ?_
 refine jqm (jmst 2 ?_)
 refine jN ?_;refine jR ?_
 exact end_H (.inl rfl) rfl (res_1 rfl (javA 2)) (CEnt.agg rfl (fun j hj=>by rcases j with _|_|j <;> first|exact cZ|omega))
set_option maxHeartbeats 1000000 in
theorem nget_ac (n:Nat) (l:List (List UInt8)) (k:Nat) (hl:0<l.length∧l.length≤100000) (hb:sumL l≤100000):AC gs Tryz.prog 36 [rdO n l k] [.op 0 (some n) 0] (fun r H'=>r=subjC (getS l k).2∧H'=[rdO n (getS l k).1.1 (getS l k).1.2]):=by
 have hR:=rowP_ac (gs:=gs) (f:=73) (by kernel_rfl) n l k 48 8 part_ok hl hb (fun l k h1 h2 _=>npart_ac n l k h1 h2)
 have hlen:(listP l k).length≤1000000:=by
  have h1:=jG_stop (sp:=partSp) (l0:=enterL 48 l k) (k0:=(enterR 48 l k).k) (most:=8) part_ok (by
   obtain ⟨_,_,_,e4,e5,_⟩:=enter_mu (t:=48) (l:=l) (k:=k) hl.1
   by_cases h0:(enterR 48 l k).k=0
   ·rw [e4 h0];omega
   ·rw [e5 h0];omega)
  have h2:=stG_out partSp (enterL 48 l k) (enterR 48 l k).k (jG partSp (enterL 48 l k) (enterR 48 l k).k 8)
  have h3:(listP l k).length=jG partSp (enterL 48 l k) (enterR 48 l k).k 8:=h2
  rw [h3]
  rcases Nat.eq_zero_or_pos (jG partSp (enterL 48 l k) (enterR 48 l k).k 8) with hz|hz
  ·omega
  ·have hg:=h1.1 (jG partSp (enterL 48 l k) (enterR 48 l k).k 8-1) (by omega)
   unfold goB at hg
   rw [Bool.and_eq_true,decide_eq_true_eq] at hg
   omega
 have hR':AC gs Tryz.prog 72 [rdO n l k] [.op 0 (some n) 0,.c (.int .i64 48),.c (.int .i64 8),.fn 73 0 fun _=>.top] (fun r H'=>r=partsC (if (endP l k).2=0 then listP l k else [])∧H'=[rdO n (endP l k).1 (endP l k).2]):=hR
 have hO:=nof_ac (gs:=gs) (listP l k) hlen
 refine ac_of 21 Tryz.func36 rfl rfl rfl (fun al w0 F0 St0=>?_)
 refine jcr ?_
 refine jqe (jeal (n:=3) zr26 rfl fun p1=>?_)
 refine jN ?_;refine jcr ?_;refine jq jrm ?_
 refine jqm (jmcH 0 (hR') ?_ (ho:=rfl) (he:=(.cons (se rfl CEnt.opI) (.cons (se rfl cZ) (.cons (se rfl cZ) (.cons (se rfl CEnt.fn0) .nil))))))
 rintro _ _ ⟨rfl,rfl⟩
 refine ⟨_,_,rfl,cZ,?_⟩
 refine jq jrm ?_;refine jN ?_;refine jcs ?_;refine jcr ?_;refine jq jrm ?_
 refine jqm (jmcH 0 (err08_ac n (endP l k).1 (endP l k).2) ?_)
 rintro _ _ ⟨rfl,rfl⟩
 refine ⟨_,_,rfl,cZ,?_⟩
 refine jq jre ?_;refine jN ?_;refine jcc (fun h117=>?_) fun h117=>?_
 ·refine jcr ?_;refine jq (rd_build (n:=3) rfl zr26 pl26 rfl rfl) ?_
  refine jqm (jmst 3 ?_)
  refine jN ?_
  refine jR (jtr ?_)
  rw [show getS l k=(endP l k,zeroS) by unfold getS;rw [if_pos (by omega)]]
  exact end_H (.inl rfl) rfl (res_1 rfl (javA 3)) (CEnt.agg rfl (fun j hj=>by rcases j with _|_|_|j <;> first|exact cZ|omega))
 refine jS (jtn ?_)
 have hz:(endP l k).2=0:=by omega
 rw [if_pos hz]
 refine jcr ?_;refine jq jrm ?_
 refine jqe (jecP hO ?_)
 refine jq jrm ?_;refine jq jrx ?_;refine jq jrx ?_
 refine jqe (jeal (n:=3) zr26 rfl fun p4=>?_)
 refine jqm (jmst 3 ?_)
 refine jq jrm ?_;refine jN ?_;refine jcr ?_;refine jq jrm ?_;refine jq jrm ?_
 refine jqm (jmcH 0 (fail08_ac n (endP l k).1 (endP l k).2 (ofP (listP l k)).2) ?_)
 rintro _ _ ⟨rfl,rfl⟩
 refine ⟨_,_,rfl,cZ,?_⟩
 refine jN ?_;refine jcr ?_;refine jqo (jrdoA 3) ?_
 refine jqm (jmst 3 ?_)
 refine jN ?_;refine jR ?_
 rw [if_pos hz,show getS l k=(((endP l k).1,(ofP (listP l k)).2),(ofP (listP l k)).1) by unfold getS;rw [if_neg (by omega)]]
 exact end_H (.inl rfl) rfl (res_1 rfl (javA 3)) (CEnt.agg rfl (fun j hj=>by rcases j with _|_|_|j <;> first|exact cZ|omega))
theorem getS_len (l:List (List UInt8)) (k:Nat) (hl:0<l.length):0<(getS l k).1.1.length∧(getS l k).1.1.length≤l.length+17:=by
 have hE:(getS l k).1.1=(endP l k).1:=by unfold getS;split <;> rfl
 have he:0<(enterL 48 l k).length∧(enterL 48 l k).length≤l.length+1:=by
  obtain ⟨_,_,_,e4,e5,_⟩:=enter_mu (t:=48) (l:=l) (k:=k) hl
  by_cases h0:(enterR 48 l k).k=0
  ·rw [e4 h0];omega
  ·rw [e5 h0];omega
 have hs:=jG_stop (sp:=partSp) (l0:=enterL 48 l k) (k0:=(enterR 48 l k).k) (most:=8) part_ok he.1
 have hb:=stG_bd (sp:=partSp) (l0:=enterL 48 l k) (k0:=(enterR 48 l k).k) (most:=8) part_ok he.1 _ hs.1
 have lv:∀ (l':List (List UInt8)) (k':Nat),0<l'.length→0<(leaveL l' k').length∧(leaveL l' k').length≤l'.length:=fun l' k' h=>by
  obtain ⟨_,_,f3,f4⟩:=leave_mu (l:=l') (k:=k') h
  by_cases h0:leaveK l' k'=0
  ·have:=f3 h0;omega
  ·rw [f4 h0];omega
 rw [hE]
 unfold endP endG
 dsimp only
 split
 ·have:=lv (stG partSp (enterL 48 l k) (enterR 48 l k).k (jG partSp (enterL 48 l k) (enterR 48 l k).k 8)).1.1 3 (by omega)
  dsimp only
  omega
 ·have:=lv (stG partSp (enterL 48 l k) (enterR 48 l k).k (jG partSp (enterL 48 l k) (enterR 48 l k).k 8)).1.1 (stG partSp (enterL 48 l k) (enterR 48 l k).k (jG partSp (enterL 48 l k) (enterR 48 l k).k 8)).1.2 (by omega)
  dsimp only
  omega
end
section
open Go.RowKit
def mB (at_:Nat):Nat:=if at_=0 then 2147483727 else 2147483647
def glueN (l:List Nat) (p:List Nat×Nat):List Nat×Nat:=if p.2≠0 then ([],p.2) else (l++p.1,0)
theorem nums_bad {most:Nat} {b:List UInt8} {e:Nat} (h:b≠[]) (he:(numM (b.take (runLen b)) most).2=e) (h0:e≠0):numsM most b=([],e):=by
 rw [numsM,dif_neg h,he,if_pos h0]
theorem nums_good {most:Nat} {b:List UInt8} {n:Nat} (h:b≠[]) (he:numM (b.take (runLen b)) most=(n,0)):numsM most b=glueN [n] (numsM 2147483647 (b.drop (runLen b))):=by
 rw [numsM,dif_neg h,he,if_neg (by simp)]
 unfold glueN
 split <;> rfl
theorem glue_glue (l:List Nat) (n:Nat) (p:List Nat×Nat):glueN l (glueN [n] p)=glueN (l++[n]) p:=by
 unfold glueN
 by_cases h:p.2≠0
 ·simp [h]
 ·simp [h]
theorem runLen_all:∀ {l:List UInt8},(∀ c ∈ l,128≤c.toNat)→runLen l=l.length
 | [],_=>rfl
 | c::l,h=>by
  have:=h c List.mem_cons_self
  rw [runLen,if_neg (by omega),runLen_all fun d hd=>h d (List.mem_cons_of_mem _ hd)]
  simp;omega
theorem mem_take_get {b:List UInt8} {a e:Nat} (he:e≤b.length) (h:∀ j,a≤j→j<e→128≤(b.getD j 0).toNat):∀ c ∈ (b.drop a).take (e-a),128≤c.toNat:=fun c hc=>by
 obtain ⟨k,hk⟩:=List.mem_iff_getElem?.1 hc
 rw [List.getElem?_take] at hk
 split at hk
 ·rename_i h1
  rw [List.getElem?_drop] at hk
  have:=h (a+k) (by omega) (by omega)
  rw [List.getD_eq_getElem?_getD,hk] at this
  exact this
 ·cases hk
theorem run_open {b:List UInt8} {a:Nat} (ha:a<b.length) (h:∀ j,a≤j→j<b.length→128≤(b.getD j 0).toNat) (most:Nat):(numM ((b.drop a).take (runLen (b.drop a))) most).2=2:=by
 have hall:=mem_take_get (Nat.le_refl _) h
 rw [show (b.drop a).take (b.length-a)=b.drop a by rw [← List.length_drop,List.take_length]] at hall
 rw [runLen_all hall,List.take_length]
 unfold numM
 have hl:0<(b.drop a).length:=by rw [List.length_drop];omega
 rw [if_pos (hall _ (by rw [List.getD_eq_getElem?_getD,List.getElem?_eq_getElem (by omega)];exact List.getElem_mem _))]
theorem run_end {b:List UInt8} {a e:Nat} (ha:a≤e) (he:e<b.length) (h:∀ j,a≤j→j<e→128≤(b.getD j 0).toNat) (hx:(b.getD e 0).toNat<128):runLen (b.drop a)=e-a+1∧(b.drop a).take (e-a+1)=(b.drop a).take (e-a)++[b.getD e 0]:=by
 have hall:=mem_take_get (by omega) h
 have hge:(b.drop a)[e-a]?=some (b.getD e 0):=by
  rw [List.getElem?_drop,show a+(e-a)=e by omega,List.getD_eq_getElem?_getD,List.getElem?_eq_getElem he];rfl
 have hlt:e-a<(b.drop a).length:=by rw [List.length_drop];omega
 have hd:b.drop a=(b.drop a).take (e-a)++b.getD e 0::(b.drop a).drop (e-a+1):=by
  conv=>lhs;rw [← List.take_append_drop (e-a) (b.drop a)]
  rw [List.drop_eq_getElem_cons hlt]
  congr 2
  have:=List.getElem?_eq_getElem hlt
  rw [hge] at this
  exact (Option.some.inj this).symm
 refine ⟨?_,?_⟩
 ·rw [hd,runLen_app hall _ hx,List.length_take,List.length_drop]
  omega
 ·rw [List.take_succ_eq_append_getElem hlt]
  congr 2
  have:=List.getElem?_eq_getElem hlt
  rw [hge] at this
  exact (Option.some.inj this).symm
theorem num_at {b:List UInt8} {a e:Nat} {most:Nat} (ha:a≤e) (he:e<b.length) (h:∀ j,a≤j→j<e→128≤(b.getD j 0).toNat) (hx:(b.getD e 0).toNat<128) :
  numM ((b.drop a).take (runLen (b.drop a))) most=if (b.getD a 0).toNat=128 then (0,4) else if most<valSO ((b.drop a).take (e-a+1)) then (0,1) else (valSO ((b.drop a).take (e-a+1)),0):=by
 obtain ⟨h1,h2⟩:=run_end ha he h hx
 rw [h1]
 have hl:((b.drop a).take (e-a+1)).length=e-a+1:=by rw [List.length_take,List.length_drop];omega
 have hlast:((b.drop a).take (e-a+1)).getD (((b.drop a).take (e-a+1)).length-1) 0=b.getD e 0:=by
  rw [hl,h2,List.getD_eq_getElem?_getD,List.getElem?_append_right (by rw [List.length_take,List.length_drop];omega),List.length_take,List.length_drop]
  rw [show e-a+1-1-min (e-a) (b.length-a)=0 by omega]
  rfl
 have hfirst:((b.drop a).take (e-a+1)).getD 0 0=b.getD a 0:=by
  rw [List.getD_eq_getElem?_getD,List.getElem?_take,if_pos (by omega),List.getElem?_drop,Nat.add_zero,List.getD_eq_getElem?_getD]
 unfold numM
 rw [hlast,hfirst,if_neg (by omega)]
theorem val_step {b:List UInt8} {a k:Nat} (h:a+k<b.length):valSO ((b.drop a).take (k+1))=valSO ((b.drop a).take k) * 128+(b.getD (a+k) 0).toNat % 128:=by
 have hlt:k<(b.drop a).length:=by rw [List.length_drop];omega
 rw [List.take_succ_eq_append_getElem hlt,valSO_snoc,List.getElem_drop,List.getD_eq_getElem?_getD,List.getElem?_eq_getElem h]
 rfl
theorem step_keep {b:List UInt8} {a k e n M:Nat} (he:e<b.length) (hk:a+k≤e) (hk2:k≤e-a+1) (h1:n≤M→valSO ((b.drop a).take k)=n) (h2:M<n→M<valSO ((b.drop a).take k)) (h3:n≤M * 128+127) :
  k+1≤e-a+1∧((if n≤M then n * 128+(b.getD (a+k) 0).toNat % 128 else n)≤M→valSO ((b.drop a).take (k+1))=if n≤M then n * 128+(b.getD (a+k) 0).toNat % 128 else n) ∧
   (M<(if n≤M then n * 128+(b.getD (a+k) 0).toNat % 128 else n)→M<valSO ((b.drop a).take (k+1)))∧(if n≤M then n * 128+(b.getD (a+k) 0).toNat % 128 else n)≤M * 128+127:=by
 rw [val_step (by omega)]
 by_cases h:n≤M
 ·rw [if_pos h,h1 h]
  exact ⟨by omega,fun _=>rfl,fun h=>h,by omega⟩
 ·rw [if_neg h]
  have:=h2 (by omega)
  exact ⟨by omega,fun h=>by omega,fun _=>by omega,h3⟩
def ofN (l:List Nat):List Int:=l.map Int.ofNat
theorem getA_of {b:List UInt8} {e:Nat} (hb:b≠[]) (h:numsM 2147483727 b=([],e)) (he:e≠0):getA b=([],e):=by
 unfold getA
 rw [if_neg hb,h,if_pos he]
theorem getA_ok {b:List UInt8} {l:List Nat} (hb:b≠[]) (h:numsM 2147483727 b=(l,0)):getA b=if rightA (arcsOf l)=false then ([],1) else (arcsOf l,0):=by
 unfold getA
 rw [if_neg hb,h,if_neg (by simp)]
theorem in_drop {l:List Int} {j:Nat}:inF l (1+j)=inF (l.drop 1) j:=by simp [inF,List.getD_eq_getElem?_getD,Nat.add_comm 1 j]
structure AtN (b:List UInt8) (a:Nat) (nums:List Nat):Prop where
 le:a≤b.length
 n0:nums.length≤a
 ne:a≠0→nums≠[]
 bd:∀ n ∈ nums,n≤2147483727
 eq:numsM 2147483727 b=glueN nums (numsM (mB a) (b.drop a))
theorem atN_zero (b:List UInt8):AtN b 0 []:=⟨Nat.zero_le _,Nat.le_refl _,fun h=>absurd rfl h,fun _ h=>by simp at h,by
 rw [List.drop_zero]
 show _=glueN [] (numsM 2147483727 b)
 unfold glueN
 split
 ·rename_i h
  generalize hp:numsM 2147483727 b=p at h ⊢
  obtain ⟨x,y⟩:=p
  have hx:x=[]:=by
   have hp':=hp
   rw [numsM] at hp'
   split at hp'
   ·cases hp';rfl
   ·split at hp'
    ·cases hp';rfl
    ·split at hp'
     ·cases hp';rfl
     ·cases hp';exact absurd rfl h
  rw [hx]
 ·rename_i h
  generalize hp:numsM 2147483727 b=p at h ⊢
  obtain ⟨x,y⟩:=p
  have:y=0:=by simpa using h
  rw [this];rfl⟩
theorem drop_ne {b:List UInt8} {a:Nat} (h:a<b.length):b.drop a≠[]:=fun e=>by
 have:=congrArg List.length e
 rw [List.length_drop] at this
 simp at this;omega
theorem atN_bad {b:List UInt8} {a:Nat} {nums:List Nat} (h:AtN b a nums) (ha:a<b.length) {e:Nat} (he:(numM ((b.drop a).take (runLen (b.drop a))) (mB a)).2=e) (h0:e≠0):getA b=([],e):=by
 refine getA_of (fun hb=>by rw [hb] at ha;simp at ha) ?_ h0
 rw [h.eq,nums_bad (drop_ne ha) he h0]
 unfold glueN
 rw [if_pos h0]
theorem numM_le {r:List UInt8} {most n:Nat} (h:numM r most=(n,0)):n≤most:=by
 unfold numM at h
 split at h
 ·cases h
 ·split at h
  ·cases h
  ·split at h
   ·cases h
   ·cases h;omega
theorem atN_next {b:List UInt8} {a e n:Nat} {nums:List Nat} (h:AtN b a nums) (ha:a≤e) (he:e<b.length) (hj:∀ j,a≤j→j<e→128≤(b.getD j 0).toNat) (hx:(b.getD e 0).toNat<128) (hn:numM ((b.drop a).take (runLen (b.drop a))) (mB a)=(n,0)):AtN b (a+(e-a+1)) (nums++[n]):=by
 have hr:=(run_end ha he hj hx).1
 refine ⟨by omega,by rw [List.length_append,List.length_singleton];have:=h.n0;omega,fun _ hh=>by simp at hh,fun m hm=>?_,?_⟩
 ·rcases List.mem_append.1 hm with hm|hm
  ·exact h.bd m hm
  ·rw [List.mem_singleton.1 hm]
   have hmb:mB a≤2147483727:=by unfold mB;split <;> omega
   have hle:=numM_le hn
   omega
 rw [h.eq,nums_good (drop_ne (by omega)) hn,glue_glue,List.drop_drop,hr]
 have hm:mB (a+(e-a+1))=2147483647:=by unfold mB;rw [if_neg (by omega)]
 rw [hm]
set_option maxHeartbeats 2000000 in
theorem rget05_ac {gs:List Nat} (b:List UInt8) (hb:b.length≤1000000):ACp gs Tryz.prog 107 [bsC b] (.tup 2 (fl [isC (getA b).1,.c (.int .i64 ((getA b).2:Nat))])):=by
 refine ac_of 93 Tryz.func107 rfl rfl rfl (fun al w0 F0 St0=>?_)
 refine jcr ?_;refine jq jrm ?_;refine jq jrm ?_;refine jN ?_;refine jcs ?_;refine jcr ?_;refine jq jrm ?_;refine jq jrl ?_;refine jq jrc ?_;refine jN ?_;refine jcc (fun h88=>?_) fun h88=>?_
 ·refine jcr ?_;refine jq jrm ?_;refine jq jrm ?_;refine jN ?_
  refine jR (jtr (jrt (hv:=CEnt.tup2 (by rw [show b=[] from List.eq_nil_of_length_eq_zero (by omega),getA_nil];exact CEnt.nilS _ _) (CEnt.int (by rw [show b=[] from List.eq_nil_of_length_eq_zero (by omega),getA_nil];rfl)))))
 refine jS (jtn ?_)
 refine jcr ?_
 refine jqe (jebl 0 1 zr3 fun p1=>?_)
 refine jq jrm ?_;refine jN ?_;refine jcr ?_;refine jq jrm ?_;refine jN ?_;refine jcs ?_;refine jB ?_;refine l_loop (α:=Nat×List Nat×Option Nat) [2,3,4,5,6,7,8,15,16,17,18,19,20,21,22,23,24,25,26,27,28,29,30,31,32,33,34,35,36,37,38,39,40,41,42,43,44,45,46,47,48,49,50,51,52,53,54,55,56,57,58,59,60,61,62,63,64,65,66,67,68,69] (fun (a,nums,g)=>[(4,.os 0 g 0 (ofN nums).length 1),(5,.c (.int .i64 (a:Nat)))]) (fun (a,nums,g)=>[(g,.blk (ofN nums).length (inF (ofN nums)))]) (fun p=>AtN b p.1 p.2.1) (fun p=>b.length-p.1) ((0,[],p1)) ?_ (fun _=>rfl) ?_ ?_ ?_
 ·exact atN_zero b
 ·exact .cons (CEnt.osI rfl) (.cons cZ .nil)
 ·exact .blk rfl (fun j hj=>absurd hj (Nat.not_lt_zero j)) .nil
 ·rintro ⟨a,nums,g⟩ (hA:AtN b a nums)
  show ACode _ _ _ ⟨[(4,.os 0 g 0 (ofN nums).length 1),(5,.c (.int .i64 (a:Nat)))],_,[(g,.blk (ofN nums).length (inF (ofN nums)))]⟩ _
  have hle:=hA.le
  have hnl:=hA.n0
  have hol:(ofN nums).length=nums.length:=by simp [ofN]
  refine jcs ?_;refine jcr ?_;refine jq jrm ?_;refine jq jrm ?_;refine jq jrl ?_;refine jq jrc ?_;refine jN ?_;refine jcc (fun h93=>?_) fun h93=>?_
  rotate_left
  ·refine jX (jte (jte (jbx (jtn ?_))))
   have hae2:a=b.length:=by omega
   have hb0:b≠[]:=fun h=>by rw [h] at hae2;simp at hae2;omega
   have hnn:nums≠[]:=hA.ne (fun h=>hb0 (List.eq_nil_of_length_eq_zero (by omega)))
   obtain ⟨x,xs,rfl⟩:∃ x xs,nums=x::xs:=by
     cases nums with
     | nil=>exact absurd rfl hnn
     | cons x xs=>exact ⟨x,xs,rfl⟩
   have hok:numsM 2147483727 b=(x::xs,0):=by
    rw [hA.eq,hae2,List.drop_length,numsM,dif_pos rfl]
    simp [glueN]
   have hxl:(ofN (x::xs)).length=xs.length+1:=by simp [ofN]
   have hx0:(ofN (x::xs)).getD 0 0=(x:Int):=rfl
   have hxb:=hA.bd x List.mem_cons_self
   have hga:=getA_ok hb0 hok
   refine jE (freeze 0 rfl) ?_;refine jE (thawIL 4 (ofN (x::xs)) rfl rfl rfl (Nat.ble_eq_true_of_le (Nat.le_refl _)) (fun _ _=>cZ)) ?_;refine jcr ?_;refine jq jrm ?_;refine jN ?_;refine jcs ?_;refine jcr ?_;refine jq jrm ?_;refine jq (jri (i:=0)) ?_;refine jq jrdr ?_;refine jq jrc ?_;refine jN ?_;refine jcc (fun h120=>?_) fun h120=>?_
   ·refine jcg ?_;refine jq jrm ?_;refine jN ?_;refine jtn ?_;refine jcs ?_
    first
     |(have hF:((min (x / 40) 2:Nat):Int)=0:=by omega
       refine jE (weaken 9 (.c (.int .i64 ((min (x / 40) 2:Nat):Int))) (CEnt.int (by omega))) ?_)
     |(have hF:((min (x / 40) 2:Nat):Int)=1:=by omega
       refine jE (weaken 9 (.c (.int .i64 ((min (x / 40) 2:Nat):Int))) (CEnt.int (by omega))) ?_)
     |(have hF:((min (x / 40) 2:Nat):Int)=2:=by omega
       refine jE (weaken 9 (.c (.int .i64 ((min (x / 40) 2:Nat):Int))) (CEnt.int (by omega))) ?_)
    refine jcdB 10 (.rd 0 (.rd 1 (.rd 2 (.rd 3 (.rd 4 (.rd 5 (.rd 6 (.rd 8 (.rd 9 (.one 7 .done)))))))))) ?_;refine jyq jrm ?_;refine jyq jrm ?_;refine jyq (jri (i:=0)) ?_;refine jyq jrdr ?_;refine jyq jrm ?_;refine jyq jra ?_;refine jyq jra ?_;refine jyq jrm ?_;refine jyq (jrsr (hl:=(bd_some rfl (show (1:Int)=((1:Nat):Int) from rfl))) (hu:=(bd_none _ _))) ?_
    refine jye (jebl 2 1 zr3 fun p2=>?_)
    refine jyd ?_
    show ASeq _ _ _ _ _ _
    refine jqm (m_appendC rowC_in (l:=[((min (x / 40) 2:Nat):Int),(x:Int)-40 * ((min (x / 40) 2:Nat):Int)]) (l2:=ofN xs) rfl rfl rfl rfl (by simp) (fun j hj=>by rcases j with _|_|j <;> first|exact cZ|exact CEnt.int (by omega)|(exfalso;simp at hj;omega)) (src_rs rfl) (by simp [ofN]) (fun j hj=>by simp only [Nat.div_one];exact CEnt.of_eq in_drop) Tryz.underlying51 nu51 sz3 zr3 by3 rfl (by simp [ofN];omega) (by simp [ofN];omega) (fun j hj=>rfl) rfl rfl (Nat.mul_one _) (fun p3=>?_))
    refine jq jrm ?_;refine jN ?_;refine jtn ?_;refine jcs ?_;refine jE (freeze 1 rfl) ?_;refine jE (thawIL 10 (arcsOf (x::xs)) rfl rfl rfl (Nat.ble_eq_true_of_le (Nat.le_refl _)) (fun _ _=>cZ)) ?_;refine jcr ?_;refine jq jrm ?_
    refine jqe (jecP (rright5_ac (arcsOf (x::xs))) ?_)
    refine jq jrn ?_;refine jN ?_;refine jcc (fun h126=>?_) fun h126=>?_
    ·refine jcr ?_;refine jq jrm ?_;refine jq jrm ?_;refine jN ?_
     refine jR (jtr (jrt (hv:=?_)))
     have hb:getA b=([],1):=by rw [hga,if_pos (by simpa using h126)]
     rw [hb]
     exact CEnt.tup2 (CEnt.nilS _ _) cZ
    refine jS (jtn ?_)
    refine jcr ?_;refine jq jrm ?_;refine jq jrm ?_;refine jq jrm ?_;refine jN ?_
    refine jR (jrt (hv:=?_))
    have hb:getA b=(arcsOf (x::xs),0):=by rw [hga,if_neg (by simpa using h126)]
    rw [hb]
    exact CEnt.tup2 cZ cZ
   refine jcr ?_;refine jq jrm ?_;refine jq (jri (i:=0)) ?_;refine jq jrdr ?_;refine jq jrc ?_;refine jN ?_;refine jcc (fun h122=>?_) fun h122=>?_
   rotate_left
   ·refine jS (jtn ?_)
    refine jcs ?_
    first
     |(have hF:((min (x / 40) 2:Nat):Int)=0:=by omega
       refine jE (weaken 9 (.c (.int .i64 ((min (x / 40) 2:Nat):Int))) (CEnt.int (by omega))) ?_)
     |(have hF:((min (x / 40) 2:Nat):Int)=1:=by omega
       refine jE (weaken 9 (.c (.int .i64 ((min (x / 40) 2:Nat):Int))) (CEnt.int (by omega))) ?_)
     |(have hF:((min (x / 40) 2:Nat):Int)=2:=by omega
       refine jE (weaken 9 (.c (.int .i64 ((min (x / 40) 2:Nat):Int))) (CEnt.int (by omega))) ?_)
    refine jcdB 10 (.rd 0 (.rd 1 (.rd 2 (.rd 3 (.rd 4 (.rd 5 (.rd 6 (.rd 8 (.rd 9 (.one 7 .done)))))))))) ?_;refine jyq jrm ?_;refine jyq jrm ?_;refine jyq (jri (i:=0)) ?_;refine jyq jrdr ?_;refine jyq jrm ?_;refine jyq jra ?_;refine jyq jra ?_;refine jyq jrm ?_;refine jyq (jrsr (hl:=(bd_some rfl (show (1:Int)=((1:Nat):Int) from rfl))) (hu:=(bd_none _ _))) ?_
    refine jye (jebl 2 1 zr3 fun p2=>?_)
    refine jyd ?_
    show ASeq _ _ _ _ _ _
    refine jqm (m_appendC rowC_in (l:=[((min (x / 40) 2:Nat):Int),(x:Int)-40 * ((min (x / 40) 2:Nat):Int)]) (l2:=ofN xs) rfl rfl rfl rfl (by simp) (fun j hj=>by rcases j with _|_|j <;> first|exact cZ|exact CEnt.int (by omega)|(exfalso;simp at hj;omega)) (src_rs rfl) (by simp [ofN]) (fun j hj=>by simp only [Nat.div_one];exact CEnt.of_eq in_drop) Tryz.underlying51 nu51 sz3 zr3 by3 rfl (by simp [ofN];omega) (by simp [ofN];omega) (fun j hj=>rfl) rfl rfl (Nat.mul_one _) (fun p3=>?_))
    refine jq jrm ?_;refine jN ?_;refine jtn ?_;refine jcs ?_;refine jE (freeze 1 rfl) ?_;refine jE (thawIL 10 (arcsOf (x::xs)) rfl rfl rfl (Nat.ble_eq_true_of_le (Nat.le_refl _)) (fun _ _=>cZ)) ?_;refine jcr ?_;refine jq jrm ?_
    refine jqe (jecP (rright5_ac (arcsOf (x::xs))) ?_)
    refine jq jrn ?_;refine jN ?_;refine jcc (fun h126=>?_) fun h126=>?_
    ·refine jcr ?_;refine jq jrm ?_;refine jq jrm ?_;refine jN ?_
     refine jR (jtr (jrt (hv:=?_)))
     have hb:getA b=([],1):=by rw [hga,if_pos (by simpa using h126)]
     rw [hb]
     exact CEnt.tup2 (CEnt.nilS _ _) cZ
    refine jS (jtn ?_)
    refine jcr ?_;refine jq jrm ?_;refine jq jrm ?_;refine jq jrm ?_;refine jN ?_
    refine jR (jrt (hv:=?_))
    have hb:getA b=(arcsOf (x::xs),0):=by rw [hga,if_neg (by simpa using h126)]
    rw [hb]
    exact CEnt.tup2 cZ cZ
   refine jcg ?_;refine jq jrm ?_;refine jN ?_;refine jtn ?_;refine jcs ?_
   first
    |(have hF:((min (x / 40) 2:Nat):Int)=0:=by omega
      refine jE (weaken 9 (.c (.int .i64 ((min (x / 40) 2:Nat):Int))) (CEnt.int (by omega))) ?_)
    |(have hF:((min (x / 40) 2:Nat):Int)=1:=by omega
      refine jE (weaken 9 (.c (.int .i64 ((min (x / 40) 2:Nat):Int))) (CEnt.int (by omega))) ?_)
    |(have hF:((min (x / 40) 2:Nat):Int)=2:=by omega
      refine jE (weaken 9 (.c (.int .i64 ((min (x / 40) 2:Nat):Int))) (CEnt.int (by omega))) ?_)
   refine jcdB 10 (.rd 0 (.rd 1 (.rd 2 (.rd 3 (.rd 4 (.rd 5 (.rd 6 (.rd 8 (.rd 9 (.one 7 .done)))))))))) ?_;refine jyq jrm ?_;refine jyq jrm ?_;refine jyq (jri (i:=0)) ?_;refine jyq jrdr ?_;refine jyq jrm ?_;refine jyq jra ?_;refine jyq jra ?_;refine jyq jrm ?_;refine jyq (jrsr (hl:=(bd_some rfl (show (1:Int)=((1:Nat):Int) from rfl))) (hu:=(bd_none _ _))) ?_
   refine jye (jebl 2 1 zr3 fun p2=>?_)
   refine jyd ?_
   show ASeq _ _ _ _ _ _
   refine jqm (m_appendC rowC_in (l:=[((min (x / 40) 2:Nat):Int),(x:Int)-40 * ((min (x / 40) 2:Nat):Int)]) (l2:=ofN xs) rfl rfl rfl rfl (by simp) (fun j hj=>by rcases j with _|_|j <;> first|exact cZ|exact CEnt.int (by omega)|(exfalso;simp at hj;omega)) (src_rs rfl) (by simp [ofN]) (fun j hj=>by simp only [Nat.div_one];exact CEnt.of_eq in_drop) Tryz.underlying51 nu51 sz3 zr3 by3 rfl (by simp [ofN];omega) (by simp [ofN];omega) (fun j hj=>rfl) rfl rfl (Nat.mul_one _) (fun p3=>?_))
   refine jq jrm ?_;refine jN ?_;refine jtn ?_;refine jcs ?_;refine jE (freeze 1 rfl) ?_;refine jE (thawIL 10 (arcsOf (x::xs)) rfl rfl rfl (Nat.ble_eq_true_of_le (Nat.le_refl _)) (fun _ _=>cZ)) ?_;refine jcr ?_;refine jq jrm ?_
   refine jqe (jecP (rright5_ac (arcsOf (x::xs))) ?_)
   refine jq jrn ?_;refine jN ?_;refine jcc (fun h126=>?_) fun h126=>?_
   ·refine jcr ?_;refine jq jrm ?_;refine jq jrm ?_;refine jN ?_
    refine jR (jtr (jrt (hv:=?_)))
    have hb:getA b=([],1):=by rw [hga,if_pos (by simpa using h126)]
    rw [hb]
    exact CEnt.tup2 (CEnt.nilS _ _) cZ
   refine jS (jtn ?_)
   refine jcr ?_;refine jq jrm ?_;refine jq jrm ?_;refine jq jrm ?_;refine jN ?_
   refine jR (jrt (hv:=?_))
   have hb:getA b=(arcsOf (x::xs),0):=by rw [hga,if_neg (by simpa using h126)]
   rw [hb]
   exact CEnt.tup2 cZ cZ
  refine jS (jtn ?_)
  refine jB ?_
  have ha:a<b.length:=by omega
  refine jcr ?_;refine jq jrm ?_;refine jq jrm ?_;refine jN ?_;refine jcs ?_;refine jB ?_;refine l_loop (α:=Nat) [6,20,21,22,23,24,25,26,27,28,29,30,31,32] (fun e=>[(6,.c (.int .i64 (e:Nat)))]) (fun _=>[(g,.blk (ofN nums).length (inF (ofN nums)))]) (fun e=>a≤e∧e≤b.length∧∀ j,a≤j→j<e→128≤(b.getD j 0).toNat) (fun e=>b.length-e) (a) ?_ (fun _=>rfl) ?_ ?_ ?_
  ·exact ⟨Nat.le_refl _,by omega,fun j h1 h2=>by omega⟩
  ·exact .cons cZ .nil
  ·exact HEnt.refl _
  ·rintro e ⟨(hae:a≤e),(hel:e≤b.length),(hj:∀ j,a≤j→j<e→128≤(b.getD j 0).toNat)⟩
   refine jcs ?_;refine jcr ?_;refine jq jrm ?_;refine jq jrm ?_;refine jq jrl ?_;refine jq jrc ?_;refine jq jrm ?_;refine jqsp 24 (fun g95=>?_) fun g95=>?_
   rotate_left
   ·refine jqs ?_;refine jqs ?_;refine jqs ?_;refine jqs ?_;refine jqs ?_;refine jq jrpF ?_;refine jN ?_;refine jcF ?_
    refine jX (jte (jte (jbx (jtn ?_))))
    refine jcs ?_;refine jcr ?_;refine jq jrm ?_;refine jq jrm ?_;refine jq jrl ?_;refine jq jrc ?_;refine jN ?_;refine jcc (fun h98=>?_) fun h98=>?_
    ·refine jcr ?_;refine jq jrm ?_;refine jq jrm ?_;refine jN ?_
     refine jR (jtr (jbr (jtr (jbr (jtr (jrt (hv:=?_)))))))
     first
      |(exfalso;omega)
      |(have hg:=atN_bad hA ha (run_open ha (fun j h1 h2=>hj j h1 (by omega)) (mB a)) (by decide)
        rw [hg]
        exact CEnt.tup2 (CEnt.nilS _ _) cZ)
    refine jS (jtn ?_)
    refine jcs ?_;refine jcr ?_;refine jq jrm ?_;refine jq jrm ?_;refine jq jri ?_;refine jq jrdr ?_;refine jq jrc ?_;refine jN ?_;refine jcc (fun h101=>?_) fun h101=>?_
    ·refine jcr ?_;refine jq jrm ?_;refine jq jrm ?_;refine jN ?_
     refine jR (jtr (jbr (jtr (jbr (jtr (jrt (hv:=?_)))))))
     first
      |(exfalso;omega)
      |(have hg:=atN_bad hA ha (e:=4) (by rw [num_at hae (by omega) hj (by omega),if_pos (by omega)]) (by decide)
        rw [hg]
        exact CEnt.tup2 (CEnt.nilS _ _) cZ)
    refine jS (jtn ?_)
    refine jcr ?_;refine jq jrm ?_;refine jN ?_;refine jcs ?_;refine jcr ?_;refine jq jrm ?_;refine jq jrc ?_;refine jN ?_;refine jcc (fun h105=>?_) fun h105=>?_
    rotate_left
    ·refine jS (jtn ?_)
     first
      | refine jE (weaken 7 (.c (.int .i64 (mB a:Nat))) (CEnt.int (by unfold mB;rw [if_pos (by omega)];rfl))) ?_
      | refine jE (weaken 7 (.c (.int .i64 (mB a:Nat))) (CEnt.int (by unfold mB;rw [if_neg (by omega)];rfl))) ?_
     have hmb:mB a≤2147483727:=by unfold mB;split <;> omega
     refine jcr ?_;refine jq jrm ?_;refine jN ?_;refine jcs ?_;refine jB ?_;refine l_loop (α:=Nat×Nat) [5,8,46,47,48,49,50,51,52,53,54,55,56,57,58,59,60,61,62] (fun (k,n)=>[(5,.c (.int .i64 ((a+k:Nat):Int))),(8,.c (.int .i64 (n:Nat)))]) (fun _=>[(g,.blk (ofN nums).length (inF (ofN nums)))]) (fun p=>p.1≤e-a+1∧(p.2≤mB a→valSO ((b.drop a).take p.1)=p.2)∧(mB a<p.2→mB a<valSO ((b.drop a).take p.1))∧p.2≤mB a * 128+127) (fun p=>e-a+1-p.1) ((0,0)) ?_ (fun _=>rfl) ?_ ?_ ?_
     ·exact ⟨Nat.zero_le _,fun _=>rfl,fun h=>absurd h (Nat.not_lt_zero _),Nat.zero_le _⟩
     ·exact .cons cZ (.cons cZ .nil)
     ·exact HEnt.refl _
     ·rintro ⟨k,n⟩ ⟨(hk:k≤e-a+1),(hv1:n≤mB a→valSO ((b.drop a).take k)=n),(hv2:mB a<n→mB a<valSO ((b.drop a).take k)),(hv3:n≤mB a * 128+127)⟩
      show ACode _ _ _ ⟨[(5,.c (.int .i64 ((a+k:Nat):Int))),(8,.c (.int .i64 (n:Nat)))],_,[(g,.blk (ofN nums).length (inF (ofN nums)))]⟩ _
      refine jcs ?_;refine jcr ?_;refine jq jrm ?_;refine jq jrm ?_;refine jq jrc ?_;refine jN ?_;refine jcc (fun h109=>?_) fun h109=>?_
      rotate_left
      ·refine jX (jte (jte (jbx (jtn ?_))))
       refine jcs ?_
       have hke:k=e-a+1:=by omega
       refine jcr ?_;refine jq jrm ?_;refine jq jrm ?_;refine jq jrc ?_;refine jN ?_;refine jcc (fun h114=>?_) fun h114=>?_
       ·refine jcr ?_;refine jq jrm ?_;refine jq jrm ?_;refine jN ?_
        refine jR (jtr (jbr (jtr (jbr (jtr (jrt (hv:=?_)))))))
        first
         |(exfalso;omega)
         |(have hg:=atN_bad hA ha (e:=1) (by rw [num_at hae (by omega) hj (by omega),if_neg (by omega),if_pos (by rw [← hke];exact hv2 (by omega))]) (by decide)
           rw [hg]
           exact CEnt.tup2 (CEnt.nilS _ _) cZ)
       refine jS (jtn ?_)
       have hnum:numM ((b.drop a).take (runLen (b.drop a))) (mB a)=(n,0):=by
         have hvn:=hv1 (by omega)
         rw [num_at hae (by omega) hj (by omega),if_neg (by omega),← hke,hvn,if_neg (by omega)]
       refine jcg ?_;refine jq jrm ?_;refine jq jrm ?_
       refine jqe (jebl 1 1 zr3 fun p2=>?_)
       refine jqm (m_appendC rowC_in (l2:=[(n:Int)]) rfl rfl rfl rfl (by exact Nat.le_of_eq (Nat.mul_one _)) (fun _ _=>cZ) (src_os rfl (.inl rfl) (by decide)) rfl (hh_ints (.cons (CEnt.int (rfl)) .nil)) Tryz.underlying51 nu51 sz3 zr3 by3 rfl (by omega) (by omega) (leaf_flk rfl rfl) rfl rfl (Nat.mul_one _) (fun p3=>?_))
       refine jq jrm ?_;refine jN ?_
       refine jbn (jtn ?_)
       refine jlend ((a+k,nums++[n],p3)) ?_ ?_ (h5:=?_) (h7:=?_)
       ·(have hke:k=e-a+1:=(by omega);subst hke;exact atN_next hA (by omega) (by omega) hj (by omega) (hnum ▸ rfl))
       ·show b.length-(a+k)<b.length-a;omega
       ·exact .cons (CEnt.osI (by simp [ofN])) (.cons (CEnt.int (by omega)) .nil)
       ·exact .blk (by simp [ofN]) (fun j hj=>CEnt.of_eq (by simp [ofN])) .nil
      refine jS (jtn ?_)
      refine jcs ?_;refine jB ?_;refine jcr ?_;refine jq jrm ?_;refine jq jrm ?_;refine jq jrc ?_;refine jN ?_;refine jcc (fun h110=>?_) fun h110=>?_
      rotate_left
      ·refine jS (jbn (jtn ?_))
       refine jcg ?_;refine jq jrm ?_;refine jq jra ?_;refine jq jrm ?_;refine jN ?_;refine jtn ?_
       refine jlend ((k+1,if n≤mB a then n * 128+(b.getD (a+k) 0).toNat % 128 else n)) ?_ ?_ (h5:=?_) (h7:=?_)
       ·exact step_keep (by omega) (by omega) (by omega) hv1 hv2 hv3
       ·show e-a+1-(k+1)<e-a+1-k;omega
       ·exact .cons (CEnt.int (by omega)) (.cons (CEnt.int (by (rw [if_pos (by omega)];omega))) .nil)
       ·exact HEnt.refl _
      refine jcg ?_;refine jq jrm ?_;refine jq jra ?_;refine jq jrm ?_;refine jq jrm ?_;refine jq jri ?_;refine jq jrdr ?_;refine jq jrr ?_;refine jq (jrv .u8 .i64) ?_;refine jq jra ?_;refine jq jrm ?_;refine jN ?_
      refine jbn (jtn ?_)
      refine jcg ?_;refine jq jrm ?_;refine jq jra ?_;refine jq jrm ?_;refine jN ?_;refine jtn ?_
      refine jlend ((k+1,if n≤mB a then n * 128+(b.getD (a+k) 0).toNat % 128 else n)) ?_ ?_ (h5:=?_) (h7:=?_)
      ·exact step_keep (by omega) (by omega) (by omega) hv1 hv2 hv3
      ·show e-a+1-(k+1)<e-a+1-k;omega
      ·exact .cons (CEnt.int (by omega)) (.cons (CEnt.int (by (rw [if_pos (by omega)];omega))) .nil)
      ·exact HEnt.refl _
    refine jcg ?_;refine jq jrm ?_;refine jq jra ?_;refine jq jrm ?_;refine jN ?_;refine jtn ?_
    first
     | refine jE (weaken 7 (.c (.int .i64 (mB a:Nat))) (CEnt.int (by unfold mB;rw [if_pos (by omega)];rfl))) ?_
     | refine jE (weaken 7 (.c (.int .i64 (mB a:Nat))) (CEnt.int (by unfold mB;rw [if_neg (by omega)];rfl))) ?_
    have hmb:mB a≤2147483727:=by unfold mB;split <;> omega
    refine jcr ?_;refine jq jrm ?_;refine jN ?_;refine jcs ?_;refine jB ?_;refine l_loop (α:=Nat×Nat) [5,8,46,47,48,49,50,51,52,53,54,55,56,57,58,59,60,61,62] (fun (k,n)=>[(5,.c (.int .i64 ((a+k:Nat):Int))),(8,.c (.int .i64 (n:Nat)))]) (fun _=>[(g,.blk (ofN nums).length (inF (ofN nums)))]) (fun p=>p.1≤e-a+1∧(p.2≤mB a→valSO ((b.drop a).take p.1)=p.2)∧(mB a<p.2→mB a<valSO ((b.drop a).take p.1))∧p.2≤mB a * 128+127) (fun p=>e-a+1-p.1) ((0,0)) ?_ (fun _=>rfl) ?_ ?_ ?_
    ·exact ⟨Nat.zero_le _,fun _=>rfl,fun h=>absurd h (Nat.not_lt_zero _),Nat.zero_le _⟩
    ·exact .cons cZ (.cons cZ .nil)
    ·exact HEnt.refl _
    ·rintro ⟨k,n⟩ ⟨(hk:k≤e-a+1),(hv1:n≤mB a→valSO ((b.drop a).take k)=n),(hv2:mB a<n→mB a<valSO ((b.drop a).take k)),(hv3:n≤mB a * 128+127)⟩
     show ACode _ _ _ ⟨[(5,.c (.int .i64 ((a+k:Nat):Int))),(8,.c (.int .i64 (n:Nat)))],_,[(g,.blk (ofN nums).length (inF (ofN nums)))]⟩ _
     refine jcs ?_;refine jcr ?_;refine jq jrm ?_;refine jq jrm ?_;refine jq jrc ?_;refine jN ?_;refine jcc (fun h109=>?_) fun h109=>?_
     rotate_left
     ·refine jX (jte (jte (jbx (jtn ?_))))
      refine jcs ?_
      have hke:k=e-a+1:=by omega
      refine jcr ?_;refine jq jrm ?_;refine jq jrm ?_;refine jq jrc ?_;refine jN ?_;refine jcc (fun h114=>?_) fun h114=>?_
      ·refine jcr ?_;refine jq jrm ?_;refine jq jrm ?_;refine jN ?_
       refine jR (jtr (jbr (jtr (jbr (jtr (jrt (hv:=?_)))))))
       first
        |(exfalso;omega)
        |(have hg:=atN_bad hA ha (e:=1) (by rw [num_at hae (by omega) hj (by omega),if_neg (by omega),if_pos (by rw [← hke];exact hv2 (by omega))]) (by decide)
          rw [hg]
          exact CEnt.tup2 (CEnt.nilS _ _) cZ)
      refine jS (jtn ?_)
      have hnum:numM ((b.drop a).take (runLen (b.drop a))) (mB a)=(n,0):=by
        have hvn:=hv1 (by omega)
        rw [num_at hae (by omega) hj (by omega),if_neg (by omega),← hke,hvn,if_neg (by omega)]
      refine jcg ?_;refine jq jrm ?_;refine jq jrm ?_
      refine jqe (jebl 1 1 zr3 fun p2=>?_)
      refine jqm (m_appendC rowC_in (l2:=[(n:Int)]) rfl rfl rfl rfl (by exact Nat.le_of_eq (Nat.mul_one _)) (fun _ _=>cZ) (src_os rfl (.inl rfl) (by decide)) rfl (hh_ints (.cons (CEnt.int (rfl)) .nil)) Tryz.underlying51 nu51 sz3 zr3 by3 rfl (by omega) (by omega) (leaf_flk rfl rfl) rfl rfl (Nat.mul_one _) (fun p3=>?_))
      refine jq jrm ?_;refine jN ?_
      refine jbn (jtn ?_)
      refine jlend ((a+k,nums++[n],p3)) ?_ ?_ (h5:=?_) (h7:=?_)
      ·(have hke:k=e-a+1:=(by omega);subst hke;exact atN_next hA (by omega) (by omega) hj (by omega) (hnum ▸ rfl))
      ·show b.length-(a+k)<b.length-a;omega
      ·exact .cons (CEnt.osI (by simp [ofN])) (.cons (CEnt.int (by omega)) .nil)
      ·exact .blk (by simp [ofN]) (fun j hj=>CEnt.of_eq (by simp [ofN])) .nil
     refine jS (jtn ?_)
     refine jcs ?_;refine jB ?_;refine jcr ?_;refine jq jrm ?_;refine jq jrm ?_;refine jq jrc ?_;refine jN ?_;refine jcc (fun h110=>?_) fun h110=>?_
     rotate_left
     ·refine jS (jbn (jtn ?_))
      refine jcg ?_;refine jq jrm ?_;refine jq jra ?_;refine jq jrm ?_;refine jN ?_;refine jtn ?_
      refine jlend ((k+1,if n≤mB a then n * 128+(b.getD (a+k) 0).toNat % 128 else n)) ?_ ?_ (h5:=?_) (h7:=?_)
      ·exact step_keep (by omega) (by omega) (by omega) hv1 hv2 hv3
      ·show e-a+1-(k+1)<e-a+1-k;omega
      ·exact .cons (CEnt.int (by omega)) (.cons (CEnt.int (by (rw [if_pos (by omega)];omega))) .nil)
      ·exact HEnt.refl _
     refine jcg ?_;refine jq jrm ?_;refine jq jra ?_;refine jq jrm ?_;refine jq jrm ?_;refine jq jri ?_;refine jq jrdr ?_;refine jq jrr ?_;refine jq (jrv .u8 .i64) ?_;refine jq jra ?_;refine jq jrm ?_;refine jN ?_
     refine jbn (jtn ?_)
     refine jcg ?_;refine jq jrm ?_;refine jq jra ?_;refine jq jrm ?_;refine jN ?_;refine jtn ?_
     refine jlend ((k+1,if n≤mB a then n * 128+(b.getD (a+k) 0).toNat % 128 else n)) ?_ ?_ (h5:=?_) (h7:=?_)
     ·exact step_keep (by omega) (by omega) (by omega) hv1 hv2 hv3
     ·show e-a+1-(k+1)<e-a+1-k;omega
     ·exact .cons (CEnt.int (by omega)) (.cons (CEnt.int (by (rw [if_pos (by omega)];omega))) .nil)
     ·exact HEnt.refl _
   refine jq jrm ?_;refine jq jrm ?_;refine jq jri ?_;refine jq jrdr ?_;refine jq jrc ?_;refine jq jrpT ?_;refine jN ?_;refine jcc (fun h95=>?_) fun h95=>?_
   ·refine jS (jtn ?_)
    refine jB ?_;refine jcg ?_;refine jq jrm ?_;refine jq jra ?_;refine jq jrm ?_;refine jN ?_
    refine jbn (jtn ?_)
    refine jlend (e+1) ?_ ?_ (h5:=?_) (h7:=?_)
    ·exact ⟨by omega,by omega,fun j h1 h2=>if h:j<e then hj j h1 h else (by obtain rfl:j=e:=(by omega);omega)⟩
    ·show b.length-(e+1)<b.length-e;omega
    ·exact .cons (CEnt.int (by omega)) .nil
    ·exact HEnt.refl _
   refine jX (jte (jte (jbx (jtn ?_))))
   refine jcs ?_;refine jcr ?_;refine jq jrm ?_;refine jq jrm ?_;refine jq jrl ?_;refine jq jrc ?_;refine jN ?_;refine jcc (fun h98=>?_) fun h98=>?_
   ·refine jcr ?_;refine jq jrm ?_;refine jq jrm ?_;refine jN ?_
    refine jR (jtr (jbr (jtr (jbr (jtr (jrt (hv:=?_)))))))
    first
     |(exfalso;omega)
     |(have hg:=atN_bad hA ha (run_open ha (fun j h1 h2=>hj j h1 (by omega)) (mB a)) (by decide)
       rw [hg]
       exact CEnt.tup2 (CEnt.nilS _ _) cZ)
   refine jS (jtn ?_)
   refine jcs ?_;refine jcr ?_;refine jq jrm ?_;refine jq jrm ?_;refine jq jri ?_;refine jq jrdr ?_;refine jq jrc ?_;refine jN ?_;refine jcc (fun h101=>?_) fun h101=>?_
   ·refine jcr ?_;refine jq jrm ?_;refine jq jrm ?_;refine jN ?_
    refine jR (jtr (jbr (jtr (jbr (jtr (jrt (hv:=?_)))))))
    first
     |(exfalso;omega)
     |(have hg:=atN_bad hA ha (e:=4) (by rw [num_at hae (by omega) hj (by omega),if_pos (by omega)]) (by decide)
       rw [hg]
       exact CEnt.tup2 (CEnt.nilS _ _) cZ)
   refine jS (jtn ?_)
   refine jcr ?_;refine jq jrm ?_;refine jN ?_;refine jcs ?_;refine jcr ?_;refine jq jrm ?_;refine jq jrc ?_;refine jN ?_;refine jcc (fun h105=>?_) fun h105=>?_
   rotate_left
   ·refine jS (jtn ?_)
    first
     | refine jE (weaken 7 (.c (.int .i64 (mB a:Nat))) (CEnt.int (by unfold mB;rw [if_pos (by omega)];rfl))) ?_
     | refine jE (weaken 7 (.c (.int .i64 (mB a:Nat))) (CEnt.int (by unfold mB;rw [if_neg (by omega)];rfl))) ?_
    have hmb:mB a≤2147483727:=by unfold mB;split <;> omega
    refine jcr ?_;refine jq jrm ?_;refine jN ?_;refine jcs ?_;refine jB ?_;refine l_loop (α:=Nat×Nat) [5,8,46,47,48,49,50,51,52,53,54,55,56,57,58,59,60,61,62] (fun (k,n)=>[(5,.c (.int .i64 ((a+k:Nat):Int))),(8,.c (.int .i64 (n:Nat)))]) (fun _=>[(g,.blk (ofN nums).length (inF (ofN nums)))]) (fun p=>p.1≤e-a+1∧(p.2≤mB a→valSO ((b.drop a).take p.1)=p.2)∧(mB a<p.2→mB a<valSO ((b.drop a).take p.1))∧p.2≤mB a * 128+127) (fun p=>e-a+1-p.1) ((0,0)) ?_ (fun _=>rfl) ?_ ?_ ?_
    ·exact ⟨Nat.zero_le _,fun _=>rfl,fun h=>absurd h (Nat.not_lt_zero _),Nat.zero_le _⟩
    ·exact .cons cZ (.cons cZ .nil)
    ·exact HEnt.refl _
    ·rintro ⟨k,n⟩ ⟨(hk:k≤e-a+1),(hv1:n≤mB a→valSO ((b.drop a).take k)=n),(hv2:mB a<n→mB a<valSO ((b.drop a).take k)),(hv3:n≤mB a * 128+127)⟩
     show ACode _ _ _ ⟨[(5,.c (.int .i64 ((a+k:Nat):Int))),(8,.c (.int .i64 (n:Nat)))],_,[(g,.blk (ofN nums).length (inF (ofN nums)))]⟩ _
     refine jcs ?_;refine jcr ?_;refine jq jrm ?_;refine jq jrm ?_;refine jq jrc ?_;refine jN ?_;refine jcc (fun h109=>?_) fun h109=>?_
     rotate_left
     ·refine jX (jte (jte (jbx (jtn ?_))))
      refine jcs ?_
      have hke:k=e-a+1:=by omega
      refine jcr ?_;refine jq jrm ?_;refine jq jrm ?_;refine jq jrc ?_;refine jN ?_;refine jcc (fun h114=>?_) fun h114=>?_
      ·refine jcr ?_;refine jq jrm ?_;refine jq jrm ?_;refine jN ?_
       refine jR (jtr (jbr (jtr (jbr (jtr (jrt (hv:=?_)))))))
       first
        |(exfalso;omega)
        |(have hg:=atN_bad hA ha (e:=1) (by rw [num_at hae (by omega) hj (by omega),if_neg (by omega),if_pos (by rw [← hke];exact hv2 (by omega))]) (by decide)
          rw [hg]
          exact CEnt.tup2 (CEnt.nilS _ _) cZ)
      refine jS (jtn ?_)
      have hnum:numM ((b.drop a).take (runLen (b.drop a))) (mB a)=(n,0):=by
        have hvn:=hv1 (by omega)
        rw [num_at hae (by omega) hj (by omega),if_neg (by omega),← hke,hvn,if_neg (by omega)]
      refine jcg ?_;refine jq jrm ?_;refine jq jrm ?_
      refine jqe (jebl 1 1 zr3 fun p2=>?_)
      refine jqm (m_appendC rowC_in (l2:=[(n:Int)]) rfl rfl rfl rfl (by exact Nat.le_of_eq (Nat.mul_one _)) (fun _ _=>cZ) (src_os rfl (.inl rfl) (by decide)) rfl (hh_ints (.cons (CEnt.int (rfl)) .nil)) Tryz.underlying51 nu51 sz3 zr3 by3 rfl (by (simp;omega)) (by (simp;omega)) (leaf_flk rfl rfl) rfl rfl (Nat.mul_one _) (fun p3=>?_))
      refine jq jrm ?_;refine jN ?_
      refine jbn (jtn ?_)
      refine jlend ((a+k,nums++[n],p3)) ?_ ?_ (h5:=?_) (h7:=?_)
      ·(have hke:k=e-a+1:=(by omega);subst hke;exact atN_next hA (by omega) (by omega) hj (by omega) (hnum ▸ rfl))
      ·show b.length-(a+k)<b.length-a;omega
      ·exact .cons (CEnt.osI (by simp [ofN])) (.cons (CEnt.int (by omega)) .nil)
      ·exact .blk (by simp [ofN]) (fun j hj=>CEnt.of_eq (by simp [ofN])) .nil
     refine jS (jtn ?_)
     refine jcs ?_;refine jB ?_;refine jcr ?_;refine jq jrm ?_;refine jq jrm ?_;refine jq jrc ?_;refine jN ?_;refine jcc (fun h110=>?_) fun h110=>?_
     rotate_left
     ·refine jS (jbn (jtn ?_))
      refine jcg ?_;refine jq jrm ?_;refine jq jra ?_;refine jq jrm ?_;refine jN ?_;refine jtn ?_
      refine jlend ((k+1,if n≤mB a then n * 128+(b.getD (a+k) 0).toNat % 128 else n)) ?_ ?_ (h5:=?_) (h7:=?_)
      ·exact step_keep (by omega) (by omega) (by omega) hv1 hv2 hv3
      ·show e-a+1-(k+1)<e-a+1-k;omega
      ·exact .cons (CEnt.int (by omega)) (.cons (CEnt.int (by (rw [if_neg (by omega)]))) .nil)
      ·exact HEnt.refl _
     refine jcg ?_;refine jq jrm ?_;refine jq jra ?_;refine jq jrm ?_;refine jq jrm ?_;refine jq jri ?_;refine jq jrdr ?_;refine jq jrr ?_;refine jq (jrv .u8 .i64) ?_;refine jq jra ?_;refine jq jrm ?_;refine jN ?_
     refine jbn (jtn ?_)
     refine jcg ?_;refine jq jrm ?_;refine jq jra ?_;refine jq jrm ?_;refine jN ?_;refine jtn ?_
     refine jlend ((k+1,if n≤mB a then n * 128+(b.getD (a+k) 0).toNat % 128 else n)) ?_ ?_ (h5:=?_) (h7:=?_)
     ·exact step_keep (by omega) (by omega) (by omega) hv1 hv2 hv3
     ·show e-a+1-(k+1)<e-a+1-k;omega
     ·exact .cons (CEnt.int (by omega)) (.cons (CEnt.int (by (rw [if_pos (by omega)];omega))) .nil)
     ·exact HEnt.refl _
   refine jcg ?_;refine jq jrm ?_;refine jq jra ?_;refine jq jrm ?_;refine jN ?_;refine jtn ?_
   first
    | refine jE (weaken 7 (.c (.int .i64 (mB a:Nat))) (CEnt.int (by unfold mB;rw [if_pos (by omega)];rfl))) ?_
    | refine jE (weaken 7 (.c (.int .i64 (mB a:Nat))) (CEnt.int (by unfold mB;rw [if_neg (by omega)];rfl))) ?_
   have hmb:mB a≤2147483727:=by unfold mB;split <;> omega
   refine jcr ?_;refine jq jrm ?_;refine jN ?_;refine jcs ?_;refine jB ?_;refine l_loop (α:=Nat×Nat) [5,8,46,47,48,49,50,51,52,53,54,55,56,57,58,59,60,61,62] (fun (k,n)=>[(5,.c (.int .i64 ((a+k:Nat):Int))),(8,.c (.int .i64 (n:Nat)))]) (fun _=>[(g,.blk (ofN nums).length (inF (ofN nums)))]) (fun p=>p.1≤e-a+1∧(p.2≤mB a→valSO ((b.drop a).take p.1)=p.2)∧(mB a<p.2→mB a<valSO ((b.drop a).take p.1))∧p.2≤mB a * 128+127) (fun p=>e-a+1-p.1) ((0,0)) ?_ (fun _=>rfl) ?_ ?_ ?_
   ·exact ⟨Nat.zero_le _,fun _=>rfl,fun h=>absurd h (Nat.not_lt_zero _),Nat.zero_le _⟩
   ·exact .cons cZ (.cons cZ .nil)
   ·exact HEnt.refl _
   ·rintro ⟨k,n⟩ ⟨(hk:k≤e-a+1),(hv1:n≤mB a→valSO ((b.drop a).take k)=n),(hv2:mB a<n→mB a<valSO ((b.drop a).take k)),(hv3:n≤mB a * 128+127)⟩
    show ACode _ _ _ ⟨[(5,.c (.int .i64 ((a+k:Nat):Int))),(8,.c (.int .i64 (n:Nat)))],_,[(g,.blk (ofN nums).length (inF (ofN nums)))]⟩ _
    refine jcs ?_;refine jcr ?_;refine jq jrm ?_;refine jq jrm ?_;refine jq jrc ?_;refine jN ?_;refine jcc (fun h109=>?_) fun h109=>?_
    rotate_left
    ·refine jX (jte (jte (jbx (jtn ?_))))
     refine jcs ?_
     have hke:k=e-a+1:=by omega
     refine jcr ?_;refine jq jrm ?_;refine jq jrm ?_;refine jq jrc ?_;refine jN ?_;refine jcc (fun h114=>?_) fun h114=>?_
     ·refine jcr ?_;refine jq jrm ?_;refine jq jrm ?_;refine jN ?_
      refine jR (jtr (jbr (jtr (jbr (jtr (jrt (hv:=?_)))))))
      first
       |(exfalso;omega)
       |(have hg:=atN_bad hA ha (e:=1) (by rw [num_at hae (by omega) hj (by omega),if_neg (by omega),if_pos (by rw [← hke];exact hv2 (by omega))]) (by decide)
         rw [hg]
         exact CEnt.tup2 (CEnt.nilS _ _) cZ)
     refine jS (jtn ?_)
     have hnum:numM ((b.drop a).take (runLen (b.drop a))) (mB a)=(n,0):=by
       have hvn:=hv1 (by omega)
       rw [num_at hae (by omega) hj (by omega),if_neg (by omega),← hke,hvn,if_neg (by omega)]
     refine jcg ?_;refine jq jrm ?_;refine jq jrm ?_
     refine jqe (jebl 1 1 zr3 fun p2=>?_)
     refine jqm (m_appendC rowC_in (l2:=[(n:Int)]) rfl rfl rfl rfl (by exact Nat.le_of_eq (Nat.mul_one _)) (fun _ _=>cZ) (src_os rfl (.inl rfl) (by decide)) rfl (hh_ints (.cons (CEnt.int (rfl)) .nil)) Tryz.underlying51 nu51 sz3 zr3 by3 rfl (by (simp;omega)) (by (simp;omega)) (leaf_flk rfl rfl) rfl rfl (Nat.mul_one _) (fun p3=>?_))
     refine jq jrm ?_;refine jN ?_
     refine jbn (jtn ?_)
     refine jlend ((a+k,nums++[n],p3)) ?_ ?_ (h5:=?_) (h7:=?_)
     ·(have hke:k=e-a+1:=(by omega);subst hke;exact atN_next hA (by omega) (by omega) hj (by omega) (hnum ▸ rfl))
     ·show b.length-(a+k)<b.length-a;omega
     ·exact .cons (CEnt.osI (by simp [ofN])) (.cons (CEnt.int (by omega)) .nil)
     ·exact .blk (by simp [ofN]) (fun j hj=>CEnt.of_eq (by simp [ofN])) .nil
    refine jS (jtn ?_)
    refine jcs ?_;refine jB ?_;refine jcr ?_;refine jq jrm ?_;refine jq jrm ?_;refine jq jrc ?_;refine jN ?_;refine jcc (fun h110=>?_) fun h110=>?_
    rotate_left
    ·refine jS (jbn (jtn ?_))
     refine jcg ?_;refine jq jrm ?_;refine jq jra ?_;refine jq jrm ?_;refine jN ?_;refine jtn ?_
     refine jlend ((k+1,if n≤mB a then n * 128+(b.getD (a+k) 0).toNat % 128 else n)) ?_ ?_ (h5:=?_) (h7:=?_)
     ·exact step_keep (by omega) (by omega) (by omega) hv1 hv2 hv3
     ·show e-a+1-(k+1)<e-a+1-k;omega
     ·exact .cons (CEnt.int (by omega)) (.cons (CEnt.int (by (rw [if_neg (by omega)]))) .nil)
     ·exact HEnt.refl _
    refine jcg ?_;refine jq jrm ?_;refine jq jra ?_;refine jq jrm ?_;refine jq jrm ?_;refine jq jri ?_;refine jq jrdr ?_;refine jq jrr ?_;refine jq (jrv .u8 .i64) ?_;refine jq jra ?_;refine jq jrm ?_;refine jN ?_
    refine jbn (jtn ?_)
    refine jcg ?_;refine jq jrm ?_;refine jq jra ?_;refine jq jrm ?_;refine jN ?_;refine jtn ?_
    refine jlend ((k+1,if n≤mB a then n * 128+(b.getD (a+k) 0).toNat % 128 else n)) ?_ ?_ (h5:=?_) (h7:=?_)
    ·exact step_keep (by omega) (by omega) (by omega) hv1 hv2 hv3
    ·show e-a+1-(k+1)<e-a+1-k;omega
    ·exact .cons (CEnt.int (by omega)) (.cons (CEnt.int (by (rw [if_pos (by omega)];omega))) .nil)
    ·exact HEnt.refl _
end
section
open Go.RowKit Cal
theorem nextR_k {t:Int} {l:List (List UInt8)} {k:Nat} (h:k≤28):(nextR t l k).k≤28:=by
 have hb:=nextM_bd (nowL l)
 unfold nextR
 repeat' split
 all_goals (dsimp only;omega)
theorem getM_e (b:List UInt8):(getM b).2≤28:=by
 unfold getM
 repeat' split
 all_goals (dsimp only;omega)
theorem range_e (b:List UInt8) (x y:Int):(rangeM b x y).2≤28:=by
 have:=getM_e b
 unfold rangeM
 repeat' split
 all_goals (dsimp only;omega)
theorem leave_k {l:List (List UInt8)} {k:Nat} (h:k≤28):leaveK l k≤28:=by
 unfold leaveK
 repeat' split
 all_goals omega
theorem numM_e (r:List UInt8) (m:Nat):(numM r m).2≤4:=by
 unfold numM
 repeat' split
 all_goals (dsimp only;omega)
theorem numsM_e:∀ (n m:Nat) (b:List UInt8),b.length≤n→(numsM m b).2≤4
 | n,m,b,h=>by
  rw [numsM]
  split
  ·exact Nat.zero_le _
  ·rename_i h0
   split
   ·exact numM_e _ _
   ·split
    ·cases n with
     | zero=>exact absurd (List.eq_nil_of_length_eq_zero (by omega)) h0
     | succ n =>
      have h1:=runLen_pos h0
      have h2:=List.length_pos_iff.2 h0
      exact numsM_e n _ _ (by rw [List.length_drop];omega)
    ·exact Nat.zero_le _
theorem getA_e (b:List UInt8):(getA b).2≤28:=by
 have:=numsM_e _ 2147483727 b (Nat.le_refl _)
 unfold getA
 repeat' split
 all_goals (dsimp only;omega)
theorem said_e (a:AA) (b:List UInt8):(saidM a b).2≤28:=by
 have h1:=asked_bd b a.most
 have h2:=(maskM_bd b).1
 have h3:=getA_e b
 have h4:=range_e b a.least a.most
 have h5:(isTrueM b).2≤28:=by
  unfold isTrueM
  repeat' split
  all_goals (dsimp only;omega)
 have h6:(octM a.least a.most b).2≤28:=by
  unfold octM
  repeat' split
  all_goals (dsimp only;omega)
 have h7:(ogetM b).2≤28:=by unfold ogetM;split <;> (dsimp only;omega)
 have h8:getE b≤28:=by
  unfold getE
  repeat' split
  all_goals omega
 unfold saidM
 repeat' split
 all_goals (dsimp only;omega)
theorem endK_bd {l:List (List UInt8)} {k:Nat} (h:k≤28):endK l k≤28:=by
 unfold endK
 repeat' split
 all_goals omega
theorem readR_k (a:AA) {l:List (List UInt8)} {k:Nat} (h:k≤28):(readR a l k).k≤28:=by
 unfold readR
 split
 ·show (enterR a.tag l k).k≤28
  unfold enterR
  refine nextR_k ?_
  split <;> omega
 ·split
  ·exact leave_k h
  ·split
   ·exact nextR_k h
   ·unfold readV valK
    dsimp only
    split
    ·exact said_e _ _
    ·exact nextR_k h
theorem stG_k {α:Type} {sp:StepR α} (h:∀ l k,k≤28→(sp l k).1.2≤28) {l0:List (List UInt8)} {k0:Nat} (h0:k0≤28):∀ j,(stG sp l0 k0 j).1.2≤28
 | 0=>h0
 | j+1=>h _ _ (stG_k h h0 j)
theorem endG_k {α:Type} {sp:StepR α} (h:∀ l k,k≤28→(sp l k).1.2≤28) {l0:List (List UInt8)} {k0:Nat} {most:Int} (h0:k0≤28):(endG sp l0 k0 most).2≤28:=by
 have hj:(stG sp l0 k0 (jG sp l0 k0 most)).1.2≤28:=stG_k h h0 _
 unfold endG
 dsimp only
 split
 ·unfold leaveK;rw [if_pos (by decide)];exact Nat.le_of_ble_eq_true rfl
 ·exact leave_k hj
end
section
variable {gs:List Nat} [Ok9 gs]
open Go.RowKit Cal

def rqF (l:List (List UInt8)) (k:Nat):Nat→CV:=fl [lbC l,.c (.int .i64 (k:Nat))]
def rqE (n:Nat) (l:List (List UInt8)) (k:Nat):Option Nat×Res:=(some n,.blk 2 (rqF l k))
theorem rread08_ac {gs:List Nat} (b:List UInt8) (hb:b.length≤1000000):AC gs Tryz.prog 33 [] [bsC b] (fun r H'=>∃ n,r=.op 0 (some n) 0∧H'=[rqE n [b] (depthM b).2]):=by
 refine ac_of 15 Tryz.func33 rfl rfl rfl (fun al w0 F0 St0=>?_)
 refine jcr ?_;refine jq jrm ?_;refine jN ?_;refine jcr ?_;refine jq jrm ?_
 refine jqe (jecP (rcheck_ac b hb) ?_)
 refine jq jrm ?_;refine jq jrx ?_;refine jq jrx ?_;refine jq jrm ?_;refine jq jrm ?_;refine jN ?_;refine jcr ?_;refine jq jrm ?_
 refine jqe (jebl 1 1 zr22 fun p1=>?_)
 refine jq jrm ?_;refine jq (rd_build (n:=2) rfl zr83 pl83 rfl rfl) ?_
 refine jqe (jebx 2 fun p2=>?_)
 refine jq jrm ?_;refine jN ?_;refine code_knowG (know_op 2 rfl) fun hn=>?_
 obtain ⟨n,rfl⟩:=hn
 refine jE (freeze 0 rfl) ?_;refine jE (thawC 1 0 0 (rqF [b] (depthM b).2) (fun i _=>bsC ([b].getD i [])) rfl rfl cZ cZ (fun j hj h0=>by rcases j with _|_|j <;> first|omega|exact cZ) (by simp) (fun a c ha hc=>by obtain rfl:a=0:=(by simpa using ha);obtain rfl:c=0:=(by omega);exact cZ)) ?_;refine jR ?_
 exact end_ownV (.inl rfl) [1] (by decide) rfl (res_1 rfl (arv_tmp rfl)) (CEnt.opI (j:=0)) ⟨n,rfl,rfl⟩
theorem rmore08_ac {gs:List Nat} (n:Nat) (l:List (List UInt8)) (k:Nat) (hl:0<l.length∧l.length≤1000000):AC gs Tryz.prog 78 [rqE n l k] [.op 0 (some n) 0] (fun r H'=>r=.c (.bool (moreM l k))∧H'=[rqE n l k]):=by
 refine ac_of 24 Tryz.func78 rfl rfl rfl (fun al w0 F0 St0=>?_)
 refine jcr ?_;refine jq jrm ?_;refine jN ?_;refine jcs ?_;refine jcd (.rd 0 (.rd 1 (.rd 2 (.rd 3 (.rd 4 (.rd 5 (.rd 6 (.rd 7 (.rd 8 (.rd 9 (.rd 10 (.rd 11 (.rd 12 (.rd 13 (.rd 14 (.rd 15 (.rd 16 (.rd 17 (.rd 18 (.rd 19 (.rd 20 (.rd 21 .done)))))))))))))))))))))) ?_;refine jyq jrm ?_;refine jyq jrnc ?_;refine jyq (jrfa 1 1 false) ?_;refine jyo jrdo ?_;refine jyq jrc ?_;refine jyq jrm ?_;refine jysp 8 (fun g182=>?_) fun g182=>?_
 ·refine jyq jrm ?_;refine jyq jrnc ?_;refine jyq (jrfa 0 1 false) ?_;refine jyo jrdo ?_;refine jyq jrm ?_;refine jyq jrnc ?_;refine jyq (jrfa 0 1 false) ?_;refine jyo jrdo ?_;refine jyq jrl ?_;refine jyq jra ?_;refine jyq (jri (i:=(l.length-1)) (hz:=by omega)) ?_;refine jyq jrdr ?_;refine jyq jrl ?_;refine jyq jrc ?_;refine jyq jrpT ?_;refine jyq jrm ?_;refine jyd ?_;refine jtn ?_;refine jR ?_
  exact end_H (.inl rfl) rfl (res_1 rfl (arv_tmp rfl)) (CEnt.bool (by unfold moreM nowL;(simp [g182];omega)))
 refine jys ?_;refine jys ?_;refine jys ?_;refine jys ?_;refine jys ?_;refine jys ?_;refine jys ?_;refine jys ?_;refine jys ?_;refine jys ?_;refine jys ?_;refine jys ?_;refine jys ?_;refine jys ?_;refine jyq jrpF ?_;refine jyq jrm ?_;refine jyd ?_;refine jtn ?_;refine jR ?_
 exact end_H (.inl rfl) rfl (res_1 rfl (arv_tmp rfl)) (CEnt.bool (by unfold moreM nowL;(simp [g182];omega)))
theorem rend08_ac {gs:List Nat} (n:Nat) (l:List (List UInt8)) (k:Nat) (hl:0<l.length∧l.length≤1000000):AC gs Tryz.prog 42 [rqE n l k] [.op 0 (some n) 0] (fun r H'=>r=.c (.int .i64 (endK l k:Nat))∧H'=[rqE n l k]):=by
 refine ac_of 26 Tryz.func42 rfl rfl rfl (fun al w0 F0 St0=>?_)
 refine jcr ?_;refine jq jrm ?_;refine jN ?_;refine jcs ?_;refine jcr ?_;refine jq jrm ?_;refine jq jrnc ?_;refine jq (jrfa 1 1 false) ?_;refine jqo jrdo ?_;refine jq jrc ?_;refine jN ?_;refine jcc (fun h286=>?_) fun h286=>?_
 ·refine jcr ?_;refine jq jrm ?_;refine jq jrnc ?_;refine jq (jrfa 1 1 false) ?_;refine jqo jrdo ?_;refine jq jrm ?_;refine jN ?_
  refine jR (jtr ?_)
  exact end_H (.inl rfl) rfl (res_1 rfl (arv_tmp rfl)) (CEnt.int (by unfold endK;rw [if_pos (by omega)]))
 refine jS (jtn ?_)
 refine jcs ?_;refine jcr ?_;refine jq jrm ?_;refine jq jrnc ?_;refine jq (jrfa 0 1 false) ?_;refine jqo jrdo ?_;refine jq jrl ?_;refine jq jrc ?_;refine jN ?_;refine jcc (fun h289=>?_) fun h289=>?_
 ·refine jcr ?_;refine jq jrm ?_;refine jN ?_
  refine jR (jtr ?_)
  exact end_H (.inl rfl) rfl (res_1 rfl (arv_tmp rfl)) (CEnt.int (by unfold endK;rw [if_neg (by omega),if_pos (by omega)];rfl))
 refine jS (jtn ?_)
 refine jcs ?_;refine jcr ?_;refine jq jrm ?_;refine jq jrnc ?_;refine jq (jrfa 0 1 false) ?_;refine jqo jrdo ?_;refine jq (jri (i:=0)) ?_;refine jq jrdr ?_;refine jq jrl ?_;refine jq jrc ?_;refine jN ?_;refine jcc (fun h292=>?_) fun h292=>?_
 ·refine jcr ?_;refine jq jrm ?_;refine jN ?_
  refine jR (jtr ?_)
  exact end_H (.inl rfl) rfl (res_1 rfl (arv_tmp rfl)) (CEnt.int (by unfold endK;rw [if_neg (by omega),if_neg (by omega),if_pos (by omega)];rfl))
 refine jS (jtn ?_)
 refine jcr ?_;refine jq jrm ?_;refine jN ?_;refine jR ?_
 exact end_H (.inl rfl) rfl (res_1 rfl (arv_tmp rfl)) (CEnt.int (by unfold endK;rw [if_neg (by omega),if_neg (by omega),if_neg (by omega)];rfl))
end
section
variable {gs:List Nat} [Ok9 gs]
open Go.RowKit Cal

theorem lb_take8 {l:List (List UInt8)} {m j:Nat} (h:j<(l.take m).length):bsC (l.getD (0+j / 1) [])=lbF (l.take m) j:=by
 rw [Nat.zero_add,Nat.div_one]
 rw [List.length_take] at h
 simp [lbF,List.getD_eq_getElem?_getD,List.getElem?_take,show j<m by omega]
theorem lset {l:List (List UInt8)} (h:0<l.length) (x:List UInt8):l.set (l.length-1) x=l.take (l.length-1)++[x]:=by
 apply List.ext_getElem?
 intro i
 rw [List.getElem?_set,List.getElem?_append,List.length_take]
 by_cases h1:l.length-1=i
 ·subst h1
  rw [if_pos rfl,if_pos (by omega),if_neg (by omega)]
  simp
 ·rw [if_neg h1]
  by_cases h2:i<l.length-1
  ·rw [if_pos (by omega),List.getElem?_take,if_pos h2]
  ·rw [if_neg (by omega),List.getElem?_eq_none (by omega),List.getElem?_eq_none (by simp;omega)]
def nxK8 (tag:Int) (l:List (List UInt8)):Nat:=if (nextM (nowL l)).e=0∧tag≠0∧((nextM (nowL l)).tag:Int)≠tag then 5 else (nextM (nowL l)).e
theorem nx8_bad {tag:Int} {l:List (List UInt8)} (h:nxK8 tag l≠0):nextR tag l 0=⟨l,nxK8 tag l,0,[],[],false⟩:=by
 unfold nxK8 at h ⊢
 unfold nextR
 by_cases hc:(nextM (nowL l)).e=0∧tag≠0∧((nextM (nowL l)).tag:Int)≠tag
 ·rw [if_pos hc,if_neg (by omega),if_neg (by omega),if_pos (by omega)]
 ·rw [if_neg hc] at h ⊢
  rw [if_neg (by omega),if_pos (by omega)]
theorem nx8_good {tag:Int} {l:List (List UInt8)} (h:nxK8 tag l=0):(nextM (nowL l)).e=0∧(tag=0∨((nextM (nowL l)).tag:Int)=tag):=by
 unfold nxK8 at h
 by_cases hc:(nextM (nowL l)).e=0∧tag≠0∧((nextM (nowL l)).tag:Int)≠tag
 ·rw [if_pos hc] at h;cases h
 ·rw [if_neg hc] at h;omega
theorem rnext08_ac {gs:List Nat} (n:Nat) (l:List (List UInt8)) (k:Nat) (tag:Int) (hl:0<l.length∧l.length≤1000000) (hb:(nowL l).length≤1000000):AC gs Tryz.prog 70 [rqE n l k] [.op 0 (some n) 0,.c (.int .i64 tag)]
  (fun r H'=>r=.tup 3 (fl [bsC (nextR tag l k).body,bsC (nextR tag l k).raw,.c (.bool (nextR tag l k).is)])∧H'=[rqE n (nextR tag l k).l (nextR tag l k).k]):=by
 have hnb:=nextM_bd (nowL l)
 refine ac_of 81 Tryz.func70 rfl rfl rfl (fun al w0 F0 St0=>?_)
 refine jcr ?_;refine jq jrm ?_;refine jq jrm ?_;refine jq jrm ?_;refine jN ?_;refine jcs ?_;refine jcr ?_;refine jq jrm ?_;refine jq jrnc ?_;refine jq (jrfa 1 1 false) ?_;refine jqo jrdo ?_;refine jq jrc ?_;refine jN ?_;refine jcc (fun h165=>?_) fun h165=>?_
 ·refine jcr ?_;refine jq jrm ?_;refine jq jrm ?_;refine jq jrm ?_;refine jN ?_
  refine jR (jtr ?_)
  have hN:nextR tag l k=⟨l,k,0,[],[],false⟩:=by unfold nextR;rw [if_pos (by omega)]
  rw [hN]
  exact end_H (.inl rfl) rfl (res_3 rfl javt javt javt) (CEnt.tup3 CEnt.nilB CEnt.nilB cZ)
 refine jS (jtn ?_)
 refine jcs ?_;refine jcd (.rd 0 (.rd 1 (.rd 2 (.rd 3 (.rd 4 (.rd 5 (.rd 6 (.rd 7 (.rd 8 (.rd 9 (.rd 10 (.rd 11 (.rd 12 .done))))))))))))) ?_;refine jyq jrm ?_;refine jyq jrnc ?_;refine jyq (jrfa 0 1 false) ?_;refine jyo jrdo ?_;refine jyq jrm ?_;refine jyq jrnc ?_;refine jyq (jrfa 0 1 false) ?_;refine jyo jrdo ?_;refine jyq jrl ?_;refine jyq jra ?_;refine jyq (jri (i:=(l.length-1)) (hz:=by omega)) ?_;refine jyq jrdr ?_;refine jyq jrm ?_;refine jyd ?_;refine jtn ?_
 obtain rfl:k=0:=by omega
 refine jE (weaken 7 (bsC (nowL l)) cZ) ?_;refine jcr ?_;refine jq jrm ?_
 refine jqe (jecP (rnext_ac (nowL l) (by omega)) ?_)
 refine jq jrm ?_;refine jq jrx ?_;refine jq jrx ?_;refine jq jrx ?_;refine jq jrx ?_;refine jq jrm ?_;refine jq jrm ?_;refine jq jrm ?_;refine jq jrm ?_;refine jN ?_;refine code_join (α:=Unit) [11,36,37,38,39,40,41,42,43,44,45,46] (fun _=>[(11,.c (.int .i64 ((nxK8 tag l:Nat):Int)))]) (fun _=>[rqE n l 0]) (fun _=>True) (fun _=>rfl) ?_ ?_
 ·refine jcr ?_;refine jq jrm ?_;refine jq jrc ?_;refine jq jrm ?_;refine jqsp 38 (fun g170=>?_) fun g170=>?_
  rotate_left
  ·refine jqs ?_;refine jqs ?_;refine jq jrpF ?_;refine jq jrm ?_;refine jqs ?_;refine jqs ?_;refine jqs ?_;refine jq jrpF ?_;refine jN ?_;refine jcF ?_
   refine jS (jtn ?_)
   refine jjend (()) ?_ (h5:=?_) (h7:=?_)
   ·trivial
   ·exact .cons (CEnt.int (by unfold nxK8;(rw [if_neg (by omega)]))) .nil
   ·exact HEnt.refl _
  refine jq jrm ?_;refine jq jrc ?_;refine jq jrpT ?_;refine jq jrm ?_;refine jqsp 42 (fun g170_2=>?_) fun g170_2=>?_
  rotate_left
  ·refine jqs ?_;refine jqs ?_;refine jqs ?_;refine jq jrpF ?_;refine jN ?_;refine jcF ?_
   refine jS (jtn ?_)
   refine jjend (()) ?_ (h5:=?_) (h7:=?_)
   ·trivial
   ·exact .cons (CEnt.int (by unfold nxK8;(rw [if_neg (by omega)]))) .nil
   ·exact HEnt.refl _
  refine jq jrm ?_;refine jq jrm ?_;refine jq jrc ?_;refine jq jrpT ?_;refine jN ?_;refine jcc (fun h170=>?_) fun h170=>?_
  rotate_left
  ·refine jS (jtn ?_)
   refine jjend (()) ?_ (h5:=?_) (h7:=?_)
   ·trivial
   ·exact .cons (CEnt.int (by unfold nxK8;(rw [if_neg (by omega)]))) .nil
   ·exact HEnt.refl _
  refine jcg ?_;refine jq jrm ?_;refine jN ?_;refine jtn ?_
  refine jjend (()) ?_ (h5:=?_) (h7:=?_)
  ·trivial
  ·exact .cons (CEnt.int (by unfold nxK8;(rw [if_pos ⟨by omega,by omega,by omega⟩];rfl))) .nil
  ·exact HEnt.refl _
 ·rintro u _
  refine jcs ?_;refine jcr ?_;refine jq jrm ?_;refine jq jrc ?_;refine jN ?_;refine jcc (fun h173=>?_) fun h173=>?_
  ·have hN:=nx8_bad (tag:=tag) (l:=l) (by omega)
   refine jcr ?_;refine jq jrm ?_;refine jq jrm ?_;refine jq jrnc ?_;refine jq (jrfa 1 1 false) ?_
   refine jqm (jmstF 1 (rqF l (nextR tag l 0).k) ?_ ?_)
   ·exact (fun j hj=>by rcases j with _|_|j <;> first|exact cZ|exact CEnt.int (by rw [hN];rfl)|exact CEnt.int (by rw [hN])|omega)
   refine jN ?_;refine jcr ?_;refine jq jrm ?_;refine jq jrm ?_;refine jq jrm ?_;refine jN ?_
   refine jR (jtr ?_)
   rw [hN]
   exact end_H (.inl rfl) rfl (res_3 rfl javt javt javt) (CEnt.tup3 CEnt.nilB CEnt.nilB cZ)
  refine jS (jtn ?_)
  refine jcs ?_
  obtain ⟨he0,hne⟩:=nx8_good (tag:=tag) (l:=l) (by omega)
  have hc:=nextM_cut (b:=nowL l) (by omega)
  have hN:nextR tag l 0=⟨l.set (l.length-1) (nextM (nowL l)).rest,0,(nextM (nowL l)).tag,(nextM (nowL l)).body,(nowL l).take ((nowL l).length-(nextM (nowL l)).rest.length),true⟩:=by unfold nextR;rw [if_neg (by omega),if_neg (by omega),if_neg (by omega)]
  have hN:nextR tag l 0=⟨[]++l.take (l.length-1)++[(nextM (nowL l)).rest],0,(nextM (nowL l)).tag,(nextM (nowL l)).body,(nowL l).take ((nowL l).length-(nextM (nowL l)).rest.length),true⟩:=by rw [hN,lset hl.1];rfl
  refine jcdZ (.rd 0 (.rd 2 (.rd 3 (.rd 4 (.rd 5 (.rd 6 (.rd 7 (.rd 8 (.rd 9 (.rd 10 (.rd 11 (.rd 12 (.rd 14 (.rd 15 (.rd 16 (.two 1 (.two 13 (.one 17 (.one 18 (.rd 19 (.rd 20 (.one 21 .done))))) 17 (.one 13 (.one 18 (.rd 19 (.rd 20 (.one 21 .done)))))) 17 (.one 1 (.one 13 (.one 18 (.rd 19 (.rd 20 (.one 21 .done)))))))))))))))))))))) ?_;refine jzq jrm ?_;refine jzq jrm ?_;refine jzq jrnc ?_;refine jzq (jrfa 0 1 false) ?_;refine jzo jrdo ?_;refine jzq jrm ?_;refine jzq jrnc ?_;refine jzq (jrfa 0 1 false) ?_;refine jzo jrdo ?_;refine jzq jrl ?_;refine jzq jra ?_;refine jzq (jrsr (hl:=(bd_none _ _)) (hu:=(bd_some rfl (show _=(((l.length-1):Nat):Int) by omega)))) ?_;refine jzq jrm ?_;refine jzq jrm ?_;refine jzq (jrsf (hz1:=(show _=(((toM (nowL l)):Nat):Int) by omega))) ?_;refine jztwo ?_ ?_
  ·refine jze (jebl 0 1 zr22 fun p1=>?_)
   refine jztwo ?_ ?_
   ·refine jzm (m_appendC rowC_lb (l:=[]) (l2:=l.take (l.length-1)) rfl rfl rfl rfl (Nat.le_of_eq (Nat.zero_mul _)) (fun j hj=>absurd hj (by simp)) (src_rs rfl) (by rw [List.length_take];omega) (fun j hj=>CEnt.of_eq (lb_take8 (by omega))) Tryz.underlying81 nu81 sz22 zr22 by22 rfl (by simp;omega) (by simp;omega) (fun j hj=>rfl) rfl rfl (Nat.mul_one _) (fun p2=>?_))
    refine z_ent (weaken 69 (bsC (nextM (nowL l)).rest) (CEnt.bs hc.2.1.symm)) ?_
    refine jze (jebl 1 1 zr22 fun p3=>?_)
    refine jzm (m_appendC (rowC_lb) (l2:=[(nextM (nowL l)).rest]) rfl rfl rfl rfl (by omega) (fun _ _=>cZ) (src_os rfl (.inl rfl) (by decide)) rfl (fun j hj=>by rcases j with _|j <;> first|exact cZ|exact CEnt.int (by omega)|(exfalso;simp at hj <;> omega)) Tryz.underlying81 nu81 sz22 zr22 by22 rfl (by (simp;omega)) (by (simp;omega)) (leaf_flk rfl rfl) rfl rfl rfl (fun p4=>?_))
    refine jzq jrnc ?_;refine jzq (jrfa 0 1 false) ?_
    refine jzm (jmst 1 ?_)
    refine jzd ?_;refine jtn ?_;refine jcs ?_
    first
     |(refine jE (freeze 1 rfl) ?_;refine jE (thawC 0 0 1 (rqF ([]++l.take (l.length-1)++[(nextM (nowL l)).rest]) 0) (fun i _=>bsC (([]++l.take (l.length-1)++[(nextM (nowL l)).rest]).getD i [])) rfl rfl cZ cZ (fun j hj h0=>by rcases j with _|_|j <;> first|omega|exact cZ) (by simp) (fun a c ha hc=>by obtain rfl:c=0:=(by omega);rw [Nat.zero_add,Nat.mul_one,Nat.add_zero];exact cZ)) ?_;dsimp only [List.set_cons_zero,List.set_cons_succ,List.cons_append,List.nil_append,List.length_cons,List.length_nil,Nat.zero_add,Nat.reduceAdd])
     |(refine jE (freeze 2 rfl) ?_;refine jE (thawC 0 0 2 (rqF ([]++l.take (l.length-1)++[(nextM (nowL l)).rest]) 0) (fun i _=>bsC (([]++l.take (l.length-1)++[(nextM (nowL l)).rest]).getD i [])) rfl rfl cZ cZ (fun j hj h0=>by rcases j with _|_|j <;> first|omega|exact cZ) (by simp) (fun a c ha hc=>by obtain rfl:c=0:=(by omega);rw [Nat.zero_add,Nat.mul_one,Nat.add_zero];exact cZ)) ?_;dsimp only [List.set_cons_zero,List.set_cons_succ,List.cons_append,List.nil_append,List.length_cons,List.length_nil,Nat.zero_add,Nat.reduceAdd])
    refine jcd (.rd 0 (.rd 1 (.rd 2 (.rd 3 (.rd 4 (.rd 5 (.rd 6 (.rd 7 (.rd 8 (.rd 9 .done)))))))))) ?_;refine jyq jrm ?_;refine jyq jrm ?_;refine jyq jrm ?_;refine jyq (jrsb (hz1:=(show _=(((fromM (nowL l)):Nat):Int) by omega)) (hz2:=(show _=(((toM (nowL l)):Nat):Int) by omega))) ?_;refine jyq jrm ?_;refine jyq jrm ?_;refine jyq (jrst (hz2:=(show _=(((toM (nowL l)):Nat):Int) by omega))) ?_;refine jyq jrm ?_;refine jyq jrm ?_;refine jyq jrm ?_;refine jyd ?_;refine jtn ?_;refine jR ?_
    rw [hN]
    refine end_H (.inl rfl) rfl (res_3 rfl javt javt javt) (CEnt.tup3 (CEnt.bs ?_) (CEnt.bs ?_) cZ)
    ·exact hc.1.symm
    ·rw [take_toM (by omega)]
   ·refine z_ent (weaken 69 (bsC (nextM (nowL l)).rest) (CEnt.bs hc.2.1.symm)) ?_
    refine jze (jebl 1 1 zr22 fun p2=>?_)
    refine jzm (m_appendC rowC_lb (l:=[]) (l2:=l.take (l.length-1)) rfl rfl rfl rfl (Nat.le_of_eq (Nat.zero_mul _)) (fun j hj=>absurd hj (by simp)) (src_rs rfl) (by rw [List.length_take];omega) (fun j hj=>CEnt.of_eq (lb_take8 (by omega))) Tryz.underlying81 nu81 sz22 zr22 by22 rfl (by simp;omega) (by simp;omega) (fun j hj=>rfl) rfl rfl (Nat.mul_one _) (fun p3=>?_))
    refine jzm (m_appendC (rowC_lb) (l2:=[(nextM (nowL l)).rest]) rfl rfl rfl rfl (by omega) (fun _ _=>cZ) (src_os rfl (.inl rfl) (by decide)) rfl (fun j hj=>by rcases j with _|j <;> first|exact cZ|exact CEnt.int (by omega)|(exfalso;simp at hj <;> omega)) Tryz.underlying81 nu81 sz22 zr22 by22 rfl (by (simp;omega)) (by (simp;omega)) (leaf_flk rfl rfl) rfl rfl rfl (fun p4=>?_))
    refine jzq jrnc ?_;refine jzq (jrfa 0 1 false) ?_
    refine jzm (jmst 1 ?_)
    refine jzd ?_;refine jtn ?_;refine jcs ?_
    first
     |(refine jE (freeze 1 rfl) ?_;refine jE (thawC 0 0 1 (rqF ([]++l.take (l.length-1)++[(nextM (nowL l)).rest]) 0) (fun i _=>bsC (([]++l.take (l.length-1)++[(nextM (nowL l)).rest]).getD i [])) rfl rfl cZ cZ (fun j hj h0=>by rcases j with _|_|j <;> first|omega|exact cZ) (by simp) (fun a c ha hc=>by obtain rfl:c=0:=(by omega);rw [Nat.zero_add,Nat.mul_one,Nat.add_zero];exact cZ)) ?_;dsimp only [List.set_cons_zero,List.set_cons_succ,List.cons_append,List.nil_append,List.length_cons,List.length_nil,Nat.zero_add,Nat.reduceAdd])
     |(refine jE (freeze 2 rfl) ?_;refine jE (thawC 0 0 2 (rqF ([]++l.take (l.length-1)++[(nextM (nowL l)).rest]) 0) (fun i _=>bsC (([]++l.take (l.length-1)++[(nextM (nowL l)).rest]).getD i [])) rfl rfl cZ cZ (fun j hj h0=>by rcases j with _|_|j <;> first|omega|exact cZ) (by simp) (fun a c ha hc=>by obtain rfl:c=0:=(by omega);rw [Nat.zero_add,Nat.mul_one,Nat.add_zero];exact cZ)) ?_;dsimp only [List.set_cons_zero,List.set_cons_succ,List.cons_append,List.nil_append,List.length_cons,List.length_nil,Nat.zero_add,Nat.reduceAdd])
    refine jcd (.rd 0 (.rd 1 (.rd 2 (.rd 3 (.rd 4 (.rd 5 (.rd 6 (.rd 7 (.rd 8 (.rd 9 .done)))))))))) ?_;refine jyq jrm ?_;refine jyq jrm ?_;refine jyq jrm ?_;refine jyq (jrsb (hz1:=(show _=(((fromM (nowL l)):Nat):Int) by omega)) (hz2:=(show _=(((toM (nowL l)):Nat):Int) by omega))) ?_;refine jyq jrm ?_;refine jyq jrm ?_;refine jyq (jrst (hz2:=(show _=(((toM (nowL l)):Nat):Int) by omega))) ?_;refine jyq jrm ?_;refine jyq jrm ?_;refine jyq jrm ?_;refine jyd ?_;refine jtn ?_;refine jR ?_
    rw [hN]
    refine end_H (.inl rfl) rfl (res_3 rfl javt javt javt) (CEnt.tup3 (CEnt.bs ?_) (CEnt.bs ?_) cZ)
    ·exact hc.1.symm
    ·rw [take_toM (by omega)]
  ·refine z_ent (weaken 69 (bsC (nextM (nowL l)).rest) (CEnt.bs hc.2.1.symm)) ?_
   refine jze (jebl 1 1 zr22 fun p1=>?_)
   refine jze (jebl 0 1 zr22 fun p2=>?_)
   refine jzm (m_appendC rowC_lb (l:=[]) (l2:=l.take (l.length-1)) rfl rfl rfl rfl (Nat.le_of_eq (Nat.zero_mul _)) (fun j hj=>absurd hj (by simp)) (src_rs rfl) (by rw [List.length_take];omega) (fun j hj=>CEnt.of_eq (lb_take8 (by omega))) Tryz.underlying81 nu81 sz22 zr22 by22 rfl (by simp;omega) (by simp;omega) (fun j hj=>rfl) rfl rfl (Nat.mul_one _) (fun p3=>?_))
   refine jzm (m_appendC (rowC_lb) (l2:=[(nextM (nowL l)).rest]) rfl rfl rfl rfl (by omega) (fun _ _=>cZ) (src_os rfl (.inl rfl) (by decide)) rfl (fun j hj=>by rcases j with _|j <;> first|exact cZ|exact CEnt.int (by omega)|(exfalso;simp at hj <;> omega)) Tryz.underlying81 nu81 sz22 zr22 by22 rfl (by (simp;omega)) (by (simp;omega)) (leaf_flk rfl rfl) rfl rfl rfl (fun p4=>?_))
   refine jzq jrnc ?_;refine jzq (jrfa 0 1 false) ?_
   refine jzm (jmst 1 ?_)
   refine jzd ?_;refine jtn ?_;refine jcs ?_
   first
    |(refine jE (freeze 1 rfl) ?_;refine jE (thawC 0 0 1 (rqF ([]++l.take (l.length-1)++[(nextM (nowL l)).rest]) 0) (fun i _=>bsC (([]++l.take (l.length-1)++[(nextM (nowL l)).rest]).getD i [])) rfl rfl cZ cZ (fun j hj h0=>by rcases j with _|_|j <;> first|omega|exact cZ) (by simp) (fun a c ha hc=>by obtain rfl:c=0:=(by omega);rw [Nat.zero_add,Nat.mul_one,Nat.add_zero];exact cZ)) ?_;dsimp only [List.set_cons_zero,List.set_cons_succ,List.cons_append,List.nil_append,List.length_cons,List.length_nil,Nat.zero_add,Nat.reduceAdd])
    |(refine jE (freeze 2 rfl) ?_;refine jE (thawC 0 0 2 (rqF ([]++l.take (l.length-1)++[(nextM (nowL l)).rest]) 0) (fun i _=>bsC (([]++l.take (l.length-1)++[(nextM (nowL l)).rest]).getD i [])) rfl rfl cZ cZ (fun j hj h0=>by rcases j with _|_|j <;> first|omega|exact cZ) (by simp) (fun a c ha hc=>by obtain rfl:c=0:=(by omega);rw [Nat.zero_add,Nat.mul_one,Nat.add_zero];exact cZ)) ?_;dsimp only [List.set_cons_zero,List.set_cons_succ,List.cons_append,List.nil_append,List.length_cons,List.length_nil,Nat.zero_add,Nat.reduceAdd])
   refine jcd (.rd 0 (.rd 1 (.rd 2 (.rd 3 (.rd 4 (.rd 5 (.rd 6 (.rd 7 (.rd 8 (.rd 9 .done)))))))))) ?_;refine jyq jrm ?_;refine jyq jrm ?_;refine jyq jrm ?_;refine jyq (jrsb (hz1:=(show _=(((fromM (nowL l)):Nat):Int) by omega)) (hz2:=(show _=(((toM (nowL l)):Nat):Int) by omega))) ?_;refine jyq jrm ?_;refine jyq jrm ?_;refine jyq (jrst (hz2:=(show _=(((toM (nowL l)):Nat):Int) by omega))) ?_;refine jyq jrm ?_;refine jyq jrm ?_;refine jyq jrm ?_;refine jyd ?_;refine jtn ?_;refine jR ?_
   rw [hN]
   refine end_H (.inl rfl) rfl (res_3 rfl javt javt javt) (CEnt.tup3 (CEnt.bs ?_) (CEnt.bs ?_) cZ)
   ·exact hc.1.symm
   ·rw [take_toM (by omega)]
end
section
variable {gs:List Nat} [Ok9 gs]
open Go.RowKit Cal

theorem range_ok {b:List UInt8} {x y:Int} (h:(rangeM b x y).2=0):(rangeM b x y).1=(getM b).1:=by
 unfold rangeM at h ⊢
 split
 ·rename_i h1;rw [if_pos h1] at h;exact absurd h h1
 ·split
  ·rename_i h1 h2;rw [if_neg h1,if_pos h2] at h;exact absurd h (by decide)
  ·rfl
theorem said_34 {a:AA} (h:a.kind=3∨a.kind=4) (b:List UInt8):saidM a b=(vN (rangeM b a.least a.most).1,(rangeM b a.least a.most).2):=by
 unfold saidM
 rcases h with h|h
 ·rw [if_pos h]
 ·rw [if_neg (by omega),if_pos h]
theorem get_right {b:List UInt8} (h:(getA b).2=0):rightA (getA b).1=true:=by
 unfold getA at h ⊢
 split at h
 ·cases h
 ·rename_i h1
  rw [if_neg h1]
  split at h
  ·rename_i h2;exact absurd h h2
  ·rename_i h2
   rw [if_neg h2]
   split at h
   ·cases h
   ·rename_i h3
    rw [if_neg h3]
    simpa using h3
def SaidQ (a:AA) (b:List UInt8):CV→List (Option Nat×Res)→Prop:=fun r H'=>(∃ v,r=.tup 2 (fl [valC v,.c (.int .i64 ((saidM a b).2:Nat))])∧((saidM a b).2=0→v=(saidM a b).1))∧H'=[]
def GetC (gs:List Nat) (P:Program) (f:FuncId):Prop:=∀ b:List UInt8,b.length≤1000000→ACp gs P f [bsC b] (.tup 2 (fl [isC (getA b).1,.c (.int .i64 ((getA b).2:Nat))]))
theorem rsaid3_ac {gs:List Nat} (a:AA) (b:List UInt8) (h3:a.kind=3):AC gs Tryz.prog 71 [] [askC a,bsC b] (SaidQ a b):=by
 refine ac_of 126 Tryz.func71 rfl rfl rfl (fun al w0 F0 St0=>?_)
 refine jcr ?_
 refine jqe (jebx 4 fun p1=>?_)
 refine jqe (jeal (n:=5) zr63 rfl fun p2=>?_)
 refine jq jrm ?_;refine jN ?_;refine jcs ?_;refine jcr ?_;refine jq (jrfa 0 1 false) ?_;refine jqo jrdo ?_;refine jN ?_;refine jB ?_;refine jcs ?_;refine jcr ?_;refine jq jrc ?_;refine jq jrm ?_;refine jN ?_;refine jcc (fun h246=>?_) fun h246=>?_
 rotate_left
 ·exfalso;omega
 refine jS (jtn ?_)
 refine jcT ?_;refine jcr ?_;refine jq jrm ?_
 refine jqe (jecP (rget04_ac b) ?_)
 refine jq jrm ?_;refine jq jrx ?_;refine jq jrx ?_;refine jq jrm ?_;refine jq jrm ?_;refine jN ?_;refine jcs ?_;refine jcr ?_;refine jq jrm ?_;refine jq jrc ?_;refine jq jrm ?_;refine jqsp 26 (fun g248=>?_) fun g248=>?_
 rotate_left
 ·refine jqs ?_;refine jqs ?_;refine jqs ?_;refine jqs ?_;refine jqs ?_;refine jqs ?_;refine jqs ?_;refine jqs ?_;refine jqs ?_;refine jqs ?_;refine jq jrpF ?_;refine jN ?_;refine jcF ?_
  refine jS (jtn ?_)
  refine jcr ?_;refine jq jrm ?_;refine jq (rd_build (n:=5) rfl zr63 pl63 rfl rfl) ?_;refine jq jrm ?_
  refine jqm (jmst 5 ?_)
  refine jq jrm ?_;refine jN ?_
  refine jR (jbr (jtr ?_))
  have hs:=said_34 (a:=a) (by omega) b
  have hq:SaidQ a b (.tup 2 (fl [valC (vN (getM b).1),.c (.int .i64 ((rangeM b a.least a.most).2:Nat))])) []:=⟨⟨_,by rw [hs],fun h0=>by rw [hs] at h0 ⊢;simp only;rw [range_ok h0]⟩,rfl⟩
  exact end_ownV (.inl rfl) [] (by decide) rfl (res_2 rfl (javA 5) javt) (CEnt.tup2 (CEnt.agg rfl (fun j hj=>by rcases j with _|_|_|_|_|j <;> first|exact cZ|exact CEnt.nilB|omega)) (CEnt.int (by unfold rangeM;(rw [if_pos (by omega)];done)))) hq
 refine jq jrm ?_;refine jq (jrfa 2 1 false) ?_;refine jqo jrdo ?_;refine jq jrc ?_;refine jq jrm ?_;refine jqsp 31 (fun g248_2=>?_) fun g248_2=>?_
 ·refine jqs ?_;refine jqs ?_;refine jqs ?_;refine jqs ?_;refine jq jrpT ?_;refine jq jrpT ?_;refine jN ?_;refine jcT ?_;refine jcg ?_;refine jq jrm ?_;refine jN ?_;refine jtn ?_;refine jcr ?_;refine jq jrm ?_;refine jq (rd_build (n:=5) rfl zr63 pl63 rfl rfl) ?_;refine jq jrm ?_
  refine jqm (jmst 5 ?_)
  refine jq jrm ?_;refine jN ?_
  refine jR (jbr (jtr ?_))
  have hs:=said_34 (a:=a) (by omega) b
  have hq:SaidQ a b (.tup 2 (fl [valC (vN (getM b).1),.c (.int .i64 ((rangeM b a.least a.most).2:Nat))])) []:=⟨⟨_,by rw [hs],fun h0=>by rw [hs] at h0 ⊢;simp only;rw [range_ok h0]⟩,rfl⟩
  exact end_ownV (.inl rfl) [] (by decide) rfl (res_2 rfl (javA 5) javt) (CEnt.tup2 (CEnt.agg rfl (fun j hj=>by rcases j with _|_|_|_|_|j <;> first|exact cZ|exact CEnt.nilB|omega)) (CEnt.int (by unfold rangeM;(rw [if_neg (by omega),if_pos (by omega)];rfl)))) hq
 refine jq jrm ?_;refine jq (jrfa 3 1 false) ?_;refine jqo jrdo ?_;refine jq jrc ?_;refine jq jrpF ?_;refine jq jrpT ?_;refine jN ?_;refine jcc (fun h248=>?_) fun h248=>?_
 rotate_left
 ·refine jS (jtn ?_)
  refine jcr ?_;refine jq jrm ?_;refine jq (rd_build (n:=5) rfl zr63 pl63 rfl rfl) ?_;refine jq jrm ?_
  refine jqm (jmst 5 ?_)
  refine jq jrm ?_;refine jN ?_
  refine jR (jbr (jtr ?_))
  have hs:=said_34 (a:=a) (by omega) b
  have hq:SaidQ a b (.tup 2 (fl [valC (vN (getM b).1),.c (.int .i64 ((rangeM b a.least a.most).2:Nat))])) []:=⟨⟨_,by rw [hs],fun h0=>by rw [hs] at h0 ⊢;simp only;rw [range_ok h0]⟩,rfl⟩
  exact end_ownV (.inl rfl) [] (by decide) rfl (res_2 rfl (javA 5) javt) (CEnt.tup2 (CEnt.agg rfl (fun j hj=>by rcases j with _|_|_|_|_|j <;> first|exact cZ|exact CEnt.nilB|omega)) (CEnt.int (by unfold rangeM;(rw [if_neg (by omega),if_neg (by omega)];simp only;omega)))) hq
 refine jcg ?_;refine jq jrm ?_;refine jN ?_;refine jtn ?_;refine jcr ?_;refine jq jrm ?_;refine jq (rd_build (n:=5) rfl zr63 pl63 rfl rfl) ?_;refine jq jrm ?_
 refine jqm (jmst 5 ?_)
 refine jq jrm ?_;refine jN ?_
 refine jR (jbr (jtr ?_))
 have hs:=said_34 (a:=a) (by omega) b
 have hq:SaidQ a b (.tup 2 (fl [valC (vN (getM b).1),.c (.int .i64 ((rangeM b a.least a.most).2:Nat))])) []:=⟨⟨_,by rw [hs],fun h0=>by rw [hs] at h0 ⊢;simp only;rw [range_ok h0]⟩,rfl⟩
 exact end_ownV (.inl rfl) [] (by decide) rfl (res_2 rfl (javA 5) javt) (CEnt.tup2 (CEnt.agg rfl (fun j hj=>by rcases j with _|_|_|_|_|j <;> first|exact cZ|exact CEnt.nilB|omega)) (CEnt.int (by unfold rangeM;(rw [if_neg (by omega),if_pos (by omega)];rfl)))) hq
end
section
variable {gs:List Nat} [Ok9 gs]
open Go.RowKit Cal

theorem nextR_err {tag:Int} {l:List (List UInt8)} {k:Nat} (h:k≠0):nextR tag l k=⟨l,k,0,[],[],false⟩:=by unfold nextR;rw [if_pos h]
theorem readR_err {a:AA} {l:List (List UInt8)} {k:Nat} (h:k≠0):readR a l k=⟨l,k,VV.none⟩:=by
 have hm:moreM l k=false:=by unfold moreM;simp [h]
 have he:enterR a.tag l k=⟨l,k,0,[],[],false⟩:=by unfold enterR;rw [hm,if_neg (by simp)];exact nextR_err h
 unfold readR
 split
 ·unfold enterL;rw [he];rfl
 ·split
  ·have:leaveK l k=k:=by unfold leaveK;rw [if_pos h]
   unfold leaveL
   rw [this,if_neg h]
  ·split
   ·rw [nextR_err h];rfl
   ·unfold readV valK
    rw [nextR_err h]
    simp
theorem tag_at {a:AA} (h1:3≤a.kind) (h2:a.kind≤9):fl [CV.c (.int .i64 2),.c (.int .i64 10),.c (.int .i64 1),.c (.int .i64 4),.c (.int .i64 12),.c (.int .i64 6),.c (.int .i64 24)] ((a.kind-3).toNat)=.c (.int .i64 (tagA a)):=by
 obtain h|h|h|h|h|h|h:a.kind=3∨a.kind=4∨a.kind=5∨a.kind=6∨a.kind=7∨a.kind=8∨a.kind=9:=by omega
 all_goals (unfold tagA;rw [h];rfl)
theorem lb_takeD {l:List (List UInt8)} {m i:Nat} (h:i<m):bsC (l.getD (0+i) [])=bsC ((l.take m).getD i []):=by
 simp [List.getD_eq_getElem?_getD,List.getElem?_take,h]
theorem readR_enter {a:AA} {l:List (List UInt8)} (h:a.kind=1) (h0:¬(moreM l 0=true∧madeM a.tag=false)):readR a l 0=⟨if (nextR a.tag l 0).is=true then (nextR a.tag l 0).l++[(nextR a.tag l 0).body] else (nextR a.tag l 0).l,(nextR a.tag l 0).k,vI (nextR a.tag l 0).is⟩:=by
 have hE:enterR a.tag l 0=nextR a.tag l 0:=by unfold enterR;rw [if_neg h0]
 unfold readR enterL
 rw [if_pos h,hE]
theorem readR_bad {a:AA} {l:List (List UInt8)} (h:a.kind=1) (h0:moreM l 0=true∧madeM a.tag=false):readR a l 0=⟨l,5,vI false⟩:=by
 have hE:enterR a.tag l 0=⟨l,5,0,[],[],false⟩:=by unfold enterR;rw [if_pos h0];exact nextR_err (by decide)
 unfold readR enterL
 rw [if_pos h,hE]
 rfl
theorem readR_leave {a:AA} {l:List (List UInt8)} (h:a.kind=2) {e:Nat} (he:leaveK l 0=e):readR a l 0=⟨if e=0 then l.take (l.length-1) else l,e,VV.none⟩:=by
 unfold readR leaveL
 rw [if_neg (by omega),if_pos h,he]
theorem readR_val {a:AA} {l:List (List UInt8)} (h1:a.kind≠1) (h2:a.kind≠2) (h3:a.kind≠11):readR a l 0=readV (tagA a) (saidM a) l 0:=by
 unfold readR
 rw [if_neg h1,if_neg h2,if_neg h3]
set_option maxHeartbeats 2000000 in
theorem rdo08_ac {gs:List Nat} (n:Nat) (l:List (List UInt8)) (k:Nat) (a:AA) (hl:0<l.length∧l.length≤1000000) (hb:(nowL l).length≤1000000) (hS:a.kind≠1→a.kind≠2→a.kind≠11→∀ b:List UInt8,b.length≤1000000→AC gs Tryz.prog 71 [] [askC a,bsC b] (SaidQ a b)):AC gs Tryz.prog 35 [rqE n l k] [.op 0 (some n) 0,askC a] (fun r H'=>r=valC (readR a l k).v∧H'=[rqE n (readR a l k).l (readR a l k).k]):=by
 have hbd:=nextM_bd (nowL l)
 have hn1:(nextR a.tag l 0).l.length=l.length:=nextR_len
 have hbb:(nextR (tagA a) l 0).body.length≤1000000:=by
  unfold nextR
  repeat' split
  all_goals (simp only [List.length_nil];omega)
 refine ac_of 160 Tryz.func35 rfl rfl rfl (fun al w0 F0 St0=>?_)
 refine jcr ?_
 refine jqe (jebx 4 fun p1=>?_)
 refine jqe (jeal (n:=5) zr63 rfl fun p2=>?_)
 refine jN ?_;refine jcr ?_;refine jq (rd_build (n:=5) rfl zr63 pl63 rfl rfl) ?_
 refine jqe (jeal (n:=5) zr63 rfl fun p3=>?_)
 refine jqm (jmst 5 ?_)
 refine jN ?_;refine jcs ?_;refine jcr ?_;refine jq jrm ?_;refine jq jrnc ?_;refine jq (jrfa 1 1 false) ?_;refine jqo jrdo ?_;refine jq jrc ?_;refine jN ?_;refine jcc (fun h199=>?_) fun h199=>?_
 ·refine jcr ?_;refine jqo (jrdoA 5) ?_
  refine jqm (jmst 5 ?_)
  refine jN ?_
  refine jR (jtr ?_)
  rw [readR_err (by omega)]
  exact end_H (.inl rfl) rfl (res_1 rfl (javA 5)) (CEnt.agg rfl (fun j hj=>by rcases j with _|_|_|_|_|j <;> first|exact cZ|exact CEnt.nilB|omega))
 refine jS (jtn ?_)
 refine jcs ?_
 obtain rfl:k=0:=by omega
 refine jE (freeze 1 rfl) ?_;refine jE (thawP 3 (m:=4) rfl rfl (by decide)) ?_
 dsimp only [List.set_cons_zero,List.set_cons_succ,List.cons_append,List.nil_append,List.length_cons,List.length_nil,Nat.zero_add,Nat.reduceAdd]
 refine jcr ?_;refine jq (jrfa 0 1 false) ?_;refine jq jrdr ?_;refine jN ?_;refine jB ?_;refine jcr ?_;refine jq jrc ?_;refine jq jrm ?_;refine jN ?_;refine jcc (fun h203=>?_) fun h203=>?_
 ·refine jcs ?_;refine jcs ?_;refine jcd (.rd 0 (.rd 1 (.rd 2 (.rd 3 (.rd 4 (.rd 5 (.rd 6 (.rd 7 (.rd 8 (.rd 9 (.rd 10 (.rd 11 (.rd 12 (.rd 13 (.rd 14 (.rd 15 (.rd 16 (.one 17 (.rd 18 (.rd 19 .done)))))))))))))))))))) ?_;refine jyq jrm ?_;refine jyq jrnc ?_;refine jyq (jrfa 0 1 false) ?_;refine jyo jrdo ?_;refine jyq jrm ?_;refine jyq jrnc ?_;refine jyq (jrfa 0 1 false) ?_;refine jyo jrdo ?_;refine jyq jrl ?_;refine jyq jra ?_;refine jyq (jri (i:=(l.length-1)) (hz:=by omega)) ?_;refine jyq jrdr ?_;refine jyq jrl ?_;refine jyq jrc ?_;refine jyq jrm ?_;refine jysp 44 (fun g204=>?_) fun g204=>?_
  rotate_left
  ·refine jys ?_;refine jys ?_;refine jys1 ?_;refine jys ?_;refine jyq jrpF ?_;refine jyd ?_;refine jtn ?_;refine jcF ?_
   refine jS (jtn ?_)
   have hR:=readR_enter (a:=a) (l:=l) (by omega) (by simp_all [moreM,madeM,nowL])
   refine jcr ?_;refine jq jrm ?_;refine jq (jrfa 1 1 false) ?_;refine jq jrdr ?_
   refine jqm (jmcH 0 (rnext08_ac n l 0 a.tag hl (by omega)) ?_)
   rintro _ _ ⟨rfl,rfl⟩
   refine ⟨_,_,rfl,cZ,?_⟩
   refine jq jrm ?_;refine jq jrx ?_;refine jq jrx ?_;refine jq jrx ?_;refine jq jrm ?_;refine jq jrm ?_;refine jq jrm ?_;refine jN ?_;refine jcs ?_;refine jcr ?_;refine jq jrm ?_;refine jN ?_;refine jcc (fun h209=>?_) fun h209=>?_
   rotate_left
   ·refine jS (jtn ?_)
    first
     |(refine jE (freeze 4 rfl) ?_;refine jE (thawC 0 0 4 (rqF ([]++(nextR a.tag l 0).l++[(nextR a.tag l 0).body]) (nextR a.tag l 0).k) (fun i _=>bsC (([]++(nextR a.tag l 0).l++[(nextR a.tag l 0).body]).getD i [])) rfl rfl cZ cZ (fun j hj h0=>by rcases j with _|_|j <;> first|omega|exact cZ) (by simp) (fun a c ha hc=>by obtain rfl:c=0:=(by omega);rw [Nat.zero_add,Nat.mul_one,Nat.add_zero];exact cZ)) ?_;dsimp only [List.set_cons_zero,List.set_cons_succ,List.cons_append,List.nil_append,List.length_cons,List.length_nil,Nat.zero_add,Nat.reduceAdd];have hL:(if (nextR a.tag l 0).is=true then (nextR a.tag l 0).l++[(nextR a.tag l 0).body] else (nextR a.tag l 0).l)=[]++(nextR a.tag l 0).l++[(nextR a.tag l 0).body]:=by rw [if_pos (by simpa using h209)];rfl)
     |(have hL:(if (nextR a.tag l 0).is=true then (nextR a.tag l 0).l++[(nextR a.tag l 0).body] else (nextR a.tag l 0).l)=(nextR a.tag l 0).l:=by rw [if_neg (by simpa using h209)])
    refine jcr ?_;refine jq jrm ?_;refine jq (rd_build (n:=5) rfl zr63 pl63 rfl rfl) ?_
    refine jqm (jmst 5 ?_)
    refine jN ?_
    refine jR (jbr (jtr ?_))
    rw [hR,hL]
    exact end_H (.inl rfl) rfl (res_1 rfl (javA 5)) (CEnt.agg rfl (fun j hj=>by rcases j with _|_|_|_|_|j <;> first|exact cZ|exact CEnt.nilB|omega))
   refine jcg ?_;refine jq jrm ?_
   refine jqe (jebl 0 1 zr22 fun p5=>?_)
   refine jq jrm ?_;refine jq jrnc ?_;refine jq (jrfa 0 1 false) ?_;refine jqo jrdo ?_
   refine jqm (m_appendC (l:=[]) ( rowC_lb) rfl rfl rfl rfl (Nat.le_of_eq (Nat.zero_mul _)) (fun j hj=>absurd hj (by simp)) (src_rs rfl) rfl (fun j hj=>by (simp only [Nat.div_one];exact cZ)) Tryz.underlying81 nu81 sz22 zr22 by22 rfl (by (simp;omega)) (by (simp;omega)) (fun j hj=>rfl) rfl rfl rfl (fun p6=>?_))
   refine jq jrm ?_
   refine jqe (jebl 1 1 zr22 fun p7=>?_)
   refine jqm (m_appendC (rowC_lb) (l2:=[(nextR a.tag l 0).body]) rfl rfl rfl rfl (by exact Nat.le_refl _) (fun _ _=>cZ) (src_os rfl (.inl rfl) (by decide)) rfl (fun j hj=>by rcases j with _|j <;> first|exact cZ|exact CEnt.int (by omega)|(exfalso;simp at hj <;> omega)) Tryz.underlying81 nu81 sz22 zr22 by22 rfl (by (simp;omega)) (by (simp;omega)) (leaf_flk rfl rfl) rfl rfl rfl (fun p8=>?_))
   refine jq jrnc ?_;refine jq (jrfa 0 1 false) ?_
   refine jqm (jmst 1 ?_)
   refine jN ?_;refine jtn ?_
   first
    |(refine jE (freeze 4 rfl) ?_;refine jE (thawC 0 0 4 (rqF ([]++(nextR a.tag l 0).l++[(nextR a.tag l 0).body]) (nextR a.tag l 0).k) (fun i _=>bsC (([]++(nextR a.tag l 0).l++[(nextR a.tag l 0).body]).getD i [])) rfl rfl cZ cZ (fun j hj h0=>by rcases j with _|_|j <;> first|omega|exact cZ) (by simp) (fun a c ha hc=>by obtain rfl:c=0:=(by omega);rw [Nat.zero_add,Nat.mul_one,Nat.add_zero];exact cZ)) ?_;dsimp only [List.set_cons_zero,List.set_cons_succ,List.cons_append,List.nil_append,List.length_cons,List.length_nil,Nat.zero_add,Nat.reduceAdd];have hL:(if (nextR a.tag l 0).is=true then (nextR a.tag l 0).l++[(nextR a.tag l 0).body] else (nextR a.tag l 0).l)=[]++(nextR a.tag l 0).l++[(nextR a.tag l 0).body]:=by rw [if_pos (by simpa using h209)];rfl)
    |(have hL:(if (nextR a.tag l 0).is=true then (nextR a.tag l 0).l++[(nextR a.tag l 0).body] else (nextR a.tag l 0).l)=(nextR a.tag l 0).l:=by rw [if_neg (by simpa using h209)])
   refine jcr ?_;refine jq jrm ?_;refine jq (rd_build (n:=5) rfl zr63 pl63 rfl rfl) ?_
   refine jqm (jmst 5 ?_)
   refine jN ?_
   refine jR (jbr (jtr ?_))
   rw [hR,hL]
   exact end_H (.inl rfl) rfl (res_1 rfl (javA 5)) (CEnt.agg rfl (fun j hj=>by rcases j with _|_|_|_|_|j <;> first|exact cZ|exact CEnt.nilB|omega))
  refine jyq (jrfa 1 1 false) ?_;refine jyq jrdr ?_
  refine jye (jecP (rmade_ac a.tag) ?_)
  refine jyq jrn ?_;refine jyq jrpT ?_;refine jyd ?_;refine jtn ?_;refine jcc (fun h204=>?_) fun h204=>?_
  ·refine jcr ?_;refine jq jrm ?_;refine jq jrnc ?_;refine jq (jrfa 1 1 false) ?_
   refine jqm (jmstF 1 (rqF l 5) ?_ ?_)
   ·exact (fun j hj=>by rcases j with _|_|j <;> exact cZ)
   refine jN ?_;refine jcr ?_;refine jqo (jrdoA 5) ?_
   refine jqm (jmst 5 ?_)
   refine jN ?_
   refine jR (jtr (jbr (jtr ?_)))
   rw [readR_bad (by omega) (by simp_all [moreM,madeM,nowL])]
   exact end_H (.inl rfl) rfl (res_1 rfl (javA 5)) (CEnt.agg rfl (fun j hj=>by rcases j with _|_|_|_|_|j <;> first|exact cZ|exact CEnt.nilB|omega))
  refine jS (jtn ?_)
  have hR:=readR_enter (a:=a) (l:=l) (by omega) (by simp_all [moreM,madeM,nowL])
  refine jcr ?_;refine jq jrm ?_;refine jq (jrfa 1 1 false) ?_;refine jq jrdr ?_
  refine jqm (jmcH 0 (rnext08_ac n l 0 a.tag hl (by omega)) ?_)
  rintro _ _ ⟨rfl,rfl⟩
  refine ⟨_,_,rfl,cZ,?_⟩
  refine jq jrm ?_;refine jq jrx ?_;refine jq jrx ?_;refine jq jrx ?_;refine jq jrm ?_;refine jq jrm ?_;refine jq jrm ?_;refine jN ?_;refine jcs ?_;refine jcr ?_;refine jq jrm ?_;refine jN ?_;refine jcc (fun h209=>?_) fun h209=>?_
  rotate_left
  ·refine jS (jtn ?_)
   first
    |(refine jE (freeze 4 rfl) ?_;refine jE (thawC 0 0 4 (rqF ([]++(nextR a.tag l 0).l++[(nextR a.tag l 0).body]) (nextR a.tag l 0).k) (fun i _=>bsC (([]++(nextR a.tag l 0).l++[(nextR a.tag l 0).body]).getD i [])) rfl rfl cZ cZ (fun j hj h0=>by rcases j with _|_|j <;> first|omega|exact cZ) (by simp) (fun a c ha hc=>by obtain rfl:c=0:=(by omega);rw [Nat.zero_add,Nat.mul_one,Nat.add_zero];exact cZ)) ?_;dsimp only [List.set_cons_zero,List.set_cons_succ,List.cons_append,List.nil_append,List.length_cons,List.length_nil,Nat.zero_add,Nat.reduceAdd];have hL:(if (nextR a.tag l 0).is=true then (nextR a.tag l 0).l++[(nextR a.tag l 0).body] else (nextR a.tag l 0).l)=[]++(nextR a.tag l 0).l++[(nextR a.tag l 0).body]:=by rw [if_pos (by simpa using h209)];rfl)
    |(have hL:(if (nextR a.tag l 0).is=true then (nextR a.tag l 0).l++[(nextR a.tag l 0).body] else (nextR a.tag l 0).l)=(nextR a.tag l 0).l:=by rw [if_neg (by simpa using h209)])
   refine jcr ?_;refine jq jrm ?_;refine jq (rd_build (n:=5) rfl zr63 pl63 rfl rfl) ?_
   refine jqm (jmst 5 ?_)
   refine jN ?_
   refine jR (jbr (jtr ?_))
   rw [hR,hL]
   exact end_H (.inl rfl) rfl (res_1 rfl (javA 5)) (CEnt.agg rfl (fun j hj=>by rcases j with _|_|_|_|_|j <;> first|exact cZ|exact CEnt.nilB|omega))
  refine jcg ?_;refine jq jrm ?_
  refine jqe (jebl 0 1 zr22 fun p5=>?_)
  refine jq jrm ?_;refine jq jrnc ?_;refine jq (jrfa 0 1 false) ?_;refine jqo jrdo ?_
  refine jqm (m_appendC (l:=[]) ( rowC_lb) rfl rfl rfl rfl (Nat.le_of_eq (Nat.zero_mul _)) (fun j hj=>absurd hj (by simp)) (src_rs rfl) rfl (fun j hj=>by (simp only [Nat.div_one];exact cZ)) Tryz.underlying81 nu81 sz22 zr22 by22 rfl (by (simp;omega)) (by (simp;omega)) (fun j hj=>rfl) rfl rfl rfl (fun p6=>?_))
  refine jq jrm ?_
  refine jqe (jebl 1 1 zr22 fun p7=>?_)
  refine jqm (m_appendC (rowC_lb) (l2:=[(nextR a.tag l 0).body]) rfl rfl rfl rfl (by exact Nat.le_refl _) (fun _ _=>cZ) (src_os rfl (.inl rfl) (by decide)) rfl (fun j hj=>by rcases j with _|j <;> first|exact cZ|exact CEnt.int (by omega)|(exfalso;simp at hj <;> omega)) Tryz.underlying81 nu81 sz22 zr22 by22 rfl (by (simp;omega)) (by (simp;omega)) (leaf_flk rfl rfl) rfl rfl rfl (fun p8=>?_))
  refine jq jrnc ?_;refine jq (jrfa 0 1 false) ?_
  refine jqm (jmst 1 ?_)
  refine jN ?_;refine jtn ?_
  first
   |(refine jE (freeze 4 rfl) ?_;refine jE (thawC 0 0 4 (rqF ([]++(nextR a.tag l 0).l++[(nextR a.tag l 0).body]) (nextR a.tag l 0).k) (fun i _=>bsC (([]++(nextR a.tag l 0).l++[(nextR a.tag l 0).body]).getD i [])) rfl rfl cZ cZ (fun j hj h0=>by rcases j with _|_|j <;> first|omega|exact cZ) (by simp) (fun a c ha hc=>by obtain rfl:c=0:=(by omega);rw [Nat.zero_add,Nat.mul_one,Nat.add_zero];exact cZ)) ?_;dsimp only [List.set_cons_zero,List.set_cons_succ,List.cons_append,List.nil_append,List.length_cons,List.length_nil,Nat.zero_add,Nat.reduceAdd];have hL:(if (nextR a.tag l 0).is=true then (nextR a.tag l 0).l++[(nextR a.tag l 0).body] else (nextR a.tag l 0).l)=[]++(nextR a.tag l 0).l++[(nextR a.tag l 0).body]:=by rw [if_pos (by simpa using h209)];rfl)
   |(have hL:(if (nextR a.tag l 0).is=true then (nextR a.tag l 0).l++[(nextR a.tag l 0).body] else (nextR a.tag l 0).l)=(nextR a.tag l 0).l:=by rw [if_neg (by simpa using h209)])
  refine jcr ?_;refine jq jrm ?_;refine jq (rd_build (n:=5) rfl zr63 pl63 rfl rfl) ?_
  refine jqm (jmst 5 ?_)
  refine jN ?_
  refine jR (jbr (jtr ?_))
  rw [hR,hL]
  exact end_H (.inl rfl) rfl (res_1 rfl (javA 5)) (CEnt.agg rfl (fun j hj=>by rcases j with _|_|_|_|_|j <;> first|exact cZ|exact CEnt.nilB|omega))
 refine jcr ?_;refine jq jrc ?_;refine jq jrm ?_;refine jN ?_;refine jcc (fun h213=>?_) fun h213=>?_
 ·refine jcr ?_;refine jq jrm ?_;refine jq jrnc ?_;refine jq (jrfa 0 1 false) ?_;refine jqo jrdo ?_;refine jq jrl ?_;refine jq jra ?_;refine jq jrm ?_;refine jN ?_;refine jcs ?_;refine jcr ?_;refine jq jrm ?_;refine jq jrc ?_;refine jN ?_;refine jcc (fun h215=>?_) fun h215=>?_
  ·refine jcg ?_;refine jq jrm ?_;refine jq jrnc ?_;refine jq (jrfa 1 1 false) ?_
   refine jqm (jmstF 1 (rqF l 24) ?_ ?_)
   ·exact (fun j hj=>by rcases j with _|_|j <;> exact cZ)
   refine jN ?_;refine jtn ?_;refine jcr ?_;refine jqo (jrdoA 5) ?_
   refine jqm (jmst 5 ?_)
   refine jN ?_
   refine jR (jbr (jtr ?_))
   first
    | rw [readR_leave (e:=24) (by omega) (by unfold leaveK;rw [if_neg (by decide),if_pos (by omega)]),if_neg (by decide)]
    | rw [readR_leave (e:=4) (by omega) (by unfold leaveK nowL;rw [if_neg (by decide),if_neg (by omega),if_pos (by omega)]),if_neg (by decide)]
    | rw [readR_leave (e:=0) (by omega) (by unfold leaveK nowL;rw [if_neg (by decide),if_neg (by omega),if_neg (by omega)]),if_pos rfl]
   exact end_H (.inl rfl) rfl (res_1 rfl (javA 5)) (CEnt.agg rfl (fun j hj=>by rcases j with _|_|_|_|_|j <;> first|exact cZ|exact CEnt.nilB|omega))
  refine jcr ?_;refine jq jrm ?_;refine jq jrnc ?_;refine jq (jrfa 0 1 false) ?_;refine jqo jrdo ?_;refine jq jrm ?_;refine jq (jri (i:=(l.length-1)) (hz:=by omega)) ?_;refine jq jrdr ?_;refine jq jrl ?_;refine jq jrc ?_;refine jN ?_;refine jcc (fun h217=>?_) fun h217=>?_
  ·refine jcg ?_;refine jq jrm ?_;refine jq jrnc ?_;refine jq (jrfa 1 1 false) ?_
   refine jqm (jmstF 1 (rqF l 4) ?_ ?_)
   ·exact (fun j hj=>by rcases j with _|_|j <;> exact cZ)
   refine jN ?_;refine jtn ?_;refine jcr ?_;refine jqo (jrdoA 5) ?_
   refine jqm (jmst 5 ?_)
   refine jN ?_
   refine jR (jbr (jtr ?_))
   first
    | rw [readR_leave (e:=24) (by omega) (by unfold leaveK;rw [if_neg (by decide),if_pos (by omega)]),if_neg (by decide)]
    | rw [readR_leave (e:=4) (by omega) (by unfold leaveK nowL;rw [if_neg (by decide),if_neg (by omega),if_pos (by omega)]),if_neg (by decide)]
    | rw [readR_leave (e:=0) (by omega) (by unfold leaveK nowL;rw [if_neg (by decide),if_neg (by omega),if_neg (by omega)]),if_pos rfl]
   exact end_H (.inl rfl) rfl (res_1 rfl (javA 5)) (CEnt.agg rfl (fun j hj=>by rcases j with _|_|_|_|_|j <;> first|exact cZ|exact CEnt.nilB|omega))
  refine jcg ?_;refine jq jrm ?_;refine jq jrm ?_;refine jq jrnc ?_;refine jq (jrfa 0 1 false) ?_;refine jqo jrdo ?_;refine jq jrm ?_;refine jq (jrsr (hl:=(bd_none _ _)) (hu:=(bd_some rfl (show _=(((l.length-1):Nat):Int) by omega)))) ?_;refine jq jrnc ?_;refine jq (jrfa 0 1 false) ?_
  refine jqm (jmstF 1 (rqF (l.take (l.length-1)) 0) ?_ ?_)
  ·exact (fun j hj=>by rcases j with _|_|j <;> first|exact CEnt.rs (by rw [List.length_take];omega) (fun i q hi hq=>CEnt.of_eq (lb_takeD hi))|exact cZ|omega)
  refine jN ?_;refine jtn ?_;refine jcr ?_;refine jqo (jrdoA 5) ?_
  refine jqm (jmst 5 ?_)
  refine jN ?_
  refine jR (jbr (jtr ?_))
  first
   | rw [readR_leave (e:=24) (by omega) (by unfold leaveK;rw [if_neg (by decide),if_pos (by omega)]),if_neg (by decide)]
   | rw [readR_leave (e:=4) (by omega) (by unfold leaveK nowL;rw [if_neg (by decide),if_neg (by omega),if_pos (by omega)]),if_neg (by decide)]
   | rw [readR_leave (e:=0) (by omega) (by unfold leaveK nowL;rw [if_neg (by decide),if_neg (by omega),if_neg (by omega)]),if_pos rfl]
  exact end_H (.inl rfl) rfl (res_1 rfl (javA 5)) (CEnt.agg rfl (fun j hj=>by rcases j with _|_|_|_|_|j <;> first|exact cZ|exact CEnt.nilB|omega))
 refine jcr ?_;refine jq jrc ?_;refine jq jrm ?_;refine jN ?_;refine jcc (fun h223=>?_) fun h223=>?_
 ·refine jcr ?_;refine jq jrm ?_
  refine jqm (jmcH 0 (rnext08_ac n l 0 0 hl (by omega)) ?_)
  rintro _ _ ⟨rfl,rfl⟩
  refine ⟨_,_,rfl,cZ,?_⟩
  refine jq jrm ?_;refine jq jrx ?_;refine jq jrx ?_;refine jq jrx ?_;refine jq jrm ?_;refine jq jrm ?_;refine jq jrm ?_;refine jN ?_;refine jcr ?_;refine jq jrm ?_;refine jq (rd_build (n:=5) rfl zr63 pl63 rfl rfl) ?_
  refine jqm (jmst 5 ?_)
  refine jN ?_
  refine jR (jbr (jtr ?_))
  rw [show readR a l 0=⟨(nextR 0 l 0).l,(nextR 0 l 0).k,vB (nextR 0 l 0).raw⟩ by unfold readR;rw [if_neg (by omega),if_neg (by omega),if_pos (by omega)]]
  exact end_H (.inl rfl) rfl (res_1 rfl (javA 5)) (CEnt.agg rfl (fun j hj=>by rcases j with _|_|_|_|_|j <;> first|exact cZ|exact CEnt.nilB|omega))
 refine jS (jbn (jtn ?_))
 refine jcr ?_;refine jq jrm ?_;refine jN ?_;refine jcs ?_;refine jcr ?_;refine jq (jrfa 0 1 false) ?_;refine jq jrdr ?_;refine jq jrc ?_;refine jq jrm ?_;refine jqsp 125 (fun g228=>?_) fun g228=>?_
 rotate_left
 ·refine jqs ?_;refine jqs ?_;refine jqs ?_;refine jq jrpF ?_;refine jN ?_;refine jcF ?_
  refine jS (jtn ?_)
  first
   | refine jE (weaken 13 (.c (.int .i64 (tagA a))) cZ) ?_
   | refine jE (weaken 13 (.c (.int .i64 (tagA a))) (CEnt.int (by unfold tagA;rw [if_neg (by omega),if_neg (by omega),if_neg (by omega),if_neg (by omega),if_neg (by omega),if_neg (by omega),if_neg (by omega)]))) ?_
  refine jcr ?_;refine jq jrm ?_;refine jq jrm ?_
  refine jqm (jmcH 0 (rnext08_ac n l 0 (tagA a) hl (by omega)) ?_)
  rintro _ _ ⟨rfl,rfl⟩
  refine ⟨_,_,rfl,cZ,?_⟩
  refine jq jrm ?_;refine jq jrx ?_;refine jq jrx ?_;refine jq jrx ?_;refine jq jrm ?_;refine jq jrm ?_;refine jq jrm ?_;refine jN ?_;refine jcs ?_;refine jcr ?_;refine jq jrm ?_;refine jq jrn ?_;refine jN ?_;refine jcc (fun h232=>?_) fun h232=>?_
  ·refine jcr ?_;refine jqo (jrdoA 5) ?_
   refine jqm (jmst 5 ?_)
   refine jN ?_
   refine jR (jtr ?_)
   rw [readR_val (by omega) (by omega) (by omega),show readV (tagA a) (saidM a) l 0=⟨(nextR (tagA a) l 0).l,(nextR (tagA a) l 0).k,VV.none⟩ by unfold readV valK;rw [if_neg (by simp_all),if_neg (by simp_all)]]
   exact end_H (.inl rfl) rfl (res_1 rfl (javA 5)) (CEnt.agg rfl (fun j hj=>by rcases j with _|_|_|_|_|j <;> first|exact cZ|exact CEnt.nilB|omega))
  refine jS (jtn ?_)
  have his:=nextR_is (tag:=tagA a) (l:=l) (k:=0) (by simpa using h232)
  have hit:(nextR (tagA a) l 0).is=true:=by simpa using h232
  refine jcr ?_;refine jq (jrdrA 4) ?_;refine jq jrm ?_
  refine jqe (jecS (hS (by omega) (by omega) (by omega) (nextR (tagA a) l 0).body hbb) ?_)
  rintro _ _ ⟨⟨v,rfl,hv⟩,rfl⟩
  refine jq jrm ?_;refine jq jrx ?_;refine jq jrx ?_
  refine jqe (jeal (n:=5) zr63 rfl fun p5=>?_)
  refine jqm (jmst 5 ?_)
  refine jq jrm ?_;refine jN ?_;refine jcs ?_;refine jcr ?_;refine jq jrm ?_;refine jq jrc ?_;refine jN ?_;refine jcc (fun h236=>?_) fun h236=>?_
  rotate_left
  ·refine jS (jtn ?_)
   refine jcr ?_;refine jqo (jrdoA 5) ?_
   refine jqm (jmst 5 ?_)
   refine jN ?_;refine jR ?_
   have he0:(saidM a (nextR (tagA a) l 0).body).2=0:=by omega
   rw [readR_val (by omega) (by omega) (by omega),show readV (tagA a) (saidM a) l 0=⟨(nextR (tagA a) l 0).l,(nextR (tagA a) l 0).k,v⟩ by unfold readV valK;rw [if_pos hit,if_pos ⟨hit,he0⟩,hv he0];show R8R.mk _ (saidM a (nextR (tagA a) l 0).body).2 _=_;rw [he0,his.1]]
   exact end_H (.inl rfl) rfl (res_1 rfl (javA 5)) (CEnt.agg rfl (fun j hj=>by rcases j with _|_|_|_|_|j <;> first|exact cZ|exact CEnt.nilB|omega))
  refine jcr ?_;refine jq jrm ?_;refine jq jrm ?_;refine jq jrnc ?_;refine jq (jrfa 1 1 false) ?_
  refine jqm (jmstF 1 (rqF (nextR (tagA a) l 0).l (saidM a (nextR (tagA a) l 0).body).2) ?_ ?_)
  ·exact (fun j hj=>by rcases j with _|_|j <;> exact cZ)
  refine jN ?_;refine jcr ?_;refine jqo (jrdoA 5) ?_
  refine jqm (jmst 5 ?_)
  refine jN ?_
  refine jR (jtr ?_)
  rw [readR_val (by omega) (by omega) (by omega),show readV (tagA a) (saidM a) l 0=⟨(nextR (tagA a) l 0).l,(saidM a (nextR (tagA a) l 0).body).2,VV.none⟩ by unfold readV valK;rw [if_pos hit,if_neg (by intro h;omega)]]
  exact end_H (.inl rfl) rfl (res_1 rfl (javA 5)) (CEnt.agg rfl (fun j hj=>by rcases j with _|_|_|_|_|j <;> first|exact cZ|exact CEnt.nilB|omega))
 refine jq (jrfa 0 1 false) ?_;refine jq jrdr ?_;refine jq jrc ?_;refine jq jrpT ?_;refine jN ?_;refine jcc (fun h228=>?_) fun h228=>?_
 rotate_left
 ·refine jS (jtn ?_)
  first
   | refine jE (weaken 13 (.c (.int .i64 (tagA a))) cZ) ?_
   | refine jE (weaken 13 (.c (.int .i64 (tagA a))) (CEnt.int (by unfold tagA;rw [if_neg (by omega),if_neg (by omega),if_neg (by omega),if_neg (by omega),if_neg (by omega),if_neg (by omega),if_neg (by omega)]))) ?_
  refine jcr ?_;refine jq jrm ?_;refine jq jrm ?_
  refine jqm (jmcH 0 (rnext08_ac n l 0 (tagA a) hl (by omega)) ?_)
  rintro _ _ ⟨rfl,rfl⟩
  refine ⟨_,_,rfl,cZ,?_⟩
  refine jq jrm ?_;refine jq jrx ?_;refine jq jrx ?_;refine jq jrx ?_;refine jq jrm ?_;refine jq jrm ?_;refine jq jrm ?_;refine jN ?_;refine jcs ?_;refine jcr ?_;refine jq jrm ?_;refine jq jrn ?_;refine jN ?_;refine jcc (fun h232=>?_) fun h232=>?_
  ·refine jcr ?_;refine jqo (jrdoA 5) ?_
   refine jqm (jmst 5 ?_)
   refine jN ?_
   refine jR (jtr ?_)
   rw [readR_val (by omega) (by omega) (by omega),show readV (tagA a) (saidM a) l 0=⟨(nextR (tagA a) l 0).l,(nextR (tagA a) l 0).k,VV.none⟩ by unfold readV valK;rw [if_neg (by simp_all),if_neg (by simp_all)]]
   exact end_H (.inl rfl) rfl (res_1 rfl (javA 5)) (CEnt.agg rfl (fun j hj=>by rcases j with _|_|_|_|_|j <;> first|exact cZ|exact CEnt.nilB|omega))
  refine jS (jtn ?_)
  have his:=nextR_is (tag:=tagA a) (l:=l) (k:=0) (by simpa using h232)
  have hit:(nextR (tagA a) l 0).is=true:=by simpa using h232
  refine jcr ?_;refine jq (jrdrA 4) ?_;refine jq jrm ?_
  refine jqe (jecS (hS (by omega) (by omega) (by omega) (nextR (tagA a) l 0).body hbb) ?_)
  rintro _ _ ⟨⟨v,rfl,hv⟩,rfl⟩
  refine jq jrm ?_;refine jq jrx ?_;refine jq jrx ?_
  refine jqe (jeal (n:=5) zr63 rfl fun p5=>?_)
  refine jqm (jmst 5 ?_)
  refine jq jrm ?_;refine jN ?_;refine jcs ?_;refine jcr ?_;refine jq jrm ?_;refine jq jrc ?_;refine jN ?_;refine jcc (fun h236=>?_) fun h236=>?_
  rotate_left
  ·refine jS (jtn ?_)
   refine jcr ?_;refine jqo (jrdoA 5) ?_
   refine jqm (jmst 5 ?_)
   refine jN ?_;refine jR ?_
   have he0:(saidM a (nextR (tagA a) l 0).body).2=0:=by omega
   rw [readR_val (by omega) (by omega) (by omega),show readV (tagA a) (saidM a) l 0=⟨(nextR (tagA a) l 0).l,(nextR (tagA a) l 0).k,v⟩ by unfold readV valK;rw [if_pos hit,if_pos ⟨hit,he0⟩,hv he0];show R8R.mk _ (saidM a (nextR (tagA a) l 0).body).2 _=_;rw [he0,his.1]]
   exact end_H (.inl rfl) rfl (res_1 rfl (javA 5)) (CEnt.agg rfl (fun j hj=>by rcases j with _|_|_|_|_|j <;> first|exact cZ|exact CEnt.nilB|omega))
  refine jcr ?_;refine jq jrm ?_;refine jq jrm ?_;refine jq jrnc ?_;refine jq (jrfa 1 1 false) ?_
  refine jqm (jmstF 1 (rqF (nextR (tagA a) l 0).l (saidM a (nextR (tagA a) l 0).body).2) ?_ ?_)
  ·exact (fun j hj=>by rcases j with _|_|j <;> exact cZ)
  refine jN ?_;refine jcr ?_;refine jqo (jrdoA 5) ?_
  refine jqm (jmst 5 ?_)
  refine jN ?_
  refine jR (jtr ?_)
  rw [readR_val (by omega) (by omega) (by omega),show readV (tagA a) (saidM a) l 0=⟨(nextR (tagA a) l 0).l,(saidM a (nextR (tagA a) l 0).body).2,VV.none⟩ by unfold readV valK;rw [if_pos hit,if_neg (by intro h;omega)]]
  exact end_H (.inl rfl) rfl (res_1 rfl (javA 5)) (CEnt.agg rfl (fun j hj=>by rcases j with _|_|_|_|_|j <;> first|exact cZ|exact CEnt.nilB|omega))
 refine jcg ?_
 refine jqe (jebl 7 1 zr3 fun p4=>?_)
 refine jq (jrfa 0 1 false) ?_;refine jq jrdr ?_;refine jq jra ?_;refine jq (jri (i:=(a.kind-3).toNat) (hz:=by omega)) ?_;refine jqo (jrdo (hv:=tag_at (by omega) (by omega))) ?_;refine jq jrm ?_;refine jN ?_;refine jtn ?_
 first
  | refine jE (weaken 13 (.c (.int .i64 (tagA a))) cZ) ?_
  | refine jE (weaken 13 (.c (.int .i64 (tagA a))) (CEnt.int (by unfold tagA;rw [if_neg (by omega),if_neg (by omega),if_neg (by omega),if_neg (by omega),if_neg (by omega),if_neg (by omega),if_neg (by omega)]))) ?_
 refine jcr ?_;refine jq jrm ?_;refine jq jrm ?_
 refine jqm (jmcH 0 (rnext08_ac n l 0 (tagA a) hl (by omega)) ?_)
 rintro _ _ ⟨rfl,rfl⟩
 refine ⟨_,_,rfl,cZ,?_⟩
 refine jq jrm ?_;refine jq jrx ?_;refine jq jrx ?_;refine jq jrx ?_;refine jq jrm ?_;refine jq jrm ?_;refine jq jrm ?_;refine jN ?_;refine jcs ?_;refine jcr ?_;refine jq jrm ?_;refine jq jrn ?_;refine jN ?_;refine jcc (fun h232=>?_) fun h232=>?_
 ·refine jcr ?_;refine jqo (jrdoA 5) ?_
  refine jqm (jmst 5 ?_)
  refine jN ?_
  refine jR (jtr ?_)
  rw [readR_val (by omega) (by omega) (by omega),show readV (tagA a) (saidM a) l 0=⟨(nextR (tagA a) l 0).l,(nextR (tagA a) l 0).k,VV.none⟩ by unfold readV valK;rw [if_neg (by simp_all),if_neg (by simp_all)]]
  exact end_H (.inl rfl) rfl (res_1 rfl (javA 5)) (CEnt.agg rfl (fun j hj=>by rcases j with _|_|_|_|_|j <;> first|exact cZ|exact CEnt.nilB|omega))
 refine jS (jtn ?_)
 have his:=nextR_is (tag:=tagA a) (l:=l) (k:=0) (by simpa using h232)
 have hit:(nextR (tagA a) l 0).is=true:=by simpa using h232
 refine jcr ?_;refine jq (jrdrA 4) ?_;refine jq jrm ?_
 refine jqe (jecS (hS (by omega) (by omega) (by omega) (nextR (tagA a) l 0).body hbb) ?_)
 rintro _ _ ⟨⟨v,rfl,hv⟩,rfl⟩
 refine jq jrm ?_;refine jq jrx ?_;refine jq jrx ?_
 refine jqe (jeal (n:=5) zr63 rfl fun p6=>?_)
 refine jqm (jmst 5 ?_)
 refine jq jrm ?_;refine jN ?_;refine jcs ?_;refine jcr ?_;refine jq jrm ?_;refine jq jrc ?_;refine jN ?_;refine jcc (fun h236=>?_) fun h236=>?_
 rotate_left
 ·refine jS (jtn ?_)
  refine jcr ?_;refine jqo (jrdoA 5) ?_
  refine jqm (jmst 5 ?_)
  refine jN ?_;refine jR ?_
  have he0:(saidM a (nextR (tagA a) l 0).body).2=0:=by omega
  rw [readR_val (by omega) (by omega) (by omega),show readV (tagA a) (saidM a) l 0=⟨(nextR (tagA a) l 0).l,(nextR (tagA a) l 0).k,v⟩ by unfold readV valK;rw [if_pos hit,if_pos ⟨hit,he0⟩,hv he0];show R8R.mk _ (saidM a (nextR (tagA a) l 0).body).2 _=_;rw [he0,his.1]]
  exact end_H (.inl rfl) rfl (res_1 rfl (javA 5)) (CEnt.agg rfl (fun j hj=>by rcases j with _|_|_|_|_|j <;> first|exact cZ|exact CEnt.nilB|omega))
 refine jcr ?_;refine jq jrm ?_;refine jq jrm ?_;refine jq jrnc ?_;refine jq (jrfa 1 1 false) ?_
 refine jqm (jmstF 1 (rqF (nextR (tagA a) l 0).l (saidM a (nextR (tagA a) l 0).body).2) ?_ ?_)
 ·exact (fun j hj=>by rcases j with _|_|j <;> exact cZ)
 refine jN ?_;refine jcr ?_;refine jqo (jrdoA 5) ?_
 refine jqm (jmst 5 ?_)
 refine jN ?_
 refine jR (jtr ?_)
 rw [readR_val (by omega) (by omega) (by omega),show readV (tagA a) (saidM a) l 0=⟨(nextR (tagA a) l 0).l,(saidM a (nextR (tagA a) l 0).body).2,VV.none⟩ by unfold readV valK;rw [if_pos hit,if_neg (by intro h;omega)]]
 exact end_H (.inl rfl) rfl (res_1 rfl (javA 5)) (CEnt.agg rfl (fun j hj=>by rcases j with _|_|_|_|_|j <;> first|exact cZ|exact CEnt.nilB|omega))
end
section
variable {gs:List Nat}
open Go.RowKit

theorem shr7 (N i:Nat) (hi:i≤5) {b:Int} (hb:b=7 * (i:Int)):(N:Int).fdiv (2 ^ (min b.toNat (IntKind.bits .i64)))=((N / 128 ^ i:Nat):Int):=by
 have e:b.toNat=7 * i:=by omega
 rw [e,show min (7 * i) (IntKind.bits .i64)=7 * i from Nat.min_eq_left (by show 7 * i≤64;omega),Int.fdiv_eq_ediv_of_nonneg _ (Int.pow_nonneg (by decide))]
 rw [show (128:Nat) ^ i=2 ^ (7 * i) by rw [Nat.pow_mul]]
 push_cast
 rfl
def preS (N k:Nat):List UInt8:=if k=0 then sepL N else sepHi (N / 128 ^ k)
theorem div_next (N i:Nat):N / 128 ^ (i+1)=N / 128 ^ i / 128:=by rw [Nat.pow_succ,Nat.div_div_eq_div_mul]
theorem sepHi_nil {m:Nat} (h:(sepHi m).length=0):m=0:=by
 by_cases h0:m=0
 ·exact h0
 ·rw [sepHi_pos h0] at h;simp at h
def sepD (q i:Nat):UInt8:=if i=0 then UInt8.ofNat (q % 128) else UInt8.ofNat (q % 128+128)
theorem sepD_hi {q i:Nat} (h:0<i):(q:Int) % 128+128=((sepD q i).toNat:Nat):=by
 rw [sepD,if_neg (by omega)];exact (sep_int2 q).symm
theorem sepD_lo {q i:Nat} (h:i=0):(q:Int) % 128=((sepD q i).toNat:Nat):=by
 rw [sepD,if_pos h];exact (sep_int q).symm
theorem pre_hi {N i q:Nat} {o:List UInt8} (hq:N / 128 ^ i=q) (ho:o=preS N (i+1)) (h0:0<i) (h:0<q % 128∨0<o.length):o++[UInt8.ofNat (q % 128+128)]=preS N i:=by
 have e1:preS N (i+1)=sepHi (q / 128):=by unfold preS;rw [if_neg (by omega),div_next,hq]
 have e2:preS N i=sepHi q:=by unfold preS;rw [if_neg (by omega),hq]
 have hq0:q≠0:=fun e=>by
  rw [e] at h e1
  rw [ho,e1,show (0:Nat) / 128=0 from rfl,sepHi_zero] at h
  rcases h with h|h
  ·exact absurd h (by decide)
  ·exact absurd h (by decide)
 rw [e2,ho,e1,sepHi_pos hq0]
theorem pre_lo {N q:Nat} {o:List UInt8} (hq:N / 128 ^ 0=q) (ho:o=preS N 1):o++[UInt8.ofNat (q % 128)]=preS N 0:=by
 have e0:q=N:=by rw [← hq,Nat.pow_zero,Nat.div_one]
 rw [ho,e0]
 rfl
theorem pre_no {N i q:Nat} {o:List UInt8} (hq:N / 128 ^ i=q) (ho:o=preS N (i+1)) (h0:0<i) (h1:¬ 0<q % 128) (h2:¬ 0<o.length):o=preS N i:=by
 have e1:preS N (i+1)=sepHi (q / 128):=by unfold preS;rw [if_neg (by omega),div_next,hq]
 have e2:preS N i=sepHi q:=by unfold preS;rw [if_neg (by omega),hq]
 have e3:q / 128=0:=sepHi_nil (by rw [← e1,← ho];omega)
 have e4:q=0:=by omega
 rw [ho,e1,e2,e3,e4]
theorem pre_len {N k:Nat} (hN:N<34359738368) (hk:k≤6):(preS N k).length≤5:=by
 unfold preS
 split
 ·exact sepL_len hN
 ·have h1:N / 128 ^ k≤N:=Nat.div_le_self _ _
  exact sepHi_len 5 _ (by omega)
set_option maxHeartbeats 1000000 in
theorem rsep_ac (N:Nat) (hN:N<34359738368):AC gs Tryz.prog 125 [] [.c (.int .i64 (N:Nat))] (OwnQ (sepL N).length 1 (sepL N).length (byF (sepL N))):=by
 refine ac_of 38 Tryz.func125 rfl rfl rfl (fun al w0 F0 St0=>?_)
 refine jcr ?_;refine jq jrm ?_;refine jN ?_;refine jcr ?_
 refine jqe (jebl 0 1 zr5 fun p1=>?_)
 refine jq jrm ?_;refine jN ?_;refine jcs ?_;refine jcr ?_;refine jq jrm ?_;refine jN ?_;refine jB ?_;refine l_loop (α:=Nat×List UInt8×Option Nat) [3,4,5,7,8,9,10,11,12,13,14,15,16,17,18,19,20,21,22,23,24,25,26,27,28,29,30,31,32,33,34,35,36] (fun (k,o,g)=>[(4,.c (.int .i64 ((k:Int)-1))),(3,.os 0 g 0 o.length 1)]) (fun (k,o,g)=>[(g,.blk o.length (byF o))]) (fun (k,o,g)=>k≤6∧o=preS N k) (fun (k,o,g)=>k) ((6,[],p1)) ?_ (fun _=>rfl) ?_ ?_ ?_
 ·exact ⟨Nat.le_refl _,by unfold preS;rw [if_neg (by decide),show N / 128 ^ 6=0 by omega,sepHi_zero]⟩
 ·exact .cons cZ (.cons cZ .nil)
 ·exact .blk rfl (fun j hj=>absurd hj (Nat.not_lt_zero j)) .nil
 ·rintro ⟨k,o,g⟩ ⟨(hk:k≤6),(ho:o=_)⟩
  have hol:o.length≤5:=by rw [ho];exact pre_len hN hk
  refine jcs ?_;refine jcr ?_;refine jq jrm ?_;refine jq jrc ?_;refine jN ?_;refine jcc (fun h65=>?_) fun h65=>?_
  rotate_left
  ·refine jX (jte (jte (jbx (jtn ?_))))
   obtain rfl:k=0:=by omega
   obtain rfl:o=sepL N:=ho
   refine jcr ?_;refine jq jrm ?_;refine jq jrm ?_;refine jN ?_;refine jR ?_
   exact end_O 0 (.inl rfl) (res_1 rfl (arv_tmp rfl)) rfl rfl (Nat.le_refl _) (fun _=>rfl) (fun j hj=>cZ)
  refine jS (jtn ?_)
  refine jcs ?_;refine jB ?_
  obtain ⟨i,rfl⟩:∃ i,k=i+1:=⟨k-1,by omega⟩
  obtain ⟨q,hq⟩:∃ q,N / 128 ^ i=q:=⟨_,rfl⟩
  refine jcr ?_;refine jq jrm ?_;refine jq jrm ?_;refine jq jra ?_;refine jq (jrv .i64 .u64) ?_;refine jq (rd_shr rfl rfl rfl (by (omega)) ((q:Int)) (by rw [← hq];exact shr7 N i (by omega) (by omega))) ?_;refine jq jrr ?_;refine jq jrm ?_;refine jN ?_;refine jcr ?_;refine jq jrm ?_;refine jq jrc ?_;refine jq jrm ?_;refine jqsp 19 (fun g67=>?_) fun g67=>?_
  ·refine jqs ?_;refine jqs ?_;refine jqs ?_;refine jq jrpT ?_;refine jq jrm ?_;refine jqs ?_;refine jqs ?_;refine jq jrpT ?_;refine jN ?_;refine jcT ?_;refine jcs ?_;refine jcr ?_;refine jq jrm ?_;refine jq jrc ?_;refine jN ?_;refine jcc (fun h68=>?_) fun h68=>?_
   rotate_left
   ·refine jS (jtn ?_)
    refine jcg ?_;refine jq jrm ?_;refine jq jrm ?_;refine jq (jrv .i64 .u8) ?_
    refine jqe (jebl 1 1 zr5 fun p2=>?_)
    refine jqm (m_appendB (l2:=[sepD q i]) rfl rfl rfl (Nat.le_refl _) (fun _ _=>cZ) (src_os rfl (.inl rfl) (by decide)) rfl (hh_bytes (.cons (CEnt.int (by exact sepD_lo (by omega))) .nil)) Tryz.underlying22 nu22 sz5 zr5 by5 rfl (by (simp;omega)) (leaf_fl rfl rfl) rfl rfl (fun p3=>?_))
    refine jq jrm ?_;refine jN ?_
    refine jbn (jtn ?_)
    refine jcg ?_;refine jq jrm ?_;refine jq jra ?_;refine jq jrm ?_;refine jN ?_;refine jtn ?_
    refine jlend ((i,o++[sepD q i],p3)) ?_ ?_ (h5:=?_) (h7:=?_)
    ·exact ⟨by omega,by obtain rfl:i=0:=(by omega);rw [sepD,if_pos rfl];exact pre_lo hq ho⟩
    ·show i<i+1;omega
    ·exact .cons (CEnt.int (by omega)) (.cons cZ .nil)
    ·exact .same .nil
   refine jcg ?_;refine jq jrm ?_;refine jq jra ?_;refine jq jrm ?_;refine jN ?_;refine jtn ?_;refine jcg ?_;refine jq jrm ?_;refine jq jrm ?_;refine jq (jrv .i64 .u8) ?_
   refine jqe (jebl 1 1 zr5 fun p2=>?_)
   refine jqm (m_appendB (l2:=[sepD q i]) rfl rfl rfl (Nat.le_refl _) (fun _ _=>cZ) (src_os rfl (.inl rfl) (by decide)) rfl (hh_bytes (.cons (CEnt.int (by exact sepD_hi (by omega))) .nil)) Tryz.underlying22 nu22 sz5 zr5 by5 rfl (by (simp;omega)) (leaf_fl rfl rfl) rfl rfl (fun p3=>?_))
   refine jq jrm ?_;refine jN ?_
   refine jbn (jtn ?_)
   refine jcg ?_;refine jq jrm ?_;refine jq jra ?_;refine jq jrm ?_;refine jN ?_;refine jtn ?_
   refine jlend ((i,o++[sepD q i],p3)) ?_ ?_ (h5:=?_) (h7:=?_)
   ·exact ⟨by omega,by (rw [sepD,if_neg (by omega)];exact pre_hi hq ho (by omega) (by omega))⟩
   ·show i<i+1;omega
   ·exact .cons (CEnt.int (by omega)) (.cons cZ .nil)
   ·exact .same .nil
  refine jq jrm ?_;refine jq jrl ?_;refine jq jrc ?_;refine jq jrpF ?_;refine jq jrm ?_;refine jqsp 24 (fun g67_2=>?_) fun g67_2=>?_
  ·refine jqs ?_;refine jqs ?_;refine jq jrpT ?_;refine jN ?_;refine jcT ?_;refine jcs ?_;refine jcr ?_;refine jq jrm ?_;refine jq jrc ?_;refine jN ?_;refine jcc (fun h68=>?_) fun h68=>?_
   rotate_left
   ·refine jS (jtn ?_)
    refine jcg ?_;refine jq jrm ?_;refine jq jrm ?_;refine jq (jrv .i64 .u8) ?_
    refine jqe (jebl 1 1 zr5 fun p2=>?_)
    refine jqm (m_appendB (l2:=[sepD q i]) rfl rfl rfl (Nat.le_refl _) (fun _ _=>cZ) (src_os rfl (.inl rfl) (by decide)) rfl (hh_bytes (.cons (CEnt.int (by exact sepD_lo (by omega))) .nil)) Tryz.underlying22 nu22 sz5 zr5 by5 rfl (by (simp;omega)) (leaf_fl rfl rfl) rfl rfl (fun p3=>?_))
    refine jq jrm ?_;refine jN ?_
    refine jbn (jtn ?_)
    refine jcg ?_;refine jq jrm ?_;refine jq jra ?_;refine jq jrm ?_;refine jN ?_;refine jtn ?_
    refine jlend ((i,o++[sepD q i],p3)) ?_ ?_ (h5:=?_) (h7:=?_)
    ·exact ⟨by omega,by obtain rfl:i=0:=(by omega);rw [sepD,if_pos rfl];exact pre_lo hq ho⟩
    ·show i<i+1;omega
    ·exact .cons (CEnt.int (by omega)) (.cons cZ .nil)
    ·exact .same .nil
   refine jcg ?_;refine jq jrm ?_;refine jq jra ?_;refine jq jrm ?_;refine jN ?_;refine jtn ?_;refine jcg ?_;refine jq jrm ?_;refine jq jrm ?_;refine jq (jrv .i64 .u8) ?_
   refine jqe (jebl 1 1 zr5 fun p2=>?_)
   refine jqm (m_appendB (l2:=[sepD q i]) rfl rfl rfl (Nat.le_refl _) (fun _ _=>cZ) (src_os rfl (.inl rfl) (by decide)) rfl (hh_bytes (.cons (CEnt.int (by exact sepD_hi (by omega))) .nil)) Tryz.underlying22 nu22 sz5 zr5 by5 rfl (by (simp;omega)) (leaf_fl rfl rfl) rfl rfl (fun p3=>?_))
   refine jq jrm ?_;refine jN ?_
   refine jbn (jtn ?_)
   refine jcg ?_;refine jq jrm ?_;refine jq jra ?_;refine jq jrm ?_;refine jN ?_;refine jtn ?_
   refine jlend ((i,o++[sepD q i],p3)) ?_ ?_ (h5:=?_) (h7:=?_)
   ·exact ⟨by omega,by (rw [sepD,if_neg (by omega)];exact pre_hi hq ho (by omega) (by omega))⟩
   ·show i<i+1;omega
   ·exact .cons (CEnt.int (by omega)) (.cons cZ .nil)
   ·exact .same .nil
  refine jq jrm ?_;refine jq jrc ?_;refine jq jrpF ?_;refine jN ?_;refine jcc (fun h67=>?_) fun h67=>?_
  rotate_left
  ·refine jS (jbn (jtn ?_))
   refine jcg ?_;refine jq jrm ?_;refine jq jra ?_;refine jq jrm ?_;refine jN ?_;refine jtn ?_
   refine jlend ((i,o,g)) ?_ ?_ (h5:=?_) (h7:=?_)
   ·exact ⟨by omega,pre_no hq ho (by omega) (by omega) (by omega)⟩
   ·show i<i+1;omega
   ·exact .cons (CEnt.int (by omega)) (.cons cZ .nil)
   ·exact .same .nil
  refine jcs ?_;refine jcr ?_;refine jq jrm ?_;refine jq jrc ?_;refine jN ?_;refine jcc (fun h68=>?_) fun h68=>?_
  rotate_left
  ·refine jS (jtn ?_)
   refine jcg ?_;refine jq jrm ?_;refine jq jrm ?_;refine jq (jrv .i64 .u8) ?_
   refine jqe (jebl 1 1 zr5 fun p2=>?_)
   refine jqm (m_appendB (l2:=[sepD q i]) rfl rfl rfl (Nat.le_refl _) (fun _ _=>cZ) (src_os rfl (.inl rfl) (by decide)) rfl (hh_bytes (.cons (CEnt.int (by exact sepD_lo (by omega))) .nil)) Tryz.underlying22 nu22 sz5 zr5 by5 rfl (by (simp;omega)) (leaf_fl rfl rfl) rfl rfl (fun p3=>?_))
   refine jq jrm ?_;refine jN ?_
   refine jbn (jtn ?_)
   refine jcg ?_;refine jq jrm ?_;refine jq jra ?_;refine jq jrm ?_;refine jN ?_;refine jtn ?_
   refine jlend ((i,o++[sepD q i],p3)) ?_ ?_ (h5:=?_) (h7:=?_)
   ·exact ⟨by omega,by obtain rfl:i=0:=(by omega);rw [sepD,if_pos rfl];exact pre_lo hq ho⟩
   ·show i<i+1;omega
   ·exact .cons (CEnt.int (by omega)) (.cons cZ .nil)
   ·exact .same .nil
  refine jcg ?_;refine jq jrm ?_;refine jq jra ?_;refine jq jrm ?_;refine jN ?_;refine jtn ?_;refine jcg ?_;refine jq jrm ?_;refine jq jrm ?_;refine jq (jrv .i64 .u8) ?_
  refine jqe (jebl 1 1 zr5 fun p2=>?_)
  refine jqm (m_appendB (l2:=[sepD q i]) rfl rfl rfl (Nat.le_refl _) (fun _ _=>cZ) (src_os rfl (.inl rfl) (by decide)) rfl (hh_bytes (.cons (CEnt.int (by exact sepD_hi (by omega))) .nil)) Tryz.underlying22 nu22 sz5 zr5 by5 rfl (by omega) (leaf_fl rfl rfl) rfl rfl (fun p3=>?_))
  refine jq jrm ?_;refine jN ?_
  refine jbn (jtn ?_)
  refine jcg ?_;refine jq jrm ?_;refine jq jra ?_;refine jq jrm ?_;refine jN ?_;refine jtn ?_
  refine jlend ((i,o++[sepD q i],p3)) ?_ ?_ (h5:=?_) (h7:=?_)
  ·exact ⟨by omega,by (exfalso;omega)⟩
  ·show i<i+1;omega
  ·exact .cons (CEnt.int (by omega)) (.cons cZ .nil)
  ·exact .same .nil
set_option maxHeartbeats 1000000 in
theorem rputO_ac (l:List Int) (hr:rightA l=true):ACp gs Tryz.prog 92 [isC l] (bsC (putA l)):=by
 obtain ⟨hl2,hl16,hall,ha,hb⟩:=right_at hr
 have h0:=hall _ (getD_mem' (l:=l) (k:=0) 0 (by omega))
 have h1:=hall _ (getD_mem' (l:=l) (k:=1) 0 (by omega))
 refine ac_of 28 Tryz.func92 rfl rfl rfl (fun al w0 F0 St0=>?_)
 refine jcr ?_;refine jq jrm ?_;refine jN ?_;refine jcs ?_;refine jcd (.rd 0 (.rd 1 (.rd 2 (.rd 3 (.rd 4 (.rd 5 (.rd 6 (.rd 7 (.one 8 (.rd 9 .done)))))))))) ?_;refine jyq jrm ?_;refine jyq (jri (i:=0)) ?_;refine jyq jrdr ?_;refine jyq jra ?_;refine jyq jrm ?_;refine jyq (jri (i:=1)) ?_;refine jyq jrdr ?_;refine jyq jra ?_
 refine jye (jecO (rsep_ac (40 * l.getD 0 0+l.getD 1 0).toNat (by omega)) (fun p1=>?_) (ho:=rfl) (he:=(.cons (se rfl (CEnt.int (by omega))) .nil)))
 refine jyq jrm ?_;refine jyd ?_;refine jtn ?_;refine jcs ?_;refine jcr ?_;refine jq jrm ?_;refine jq (jrsr (hl:=(bd_some rfl (show (2:Int)=((2:Nat):Int) from rfl))) (hu:=(bd_none _ _))) ?_;refine jq jrl ?_;refine jq jrm ?_;refine jN ?_;refine jB ?_;refine l_loop (α:=Nat×List UInt8×Option Nat) [3,5,18,19,20,21,22,23,24,25,26] (fun (i,o,g)=>[(3,.os 0 g 0 o.length 1),(18,.c (.int .i64 (i:Nat)))]) (fun (i,o,g)=>[(g,.blk o.length (byF o))]) (fun (i,o,g)=>i≤l.length-2∧o=sepL (40 * l.getD 0 0+l.getD 1 0).toNat++(((l.drop 2).take i).map fun n=>sepL n.toNat).flatten) (fun (i,o,g)=>l.length-i) ((0,sepL (40 * l.getD 0 0+l.getD 1 0).toNat,p1)) ?_ (fun _=>rfl) ?_ ?_ ?_
 ·exact ⟨Nat.zero_le _,by simp⟩
 ·exact .cons cZ (.cons cZ .nil)
 ·exact .same .nil
 ·rintro ⟨i,o,g⟩ ⟨(hi:i≤l.length-2),ho⟩
  have hol:o.length≤5+5 * i:=by
   rw [ho,List.length_append]
   have e1:=sepL_len (n:=(40 * l.getD 0 0+l.getD 1 0).toNat) (by omega)
   have e2:=sep_flat_len (l:=(l.drop 2).take i) (fun n hn=>hall n (List.mem_of_mem_drop (List.mem_of_mem_take hn)))
   rw [List.length_take,List.length_drop] at e2
   omega
  refine jcr ?_;refine jq jrc ?_;refine jN ?_;refine jcs ?_;refine jcc (fun h80=>?_) fun h80=>?_
  rotate_left
  ·refine jX (jte (jte (jbx (jtn ?_))))
   refine jcr ?_;refine jq jrm ?_;refine jq jrm ?_;refine jN ?_;refine jE (freeze 0 rfl) ?_;refine jE (thawB 2 (o) rfl rfl (by rfl) rfl) ?_
   refine jR (jrt (hv:=?_))
   refine CEnt.bs ?_
   rw [ho,List.take_of_length_le (by rw [List.length_drop];omega)]
   rfl
  refine jS (jtn ?_)
  refine jcs ?_;refine jB ?_;refine jcr ?_;refine jq jri ?_;refine jq jrdr ?_;refine jq jrm ?_;refine jN ?_
  have h3:=hall _ (getD_mem' (l:=l) (k:=2+i) 0 (by omega))
  have h4:=sepL_len (n:=(l.getD (2+i) 0).toNat) (by omega)
  refine jcg ?_;refine jq jrm ?_;refine jq jrm ?_
  refine jqe (jecO (rsep_ac (l.getD (2+i) 0).toNat (by omega)) (fun p2=>?_) (ho:=rfl) (he:=(.cons (se rfl (CEnt.int (by omega))) .nil)))
  first|refine jqm (m_appendB rfl rfl rfl (Nat.le_refl _) (fun _ _=>cZ) (src_rs rfl) rfl (fun j hj=>by simp only [Nat.div_one];exact cZ) Tryz.underlying22 nu22 sz5 zr5 by5 rfl (by first|omega|(simp;done)|(simp;omega)|(simp at *;omega)) (fun j hj=>rfl) rfl rfl (fun p3=>?_))|refine jqm (m_appendB rfl rfl rfl (Nat.le_refl _) (fun _ _=>cZ) (src_str rfl) rfl (fun j hj=>cZ) Tryz.underlying22 nu22 sz5 zr5 by5 rfl (by first|omega|(simp;done)|(simp;omega)|(simp at *;omega)) (fun j hj=>rfl) rfl rfl (fun p3=>?_))|refine jqm (m_appendB rfl rfl rfl (Nat.le_refl _) (fun _ _=>cZ) (src_os rfl (.inl rfl) (by omega)) rfl (fun j hj=>by rw [Nat.zero_add];exact cZ) Tryz.underlying22 nu22 sz5 zr5 by5 rfl (by omega) (fun j hj=>rfl) rfl rfl (fun p3=>?_))
  refine jq jrm ?_;refine jN ?_
  refine jbn (jtn ?_)
  refine jcg ?_;refine jq jra ?_;refine jq jrm ?_;refine jN ?_;refine jtn ?_
  refine jlend ((i+1,o++sepL (l.getD (2+i) 0).toNat,p3)) ?_ ?_ (h5:=?_) (h7:=?_)
  ·exact ⟨by omega,by rw [ho,sep_take (by rw [List.length_drop];omega),List.append_assoc]⟩
  ·show l.length-(i+1)<l.length-i;omega
  ·exact .cons cZ (.cons (CEnt.int (by omega)) .nil)
  ·exact .same .nil

theorem text_snoc {c:UInt8} (x:List UInt8):∀ l:List (List UInt8),l≠[]→joinC c (l++[x])=joinC c l++c::x
 | [],h=>absurd rfl h
 | [p],_=>rfl
 | p::q::r,_=>by
  have ih:=text_snoc (c:=c) x (q::r) (by simp)
  rw [List.cons_append,List.cons_append,joinC,← List.cons_append,ih,joinC,List.append_assoc];rfl
theorem text_one {l:List Int} {i:Nat} (h:i<l.length):textL (l.take (i+1))=if 0<i then textL (l.take i)++[46]++dec (l.getD i 0).toNat else dec (l.getD i 0).toNat:=by
 unfold textL
 rw [ser_take h]
 split
 ·rename_i h0
  rw [text_snoc _ _ (by intro e;have:=congrArg List.length e;rw [List.length_map,List.length_take,List.length_nil] at this;omega)]
  simp
 ·rename_i h0
  obtain rfl:i=0:=by omega
  rfl
theorem rtextO_ac (l:List Int) (hr:rightA l=true):ACp gs Tryz.prog 108 [isC l] (strC (textL l)):=by
 obtain ⟨hl2,hl16,hall,ha,hb⟩:=right_at hr
 refine ac_of 23 Tryz.func108 rfl rfl rfl (fun al w0 F0 St0=>?_)
 refine jcr ?_;refine jq jrm ?_;refine jN ?_;refine jcr ?_;refine jq jrm ?_;refine jN ?_;refine jcs ?_;refine jcr ?_;refine jq jrm ?_;refine jq jrl ?_;refine jq jrm ?_;refine jN ?_;refine jB ?_;refine l_loop (α:=Nat) [3,4,5,8,9,10,11,12,13,14,15,16,17,18,19,20,21] (fun i=>[(8,.c (.int .i64 (i:Nat))),(3,strC (textL (l.take i)))]) (fun _=>[]) (fun i=>i≤l.length) (fun i=>l.length-i) (0) ?_ (fun _=>rfl) ?_ ?_ ?_
 ·exact Nat.zero_le _
 ·(repeat (first|exact EntE.nil|refine EntE.cons cZ ?_|refine EntE.cons (CEnt.int (by omega)) ?_))
 ·(repeat (first|exact HEnt.nil|refine HEnt.same ?_|refine HEnt.blk rfl (fun j hj=>by rcases j with _|_|_|_|_|_|_|_|j <;> first|exact cZ|exact CEnt.int (by omega)|omega) ?_))
 ·rintro i (hi:i≤l.length)
  have hj:=join_len (c:=46) (m:=10) (ls:=(l.take i).map fun n=>dec n.toNat) (fun p hp=>by
   obtain ⟨n,hn,rfl⟩:=List.mem_map.1 hp
   exact dec_len 9 n.toNat (by have:=hall n (List.mem_of_mem_take hn);omega))
  have hj2:(textL (l.take i)).length≤11 * 16:=by
   rw [List.length_map,List.length_take] at hj
   unfold textL;omega
  refine jcr ?_;refine jq jrc ?_;refine jN ?_;refine jcs ?_;refine jcc (fun h53=>?_) fun h53=>?_
  rotate_left
  ·refine jX (jte (jte (jbx (jtn ?_))))
   refine jcr ?_;refine jq jrm ?_;refine jq jrm ?_;refine jN ?_
   refine jR (jrt (hv:=CEnt.strL (by rw [show i=l.length by omega,List.take_length])))
  refine jS (jtn ?_)
  refine jcs ?_;refine jB ?_;refine jcr ?_;refine jq jrm ?_;refine jq jri ?_;refine jq jrdr ?_;refine jq jrm ?_;refine jq jrm ?_;refine jN ?_;refine jcs ?_;refine jcr ?_;refine jq jrm ?_;refine jq jrc ?_;refine jN ?_;refine jcc (fun h54=>?_) fun h54=>?_
  rotate_left
  ·refine jS (jtn ?_)
   have hn:=hall _ (getD_mem' (l:=l) (k:=i) 0 (by omega))
   have hd:=dec_len 9 (l.getD i 0).toNat (by omega)
   refine jcg ?_;refine jq jrm ?_;refine jq jrm ?_
   refine jqe (jecP (rser_ac (l.getD i 0).toNat (by omega)) ?_ (ho:=rfl) (he:=(.cons (se rfl (CEnt.int (by omega))) .nil)))
   refine jq (jras (hS:=by (omega))) ?_;refine jq jrm ?_;refine jN ?_
   refine jbn (jtn ?_)
   refine jcg ?_;refine jq jra ?_;refine jq jrm ?_;refine jN ?_;refine jtn ?_
   refine jlend (i+1) ?_ ?_ (h5:=?_)
   ·show i+1≤l.length;omega
   ·show l.length-(i+1)<l.length-i;omega
   ·exact .cons (CEnt.int (by omega)) (.cons (CEnt.strL (by rw [text_one (by omega)];(rw [if_neg (by omega)];obtain rfl:i=0:=(by omega);rfl))) .nil)
  refine jcg ?_;refine jq jrm ?_;refine jq (jras (hS:=by ((simp only [List.length_cons,List.length_nil];omega)))) ?_;refine jq jrm ?_;refine jN ?_;refine jtn ?_
  have hn:=hall _ (getD_mem' (l:=l) (k:=i) 0 (by omega))
  have hd:=dec_len 9 (l.getD i 0).toNat (by omega)
  refine jcg ?_;refine jq jrm ?_;refine jq jrm ?_
  refine jqe (jecP (rser_ac (l.getD i 0).toNat (by omega)) ?_ (ho:=rfl) (he:=(.cons (se rfl (CEnt.int (by omega))) .nil)))
  refine jq (jras (hS:=by ((simp only [List.length_append,List.length_cons,List.length_nil];omega)))) ?_;refine jq jrm ?_;refine jN ?_
  refine jbn (jtn ?_)
  refine jcg ?_;refine jq jra ?_;refine jq jrm ?_;refine jN ?_;refine jtn ?_
  refine jlend (i+1) ?_ ?_ (h5:=?_)
  ·show i+1≤l.length;omega
  ·show l.length-(i+1)<l.length-i;omega
  ·exact .cons (CEnt.int (by omega)) (.cons (CEnt.strL (by rw [text_one (by omega)];rw [if_pos (by omega)])) .nil)
end
section
open Go.RowKit Cal
set_option maxHeartbeats 1000000 in
theorem rsaid78_ac {gs:List Nat} (a:AA) (b:List UInt8) (h78:a.kind=7∨a.kind=8) (hb:b.length≤1000000):AC gs Tryz.prog 71 [] [askC a,bsC b] (SaidQ a b):=by
 refine ac_of 126 Tryz.func71 rfl rfl rfl (fun al w0 F0 St0=>?_)
 refine jcr ?_
 refine jqe (jebx 4 fun p1=>?_)
 refine jqe (jeal (n:=5) zr63 rfl fun p2=>?_)
 refine jq jrm ?_;refine jN ?_;refine jcs ?_;refine jcr ?_;refine jq (jrfa 0 1 false) ?_;refine jqo jrdo ?_;refine jN ?_;refine jB ?_;refine jcs ?_;refine jcr ?_;refine jq jrc ?_;refine jq jrm ?_;refine jN ?_;refine jcc (fun h246=>?_) fun h246=>?_
 ·exfalso;omega
 refine jcg ?_;refine jq jrc ?_;refine jq jrm ?_;refine jN ?_;refine jtn ?_;refine jcc (fun h246_2=>?_) fun h246_2=>?_
 ·exfalso;omega
 refine jcr ?_;refine jq jrc ?_;refine jq jrm ?_;refine jN ?_;refine jcc (fun h252=>?_) fun h252=>?_
 ·exfalso;omega
 refine jcr ?_;refine jq jrc ?_;refine jq jrm ?_;refine jN ?_;refine jcc (fun h260=>?_) fun h260=>?_
 ·exfalso;omega
 refine jcr ?_;refine jq jrc ?_;refine jq jrm ?_;refine jN ?_;refine jcc (fun h268=>?_) fun h268=>?_
 ·refine jcs ?_;refine jcdB 8 (.rd 0 (.rd 1 (.rd 2 (.rd 3 (.rd 4 (.rd 5 (.rd 6 (.one 7 .done)))))))) ?_;refine jyq jrm ?_;refine jyq jrbs ?_;refine jyq (rd_build (n:=5) rfl zr63 pl63 rfl rfl) ?_;refine jyq jrm ?_;refine jyq jrbs ?_;refine jyq (jrfa 3 1 false) ?_;refine jyo jrdo ?_
  refine jye (jecP (rasked_ac b a.most (by omega)) ?_)
  refine jyd ?_
  show ASeq _ _ _ _ _ _
  refine jqm (jmst 5 ?_)
  refine jq jrm ?_;refine jN ?_;refine jtn ?_
  refine jR (jbr (jtr ?_))
  have hs:saidM a b=(vT (if askedM b a.most=0 then b else []),askedM b a.most):=by unfold saidM;rw [if_neg (by omega),if_neg (by omega),if_neg (by omega),if_neg (by omega),if_pos (by omega)]
  have hq:SaidQ a b (.tup 2 (fl [valC (vT b),.c (.int .i64 ((askedM b a.most:Nat):Int))])) []:=⟨⟨_,by rw [hs],fun h0=>by rw [hs] at h0 ⊢;rw [if_pos h0]⟩,rfl⟩
  exact end_ownV (.inl rfl) [] (by decide) rfl (res_2 rfl (javA 5) javt) (CEnt.tup2 (CEnt.agg rfl (fun j hj=>by rcases j with _|_|_|_|_|j <;> first|exact cZ|exact CEnt.nilB|omega)) cZ) hq
 refine jcr ?_;refine jq jrc ?_;refine jq jrm ?_;refine jN ?_;refine jcc (fun h270=>?_) fun h270=>?_
 rotate_left
 ·exfalso;omega
 refine jcr ?_;refine jq jrm ?_
 refine jqe (jecP (rget05_ac b (by omega)) ?_)
 refine jq jrm ?_;refine jq jrx ?_;refine jq jrx ?_;refine jq jrm ?_;refine jq jrm ?_;refine jN ?_;refine jcs ?_;refine jcr ?_;refine jq jrm ?_;refine jq jrc ?_;refine jN ?_;refine jcc (fun h272=>?_) fun h272=>?_
 ·refine jcr ?_;refine jq (rd_build (n:=5) rfl zr63 pl63 rfl rfl) ?_;refine jq jrm ?_
  refine jqm (jmst 5 ?_)
  refine jq jrm ?_;refine jN ?_
  refine jR (jtr (jbr (jtr ?_)))
  have hs:saidM a b=(vT [],(getA b).2):=by unfold saidM;rw [if_neg (by omega),if_neg (by omega),if_neg (by omega),if_neg (by omega),if_neg (by omega),if_pos (by omega)];unfold ogetM;rw [if_neg (by omega)]
  have hq:SaidQ a b (.tup 2 (fl [valC VV.none,.c (.int .i64 (((getA b).2:Nat):Int))])) []:=⟨⟨_,by rw [hs],fun h0=>by rw [hs] at h0;exact absurd h0 (by simp only;omega)⟩,rfl⟩
  exact end_ownV (.inl rfl) [] (by decide) rfl (res_2 rfl (javA 5) javt) (CEnt.tup2 (CEnt.agg rfl (fun j hj=>by rcases j with _|_|_|_|_|j <;> first|exact cZ|exact CEnt.nilB|omega)) cZ) hq
 refine jS (jtn ?_)
 have he0:(getA b).2=0:=by omega
 have hr:rightA (getA b).1=true:=get_right he0
 refine jcr ?_;refine jq jrm ?_
 refine jqe (jecP (rtextO_ac (getA b).1 hr) ?_)
 refine jq (rd_build (n:=5) rfl zr63 pl63 rfl rfl) ?_
 refine jqm (jmst 5 ?_)
 refine jq jrm ?_;refine jN ?_
 refine jR (jbr (jtr ?_))
 have hs:saidM a b=(vT (textL (getA b).1),0):=by unfold saidM;rw [if_neg (by omega),if_neg (by omega),if_neg (by omega),if_neg (by omega),if_neg (by omega),if_pos (by omega)];unfold ogetM;rw [if_pos he0]
 have hq:SaidQ a b (.tup 2 (fl [valC (vT (textL (getA b).1)),.c (.int .i64 ((0:Nat):Int))])) []:=⟨⟨_,by rw [hs],fun h0=>by rw [hs]⟩,rfl⟩
 exact end_ownV (.inl rfl) [] (by decide) rfl (res_2 rfl (javA 5) javt) (CEnt.tup2 (CEnt.agg rfl (fun j hj=>by rcases j with _|_|_|_|_|j <;> first|exact cZ|exact CEnt.nilB|omega)) cZ) hq
set_option maxHeartbeats 1000000 in
theorem rbody78_ac {gs:List Nat} (v:VV) (hv:OkV v) (h78:v.kind=7∨v.kind=8):AC gs Tryz.prog 57 [] [valC v] (BodyQ v):=by
 have hvt:=hv.t
 refine ac_of 77 Tryz.func57 rfl rfl rfl (fun al w0 F0 St0=>?_)
 refine jcr ?_
 refine jqe (jebx 5 fun p1=>?_)
 refine jq jrm ?_;refine jq jrm ?_;refine jq jrm ?_;refine jN ?_;refine jcs ?_;refine jcr ?_;refine jq (jrfa 0 1 false) ?_;refine jqo jrdo ?_;refine jN ?_;refine jB ?_;refine jcr ?_;refine jq jrc ?_;refine jq jrm ?_;refine jN ?_;refine jcc (fun h31=>?_) fun h31=>?_
 ·exfalso;omega
 refine jcr ?_;refine jq jrc ?_;refine jq jrm ?_;refine jN ?_;refine jcc (fun h33=>?_) fun h33=>?_
 ·exfalso;omega
 refine jcr ?_;refine jq jrc ?_;refine jq jrm ?_;refine jN ?_;refine jcc (fun h35=>?_) fun h35=>?_
 ·exfalso;omega
 refine jcr ?_;refine jq jrc ?_;refine jq jrm ?_;refine jN ?_;refine jcc (fun h40=>?_) fun h40=>?_
 ·exfalso;omega
 refine jcr ?_;refine jq jrc ?_;refine jq jrm ?_;refine jN ?_;refine jcc (fun h42=>?_) fun h42=>?_
 ·refine jcs ?_;refine jcd (.rd 0 (.rd 1 (.rd 3 (.rd 4 (.rd 5 (.rd 6 (.two 2 (.one 7 (.rd 8 (.rd 9 (.rd 10 .done)))) 7 (.rd 8 (.one 2 (.rd 9 (.rd 10 .done))))))))))) ?_;refine jyq (jrfa 4 1 false) ?_;refine jyo jrdo ?_;refine jyq (jrfa 4 1 false) ?_;refine jyo jrdo ?_;refine jyq (jrfa 1 1 false) ?_;refine jyo jrdo ?_;refine jytwo ?_ ?_
  ·refine jye (jecv ?_)
   refine jye (jecP (rasked_ac v.t v.n (by omega)) ?_)
   refine jyq jrm ?_;refine jyq jrm ?_;refine jyq jrm ?_;refine jyd ?_;refine jtn ?_
   refine jR (jbr (jtr ?_))
   exact end_ownV (.inl rfl) [] (by decide) rfl (res_3 rfl javt javt javt) cZ (bodyQ (b':=v.t) (by unfold bodyV;rw [if_neg (by omega),if_neg (by omega),if_neg (by omega),if_neg (by omega),if_pos (by omega)]) (fun h=>by rw [if_pos h]))
  ·refine jye (jecP (rasked_ac v.t v.n (by omega)) ?_)
   refine jyq jrm ?_
   refine jye (jecv ?_)
   refine jyq jrm ?_;refine jyq jrm ?_;refine jyd ?_;refine jtn ?_
   refine jR (jbr (jtr ?_))
   exact end_ownV (.inl rfl) [] (by decide) rfl (res_3 rfl javt javt javt) cZ (bodyQ (b':=v.t) (by unfold bodyV;rw [if_neg (by omega),if_neg (by omega),if_neg (by omega),if_neg (by omega),if_pos (by omega)]) (fun h=>by rw [if_pos h]))
 refine jcr ?_;refine jq jrc ?_;refine jq jrm ?_;refine jN ?_;refine jcc (fun h44=>?_) fun h44=>?_
 rotate_left
 ·exfalso;omega
 refine jcr ?_;refine jq (jrfa 4 1 false) ?_;refine jqo jrdo ?_
 refine jqe (jecP (rparse_ac v.t (by omega)) ?_)
 refine jq jrm ?_;refine jq jrx ?_;refine jq jrx ?_;refine jq jrm ?_;refine jq jrm ?_;refine jN ?_;refine jcs ?_;refine jcr ?_;refine jq jrm ?_;refine jq jrc ?_;refine jN ?_;refine jcc (fun h46=>?_) fun h46=>?_
 ·refine jcr ?_;refine jq jrm ?_;refine jq jrm ?_;refine jq jrm ?_;refine jq jrm ?_;refine jN ?_
  refine jR (jtr (jbr (jtr ?_)))
  exact end_ownV (.inl rfl) [] (by decide) rfl (res_3 rfl javt javt javt) (CEnt.tup3 cZ CEnt.nilB cZ) (bodyQ (by unfold bodyV;rw [if_neg (by omega),if_neg (by omega),if_neg (by omega),if_neg (by omega),if_neg (by omega),if_pos (by omega)]) (fun h=>by omega))
 refine jS (jtn ?_)
 have hp0:(parseM v.t).2=0:=by omega
 refine jcr ?_;refine jq jrm ?_
 refine jqe (jecP (rputO_ac (parseM v.t).1 (parse_ok hp0)) ?_)
 refine jq jrm ?_;refine jq jrm ?_;refine jq jrm ?_;refine jN ?_
 refine jR (jbr (jtr ?_))
 exact end_ownV (.inl rfl) [] (by decide) rfl (res_3 rfl javt javt javt) cZ (bodyQ (e:=0) (by unfold bodyV;rw [if_neg (by omega),if_neg (by omega),if_neg (by omega),if_neg (by omega),if_neg (by omega),if_pos (by omega),hp0]) (fun h=>by unfold putM;rw [if_pos hp0]))
theorem rdoW78_ac {gs:List Nat} (n:Nat) (s:R8) (v:VV) (hs:OkRD s) (hv:OkV v) (hk:v.kind=1∨v.kind=2∨v.kind=7∨v.kind=8):AC gs Tryz.prog 25 [rwO n s] [.op 0 (some n) 0,valC v] (fun r H'=>r=.c (.tuple #[])∧H'=[rwO n (rdoS v s)]):=rdoWB_ac n s v hs hv fun h1 h2 _=>rbody78_ac v hv (by omega)
theorem rdo78_ac {gs:List Nat} (n:Nat) (l:List (List UInt8)) (k:Nat) (a:AA) (hl:0<l.length∧l.length≤1000000) (hb:(nowL l).length≤1000000) (hk:a.kind=1∨a.kind=2∨a.kind=7∨a.kind=8):AC gs Tryz.prog 35 [rqE n l k] [.op 0 (some n) 0,askC a] (fun r H'=>r=valC (readR a l k).v∧H'=[rqE n (readR a l k).l (readR a l k).k]) :=
 rdo08_ac n l k a hl hb fun h1 h2 _ b hb=>rsaid78_ac a b (by omega) hb
end
section
variable {gs:List Nat} [OkG gs] [OkT gs]
open Go.RowKit Cal

theorem rputS_bad {s:S3} {r:R8} (h:r.e≠0):rputS9 s r=r:=by
 unfold rputS9
 split
 ·exact rdoAll_bad _ h
 ·rfl
set_option maxHeartbeats 4000000 in
theorem rnput_ac {gs:List Nat} (n:Nat) {i0:Nat} {r:R8} {w:W8} (hI:Inv8 i0 r w) (hi0:i0≤800) (s:S3):AC gs Tryz.prog 28 [rwO n r] [.op 0 (some n) 0,subjC s] (fun x H'=>x=.c (.tuple #[])∧H'=[rwO n (rputS9 s r)]):=by
 have I1:=inv_do hI (small_w1 (t:=48) (by decide))
 refine ac_of 54 Tryz.func28 rfl rfl rfl (fun al w0 F0 St0=>?_)
 refine jcr ?_
 refine jqe (jebx 3 fun p1=>?_)
 refine jN ?_;refine code_openRW 0 rfl fun gr=>?_;refine code_join (α:=Unit) [6,7,8,9,10,11,12,13,14,15,16,17,18] (fun _=>[]) (fun _=>[(some n,.blk 3 (rwB ⟨r.tags,r.rows,if r.e=0∧rightS s=false then 9 else r.e⟩ 2 gr)),(p1,.blk 3 (sF s)),(gr,.blk r.rows.length (rowsF r.rows))]) (fun _=>True) (fun _=>rfl) ?_ ?_
 ·refine jcr ?_;refine jq jrm ?_;refine jq jrnc ?_;refine jq (jrfa 2 1 false) ?_;refine jqo jrdo ?_;refine jq jrc ?_;refine jq jrm ?_;refine jqsp 11 (fun g95=>?_) fun g95=>?_
  rotate_left
  ·refine jqs ?_;refine jqs ?_;refine jqs ?_;refine jq jrpF ?_;refine jN ?_;refine jcF ?_
   refine jS (jtn ?_)
   refine jjend (()) ?_ (h5:=?_) (h7:=?_)
   ·trivial
   ·exact .nil
   ·show HEnt _ [(some n,.blk 3 (rwB ⟨r.tags,r.rows,if r.e=0∧rightS s=false then 9 else r.e⟩ 2 gr)),(p1,.blk 3 (sF s)),(gr,.blk r.rows.length (rowsF r.rows))]
    first
    |(rw [if_pos ⟨by omega,by simp_all⟩];exact HEnt.refl _)
    |(rw [if_neg (by rintro ⟨_,h⟩;simp_all)];exact HEnt.refl _)
    |(rw [if_neg (by omega)];exact HEnt.refl _)
  refine jqo (jrdoA 3) ?_
  refine jqe (jecP (rright_ac s) ?_)
  refine jq jrn ?_;refine jq jrpT ?_;refine jN ?_;refine jcc (fun h95=>?_) fun h95=>?_
  rotate_left
  ·refine jS (jtn ?_)
   refine jjend (()) ?_ (h5:=?_) (h7:=?_)
   ·trivial
   ·exact .nil
   ·show HEnt _ [(some n,.blk 3 (rwB ⟨r.tags,r.rows,if r.e=0∧rightS s=false then 9 else r.e⟩ 2 gr)),(p1,.blk 3 (sF s)),(gr,.blk r.rows.length (rowsF r.rows))]
    first
    |(rw [if_pos ⟨by omega,by simp_all⟩];exact HEnt.refl _)
    |(rw [if_neg (by rintro ⟨_,h⟩;simp_all)];exact HEnt.refl _)
    |(rw [if_neg (by omega)];exact HEnt.refl _)
  refine jcg ?_;refine jq jrm ?_;refine jq jrnc ?_;refine jq (jrfa 2 1 false) ?_
  refine jqm (jmstF 1 (rwB ⟨r.tags,r.rows,9⟩ 2 gr) ?_ ?_)
  ·exact (fun j hj=>by rcases j with _|_|_|j <;> exact cZ)
  refine jN ?_;refine jtn ?_
  refine jjend (()) ?_ (h5:=?_) (h7:=?_)
  ·trivial
  ·exact .nil
  ·show HEnt _ [(some n,.blk 3 (rwB ⟨r.tags,r.rows,if r.e=0∧rightS s=false then 9 else r.e⟩ 2 gr)),(p1,.blk 3 (sF s)),(gr,.blk r.rows.length (rowsF r.rows))]
   first
   |(rw [if_pos ⟨by omega,by simp_all⟩];exact HEnt.refl _)
   |(rw [if_neg (by rintro ⟨_,h⟩;simp_all)];exact HEnt.refl _)
   |(rw [if_neg (by omega)];exact HEnt.refl _)
 ·rintro u _
  obtain ⟨e0,he0⟩:∃ e0,e0=(if r.e=0∧rightS s=false then 9 else r.e):=⟨_,rfl⟩
  have hbad:e0≠0→rputS9 s r=⟨r.tags,r.rows,e0⟩:=fun h=>by
   by_cases hc:r.e=0∧rightS s=false
   ·rw [if_pos hc] at he0
    unfold rputS9
    rw [if_neg (by rw [hc.2];decide),if_pos hc.1,he0]
   ·rw [if_neg hc] at he0
    rw [rputS_bad (by omega),he0]
  have hgood:e0=0→r.e=0∧rightS s=true:=fun h=>by
   by_cases hc:r.e=0∧rightS s=false
   ·rw [if_pos hc] at he0;omega
   ·rw [if_neg hc] at he0
    refine ⟨by omega,?_⟩
    cases hb:rightS s with
    | true=>rfl
    | false=>exact absurd ⟨by omega,hb⟩ hc
  rw [← he0]
  refine jcs ?_;refine jcr ?_;refine jq jrm ?_;refine jq jrnc ?_;refine jq (jrfa 2 1 false) ?_;refine jqo jrdo ?_;refine jq jrc ?_;refine jN ?_;refine jcc (fun h98=>?_) fun h98=>?_
  ·refine jR (jtr ?_)
   rw [hbad (by have h:((e0:Nat):Int)≠0:=h98;omega)]
   exact end_closeRW (.inl rfl) n ⟨r.tags,r.rows,e0⟩ 2 (res_0 rfl) cZ rfl rfl rfl (by exact cZ) (by exact CEnt.osI rfl) (by exact cZ) (Nat.le_refl _) (fun _ _=>by exact cZ)
  refine jS (jtn ?_)
  obtain ⟨hre,hr⟩:=hgood (by have h:¬ (((e0:Nat):Int)≠0):=h98;omega)
  obtain ⟨hg1,hg2⟩:=good_parts hr
  have hG:∀ j,j≤(partsS s).length→∃ w',Inv8 (i0+1+4 * j) (rdoAll (((partsS s).take j).flatMap pv) (rdoS (w1 48) r)) w':=fun j hj=>by
   refine ⟨_,inv_mono (inv_all (((partsS s).take j).flatMap pv) I1 fun v hv=>?_) ?_⟩
   ·obtain ⟨p,hp,hv⟩:=List.mem_flatMap.1 hv
    have h:=hg1 p (List.mem_of_mem_take hp)
    exact small_pv (by omega) (by omega) v hv
   ·rw [pvs_len,List.length_take];omega
  have hS:∀ j,j<(partsS s).length→rdoAll (((partsS s).take (j+1)).flatMap pv) (rdoS (w1 48) r)=rdoAll (pv ((partsS s).getD j ([],[]))) (rdoAll (((partsS s).take j).flatMap pv) (rdoS (w1 48) r)):=fun j hj=>by
   rw [List.take_succ_eq_append_getElem hj,List.flatMap_append,rdoAll_app,List.getD_eq_getElem?_getD,List.getElem?_eq_getElem hj]
   simp
  have hE:rputS9 s r=rdoS w2 (rdoAll ((partsS s).flatMap pv) (rdoS (w1 48) r)):=by
   unfold rputS9
   rw [if_pos hr]
   show rdoAll ((partsS s).flatMap pv++[w2]) (rdoS (w1 48) r)=_
   rw [rdoAll_app]
   rfl
  refine jE (closeRW n r 0 2 rfl rfl rfl cZ (CEnt.osI rfl) (CEnt.int (by omega)) (Nat.le_refl _) (fun _ _=>cZ)) ?_;refine jE (pick_ent (H':=[rwO n r,(p1,.blk 3 (sF s))]) [0,1] (by decide) rfl) ?_;refine jcr ?_;refine jq jrm ?_;refine jq (rd_build (n:=5) rfl zr63 pl63 rfl rfl) ?_
  refine jqm (jmcH 0 (rdoW78_ac n r (w1 48) (inv_okR hI (by omega)) (small_w1 (by decide)).ok (.inl rfl)) ?_ (ho:=rfl) (he:=(.cons (se rfl CEnt.opI) (.cons (se rfl (CEnt.agg rfl (fun j hj=>by rcases j with _|_|_|_|_|j <;> first|exact cZ|exact CEnt.nilB|omega))) .nil))))
  rintro _ _ ⟨rfl,rfl⟩
  refine ⟨_,_,rfl,cZ,?_⟩
  refine jN ?_;refine jcs ?_;refine jcr ?_;refine jqo (jrdoA 3) ?_
  refine jqe (jecP (rparts_ac s hr) ?_)
  refine jq jrl ?_;refine jq jrm ?_;refine jN ?_;refine jB ?_;refine l_loop (α:=Nat) [5,30,31,32,33,34,35,36,37,38,39,40,41,42,43,44,45,46,47,48,49,50] (fun i=>[(30,.c (.int .i64 (i:Nat)))]) (fun i=>[rwO n (rdoAll (((partsS s).take i).flatMap pv) (rdoS (w1 48) r)),(p1,.blk 3 (sF s))]) (fun i=>i≤(partsS s).length) (fun i=>(partsS s).length-i) (0) ?_ (fun _=>rfl) ?_ ?_ ?_
  ·exact Nat.zero_le _
  ·exact .cons cZ .nil
  ·exact HEnt.refl _
  ·rintro i (hi:i≤(partsS s).length)
   refine jcr ?_;refine jq jrc ?_;refine jN ?_;refine jcs ?_;refine jcc (fun h102=>?_) fun h102=>?_
   rotate_left
   ·refine jX (jte (jte (jbx (jtn ?_))))
    have hie:i=(partsS s).length:=by omega
    obtain ⟨w',J0⟩:=hG i hi
    subst hie
    rw [List.take_length] at *
    refine jcg ?_;refine jq jrm ?_;refine jq (rd_build (n:=5) rfl zr63 pl63 rfl rfl) ?_
    refine jqm (jmcH 0 (rdoW78_ac n _ w2 (inv_okR J0 (by omega)) small_w2.ok (.inr (.inl rfl))) ?_ (ho:=rfl) (he:=(.cons (se rfl CEnt.opI) (.cons (se rfl (CEnt.agg rfl (fun j hj=>by rcases j with _|_|_|_|_|j <;> first|exact cZ|exact CEnt.nilB|omega))) .nil))))
    rintro _ _ ⟨rfl,rfl⟩
    refine ⟨_,_,rfl,cZ,?_⟩
    refine jN ?_
    rw [hE]
    exact end_H (.inr rfl) rfl (res_0 rfl) cZ
   refine jS (jtn ?_)
   refine jcs ?_;refine jB ?_;refine jcr ?_;refine jq jri ?_;refine jq (jrdrA 2) ?_
   refine jqe (jeal (n:=2) zr91 rfl fun p3=>?_)
   refine jqm (jmstF 2 (partE ((partsS s).getD i ([],[]))) ?_ ?_)
   ·exact (fun j hj=>by rcases j with _|_|j <;> first|exact cZ|omega)
   refine jN ?_
   have hm:(partsS s).getD i ([],[]) ∈ partsS s:=by
    rw [List.getD_eq_getElem?_getD,List.getElem?_eq_getElem (by omega)]
    exact List.getElem_mem _
   obtain ⟨_,hp1,hp2⟩:=hg1 _ hm
   obtain ⟨w',J0⟩:=hG i hi
   have J1:=inv_do J0 (small_w1 (t:=48) (by decide))
   have J2:=inv_do J1 (small_v8 (t:=((partsS s).getD i ([],[])).1) (by omega))
   have J3:=inv_do J2 (small_v7 (t:=((partsS s).getD i ([],[])).2) (by omega))
   refine jcr ?_;refine jq jrm ?_;refine jq (rd_build (n:=5) rfl zr63 pl63 rfl rfl) ?_
   refine jqm (jmcH 0 (rdoW78_ac n _ (w1 48) (inv_okR J0 (by omega)) (small_w1 (by decide)).ok (.inl rfl)) ?_ (ho:=rfl) (he:=(.cons (se rfl CEnt.opI) (.cons (se rfl (CEnt.agg rfl (fun j hj=>by rcases j with _|_|_|_|_|j <;> first|exact cZ|exact CEnt.nilB|omega))) .nil))))
   rintro _ _ ⟨rfl,rfl⟩
   refine ⟨_,_,rfl,cZ,?_⟩
   refine jN ?_;refine jcr ?_;refine jq jrm ?_;refine jq (jrfa 0 1 false) ?_;refine jqo jrdo ?_;refine jq (rd_build (n:=5) rfl zr63 pl63 rfl rfl) ?_
   refine jqm (jmcH 0 (rdoW78_ac n _ (v8 ((partsS s).getD i ([],[])).1) (inv_okR J1 (by omega)) (small_v8 (by omega)).ok (.inr (.inr (.inr rfl)))) ?_ (ho:=rfl) (he:=(.cons (se rfl CEnt.opI) (.cons (se rfl (CEnt.agg rfl (fun j hj=>by rcases j with _|_|_|_|_|j <;> first|exact cZ|exact CEnt.nilB|omega))) .nil))))
   rintro _ _ ⟨rfl,rfl⟩
   refine ⟨_,_,rfl,cZ,?_⟩
   refine jN ?_;refine jcr ?_;refine jq jrm ?_;refine jq (jrfa 1 1 false) ?_;refine jqo jrdo ?_;refine jq (rd_build (n:=5) rfl zr63 pl63 rfl rfl) ?_
   refine jqm (jmcH 0 (rdoW78_ac n _ (v7 ((partsS s).getD i ([],[])).2 64) (inv_okR J2 (by omega)) (small_v7 (by omega)).ok (.inr (.inr (.inl rfl)))) ?_ (ho:=rfl) (he:=(.cons (se rfl CEnt.opI) (.cons (se rfl (CEnt.agg rfl (fun j hj=>by rcases j with _|_|_|_|_|j <;> first|exact cZ|exact CEnt.nilB|omega))) .nil))))
   rintro _ _ ⟨rfl,rfl⟩
   refine ⟨_,_,rfl,cZ,?_⟩
   refine jN ?_;refine jcg ?_;refine jq jrm ?_;refine jq (rd_build (n:=5) rfl zr63 pl63 rfl rfl) ?_
   refine jqm (jmcH 0 (rdoW78_ac n _ w2 (inv_okR J3 (by omega)) small_w2.ok (.inr (.inl rfl))) ?_ (ho:=rfl) (he:=(.cons (se rfl CEnt.opI) (.cons (se rfl (CEnt.agg rfl (fun j hj=>by rcases j with _|_|_|_|_|j <;> first|exact cZ|exact CEnt.nilB|omega))) .nil))))
   rintro _ _ ⟨rfl,rfl⟩
   refine ⟨_,_,rfl,cZ,?_⟩
   refine jN ?_
   refine jbn (jtn ?_)
   refine jcg ?_;refine jq jra ?_;refine jq jrm ?_;refine jN ?_;refine jtn ?_
   refine jlend (i+1) ?_ ?_ (h5:=?_) (h7:=?_)
   ·show i+1≤(partsS s).length;omega
   ·show (partsS s).length-(i+1)<(partsS s).length-i;omega
   ·exact .cons (CEnt.int (by omega)) .nil
   ·rw [hS i (by omega)];exact HEnt.refl _
theorem part_k {l:List (List UInt8)} {k:Nat} (h:k≤28):(partSp l k).1.2≤28:=readR_k aE (readR_k aT (readR_k aO (readR_k aL h)))
theorem endP_k {l:List (List UInt8)} {k:Nat} (h:k≤28):(endP l k).2≤28:=endG_k (fun _ _ h=>part_k h) (readR_k aL h)
theorem getS_k {l:List (List UInt8)} {k:Nat} (h:k≤28):(getS l k).1.2≤28:=by
 have h1:=endP_k (l:=l) h
 have h2:=ofP_bd (listP l k)
 unfold getS
 split
 ·exact h1
 ·dsimp only;omega
theorem end_long {α:Type} {sp:StepR α} {l0:List (List UInt8)} {k0:Nat} {most:Int} (ok:StepOk sp) (hl:0<l0.length) {j:Nat} (h1:∀ i,i<j→goB sp l0 k0 most i=true) (hm:moreM (stG sp l0 k0 j).1.1 (stG sp l0 k0 j).1.2=true) (hj:most≤j):jG sp l0 k0 most=j∧endG sp l0 k0 most=((readR aE (stG sp l0 k0 j).1.1 3).l,(readR aE (stG sp l0 k0 j).1.1 3).k):=by
 have hs:jG sp l0 k0 most=j:=jG_one ok hl h1 (by unfold goB;rw [hm,Bool.true_and,decide_eq_false_iff_not];omega)
 refine ⟨hs,?_⟩
 obtain ⟨f1,f2⟩:=read_leave aE rfl (stG sp l0 k0 j).1.1 3
 unfold endG
 rw [hs]
 dsimp only
 rw [if_pos hm,f1,f2]
theorem end_all {α:Type} {sp:StepR α} {l0:List (List UInt8)} {k0:Nat} {most:Int} (ok:StepOk sp) (hl:0<l0.length) {j:Nat} (h1:∀ i,i<j→goB sp l0 k0 most i=true) (hm:moreM (stG sp l0 k0 j).1.1 (stG sp l0 k0 j).1.2=false):jG sp l0 k0 most=j∧endG sp l0 k0 most=((readR aE (stG sp l0 k0 j).1.1 (stG sp l0 k0 j).1.2).l,(readR aE (stG sp l0 k0 j).1.1 (stG sp l0 k0 j).1.2).k):=by
 have hs:jG sp l0 k0 most=j:=jG_one ok hl h1 (by unfold goB;rw [hm];rfl)
 refine ⟨hs,?_⟩
 obtain ⟨f1,f2⟩:=read_leave aE rfl (stG sp l0 k0 j).1.1 (stG sp l0 k0 j).1.2
 unfold endG
 rw [hs]
 dsimp only
 rw [if_neg (by rw [hm];simp),f1,f2]
def zS:Nat→CV:=fun _=>.top
set_option maxHeartbeats 4000000 in
theorem rnget_ac {gs:List Nat} (n:Nat) (l:List (List UInt8)) (k:Nat) (hl:0<l.length∧l.length≤100000) (hb:sumL l≤100000):AC gs Tryz.prog 38 [rqE n l k] [.op 0 (some n) 0] (fun x H'=>x=subjC (getS l k).2∧H'=[rqE n (getS l k).1.1 (getS l k).1.2]):=by
 have m0:muS l k≤100001:=by unfold muS;split <;> omega
 have n0:=now_le m0
 obtain ⟨l1,m1⟩:=read_bd aL hl m0 (by decide)
 obtain ⟨f1,f2⟩:=read_enter aL rfl l k
 have hL0:readR aL l k=readR aL l k:=rfl
 generalize hl0:(readR aL l k).l=l0 at *
 generalize hk0:(readR aL l k).k=k0 at *
 have e1:enterL 48 l k=l0:=f1.symm
 have e2:(enterR 48 l k).k=k0:=f2.symm
 have hso:=fun j=>stG_out partSp l0 k0 j
 have hbd:=stG_bd (sp:=partSp) (k0:=k0) (most:=8) part_ok l1.1
 refine ac_of 60 Tryz.func38 rfl rfl rfl (fun al w0 F0 St0=>?_)
 refine jcr ?_
 refine jqe (jeal (n:=3) zr26 rfl fun p1=>?_)
 refine jN ?_;refine jcr ?_
 refine jqe (jebl 0 2 zr91 fun p2=>?_)
 refine jq jrm ?_;refine jN ?_;refine jcr ?_;refine jq jrm ?_;refine jq (rd_build (n:=4) rfl zr76 pl76 rfl rfl) ?_
 refine jqm (jmcH 0 ((by have h:=rdo78_ac (gs:=gs) n l k aL (by omega) (by omega) (.inl rfl);rw [hl0,hk0] at h;exact h)) ?_ (ho:=rfl) (he:=(.cons (se rfl CEnt.opI) (.cons (se rfl (CEnt.agg rfl (fun j hj=>by rcases j with _|_|_|_|j <;> exact cZ))) .nil))))
 rintro _ _ ⟨rfl,rfl⟩
 refine ⟨_,_,rfl,cZ,?_⟩
 refine jN ?_;refine jcs ?_;refine jB ?_;refine l_loop (α:=Nat×Option Nat) [3,4,5,12,13,14,15,16,17,18,19,20,21,22,23,24,25,26,27,28,29,30,31,32,33,34,35,36,37,38,39] (fun (j,g)=>[(3,.os 2 g 0 (stG partSp l0 k0 j).2.length 2)]) (fun (j,g)=>[rqE n (stG partSp l0 k0 j).1.1 (stG partSp l0 k0 j).1.2,(p1,.blk 3 zS),(g,.blk ((stG partSp l0 k0 j).2.length * 2) (rowF 2 partE ([],[]) (stG partSp l0 k0 j).2))]) (fun p=>∀ i,i<p.1→goB partSp l0 k0 8 i=true) (fun p=>muS (stG partSp l0 k0 p.1).1.1 (stG partSp l0 k0 p.1).1.2) ((0,p2)) ?_ (fun _=>rfl) ?_ ?_ ?_
 ·exact fun i hi=>absurd hi (Nat.not_lt_zero i)
 ·exact .cons (CEnt.osI rfl) .nil
 ·exact .same (.blk rfl (fun j hj=>CEnt.top _) (.blk rfl (fun j hj=>absurd hj (Nat.not_lt_zero j)) .nil))
 ·rintro ⟨j,g⟩ (hj:∀ i,i<j→goB partSp l0 k0 8 i=true)
  obtain ⟨hmj,hlk,hlo,hhi⟩:=hbd j hj
  have hjl:0<(stG partSp l0 k0 j).1.1.length∧(stG partSp l0 k0 j).1.1.length≤200000:=by omega
  have hjm:muS (stG partSp l0 k0 j).1.1 (stG partSp l0 k0 j).1.2≤100001:=by omega
  have hjn:=now_le hjm
  have hjo:=hso j
  refine jcs ?_;refine jcr ?_;refine jq jrm ?_
  refine jqm (jmcH 0 (rmore08_ac n (stG partSp l0 k0 j).1.1 (stG partSp l0 k0 j).1.2 (by omega)) ?_)
  rintro _ _ ⟨rfl,rfl⟩
  refine ⟨_,_,rfl,cZ,?_⟩
  refine jN ?_;refine jcc (fun h115=>?_) fun h115=>?_
  rotate_left
  ·refine jX (jte (jte (jbx (jtn ?_))))
   first
    |(have hmt1:moreM (stG partSp l0 k0 j).1.1 (stG partSp l0 k0 j).1.2=true:=by simpa using h115
      obtain ⟨hs1,hs2⟩:=end_long (most:=8) part_ok l1.1 hj hmt1 (by omega)
      have hDo:=rdo78_ac (gs:=gs) n (stG partSp l0 k0 j).1.1 3 aE (by omega) (by omega) (.inr (.inl rfl)))
    |(have hmf1:moreM (stG partSp l0 k0 j).1.1 (stG partSp l0 k0 j).1.2=false:=by simpa using h115
      obtain ⟨hs1,hs2⟩:=end_all (most:=8) part_ok l1.1 hj hmf1
      have hDo:=rdo78_ac (gs:=gs) n (stG partSp l0 k0 j).1.1 (stG partSp l0 k0 j).1.2 aE (by omega) (by omega) (.inr (.inl rfl)))
   have hE1:(endP l k).1=(endG partSp l0 k0 8).1:=by unfold endP;rw [e1,e2]
   have hE2:(endP l k).2=(endG partSp l0 k0 8).2:=by unfold endP;rw [e1,e2]
   have hL:listP l k=(stG partSp l0 k0 j).2:=by unfold listP;rw [e1,e2,hs1]
   rw [hs2] at hE1 hE2
   dsimp only at hE1 hE2
   rw [← hE1,← hE2] at hDo
   refine jcr ?_;refine jq jrm ?_;refine jq (rd_build (n:=4) rfl zr76 pl76 rfl rfl) ?_
   refine jqm (jmcH 0 hDo ?_ (ho:=rfl) (he:=(.cons (se rfl CEnt.opI) (.cons (se rfl (CEnt.agg rfl (fun j hj=>by rcases j with _|_|_|_|j <;> exact cZ))) .nil))))
   rintro _ _ ⟨rfl,rfl⟩
   refine ⟨_,_,rfl,cZ,?_⟩
   refine jN ?_;refine jcs ?_;refine jcr ?_;refine jq jrm ?_;refine jq jrnc ?_;refine jq (jrfa 1 1 false) ?_;refine jqo jrdo ?_;refine jq jrc ?_;refine jN ?_;refine jcc (fun h127=>?_) fun h127=>?_
   ·refine jcr ?_;refine jq (rd_build (n:=3) rfl zr26 pl26 rfl rfl) ?_
    refine jqm (jmst 3 ?_)
    refine jN ?_
    refine jR (jtr ?_)
    rw [show getS l k=(endP l k,zeroS) by unfold getS;rw [if_pos (by omega)]]
    exact end_H (.inl rfl) rfl (res_1 rfl (javA 3)) (CEnt.agg rfl (fun j hj=>by rcases j with _|_|_|j <;> exact cZ))
   refine jS (jtn ?_)
   have hz:(endP l k).2=0:=by omega
   refine jE (freeze 2 rfl) ?_;refine jE (thaw 3 (fun a b=>partE ((stG partSp l0 k0 j).2.getD a ([],[])) b) rfl rfl (by omega) (fun a b ha hb=>CEnt.of_eq (by rw [Nat.zero_add,rowF_at hb]))) ?_;refine jcr ?_;refine jq jrm ?_
   refine jqe (jecP (rof_ac09 (stG partSp l0 k0 j).2 (by omega)) ?_)
   refine jq jrm ?_;refine jq jrx ?_;refine jq jrx ?_
   refine jqe (jeal (n:=3) zr26 rfl fun p6=>?_)
   refine jqm (jmst 3 ?_)
   refine jq jrm ?_;refine jN ?_;refine jcs ?_;refine jcr ?_;refine jq jrm ?_;refine jq jrn ?_;refine jN ?_;refine jcc (fun h131=>?_) fun h131=>?_
   rotate_left
   ·refine jS (jtn ?_)
    refine jcr ?_;refine jqo (jrdoA 3) ?_
    refine jqm (jmst 3 ?_)
    refine jN ?_;refine jR ?_
    have hof:=(ofP_bd (stG partSp l0 k0 j).2).imp id And.left
    rw [show getS l k=(((endP l k).1,(ofP (stG partSp l0 k0 j).2).2),(ofP (stG partSp l0 k0 j).2).1) by unfold getS;rw [if_neg (by omega),hL]]
    first
     |(have h9:(ofP (stG partSp l0 k0 j).2).2=(endP l k).2:=by omega
       rw [h9]
       exact end_H (.inl rfl) rfl (res_1 rfl (javA 3)) (CEnt.agg rfl (fun j hj=>by rcases j with _|_|_|j <;> exact cZ)))
     |(have h9:(ofP (stG partSp l0 k0 j).2).2=9:=by omega
       rw [h9]
       exact end_H (.inl rfl) rfl (res_1 rfl (javA 3)) (CEnt.agg rfl (fun j hj=>by rcases j with _|_|_|j <;> first|exact cZ|omega)))
   refine jcg ?_;refine jq jrm ?_;refine jq jrnc ?_;refine jq (jrfa 1 1 false) ?_
   refine jqm (jmstF 1 (rqF (endP l k).1 9) ?_ ?_)
   ·exact (fun j hj=>by rcases j with _|_|j <;> exact cZ)
   refine jN ?_;refine jtn ?_;refine jcr ?_;refine jqo (jrdoA 3) ?_
   refine jqm (jmst 3 ?_)
   refine jN ?_;refine jR ?_
   have hof:=(ofP_bd (stG partSp l0 k0 j).2).imp id And.left
   rw [show getS l k=(((endP l k).1,(ofP (stG partSp l0 k0 j).2).2),(ofP (stG partSp l0 k0 j).2).1) by unfold getS;rw [if_neg (by omega),hL]]
   first
    |(have h9:(ofP (stG partSp l0 k0 j).2).2=(endP l k).2:=by omega
      rw [h9]
      exact end_H (.inl rfl) rfl (res_1 rfl (javA 3)) (CEnt.agg rfl (fun j hj=>by rcases j with _|_|_|j <;> first|exact cZ|omega)))
    |(have h9:(ofP (stG partSp l0 k0 j).2).2=9:=by omega
      rw [h9]
      exact end_H (.inl rfl) rfl (res_1 rfl (javA 3)) (CEnt.agg rfl (fun j hj=>by rcases j with _|_|_|j <;> exact cZ)))
  refine jS (jtn ?_)
  refine jB ?_;refine jcs ?_;refine jcr ?_;refine jq jrm ?_;refine jq jrl ?_;refine jq jrc ?_;refine jN ?_;refine jcc (fun h116=>?_) fun h116=>?_
  rotate_left
  ·refine jS (jtn ?_)
   have hmt0:moreM (stG partSp l0 k0 j).1.1 (stG partSp l0 k0 j).1.2=true:=by simpa using h115
   have hgo:goB partSp l0 k0 8 j=true:=by unfold goB;rw [hmt0,Bool.true_and,decide_eq_true_eq];omega
   obtain ⟨q1,r1⟩:=read_bd aL hjl hjm (by decide)
   obtain ⟨q2,r2⟩:=read_bd aO q1 r1 (by decide)
   obtain ⟨q3,r3⟩:=read_bd aT q2 r2 (by decide)
   have t1:=now_le r1
   have t2:=now_le r2
   have t3:=now_le r3
   refine jcr ?_;refine jq jrm ?_;refine jq (rd_build (n:=4) rfl zr76 pl76 rfl rfl) ?_
   refine jqm (jmcH 0 (rdo78_ac n (stG partSp l0 k0 j).1.1 (stG partSp l0 k0 j).1.2 aL (by omega) (by omega) (.inl rfl)) ?_ (ho:=rfl) (he:=(.cons (se rfl CEnt.opI) (.cons (se rfl (CEnt.agg rfl (fun j hj=>by rcases j with _|_|_|_|j <;> exact cZ))) .nil))))
   rintro _ _ ⟨rfl,rfl⟩
   refine ⟨_,_,rfl,cZ,?_⟩
   refine jN ?_;refine jcr ?_;refine jq jrm ?_;refine jq (rd_build (n:=4) rfl zr76 pl76 rfl rfl) ?_
   refine jqm (jmcH 0 (rdo78_ac n (readR aL (stG partSp l0 k0 j).1.1 (stG partSp l0 k0 j).1.2).l (readR aL (stG partSp l0 k0 j).1.1 (stG partSp l0 k0 j).1.2).k aO (by omega) (by omega) (.inr (.inr (.inr rfl)))) ?_ (ho:=rfl) (he:=(.cons (se rfl CEnt.opI) (.cons (se rfl (CEnt.agg rfl (fun j hj=>by rcases j with _|_|_|_|j <;> exact cZ))) .nil))))
   rintro _ _ ⟨rfl,rfl⟩
   refine ⟨_,_,rfl,cZ,?_⟩
   refine jq (jrf 4 1) ?_;refine jq jrm ?_;refine jN ?_;refine jcr ?_;refine jq jrm ?_;refine jq (rd_build (n:=4) rfl zr76 pl76 rfl rfl) ?_
   refine jqm (jmcH 0 (rdo78_ac n (readR aO (readR aL (stG partSp l0 k0 j).1.1 (stG partSp l0 k0 j).1.2).l (readR aL (stG partSp l0 k0 j).1.1 (stG partSp l0 k0 j).1.2).k).l (readR aO (readR aL (stG partSp l0 k0 j).1.1 (stG partSp l0 k0 j).1.2).l (readR aL (stG partSp l0 k0 j).1.1 (stG partSp l0 k0 j).1.2).k).k aT (by omega) (by omega) (.inr (.inr (.inl rfl)))) ?_ (ho:=rfl) (he:=(.cons (se rfl CEnt.opI) (.cons (se rfl (CEnt.agg rfl (fun j hj=>by rcases j with _|_|_|_|j <;> exact cZ))) .nil))))
   rintro _ _ ⟨rfl,rfl⟩
   refine ⟨_,_,rfl,cZ,?_⟩
   refine jq (jrf 4 1) ?_;refine jq jrm ?_;refine jN ?_;refine jcr ?_;refine jq jrm ?_;refine jq (rd_build (n:=4) rfl zr76 pl76 rfl rfl) ?_
   refine jqm (jmcH 0 (rdo78_ac n (readR aT (readR aO (readR aL (stG partSp l0 k0 j).1.1 (stG partSp l0 k0 j).1.2).l (readR aL (stG partSp l0 k0 j).1.1 (stG partSp l0 k0 j).1.2).k).l (readR aO (readR aL (stG partSp l0 k0 j).1.1 (stG partSp l0 k0 j).1.2).l (readR aL (stG partSp l0 k0 j).1.1 (stG partSp l0 k0 j).1.2).k).k).l (readR aT (readR aO (readR aL (stG partSp l0 k0 j).1.1 (stG partSp l0 k0 j).1.2).l (readR aL (stG partSp l0 k0 j).1.1 (stG partSp l0 k0 j).1.2).k).l (readR aO (readR aL (stG partSp l0 k0 j).1.1 (stG partSp l0 k0 j).1.2).l (readR aL (stG partSp l0 k0 j).1.1 (stG partSp l0 k0 j).1.2).k).k).k aE (by omega) (by omega) (.inr (.inl rfl))) ?_ (ho:=rfl) (he:=(.cons (se rfl CEnt.opI) (.cons (se rfl (CEnt.agg rfl (fun j hj=>by rcases j with _|_|_|_|j <;> exact cZ))) .nil))))
   rintro _ _ ⟨rfl,rfl⟩
   refine ⟨_,_,rfl,cZ,?_⟩
   refine jN ?_;refine jcg ?_;refine jq jrm ?_;refine jq jrm ?_;refine jq jrm ?_;refine jq (rd_build (n:=2) rfl zr91 pl91 rfl rfl) ?_
   refine jqe (jebl 2 2 zr91 fun p9=>?_)
   refine jqm (m_appendC (rowC_row 2 partE ([],[])) (l2:=[(partSp (stG partSp l0 k0 j).1.1 (stG partSp l0 k0 j).1.2).2]) rfl rfl rfl rfl (by exact Nat.le_refl _) (fun _ _=>cZ) (src_os rfl (.inl rfl) (by decide)) rfl (fun j hj=>by rcases j with _|_|j <;> first|exact cZ|exact CEnt.int (by omega)|(exfalso;simp at hj <;> omega)) Tryz.underlying38 nu38 sz91 zr91 by91 rfl (by (simp;omega)) (by (simp;omega)) (leaf_flk rfl rfl) rfl rfl rfl (fun p10=>?_))
   refine jq jrm ?_;refine jN ?_
   refine jbn (jtn ?_)
   refine jlend ((j+1,p10)) ?_ ?_ (h5:=?_) (h7:=?_)
   ·exact fun i hi=>if h:i<j then hj i h else (by obtain rfl:i=j:=(by have hi:i<j+1:=hi;omega);exact hgo)
   ·exact part_ok.mu _ _ (by omega) hmt0
   ·exact .cons (CEnt.osI rfl) .nil
   ·exact HEnt.refl _
  refine jcr ?_;refine jq jrm ?_;refine jq jrnc ?_;refine jq (jrfa 1 1 false) ?_
  refine jqm (jmstF 1 (rqF (stG partSp l0 k0 j).1.1 3) ?_ ?_)
  ·exact (fun j hj=>by rcases j with _|_|j <;> exact cZ)
  refine jN ?_
  refine jX (jte (jbx2 (jte (jbx (jtn ?_)))))
  first
   |(have hmt1:moreM (stG partSp l0 k0 j).1.1 (stG partSp l0 k0 j).1.2=true:=by simpa using h115
     obtain ⟨hs1,hs2⟩:=end_long (most:=8) part_ok l1.1 hj hmt1 (by omega)
     have hDo:=rdo78_ac (gs:=gs) n (stG partSp l0 k0 j).1.1 3 aE (by omega) (by omega) (.inr (.inl rfl)))
   |(have hmf1:moreM (stG partSp l0 k0 j).1.1 (stG partSp l0 k0 j).1.2=false:=by simpa using h115
     obtain ⟨hs1,hs2⟩:=end_all (most:=8) part_ok l1.1 hj hmf1
     have hDo:=rdo78_ac (gs:=gs) n (stG partSp l0 k0 j).1.1 (stG partSp l0 k0 j).1.2 aE (by omega) (by omega) (.inr (.inl rfl)))
  have hE1:(endP l k).1=(endG partSp l0 k0 8).1:=by unfold endP;rw [e1,e2]
  have hE2:(endP l k).2=(endG partSp l0 k0 8).2:=by unfold endP;rw [e1,e2]
  have hL:listP l k=(stG partSp l0 k0 j).2:=by unfold listP;rw [e1,e2,hs1]
  rw [hs2] at hE1 hE2
  dsimp only at hE1 hE2
  rw [← hE1,← hE2] at hDo
  refine jcr ?_;refine jq jrm ?_;refine jq (rd_build (n:=4) rfl zr76 pl76 rfl rfl) ?_
  refine jqm (jmcH 0 hDo ?_ (ho:=rfl) (he:=(.cons (se rfl CEnt.opI) (.cons (se rfl (CEnt.agg rfl (fun j hj=>by rcases j with _|_|_|_|j <;> exact cZ))) .nil))))
  rintro _ _ ⟨rfl,rfl⟩
  refine ⟨_,_,rfl,cZ,?_⟩
  refine jN ?_;refine jcs ?_;refine jcr ?_;refine jq jrm ?_;refine jq jrnc ?_;refine jq (jrfa 1 1 false) ?_;refine jqo jrdo ?_;refine jq jrc ?_;refine jN ?_;refine jcc (fun h127=>?_) fun h127=>?_
  ·refine jcr ?_;refine jq (rd_build (n:=3) rfl zr26 pl26 rfl rfl) ?_
   refine jqm (jmst 3 ?_)
   refine jN ?_
   refine jR (jtr ?_)
   rw [show getS l k=(endP l k,zeroS) by unfold getS;rw [if_pos (by omega)]]
   exact end_H (.inl rfl) rfl (res_1 rfl (javA 3)) (CEnt.agg rfl (fun j hj=>by rcases j with _|_|_|j <;> exact cZ))
  refine jS (jtn ?_)
  have hz:(endP l k).2=0:=by omega
  refine jE (freeze 2 rfl) ?_;refine jE (thaw 3 (fun a b=>partE ((stG partSp l0 k0 j).2.getD a ([],[])) b) rfl rfl (by omega) (fun a b ha hb=>CEnt.of_eq (by rw [Nat.zero_add,rowF_at hb]))) ?_;refine jcr ?_;refine jq jrm ?_
  refine jqe (jecP (rof_ac09 (stG partSp l0 k0 j).2 (by omega)) ?_)
  refine jq jrm ?_;refine jq jrx ?_;refine jq jrx ?_
  refine jqe (jeal (n:=3) zr26 rfl fun p6=>?_)
  refine jqm (jmst 3 ?_)
  refine jq jrm ?_;refine jN ?_;refine jcs ?_;refine jcr ?_;refine jq jrm ?_;refine jq jrn ?_;refine jN ?_;refine jcc (fun h131=>?_) fun h131=>?_
  rotate_left
  ·refine jS (jtn ?_)
   refine jcr ?_;refine jqo (jrdoA 3) ?_
   refine jqm (jmst 3 ?_)
   refine jN ?_;refine jR ?_
   have hof:=(ofP_bd (stG partSp l0 k0 j).2).imp id And.left
   rw [show getS l k=(((endP l k).1,(ofP (stG partSp l0 k0 j).2).2),(ofP (stG partSp l0 k0 j).2).1) by unfold getS;rw [if_neg (by omega),hL]]
   first
    |(have h9:(ofP (stG partSp l0 k0 j).2).2=(endP l k).2:=by omega
      rw [h9]
      exact end_H (.inl rfl) rfl (res_1 rfl (javA 3)) (CEnt.agg rfl (fun j hj=>by rcases j with _|_|_|j <;> exact cZ)))
    |(have h9:(ofP (stG partSp l0 k0 j).2).2=9:=by omega
      rw [h9]
      exact end_H (.inl rfl) rfl (res_1 rfl (javA 3)) (CEnt.agg rfl (fun j hj=>by rcases j with _|_|_|j <;> first|exact cZ|omega)))
  refine jcg ?_;refine jq jrm ?_;refine jq jrnc ?_;refine jq (jrfa 1 1 false) ?_
  refine jqm (jmstF 1 (rqF (endP l k).1 9) ?_ ?_)
  ·exact (fun j hj=>by rcases j with _|_|j <;> exact cZ)
  refine jN ?_;refine jtn ?_;refine jcr ?_;refine jqo (jrdoA 3) ?_
  refine jqm (jmst 3 ?_)
  refine jN ?_;refine jR ?_
  have hof:=(ofP_bd (stG partSp l0 k0 j).2).imp id And.left
  rw [show getS l k=(((endP l k).1,(ofP (stG partSp l0 k0 j).2).2),(ofP (stG partSp l0 k0 j).2).1) by unfold getS;rw [if_neg (by omega),hL]]
  first
   |(have h9:(ofP (stG partSp l0 k0 j).2).2=(endP l k).2:=by omega
     rw [h9]
     exact end_H (.inl rfl) rfl (res_1 rfl (javA 3)) (CEnt.agg rfl (fun j hj=>by rcases j with _|_|_|j <;> first|exact cZ|omega)))
   |(have h9:(ofP (stG partSp l0 k0 j).2).2=9:=by omega
     rw [h9]
     exact end_H (.inl rfl) rfl (res_1 rfl (javA 3)) (CEnt.agg rfl (fun j hj=>by rcases j with _|_|_|j <;> exact cZ)))
end
section
variable {gs:List Nat} [OkG gs] [OkT gs]
open Go.RowKit Cal

def w3 (z:Int):VV:=⟨3,z,false,[],[]⟩
theorem do_w3 (z:Int) (s:W8):doW (w3 z) s=putW 2 (putN z) 0 s:=by
 unfold doW
 rw [if_neg (show ¬ (w3 z).kind=1 by show ¬ (3:Int)=1;decide),if_neg (show ¬ (w3 z).kind=2 by show ¬ (3:Int)=2;decide),if_neg (show ¬ (w3 z).kind=11 by show ¬ (3:Int)=11;decide)]
 rfl
theorem small_w3 {z:Int} (h:-9223372036854775808≤z∧z≤9223372036854775807):SmallV (w3 z):=⟨h,by simp [w3],by simp [w3]⟩
theorem doAll_k:∀ (vs:List VV) {s:W8},s.k≤28→(doAll vs s).k≤28
 | [],s,h=>h
 | v::vs,s,h=>doAll_k vs (do_k v h)
theorem putS_k (s:S3) {w:W8} (h:w.k≤28):(putS s w).k≤28:=by
 unfold putS
 split
 ·exact doAll_k _ h
 ·exact fail_k (by decide) h
theorem getS_mu (l:List (List UInt8)) (k:Nat) (hl:0<l.length):muS (getS l k).1.1 (getS l k).1.2≤muS l k:=by
 obtain ⟨_,e2,_,e4,e5,_⟩:=enter_mu (t:=48) (l:=l) (k:=k) hl
 have he:0<(enterL 48 l k).length:=by
  by_cases h0:(enterR 48 l k).k=0
  ·rw [e4 h0];omega
  ·rw [e5 h0];omega
 have hs:=jG_stop (sp:=partSp) (l0:=enterL 48 l k) (k0:=(enterR 48 l k).k) (most:=8) part_ok he
 have hb:=stG_bd (sp:=partSp) (l0:=enterL 48 l k) (k0:=(enterR 48 l k).k) (most:=8) part_ok he _ hs.1
 have hE:muS (endP l k).1 (endP l k).2≤muS l k:=by
  unfold endP endG
  dsimp only
  split
  ·obtain ⟨_,f2,_⟩:=leave_mu (l:=(stG partSp (enterL 48 l k) (enterR 48 l k).k (jG partSp (enterL 48 l k) (enterR 48 l k).k 8)).1.1) (k:=3) (by omega)
   have h3:muS (stG partSp (enterL 48 l k) (enterR 48 l k).k (jG partSp (enterL 48 l k) (enterR 48 l k).k 8)).1.1 3≤muS (stG partSp (enterL 48 l k) (enterR 48 l k).k (jG partSp (enterL 48 l k) (enterR 48 l k).k 8)).1.1 (stG partSp (enterL 48 l k) (enterR 48 l k).k (jG partSp (enterL 48 l k) (enterR 48 l k).k 8)).1.2:=by
    unfold muS
    rw [if_neg (by decide)]
    omega
   dsimp only
   omega
  ·obtain ⟨_,f2,_⟩:=leave_mu (l:=(stG partSp (enterL 48 l k) (enterR 48 l k).k (jG partSp (enterL 48 l k) (enterR 48 l k).k 8)).1.1) (k:=(stG partSp (enterL 48 l k) (enterR 48 l k).k (jG partSp (enterL 48 l k) (enterR 48 l k).k 8)).1.2) (by omega)
   dsimp only
   omega
 unfold getS
 split
 ·exact hE
 ·rename_i h0
  dsimp only
  have h1:(endP l k).2=0:=Classical.not_not.1 h0
  refine Nat.le_trans ?_ hE
  unfold muS
  rw [if_pos h1]
  split <;> omega
def aI:AA:=⟨3,0,-1000,1000⟩
theorem intR_ac {gs:List Nat} [Ok9 gs] (n:Nat) (l:List (List UInt8)) (k:Nat) (hl:0<l.length∧l.length≤1000000) (hb:(nowL l).length≤10000000):AC gs Tryz.prog 37 [rdO n l k] [.op 0 (some n) 0,.c (.int .i64 (-1000)),.c (.int .i64 1000)] (fun r H'=>r=.c (.int .i64 (readR aI l k).v.n)∧H'=[rdO n (readR aI l k).l (readR aI l k).k]):=by
 have h:=int08_ac (gs:=gs) n l k (-1000) 1000 hl hb
 rw [readR_g vN 0 rfl (t:=2) (f:=fun b=>rangeM b (-1000) 1000) (by decide) (by decide) (by decide) (by funext b;rfl) rfl]
 exact h
def subjsC (ss:List S3):CV:=.rs 3 ss.length fun i j=>sF (ss.getD i zeroS) j
theorem long09_ac {gs:List Nat} (s:S3):∃ b:Bool,ACp gs Tryz.prog 13 [subjC s] (.c (.bool b)):=by
 refine ⟨decide (200<s.2.1.length) || decide (200<s.2.2.length),?_⟩
 refine ac_of 13 Tryz.func13 rfl rfl rfl (fun al w0 F0 St0=>?_)
 refine jcr ?_
 refine jqe (jebx 3 fun p1=>?_)
 refine jq jrm ?_;refine jN ?_;refine jcr ?_;refine jq (jrfa 1 1 false) ?_;refine jqo jrdo ?_;refine jq jrls ?_;refine jq jrc ?_;refine jq jrm ?_;refine jqsp 7 (fun g18=>?_) fun g18=>?_
 ·refine jqs ?_;refine jqs ?_;refine jqs ?_;refine jqs ?_;refine jq jrpT ?_;refine jq jrm ?_;refine jN ?_
  refine jR (jrt (hv:=?_))
  refine CEnt.bool ?_
  (rw [Bool.eq_iff_iff];simp;omega)
 refine jq (jrfa 2 1 false) ?_;refine jqo jrdo ?_;refine jq jrls ?_;refine jq jrc ?_;refine jq jrpF ?_;refine jq jrm ?_;refine jN ?_
 refine jR (jrt (hv:=?_))
 refine CEnt.bool ?_
 (rw [Bool.eq_iff_iff];simp;omega)
set_option maxHeartbeats 8000000 in
theorem namesWrites_ac (ss:List S3) (ns:List Int) (hn:∀ z ∈ ns,-9223372036854775808≤z∧z≤9223372036854775807):ACp gs Tryz.prog 5 [subjsC ss,isC ns] (.c (.bool true)):=by
 refine ac_of 152 Tryz.func5 rfl rfl rfl (fun al w0 F0 St0=>?_)
 refine jcr ?_;refine jq jrm ?_;refine jN ?_;refine jcs ?_;refine jcr ?_
 refine jqe (jecP alive09_ac ?_)
 refine jq jrn ?_;refine jN ?_;refine jcc (fun h14=>?_) fun h14=>?_
 ·exfalso;exact absurd h14 (by decide)
 refine jS (jtn ?_)
 refine jcs ?_;refine jcr ?_;refine jq jrm ?_;refine jq jrl ?_;refine jq jrc ?_;refine jq jrm ?_;refine jqsp 25 (fun g17=>?_) fun g17=>?_
 ·refine jqs ?_;refine jqs ?_;refine jqs ?_;refine jq jrpT ?_;refine jN ?_;refine jcT ?_;refine jcr ?_;refine jq jrm ?_;refine jN ?_
  refine jR (jtr (jrt (hv:=cZ)))
 refine jq jrm ?_;refine jq jrl ?_;refine jq jrc ?_;refine jq jrpF ?_;refine jN ?_;refine jcc (fun h17=>?_) fun h17=>?_
 ·refine jcr ?_;refine jq jrm ?_;refine jN ?_
  refine jR (jtr (jrt (hv:=cZ)))
 refine jS (jtn ?_)
 have hsl:ss.length≤12:=by omega
 refine jcr ?_;refine jq (rd_build (n:=3) rfl zr55 pl55 rfl rfl) ?_
 refine jqe (jebx 3 fun p1=>?_)
 refine jq (rd_build (n:=3) rfl zr59 pl59 rfl rfl) ?_
 refine jqe (jebx 3 fun p2=>?_)
 refine jq jrm ?_;refine jq jrm ?_;refine jN ?_;refine code_knowG (know_op 31 rfl) fun hnw=>?_
 obtain ⟨nw,rfl⟩:=hnw
 refine code_knowG (know_op 33 rfl) fun hnm=>?_
 obtain ⟨nm,rfl⟩:=hnm
 refine jE (newW nw 0 rfl cZ cZ CEnt.nil) ?_;refine jE (newRW nm 1 rfl cZ cZ cZ) ?_
 dsimp only [List.set_cons_zero,List.set_cons_succ,List.cons_append,List.nil_append,List.length_cons,List.length_nil,Nat.zero_add,Nat.reduceAdd]
 refine jcr ?_;refine jq jrm ?_
 refine jqm (jmcH 0 ((by have h:=openW_ac (gs:=gs) nw w00 48 ok0;rw [← do_w1] at h;exact h)) ?_)
 rintro _ _ ⟨rfl,rfl⟩
 refine ⟨_,_,rfl,cZ,?_⟩
 refine jN ?_;refine jcr ?_;refine jq jrm ?_;refine jq (rd_build (n:=5) rfl zr63 pl63 rfl rfl) ?_
 refine jqm (jmcH 1 (rdoW78_ac nm r00 (w1 48) (inv_okR inv_00 (by decide)) (small_w1 (by decide)).ok (.inl rfl)) ?_ (ho:=rfl) (he:=(.cons (se rfl CEnt.opI) (.cons (se rfl (CEnt.agg rfl (fun j hj=>by rcases j with _|_|_|_|_|j <;> first|exact cZ|exact CEnt.nilB|omega))) .nil))))
 rintro _ _ ⟨rfl,rfl⟩
 refine ⟨_,_,rfl,cZ,?_⟩
 refine jN ?_;refine jcs ?_;refine jcr ?_;refine jq jrm ?_;refine jq jrl ?_;refine jq jrm ?_;refine jN ?_;refine jB ?_;refine l_loop (α:=Nat×R8×W8) [4,7,8,9,41,42,43,44,45,46,47,48,49,50,51,52,53,54,55,56,57,58,59,60,61,62,63,64,65,66,67,68,69] (fun p=>[(41,.c (.int .i64 (p.1:Nat)))]) (fun p=>[wrO nw p.2.2,rwO nm p.2.1]) (fun p=>p.1≤ss.length∧Inv8 (1+15 * p.1) p.2.1 p.2.2∧p.2.2.k≤28) (fun p=>ss.length-p.1) ((0,rdoS (w1 48) r00,doW (w1 48) w00)) ?_ (fun _=>rfl) ?_ ?_ ?_
 ·exact ⟨Nat.zero_le _,inv_do inv_00 (small_w1 (t:=48) (by decide)),do_k _ (by decide)⟩
 ·exact .cons cZ .nil
 ·exact HEnt.refl _
 ·rintro ⟨i,r,w⟩ ⟨(hi:i≤ss.length),(hI:Inv8 (1+15 * i) r w),(hk:w.k≤28)⟩
  show ACode _ _ _ ⟨[(41,.c (.int .i64 (i:Nat)))],_,[wrO nw w,rwO nm r]⟩ _
  refine jcr ?_;refine jq jrc ?_;refine jN ?_;refine jcs ?_;refine jcc (fun h23=>?_) fun h23=>?_
  ·refine jS (jtn ?_)
   refine jcs ?_;refine jB ?_;refine jcr ?_;refine jq jrm ?_;refine jq jri ?_;refine jq (jrdrA 3) ?_
   refine jqe (jeal (n:=3) zr26 rfl fun p5=>?_)
   refine jq jrm ?_
   refine jqm (jmstF 3 (sF (ss.getD i zeroS)) ?_ ?_)
   ·exact (fun j hj=>by rcases j with _|_|_|j <;> first|exact cZ|omega)
   refine jN ?_;refine jcs ?_
   obtain ⟨bl,hlong⟩:=long09_ac (gs:=gs) (ss.getD i zeroS)
   have hz:-9223372036854775808≤ns.getD i 0∧ns.getD i 0≤9223372036854775807:=by
    rw [List.getD_eq_getElem?_getD]
    cases h:ns[i]? with
    | none=>decide
    | some z=>exact hn z (List.mem_of_getElem? h)
   have hI2:=inv_putS hI (ss.getD i zeroS)
   have hI3:=inv_do hI2 (small_w3 hz)
   refine jcr ?_;refine jqo (jrdoA 3) ?_
   refine jqe (jecP hlong ?_)
   refine jN ?_;refine jcc (fun h24=>?_) fun h24=>?_
   ·refine jcr ?_;refine jq jrm ?_;refine jN ?_
    refine jR (jtr (jbr (jtr (jtr (jbr (jtr (jrt (hv:=cZ))))))))
   refine jS (jtn ?_)
   refine jcr ?_;refine jq jrm ?_;refine jN ?_;refine jcs ?_;refine jcr ?_;refine jq jrm ?_;refine jq jrm ?_;refine jq jrl ?_;refine jq jrc ?_;refine jN ?_;refine jcc (fun h28=>?_) fun h28=>?_
   rotate_left
   ·refine jS (jtn ?_)
    refine jE (weaken 9 (.c (.int .i64 (ns.getD i 0))) (by exact CEnt.int (by rw [List.getD_eq_getElem?_getD,List.getElem?_eq_none (by omega)];rfl))) ?_;refine jcr ?_;refine jq jrm ?_;refine jqo (jrdoA 3) ?_
    refine jqm (jmcH 0 (nput_ac nw hI (by omega) (ss.getD i zeroS)) ?_)
    rintro _ _ ⟨rfl,rfl⟩
    refine ⟨_,_,rfl,cZ,?_⟩
    refine jN ?_;refine jcr ?_;refine jq jrm ?_;refine jq jrm ?_
    refine jqm (jmcH 0 ((by have h:=intW_ac (gs:=gs) nw (putS (ss.getD i zeroS) w) (ns.getD i 0) hz (inv_okW hI2 (by omega));rw [← do_w3] at h;exact h)) ?_)
    rintro _ _ ⟨rfl,rfl⟩
    refine ⟨_,_,rfl,cZ,?_⟩
    refine jN ?_;refine jcr ?_;refine jq jrm ?_;refine jqo (jrdoA 3) ?_
    refine jqm (jmcH 1 (rnput_ac nm hI (by omega) (ss.getD i zeroS)) ?_)
    rintro _ _ ⟨rfl,rfl⟩
    refine ⟨_,_,rfl,cZ,?_⟩
    refine jN ?_;refine jcg ?_;refine jq jrm ?_;refine jq jrm ?_;refine jq (rd_build (n:=5) rfl zr63 pl63 rfl rfl) ?_
    refine jqm (jmcH 1 (rdoWB_ac nm (rputS9 (ss.getD i zeroS) r) (w3 (ns.getD i 0)) (inv_okR hI2 (by omega)) (small_w3 hz).ok (fun _ _ _=>rbody3_ac _ (small_w3 hz).ok rfl)) ?_ (ho:=rfl) (he:=(.cons (se rfl CEnt.opI) (.cons (se rfl (CEnt.agg rfl (fun j hj=>by rcases j with _|_|_|_|_|j <;> first|exact cZ|exact CEnt.nilB|omega))) .nil))))
    rintro _ _ ⟨rfl,rfl⟩
    refine ⟨_,_,rfl,cZ,?_⟩
    refine jN ?_
    refine jbn (jtn ?_)
    refine jcg ?_;refine jq jra ?_;refine jq jrm ?_;refine jN ?_;refine jtn ?_
    refine jlend ((i+1,rdoS (w3 (ns.getD i 0)) (rputS9 (ss.getD i zeroS) r),doW (w3 (ns.getD i 0)) (putS (ss.getD i zeroS) w))) ?_ ?_ (h5:=?_) (h7:=?_)
    ·exact ⟨show i+1≤ss.length by omega,inv_mono hI3 (by omega),do_k _ (putS_k _ hk)⟩
    ·show ss.length-(i+1)<ss.length-i;omega
    ·exact .cons (CEnt.int (by omega)) .nil
    ·(show HEnt _ [wrO nw (doW (w3 (ns.getD i 0)) (putS (ss.getD i zeroS) w)),rwO nm (rdoS (w3 (ns.getD i 0)) (rputS9 (ss.getD i zeroS) r))];exact HEnt.refl _)
   refine jcg ?_;refine jq jrm ?_;refine jq jrm ?_;refine jq jri ?_;refine jq jrdr ?_;refine jq jrm ?_;refine jN ?_;refine jtn ?_;refine jE (weaken 9 (.c (.int .i64 (ns.getD i 0))) (by exact cZ)) ?_;refine jcr ?_;refine jq jrm ?_;refine jqo (jrdoA 3) ?_
   refine jqm (jmcH 0 (nput_ac nw hI (by omega) (ss.getD i zeroS)) ?_)
   rintro _ _ ⟨rfl,rfl⟩
   refine ⟨_,_,rfl,cZ,?_⟩
   refine jN ?_;refine jcr ?_;refine jq jrm ?_;refine jq jrm ?_
   refine jqm (jmcH 0 ((by have h:=intW_ac (gs:=gs) nw (putS (ss.getD i zeroS) w) (ns.getD i 0) hz (inv_okW hI2 (by omega));rw [← do_w3] at h;exact h)) ?_)
   rintro _ _ ⟨rfl,rfl⟩
   refine ⟨_,_,rfl,cZ,?_⟩
   refine jN ?_;refine jcr ?_;refine jq jrm ?_;refine jqo (jrdoA 3) ?_
   refine jqm (jmcH 1 (rnput_ac nm hI (by omega) (ss.getD i zeroS)) ?_)
   rintro _ _ ⟨rfl,rfl⟩
   refine ⟨_,_,rfl,cZ,?_⟩
   refine jN ?_;refine jcg ?_;refine jq jrm ?_;refine jq jrm ?_;refine jq (rd_build (n:=5) rfl zr63 pl63 rfl rfl) ?_
   refine jqm (jmcH 1 (rdoWB_ac nm (rputS9 (ss.getD i zeroS) r) (w3 (ns.getD i 0)) (inv_okR hI2 (by omega)) (small_w3 hz).ok (fun _ _ _=>rbody3_ac _ (small_w3 hz).ok rfl)) ?_ (ho:=rfl) (he:=(.cons (se rfl CEnt.opI) (.cons (se rfl (CEnt.agg rfl (fun j hj=>by rcases j with _|_|_|_|_|j <;> first|exact cZ|exact CEnt.nilB|omega))) .nil))))
   rintro _ _ ⟨rfl,rfl⟩
   refine ⟨_,_,rfl,cZ,?_⟩
   refine jN ?_
   refine jbn (jtn ?_)
   refine jcg ?_;refine jq jra ?_;refine jq jrm ?_;refine jN ?_;refine jtn ?_
   refine jlend ((i+1,rdoS (w3 (ns.getD i 0)) (rputS9 (ss.getD i zeroS) r),doW (w3 (ns.getD i 0)) (putS (ss.getD i zeroS) w))) ?_ ?_ (h5:=?_) (h7:=?_)
   ·exact ⟨show i+1≤ss.length by omega,inv_mono hI3 (by omega),do_k _ (putS_k _ hk)⟩
   ·show ss.length-(i+1)<ss.length-i;omega
   ·exact .cons (CEnt.int (by omega)) .nil
   ·(show HEnt _ [wrO nw (doW (w3 (ns.getD i 0)) (putS (ss.getD i zeroS) w)),rwO nm (rdoS (w3 (ns.getD i 0)) (rputS9 (ss.getD i zeroS) r))];exact HEnt.refl _)
  refine jX (jte (jte (jbx (jtn ?_))))
  have hJ:=inv_do hI small_w2
  have hJk:=do_k w2 hk
  have hsd:=same_done hJ.same
  have hdk:=done_k hJk
  refine jcr ?_;refine jq jrm ?_
  refine jqm (jmcH 0 ((by have h:=closeW_ac (gs:=gs) nw w (inv_okW hI (by omega));rw [← do_w2] at h;exact h)) ?_)
  rintro _ _ ⟨rfl,rfl⟩
  refine ⟨_,_,rfl,cZ,?_⟩
  refine jN ?_;refine jcr ?_;refine jq jrm ?_;refine jq (rd_build (n:=5) rfl zr63 pl63 rfl rfl) ?_
  refine jqm (jmcH 1 (rdoW78_ac nm r w2 (inv_okR hI (by omega)) small_w2.ok (.inr (.inl rfl))) ?_ (ho:=rfl) (he:=(.cons (se rfl CEnt.opI) (.cons (se rfl (CEnt.agg rfl (fun j hj=>by rcases j with _|_|_|_|_|j <;> first|exact cZ|exact CEnt.nilB|omega))) .nil))))
  rintro _ _ ⟨rfl,rfl⟩
  refine ⟨_,_,rfl,cZ,?_⟩
  refine jN ?_;refine jcr ?_;refine jq jrm ?_
  refine jqm (jmcH 0 (doneW_ac nw (doW w2 w) (inv_okW hJ (by omega))) ?_)
  rintro _ _ ⟨rfl,rfl⟩
  refine ⟨_,_,rfl,cZ,?_⟩
  refine jq jrm ?_;refine jq jrx ?_;refine jq jrx ?_;refine jq jrm ?_;refine jq jrm ?_;refine jN ?_;refine jcr ?_;refine jq jrm ?_
  refine jqm (jmcH 1 ((by have h:=rdone08_ac (gs:=gs) nm (rdoS w2 r) (inv_okR hJ (by omega));rw [hsd.1,hsd.2] at h;exact h)) ?_)
  rintro _ _ ⟨rfl,rfl⟩
  refine ⟨_,_,rfl,cZ,?_⟩
  refine jq jrm ?_;refine jq jrx ?_;refine jq jrx ?_;refine jq jrm ?_;refine jq jrm ?_;refine jN ?_;refine jcs ?_;refine jcr ?_;refine jq jrm ?_
  refine jqe (jecP (num_ac (doneK (doW w2 w)) hdk) ?_)
  refine jq jrm ?_;refine jq jrc ?_;refine jq jrm ?_;refine jqsp 89 (fun g40=>?_) fun g40=>?_
  ·refine jqs ?_;refine jqs ?_;refine jqs ?_;refine jqs ?_;refine jqs ?_;refine jq jrpT ?_;refine jN ?_;refine jcT ?_;refine jcr ?_;refine jq jrm ?_;refine jN ?_
   refine jR (jtr (jrt (hv:=?_)))
   exfalso
   (simp_all;done)
  refine jq jrm ?_;refine jq jrbs ?_;refine jq jrm ?_;refine jq jrbs ?_;refine jq jrcs ?_;refine jq jrpF ?_;refine jN ?_;refine jcc (fun h40=>?_) fun h40=>?_
  ·refine jcr ?_;refine jq jrm ?_;refine jN ?_
   refine jR (jtr (jrt (hv:=?_)))
   exfalso
   (simp_all;done)
  refine jS (jtn ?_)
  refine jcs ?_;refine jcr ?_;refine jq jrm ?_;refine jq jrc ?_;refine jN ?_;refine jcc (fun h43=>?_) fun h43=>?_
  ·refine jcr ?_;refine jq jrm ?_;refine jN ?_
   refine jR (jtr (jrt (hv:=cZ)))
  refine jS (jtn ?_)
  have hBl:(doneB (doW w2 w)).length≤65536:=by
   unfold doneB
   split
   ·rename_i h0
    unfold doneK at h0
    split at h0
    ·omega
    ·split at h0
     ·cases h0
     ·split at h0
      ·cases h0
      ·omega
   ·simp
  generalize doneB (doW w2 w)=B at *
  refine jcr ?_;refine jq jrm ?_
  refine jqe (jecS (read08_ac B (by omega)) ?_)
  rintro _ _ ⟨n3,rfl,rfl⟩
  refine jq jrm ?_
  refine jqe (jecS (rread08_ac B (by omega)) ?_)
  rintro _ _ ⟨n4,rfl,rfl⟩
  refine jq jrm ?_;refine jq jrm ?_;refine jN ?_
  have mB:muS [B] (depthM B).2≤70000:=by
   have:sumL [B]=B.length:=by simp [sumL]
   unfold muS
   split <;> omega
  have nB:=now_le mB
  have f1:(readR aL [B] (depthM B).2).l=enterL 48 [B] (depthM B).2:=(read_enter aL rfl [B] (depthM B).2).1
  have f2:(readR aL [B] (depthM B).2).k=(enterR 48 [B] (depthM B).2).k:=(read_enter aL rfl [B] (depthM B).2).2
  obtain ⟨l1,m1⟩:=read_bd aL (m:=1) ⟨by simp,by simp⟩ mB (by decide)
  have k1:=readR_k aL (l:=[B]) (k:=(depthM B).2) (Nat.le_trans (depthM_bd B).2 (by decide))
  refine jE (weaken 15 (.op 3 (some n4) 0) CEnt.opI) ?_;refine jcr ?_;refine jq jrm ?_
  refine jqm (jmcH 2 ((by have h:=enter_ac (gs:=gs) n3 [B] (depthM B).2 48 (by simp) (by omega);rw [← f1,← f2] at h;exact h)) ?_)
  rintro _ _ ⟨rfl,rfl⟩
  refine ⟨_,_,rfl,cZ,?_⟩
  refine jN ?_;refine jcr ?_;refine jq jrm ?_;refine jq (rd_build (n:=4) rfl zr76 pl76 rfl rfl) ?_
  refine jqm (jmcH 3 (rdo78_ac n4 [B] (depthM B).2 aL (by simp) (by omega) (.inl rfl)) ?_ (ho:=rfl) (he:=(.cons (se rfl CEnt.opI) (.cons (se rfl (CEnt.agg rfl (fun j hj=>by rcases j with _|_|_|_|j <;> exact cZ))) .nil))))
  rintro _ _ ⟨rfl,rfl⟩
  refine ⟨_,_,rfl,cZ,?_⟩
  refine jN ?_;refine jcs ?_;refine jcr ?_;refine jq jrm ?_;refine jq jrl ?_;refine jq jra ?_;refine jq jrm ?_;refine jN ?_;refine jB ?_;refine l_loop (α:=Nat×List (List UInt8)×Nat) [4,16,17,18,19,110,111,112,113,114,115,116,117,118,119,120,121,122,123,124,125,126,127,128,129,130,131,132,133,134,135,136,137,138,139,140] (fun p=>[(110,.c (.int .i64 (p.1:Nat)))]) (fun p=>[wrO nw (doW w2 w),rwO nm (rdoS w2 r),rdO n3 p.2.1 p.2.2,rqE n4 p.2.1 p.2.2]) (fun p=>p.1≤ss.length+1∧(0<p.2.1.length∧p.2.1.length≤2+18 * p.1)∧muS p.2.1 p.2.2≤70000∧p.2.2≤28) (fun p=>ss.length+1-p.1) ((0,(readR aL [B] (depthM B).2).l,(readR aL [B] (depthM B).2).k)) ?_ (fun _=>rfl) ?_ ?_ ?_
  ·exact ⟨Nat.zero_le _,l1,m1,k1⟩
  ·exact .cons cZ .nil
  ·exact HEnt.refl _
  ·rintro ⟨q,l,k⟩ ⟨(hq:q≤ss.length+1),(hl:0<l.length∧l.length≤2+18 * q),(hm:muS l k≤70000),(hk28:k≤28)⟩
   show ACode _ _ _ ⟨[(110,.c (.int .i64 (q:Nat)))],_,[wrO nw (doW w2 w),rwO nm (rdoS w2 r),rdO n3 l k,rqE n4 l k]⟩ _
   have hsum:=mu_sum hm
   have hnow:=now_le hm
   have g1:=getS_len l k hl.1
   have g2:=getS_mu l k hl.1
   have g3:=getS_k (l:=l) hk28
   have g4:=now_le (Nat.le_trans g2 hm)
   obtain ⟨b1,b2⟩:=read_bd aI (m:=l.length+17) g1 (Nat.le_trans g2 hm) (by decide)
   have b3:=readR_k aI (l:=(getS l k).1.1) g3
   refine jcr ?_;refine jq jrc ?_;refine jN ?_;refine jcs ?_;refine jcc (fun h49=>?_) fun h49=>?_
   rotate_left
   ·refine jX (jte (jte (jbx (jtn ?_))))
    obtain ⟨f3,f4⟩:=read_leave aE rfl l k
    have hll:0<(readR aE l k).l.length∧(readR aE l k).l.length≤1000:=by
     rw [f3]
     obtain ⟨_,_,v3,v4⟩:=leave_mu (l:=l) (k:=k) hl.1
     by_cases h0:leaveK l k=0
     ·have:=v3 h0;omega
     ·rw [v4 h0];omega
    have hlk:=readR_k aE (l:=l) hk28
    have hek:=endK_bd (l:=(readR aE l k).l) hlk
    refine jcr ?_;refine jq jrm ?_
    refine jqm (jmcH 2 ((by have h:=leave_ac (gs:=gs) n3 l k (by omega);rw [← f3,← f4] at h;exact h)) ?_)
    rintro _ _ ⟨rfl,rfl⟩
    refine ⟨_,_,rfl,cZ,?_⟩
    refine jN ?_;refine jcr ?_;refine jq jrm ?_;refine jq (rd_build (n:=4) rfl zr76 pl76 rfl rfl) ?_
    refine jqm (jmcH 3 (rdo78_ac n4 l k aE (by omega) (by omega) (.inr (.inl rfl))) ?_ (ho:=rfl) (he:=(.cons (se rfl CEnt.opI) (.cons (se rfl (CEnt.agg rfl (fun j hj=>by rcases j with _|_|_|_|j <;> exact cZ))) .nil))))
    rintro _ _ ⟨rfl,rfl⟩
    refine ⟨_,_,rfl,cZ,?_⟩
    refine jN ?_;refine jcr ?_;refine jq jrm ?_
    refine jqm (jmcH 2 (end08_ac n3 (readR aE l k).l (readR aE l k).k (by omega)) ?_)
    rintro _ _ ⟨rfl,rfl⟩
    refine ⟨_,_,rfl,cZ,?_⟩
    refine jqe (jecP (num_ac (endK (readR aE l k).l (readR aE l k).k) hek) ?_)
    refine jq jrm ?_
    refine jqm (jmcH 3 (rend08_ac n4 (readR aE l k).l (readR aE l k).k (by omega)) ?_)
    rintro _ _ ⟨rfl,rfl⟩
    refine ⟨_,_,rfl,cZ,?_⟩
    refine jq jrc ?_;refine jq jrm ?_;refine jN ?_
    refine jR (jrt (hv:=?_))
    refine CEnt.bool ?_
    (simp;done)
   refine jS (jtn ?_)
   refine jcs ?_;refine jB ?_;refine jcr ?_;refine jq jrm ?_
   refine jqm (jmcH 2 (nget_ac n3 l k (by omega) (by omega)) ?_)
   rintro _ _ ⟨rfl,rfl⟩
   refine ⟨_,_,rfl,cZ,?_⟩
   refine jq jrm ?_
   refine jqm (jmcH 2 (intR_ac n3 (getS l k).1.1 (getS l k).1.2 (by omega) (by omega)) ?_)
   rintro _ _ ⟨rfl,rfl⟩
   refine ⟨_,_,rfl,cZ,?_⟩
   refine jqe (jeal (n:=3) zr26 rfl fun p13=>?_)
   refine jqm (jmstF 3 (sF (getS l k).2) ?_ ?_)
   ·exact (fun j hj=>by rcases j with _|_|_|j <;> first|exact cZ|omega)
   refine jq jrm ?_;refine jN ?_;refine jcr ?_;refine jq jrm ?_
   refine jqm (jmcH 3 (rnget_ac n4 l k (by omega) (by omega)) ?_)
   rintro _ _ ⟨rfl,rfl⟩
   refine ⟨_,_,rfl,cZ,?_⟩
   refine jqe (jeal (n:=3) zr26 rfl fun p15=>?_)
   refine jqm (jmstF 3 (sF (getS l k).2) ?_ ?_)
   ·exact (fun j hj=>by rcases j with _|_|_|j <;> first|exact cZ|omega)
   refine jN ?_;refine jcr ?_;refine jq jrm ?_;refine jq (rd_build (n:=4) rfl zr76 pl76 rfl rfl) ?_
   refine jqm (jmcH 3 (rdo08_ac n4 (getS l k).1.1 (getS l k).1.2 aI (by omega) (by omega) (fun _ _ _ b _=>rsaid3_ac aI b rfl)) ?_ (ho:=rfl) (he:=(.cons (se rfl CEnt.opI) (.cons (se rfl (CEnt.agg rfl (fun j hj=>by rcases j with _|_|_|_|j <;> exact cZ))) .nil))))
   rintro _ _ ⟨rfl,rfl⟩
   refine ⟨_,_,rfl,cZ,?_⟩
   refine jq (jrf 1 1) ?_;refine jq jrm ?_;refine jN ?_;refine jcs ?_;refine jE (freeze 4 rfl) ?_;refine jE (freeze 5 rfl) ?_;refine jE (thawP 16 (m:=3) rfl rfl (by decide)) ?_;refine jE (thawP 18 (m:=3) rfl rfl (by decide)) ?_;refine jcdC 8 (.rd 0 (.rd 1 (.rd 2 (.rd 3 (.rd 4 (.rd 5 (.rd 6 (.rd 7 .done)))))))) (.rd 8 (.rd 9 (.rd 12 (.rd 13 (.rd 14 (.two 10 (.two 11 (.one 15 (.rd 16 (.rd 17 .done))) 15 (.one 11 (.rd 16 (.rd 17 .done)))) 15 (.one 10 (.one 11 (.rd 16 (.rd 17 .done)))))))))) ?_;refine jyq (jrdrA 3) ?_;refine jyq (jrdrA 3) ?_;refine jyq (rd_neAgg rfl rfl rfl Tryz.underlying26 (by kernel_rfl) (by kernel_rfl) (.int Tryz.underlying3 (by decide) rfl rfl (.str Tryz.underlying9 (by decide) rfl rfl (.str Tryz.underlying9 (by decide) rfl rfl .nil))) rfl) ?_;refine jyq jrm ?_;refine jysp 125 (fun g53=>?_) fun g53=>?_
   ·refine jys ?_;refine jys ?_;refine jys ?_;refine jyq jrpT ?_;refine jyd ?_
    show AZ _ _ _ _ _ _
    refine jzq jrm ?_;refine jzs ?_;refine jzs ?_;refine jzs ?_;refine jzs ?_;refine jztwo ?_ ?_
    ·refine jzs1 ?_;refine jztwo ?_ ?_
     ·refine jzs1 ?_;refine jzs1 ?_;refine jzs ?_;refine jzq jrpT ?_;refine jzd ?_;refine jtn ?_;refine jcT ?_;refine jcr ?_;refine jq jrm ?_;refine jN ?_
      refine jR (jbr (jtr (jtr (jbr (jtr (jrt (hv:=?_)))))))
      exfalso
      (simp_all;done)
     ·refine jzs1 ?_;refine jzs1 ?_;refine jzs ?_;refine jzq jrpT ?_;refine jzd ?_;refine jtn ?_;refine jcT ?_;refine jcr ?_;refine jq jrm ?_;refine jN ?_
      refine jR (jbr (jtr (jtr (jbr (jtr (jrt (hv:=?_)))))))
      exfalso
      (simp_all;done)
    ·refine jzs1 ?_;refine jzs1 ?_;refine jzs1 ?_;refine jzs ?_;refine jzq jrpT ?_;refine jzd ?_;refine jtn ?_;refine jcT ?_;refine jcr ?_;refine jq jrm ?_;refine jN ?_
     refine jR (jbr (jtr (jtr (jbr (jtr (jrt (hv:=?_)))))))
     exfalso
     (simp_all;done)
   refine jyq jrm ?_;refine jyq jrm ?_;refine jyq jrc ?_;refine jyq jrpF ?_;refine jyd ?_
   show AZ _ _ _ _ _ _
   refine jzq jrm ?_;refine jzsp 130 (fun g53_2=>?_) fun g53_2=>?_
   ·refine jzs ?_;refine jzs ?_;refine jzs ?_;refine jzs ?_;refine jztwo ?_ ?_
    ·refine jzs1 ?_;refine jztwo ?_ ?_
     ·refine jzs1 ?_;refine jzs1 ?_;refine jzs ?_;refine jzq jrpT ?_;refine jzd ?_;refine jtn ?_;refine jcT ?_;refine jcr ?_;refine jq jrm ?_;refine jN ?_
      refine jR (jbr (jtr (jtr (jbr (jtr (jrt (hv:=?_)))))))
      exfalso
      (simp_all;done)
     ·refine jzs1 ?_;refine jzs1 ?_;refine jzs ?_;refine jzq jrpT ?_;refine jzd ?_;refine jtn ?_;refine jcT ?_;refine jcr ?_;refine jq jrm ?_;refine jN ?_
      refine jR (jbr (jtr (jtr (jbr (jtr (jrt (hv:=?_)))))))
      exfalso
      (simp_all;done)
    ·refine jzs1 ?_;refine jzs1 ?_;refine jzs1 ?_;refine jzs ?_;refine jzq jrpT ?_;refine jzd ?_;refine jtn ?_;refine jcT ?_;refine jcr ?_;refine jq jrm ?_;refine jN ?_
     refine jR (jbr (jtr (jtr (jbr (jtr (jrt (hv:=?_)))))))
     exfalso
     (simp_all;done)
   refine jzq jrm ?_;refine jzq jrm ?_;refine jzq jrnc ?_;refine jzq (jrfa 1 1 false) ?_;refine jztwo ?_ ?_
   ·refine jzm (jmcH 2 (err08_ac n3 (readR aI (getS l k).1.1 (getS l k).1.2).l (readR aI (getS l k).1.1 (getS l k).1.2).k) ?_)
    rintro _ _ ⟨rfl,rfl⟩
    refine ⟨_,_,rfl,cZ,?_⟩
    refine jztwo ?_ ?_
    ·refine jze (jecP (num_ac (readR aI (getS l k).1.1 (getS l k).1.2).k b3) ?_)
     refine jz1o jrdo ?_;refine jzq jrc ?_;refine jzq jrpF ?_;refine jzd ?_;refine jtn ?_;refine jcc (fun h53=>?_) fun h53=>?_
     ·refine jcr ?_;refine jq jrm ?_;refine jN ?_
      refine jR (jbr (jtr (jtr (jbr (jtr (jrt (hv:=?_)))))))
      exfalso
      (simp_all;done)
     refine jS (jbn (jtn ?_))
     refine jcg ?_;refine jq jra ?_;refine jq jrm ?_;refine jN ?_;refine jtn ?_
     refine jlend ((q+1,(readR aI (getS l k).1.1 (getS l k).1.2).l,(readR aI (getS l k).1.1 (getS l k).1.2).k)) ?_ ?_ (h5:=?_) (h7:=?_)
     ·exact ⟨show q+1≤ss.length+1 by omega,⟨b1.1,show (readR aI (getS l k).1.1 (getS l k).1.2).l.length≤2+18 * (q+1) by have:=b1.2;omega⟩,b2,b3⟩
     ·show ss.length+1-(q+1)<ss.length+1-q;omega
     ·exact .cons (CEnt.int (by omega)) .nil
     ·(show HEnt _ [wrO nw (doW w2 w),rwO nm (rdoS w2 r),rdO n3 (readR aI (getS l k).1.1 (getS l k).1.2).l (readR aI (getS l k).1.1 (getS l k).1.2).k,rqE n4 (readR aI (getS l k).1.1 (getS l k).1.2).l (readR aI (getS l k).1.1 (getS l k).1.2).k];exact HEnt.refl _)
    ·refine jz1o jrdo ?_
     refine jze (jecP (num_ac (readR aI (getS l k).1.1 (getS l k).1.2).k b3) ?_)
     refine jzq jrc ?_;refine jzq jrpF ?_;refine jzd ?_;refine jtn ?_;refine jcc (fun h53=>?_) fun h53=>?_
     ·refine jcr ?_;refine jq jrm ?_;refine jN ?_
      refine jR (jbr (jtr (jtr (jbr (jtr (jrt (hv:=?_)))))))
      exfalso
      (simp_all;done)
     refine jS (jbn (jtn ?_))
     refine jcg ?_;refine jq jra ?_;refine jq jrm ?_;refine jN ?_;refine jtn ?_
     refine jlend ((q+1,(readR aI (getS l k).1.1 (getS l k).1.2).l,(readR aI (getS l k).1.1 (getS l k).1.2).k)) ?_ ?_ (h5:=?_) (h7:=?_)
     ·exact ⟨show q+1≤ss.length+1 by omega,⟨b1.1,show (readR aI (getS l k).1.1 (getS l k).1.2).l.length≤2+18 * (q+1) by have:=b1.2;omega⟩,b2,b3⟩
     ·show ss.length+1-(q+1)<ss.length+1-q;omega
     ·exact .cons (CEnt.int (by omega)) .nil
     ·(show HEnt _ [wrO nw (doW w2 w),rwO nm (rdoS w2 r),rdO n3 (readR aI (getS l k).1.1 (getS l k).1.2).l (readR aI (getS l k).1.1 (getS l k).1.2).k,rqE n4 (readR aI (getS l k).1.1 (getS l k).1.2).l (readR aI (getS l k).1.1 (getS l k).1.2).k];exact HEnt.refl _)
   ·refine jz1o jrdo ?_
    refine jzm (jmcH 2 (err08_ac n3 (readR aI (getS l k).1.1 (getS l k).1.2).l (readR aI (getS l k).1.1 (getS l k).1.2).k) ?_)
    rintro _ _ ⟨rfl,rfl⟩
    refine ⟨_,_,rfl,cZ,?_⟩
    refine jze (jecP (num_ac (readR aI (getS l k).1.1 (getS l k).1.2).k b3) ?_)
    refine jzq jrc ?_;refine jzq jrpF ?_;refine jzd ?_;refine jtn ?_;refine jcc (fun h53=>?_) fun h53=>?_
    ·refine jcr ?_;refine jq jrm ?_;refine jN ?_
     refine jR (jbr (jtr (jtr (jbr (jtr (jrt (hv:=?_)))))))
     exfalso
     (simp_all;done)
    refine jS (jbn (jtn ?_))
    refine jcg ?_;refine jq jra ?_;refine jq jrm ?_;refine jN ?_;refine jtn ?_
    refine jlend ((q+1,(readR aI (getS l k).1.1 (getS l k).1.2).l,(readR aI (getS l k).1.1 (getS l k).1.2).k)) ?_ ?_ (h5:=?_) (h7:=?_)
    ·exact ⟨show q+1≤ss.length+1 by omega,⟨b1.1,show (readR aI (getS l k).1.1 (getS l k).1.2).l.length≤2+18 * (q+1) by have:=b1.2;omega⟩,b2,b3⟩
    ·show ss.length+1-(q+1)<ss.length+1-q;omega
    ·exact .cons (CEnt.int (by omega)) .nil
    ·(show HEnt _ [wrO nw (doW w2 w),rwO nm (rdoS w2 r),rdO n3 (readR aI (getS l k).1.1 (getS l k).1.2).l (readR aI (getS l k).1.1 (getS l k).1.2).k,rqE n4 (readR aI (getS l k).1.1 (getS l k).1.2).l (readR aI (getS l k).1.1 (getS l k).1.2).k];exact HEnt.refl _)
end
end Am
end Go.Proofs.YteolfpolmioalaaGreatDoor
