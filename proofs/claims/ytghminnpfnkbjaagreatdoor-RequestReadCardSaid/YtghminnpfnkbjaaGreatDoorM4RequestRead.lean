/- What the law leans on, part 4: AmL, AmD, AmE, AmF, AmG, AmH, AmI, AmJ, AmM, AmR -/
import Derived.Test.YtghminnpfnkbjaaGreatDoorM3RequestRead
import Derived.Laws.RangeString
import Derived.Shelf.Abstract

set_option maxRecDepth 100000
namespace Go.Proofs.YtghminnpfnkbjaaGreatDoor
set_option linter.unusedVariables false
namespace Am
open Go.RowKit
def jW (L:List (Option Nat×bi)):Option Nat×bi:=mJ 0 (fun _:Unit=>0) (fun _=>L)
theorem dr.bag_push {al:List Addr} {St:Nat→Prop} {w:World} {base:Nat} {F0:Nat→Prop} {H L:List (Option Nat×bi)} {i b:Nat} {x:Option Nat×bi} (hb:H[b]?=some (jW L)) (hi:H[i]?=some x) (hib:i≠b) (h:dr al St w base F0 H) :
  dr al St w base F0 ((H.set b (jW (x::L))).set i (Option.none,.dead)):=by
 obtain ⟨fp,hp⟩:=h
 have hbl:=(YJ.1 hb).1
 have hil:=(YJ.1 hi).1
 obtain ⟨u,_,fe,he⟩:=hp.rep b _ _ hb
 refine ⟨fun q c=>if q=i then False else if q=b then fp i c∨fp b c else fp q c,fun q g r hq=>?_,fun p q c h1 h2=>?_,fun q c hq=>?_,fun q hq c hc=>?_⟩
 ·by_cases e1:q=i
  ·subst e1
   simp [hil] at hq
   obtain ⟨rfl,rfl⟩:=hq
   simp only [if_true]
   exact fun c hc=>hc
  ·rw [YZ (Ne.symm e1)] at hq
   by_cases e2:q=b
   ·subst e2
    simp [hbl,jW,mJ] at hq
    obtain ⟨rfl,rfl⟩:=hq
    simp only [e1,if_true,if_false]
    refine ⟨(),rfl,fun k c=>match k with|0=>fp i c|k+1=>fe k c,fun k g r hk=>?_,fun j k c hj hk=>?_,fun k hk c hc=>?_,fun c=>⟨fun hc=>?_,fun ⟨k,hk⟩=>?_⟩⟩
    ·cases k with
     | zero =>
      simp only [ZK,Zi] at hk
      exact hp.rep i g r (by rw [hi,hk])
     | succ k=>exact he.rep k g r (by simpa using hk)
    ·cases j with
     | zero =>
      cases k with
      | zero=>rfl
      | succ k=>exact absurd (hp.dis _ _ c hj ((he.all c).2 ⟨k,hk⟩)) (fun e=>hib e)
     | succ j =>
      cases k with
      | zero=>exact absurd (hp.dis _ _ c hk ((he.all c).2 ⟨j,hj⟩)) (fun e=>hib e)
      | succ k=>rw [he.dis j k c hj hk]
    ·cases k with
     | zero=>simp at hk
     | succ k=>exact he.out k (by simpa using hk) c hc
    ·rcases hc with hc|hc
     ·exact ⟨0,hc⟩
     ·obtain ⟨k,hk⟩:=(he.all c).1 hc
      exact ⟨k+1,hk⟩
    ·cases k with
     | zero=>exact .inl hk
     | succ k=>exact .inr ((he.all c).2 ⟨k,hk⟩)
   ·rw [YZ (Ne.symm e2)] at hq
    simp only [e1,e2,if_false]
    exact hp.rep q g r hq
 ·by_cases e1:p=i
  ·simp only [e1,if_true] at h1
  ·by_cases e2:q=i
   ·simp only [e2,if_true] at h2
   ·simp only [e1,e2,if_false] at h1 h2
    by_cases e3:p=b <;> by_cases e4:q=b <;> simp only [e3,e4,if_true,if_false] at h1 h2
    ·rw [e3,e4]
    ·rcases h1 with h1|h1
     ·exact absurd (hp.dis _ _ c h1 h2).symm e2
     ·exact absurd (hp.dis _ _ c h1 h2).symm e4
    ·rcases h2 with h2|h2
     ·exact absurd (hp.dis _ _ c h1 h2) e1
     ·exact absurd (hp.dis _ _ c h1 h2) e3
    ·exact hp.dis _ _ c h1 h2
 ·by_cases e1:q=i
  ·simp only [e1,if_true] at hq
  ·by_cases e2:q=b
   ·rw [YE e1,YF e2] at hq
    rcases hq with hq|hq
    ·exact hp.own _ c hq
    ·exact hp.own _ c hq
   ·rw [YE e1,YE e2] at hq
    exact hp.own _ c hq
 ·simp only [ZW] at hq
  rw [jK,jK] at hc
  exact hp.out q hq c hc
theorem dr.bag_pop {al:List Addr} {St:Nat→Prop} {w:World} {base:Nat} {F0:Nat→Prop} {H L:List (Option Nat×bi)} {b:Nat} {x:Option Nat×bi} (hb:H[b]?=some (jW (x::L))) (h:dr al St w base F0 H) :
  dr al St w base F0 (H.set b (jW L)++[x]):=by
 obtain ⟨fp,hp⟩:=h
 have hbl:=(YJ.1 hb).1
 obtain ⟨u,_,fe,he⟩:=hp.rep b _ _ hb
 have UP:∀ k c,fe k c→fp b c:=fun k c hk=>(he.all c).2 ⟨k,hk⟩
 refine ⟨fun q c=>if q=H.length then fe 0 c else if q=b then ∃ k,fe (k+1) c else fp q c,fun q g r hq=>?_,fun p q c h1 h2=>?_,fun q c hq=>?_,fun q hq c hc=>?_⟩
 ·by_cases e1:q=H.length
  ·subst e1
   rw [YX (by simp)] at hq
   simp at hq
   simp only [if_true]
   exact he.rep 0 g r (by rw [hq];rfl)
  ·have hql:q<H.length:=by
    have:=(YJ.1 hq).1
    simp at this
    omega
   rw [YL (by simpa using hql)] at hq
   simp only [e1,if_false]
   by_cases e2:q=b
   ·subst e2
    simp [hbl,jW,mJ] at hq
    obtain ⟨rfl,rfl⟩:=hq
    simp only [if_true]
    refine ⟨(),rfl,fun k c=>fe (k+1) c,fun k g r hk=>he.rep (k+1) g r (by simpa using hk),fun j k c hj hk=>by have:=he.dis _ _ c hj hk;omega,fun k hk c hc=>he.out (k+1) (by simp;omega) c hc,fun c=>Iff.rfl⟩
   ·rw [YZ (Ne.symm e2)] at hq
    simp only [e2,if_false]
    exact hp.rep q g r hq
 ·by_cases e1:p=H.length <;> by_cases e2:q=H.length
  ·rw [e1,e2]
  ·rw [YF e1] at h1
   rw [YE e2] at h2
   by_cases e3:q=b
   ·rw [YF e3] at h2
    obtain ⟨k,hk⟩:=h2
    have:=he.dis _ _ c h1 hk
    omega
   ·rw [YE e3] at h2
    exact absurd (hp.dis _ _ c (UP _ _ h1) h2).symm e3
  ·rw [YE e1] at h1
   rw [YF e2] at h2
   by_cases e3:p=b
   ·rw [YF e3] at h1
    obtain ⟨k,hk⟩:=h1
    have:=he.dis _ _ c h2 hk
    omega
   ·rw [YE e3] at h1
    exact absurd (hp.dis _ _ c (UP _ _ h2) h1).symm e3
  ·rw [YE e1] at h1
   rw [YE e2] at h2
   by_cases e3:p=b <;> by_cases e4:q=b <;> simp only [e3,e4,if_true,if_false] at h1 h2
   ·rw [e3,e4]
   ·obtain ⟨k,hk⟩:=h1
    exact absurd (hp.dis _ _ c (UP _ _ hk) h2).symm e4
   ·obtain ⟨k,hk⟩:=h2
    exact absurd (hp.dis _ _ c (UP _ _ hk) h1).symm e3
   ·exact hp.dis _ _ c h1 h2
 ·by_cases e1:q=H.length
  ·rw [YF e1] at hq
   exact hp.own b c (UP _ _ hq)
  ·rw [YE e1] at hq
   by_cases e2:q=b
   ·rw [YF e2] at hq
    obtain ⟨k,hk⟩:=hq
    exact hp.own b c (UP _ _ hk)
   ·rw [YE e2] at hq
    exact hp.own q c hq
 ·simp at hq
  rw [jK,jK] at hc
  exact hp.out q O c hc
theorem dr.bag_new {al:List Addr} {St:Nat→Prop} {w:World} {base:Nat} {F0:Nat→Prop} {H:List (Option Nat×bi)} (h:dr al St w base F0 H):dr al St w base F0 (H++[jW []]):=by
 obtain ⟨fp,hp⟩:=h
 refine ⟨fp,fun q g r hq=>?_,hp.dis,hp.own,fun q hq c hc=>hp.out q (by simp at hq;omega) c hc⟩
 by_cases e1:q<H.length
 ·rw [YL e1] at hq
  exact hp.rep q g r hq
 ·rw [YX O] at hq
  have hno:∀ c,¬ fp q c:=fun c hc=>hp.out q O c hc
  have e2:q-H.length=0:=by
   have:=(YJ.1 hq).1
   simp at this
   omega
  rw [e2] at hq
  simp [jW,mJ] at hq
  obtain ⟨rfl,rfl⟩:=hq
  exact ⟨(),rfl,fun _ _=>False,fun k g r hk=>by simp at hk,fun _ _ _ h=>h.elim,fun _ _ _ h=>h,fun c=>⟨fun hc=>(hno c hc).elim,fun ⟨_,hk⟩=>hk.elim⟩⟩
section
variable {G:Gh} {env:List (Nat×CV)} {b0:Nat→CV} {H L:List (Option Nat×bi)} {x:Option Nat×bi}
theorem bag_push (b i:Nat) (hb:H[b]?=some (jW L)) (hi:H[i]?=some x) (hib:Nat.beq i b=false):dh G ⟨env,b0,H⟩ ⟨env,b0,(H.set b (jW (x::L))).set i (none,.dead)⟩:=dh.hrel fun h=>h.bag_push hb hi (bKx hib)
theorem bag_pop (b:Nat) (hb:H[b]?=some (jW (x::L))):dh G ⟨env,b0,H⟩ ⟨env,b0,H.set b (jW L)++[x]⟩:=dh.hrel fun h=>h.bag_pop hb
theorem bag_new:dh G ⟨env,b0,H⟩ ⟨env,b0,H++[jW []]⟩:=dh.hrel fun h=>h.bag_new
end
theorem dr.osRs {al:List Addr} {St:Nat→Prop} {w:World} {base:Nat} {F0:Nat→Prop} {H:List (Option Nat×bi)} {i q off n m N:Nat} {g:Option Nat} {F:Nat→CV} {f:Nat→Nat→CV} {v:Value} (h:dr al St w base F0 H) (hH:H[i]?=some (g,.frz N F)) (hN:off+n * m≤N) (hf:∀ a b,a<n→b<m→aa (F (off+(a * m+b))) (f a b)) (he:ba al St w (.os q g off n m) v):ba al St w (.rs m n f) v:=by
 cases g with
 | none =>
  obtain ⟨h1,h2⟩:=he
  subst h1
  exact ⟨_,0,h2,YG _,by decide,fun _=>rfl,fun _ h=>by cases h⟩
 | some g =>
  obtain ⟨cap,h1,h2,h3,_⟩:=he
  obtain ⟨fp,hp⟩:=h
  obtain ⟨_,hg,cur,t,z,hh,hle,hc⟩:=hp.rep i (some g) _ hH
  refine ⟨_,cap,h1,h2,h3,(fun h=>by cases h),fun ad ha _=>?_⟩
  cases ha
  refine ⟨rfl,hg,fun p q hp' hq=>?_⟩
  have hb:p * m+q<n * m:=by
   have:p * m+m≤n * m:=by rw [← b5x];exact ZG _ hp'
   omega
  have hlt:off+(p * m+q)<cur.size:=by omega
  refine ⟨cur.getD (off+(p * m+q)) undef,?_,hf p q hp' hq _ _ _ _ (hc _ O)⟩
  show w.cell? ⟨g,off+(p * m+q),Option.none⟩=_
  rw [cell_of_row w g _ cur t z hh];simp [hlt]
theorem dr.thawC {al:List Addr} {St:Nat→Prop} {w:World} {base:Nat} {F0:Nat→Prop} {H:List (Option Nat×bi)} {b j0 i q off n m M N:Nat} {g gb:Option Nat} {B B' F:Nat→CV} {f:Nat→Nat→CV} (hb:H[b]?=some (gb,.blk M B)) (hH:H[i]?=some (g,.frz N F)) (hB:aa (B j0) (.os q g off n m)) (hB0:aa (.rs m n f) (B' j0)) (hB':∀ j,j<M→j≠j0→aa (B j) (B' j)) (hN:off+n * m≤N) (hf:∀ a b,a<n→b<m→aa (F (off+(a * m+b))) (f a b)) (h:dr al St w base F0 H) :
  dr al St w base F0 (H.set b (gb,.blk M B')):=by
 have hk:=fun {v}=>h.osRs (v:=v) hH hN hf (q:=q)
 obtain ⟨fp,hp⟩:=h
 have hlt:=(YJ.1 hb).1
 refine ⟨fp,fun j q r hj=>?_,hp.dis,hp.own,fun j hj=>hp.out j (by simpa using hj)⟩
 by_cases e:j=b
 ·subst e
  simp [hlt] at hj
  obtain ⟨rfl,rfl⟩:=hj
  have:=hp.rep j gb _ hb
  cases gb with
  | none=>exact this
  | some gb =>
   obtain ⟨h0,cur,t,h1,h2,h3⟩:=this
   refine ⟨h0,cur,t,h1,h2,fun a ha=>?_⟩
   by_cases ea:a=j0
   ·subst ea
    exact hB0 _ _ _ _ (hk (hB _ _ _ _ (h3 a ha)))
   ·exact hB' a ha ea _ _ _ _ (h3 a ha)
 ·rw [YZ (Ne.symm e)] at hj
  exact hp.rep j q r hj
section
variable {G:Gh} {env:List (Nat×CV)} {b0:Nat→CV} {H:List (Option Nat×bi)}
theorem thawC (b j0 i:Nat) (B':Nat→CV) (f:Nat→Nat→CV) {q off n m M N:Nat} {g gb:Option Nat} {B F:Nat→CV} (hb:H[b]?=some (gb,.blk M B)) (hH:H[i]?=some (g,.frz N F)) (hB:aa (B j0) (.os q g off n m)) (hB0:aa (.rs m n f) (B' j0)) (hB':∀ j,j<M→j≠j0→aa (B j) (B' j)) (hN:off+n * m≤N) (hf:∀ a b,a<n→b<m→aa (F (off+(a * m+b))) (f a b)) :
  dh G ⟨env,b0,H⟩ ⟨env,b0,H.set b (gb,.blk M B')⟩:=dh.hrel fun h=>h.thawC hb hH hB hB0 hB' hN hf
theorem VZ (d i:Nat) (f:Nat→Nat→CV) (c0:CV) {q off n m N:Nat} {g:Option Nat} {A F:Nat→CV} (hl:look env b0 d=.agg 2 A) (hH:H[i]?=some (g,.frz N F)) (h0:aa (A 0) c0) (h1:aa (A 1) (.os q g off n m)) (hN:off+n * m≤N) (hf:∀ a b,a<n→b<m→aa (F (off+(a * m+b))) (f a b)) :
  dh G ⟨env,b0,H⟩ ⟨(d,.agg 2 (fl [c0,.rs m n f]))::env,b0,H⟩:=fun St a w hr=>by
 refine ⟨St,fun _ h=>h,hr.df,hr.sz,fun e=>?_,hr.un,hr.s1,hr.s2,hr.s3,hr.hp,hr.sn,hr.sg⟩
 by_cases hde:d=e
 ·subst hde
  rw [fu]
  have he:=hr.env d
  rw [hl] at he
  obtain ⟨cs,k1,k2,k3⟩:=he
  refine ⟨cs,k1,k2,fun j hj=>?_⟩
  rcases j with _|_|j
  ·exact h0 _ _ _ _ (k3 0 O)
  ·exact hr.hp.osRs hH hN hf (h1 _ _ _ _ (k3 1 O))
  ·omega
 ·rw [dy _ _ _ hde];exact hr.env e
end
theorem Bz {P:Program} {G:Gh} {fn:Func} {Q:CV→List (Option Nat×bi)→Prop} {e:Exit} {env:List (Nat×CV)} {b0:Nat→CV} {H H':List (Option Nat×bi)} (h:∀ {al St w base F0},dr al St w base F0 H→dr al St w base F0 H') (hb:mz P G fn Q e ⟨env,b0,H'⟩):mz P G fn Q e ⟨env,b0,H⟩:=by
 have cv:∀ {St a w},az G St ⟨env,b0,H⟩ a w→az G St ⟨env,b0,H'⟩ a w:=fun hr=>⟨hr.df,hr.sz,hr.env,hr.un,hr.s1,hr.s2,hr.s3,h hr.hp,hr.sn,hr.sg⟩
 cases e with
 | normal =>
  obtain ⟨r,K,k1,k2,k3⟩:=hb
  exact ⟨r,K,fun St a w hr=>k1 St a w (cv hr),k2,fun St a w hr=>k3 St a w (cv hr)⟩
 | ret =>
  obtain ⟨r,K,k1,k2,k3⟩:=hb
  exact ⟨r,K,fun St a w hr=>k1 St a w (cv hr),k2,fun St a w hr=>k3 St a w (cv hr)⟩
 | _=>exact hb
section
variable {P:Program} {G:Gh} {o:Oper} {env:List (Nat×CV)} {b0:Nat→CV} {H:List (Option Nat×bi)} {K:AS→Prop}
theorem MY {f:FuncId} {v:Operand} {n:Nat} {fv:Nat→CV} {xs:Array Operand} {ats:Array TypeId} {args:List CV} {Q:CV→List (Option Nat×bi)→Prop} {i:Nat} {x0:Option Nat×bi} (ho:o.op=.call ⟨.value v,xs,ats⟩) (hv:(⟨env,b0,H⟩:AS).eval v=.fn f n fv) (hc:bA P f=true) (hi:H[i]?=some x0) (hA:AC G.gs P f [x0] args Q)
  (he:oQ (xs.toList.map (⟨env,b0,H⟩:AS).eval++(List.range n).map fv) args) (hd:cq G o=true)
  (hK:∀ r H',Q r H'→∃ x,H'=[x]∧K ((⟨env,b0,H⟩:AS).with o.dst r (H.set i x))):ug P G o ⟨env,b0,H⟩ K:=fun St a w hr Q'=>by
 obtain ⟨cs,hcs,hn,hf⟩:=ji hr hv
 unfold Oper.wp
 rw [xp ho hc a hcs]
 have hl:=DI he
 simp at hl
 obtain ⟨fp,hp⟩:=hr.hp
 have hlt:i<H.length:=(YJ.1 hi).1
 obtain ⟨g0,r0⟩:=x0
 have hent:uR G.gs G.al St (fp i) [(g0,r0)] w:=by
  refine ⟨hr.s3,hr.sn,hr.sg,⟨fun j b=>j=0∧fp i b,fun j g r hj=>?_,fun j l b hj hl=>by omega,fun j b hj=>⟨(hp.own i b hj.2).1,(hp.own i b hj.2).2.1,.inr hj.2⟩,fun j hj b hb=>by simp at hj;omega⟩,fun b hb=>(hp.own i b hb).2.1⟩
  match j,hj with
  | 0,hj =>
   simp at hj
   obtain ⟨rfl,rfl⟩:=hj
   have e:(fun b=>(0:Nat)=0∧fp i b)=fp i:=funext fun b=>by simp
   show r0.rep G.al St w (fun b=>(0:Nat)=0∧fp i b) g0
   rw [e]
   exact hp.rep i g0 r0 hi
  | j+1,hj=>simp at hj
 refine (hA G.al w St _ _ hent (by simp [hn,hl]) (fun i=>?_)).mono ?_
 ·by_cases hi:i<args.length
  ·refine DJ he i _ _ _ _ ?_
   rw [zY]
   by_cases h1:i<xs.size
   ·rw [YF (by simpa using h1),dJ]
    simp [List.getD,h1,ZI]
    exact hr.eval _
   ·rw [YE (by simpa using h1),dJ]
    have h2:i-xs.size<n:=by omega
    have:=hf _ h2
    simp [List.getD,h2,aox (show (xs.map a.eval).size≤i by simp;omega)] at this ⊢
    exact this
  ·rw [qj args i O];trivial
 rintro e w' ⟨v,r,H',St',rfl,hq,hv,hu,h3,h4,h5,h6⟩
 obtain ⟨x,rfl,hk⟩:=hK r H' hq
 refine ⟨fun b hb=>hu.block b (hr.s3 b hb) fun hf=>(hp.own i b hf).2.1 hb,St',h3,_,hk,?_⟩
 have h7:=(hr.afterH hp hlt hu h3 h4 h5 h6).put (dst:=o.dst) (v:=r) (x:=v) (eC hd) hv
 cases ho:o.dst with
 | none=>rw [ho] at h7;exact h7
 | some d=>rw [ho] at h7;exact h7
end
def rz (l:ByteArray) (pos:Nat):OP where
 p al St w g F:=(∀ b,F b↔b=g)∧w.heap[g]?=some (.stringIter l pos)
 st:=fun he hs hF ⟨h1,h2⟩=>⟨h1,(hF _ ((h1 _).2 rfl)).trans h2⟩
section
variable {P:Program} {G:Gh} {ops:Array Oper} {o:Oper} {s:AS} {r:List Oper} {K:AS→Prop} {t u:TypeId} {x y:Operand} {env:List (Nat×CV)} {b0:Nat→CV} {H:List (Option Nat×bi)}
theorem B9 {w w':World} (h:Below w.heap.size w w'):jr (fun _=>False) w w':=(jr.refl _ w).then h
theorem az.freshObj {St:Nat→Prop} {a:Act} {w w':World} {g:Nat} {p:OP} (h:az G St s a w) (hb:Below w.heap.size w w') (h1:w.heap.size≤g) (h2:g<w'.heap.size) (hp:p.p G.al St w' g (fun b=>b=g)):az G St ⟨s.env,s.b,s.H++[(some g,.obj p)]⟩ a w':=by
 refine h.after (B9 hb) (fun _ h=>h) (fun b h=>.inl h) (fun b hs=>Zf (h.s3 b hs) hb.size) ⟨fun i b=>i=0∧b=g,fun i q r hi=>?_,fun i j b hi hj=>by omega,fun i b hi=>?_,fun i hi b hb=>by simp at hi;omega⟩
 ·match i,hi with
  | 0,hi =>
   simp at hi
   obtain ⟨rfl,rfl⟩:=hi
   have e:(fun b=>(0:Nat)=0∧b=g)=fun b=>b=g:=funext fun b=>by simp
   show p.p G.al St w' g (fun b=>(0:Nat)=0∧b=g)
   rw [e]
   exact hp
  | i+1,hi=>simp at hi
 ·obtain ⟨_,rfl⟩:=hi
  exact ⟨h2,fun hs=>by have:=h.s3 _ hs;omega,.inl h1⟩
theorem az.turnObj {St:Nat→Prop} {a:Act} {w w':World} {i g:Nat} {p p':OP} (h:az G St s a w) (hH:s.H[i]?=some (some g,.obj p)) (hF:∀ F,p.p G.al St w g F→(∀ b,F b↔b=g)) (hno:∀ cur t z,w.heap[g]?≠some (.cells cur t z))
  (ho:w'.os=w.os) (ht:w'.tape=w.tape) (hout:w'.output=w.output) (hsz:w'.heap.size=w.heap.size) (hold:∀ b,b≠g→w'.heap[b]?=w.heap[b]?) (hp':p'.p G.al St w' g (fun b=>b=g)):az G St ⟨s.env,s.b,s.H.set i (some g,.obj p')⟩ a w':=by
 obtain ⟨fp,hp⟩:=h.hp
 have hlt:i<s.H.length:=(YJ.1 hH).1
 have hrep:p.p G.al St w g (fp i):=hp.rep i (some g) _ hH
 have hfi:=hF _ hrep
 have hg:fp i g:=(hfi g).2 rfl
 obtain ⟨hg1,hg2,hg3⟩:=hp.own i g hg
 have he:qS St w w':=⟨fun b cu ct cz hb hcu=>(hold b (fun e=>hg2 (e ▸ hb))).trans hcu,fun b cu t z hb=>⟨cu,z,(hold b (fun e=>hno cu t z (e ▸ hb))).trans hb,rfl⟩⟩
 refine ⟨h.df.keep (fun _ h=>h) (fun b hb=>hold b (fun e=>hg2 (e ▸ hb))),h.sz,fun d=>ba.evo he (fun _ x=>x) _ _ (h.env d),⟨ho.trans h.un.os,ht.trans h.un.tape,hout.trans h.un.output,by rw [hsz];exact h.un.size,fun k hk hFk=>?_,fun b cu t z hb=>?_⟩,h.s1,h.s2,fun b hb=>by rw [hsz];exact h.s3 b hb,?_,?_,h.sg⟩
 ·refine (hold k (fun e=>?_)).trans (h.un.block k hk hFk)
  subst e
  rcases hg3 with h1|h1
  ·omega
  ·exact hFk h1
 ·obtain ⟨cur',z',h1,h2⟩:=h.un.sh b cu t z hb
  obtain ⟨cur2,z2,h3,h4⟩:=he.sh b cur' t z' h1
  exact ⟨cur2,z2,h3,h4.trans h2⟩
 ·refine ⟨fp,fun j q r hj=>?_,hp.dis,fun j b hb=>by rw [hsz];exact hp.own j b hb,fun j hj=>hp.out j (by simpa using hj)⟩
  by_cases e:j=i
  ·subst e
   simp [hlt] at hj
   obtain ⟨rfl,rfl⟩:=hj
   have e2:fp j=fun b=>b=g:=funext fun b=>propext (hfi b)
   show p'.p G.al St w' g (fp j)
   rw [e2]
   exact hp'
  ·rw [YZ (Ne.symm e)] at hj
   exact bi.rep_evo he (fun _ x=>x) (fun b hFb=>hold b (fun e2=>e (hp.dis j i b hFb (e2 ▸ hg)))) (hp.rep j q r hj)
 ·exact gc.keep h.sn (fun q hq=>hold q (fun e=>hg2 (e ▸ h.sg.1 q hq))) (fun q hq=>hold _ (fun e=>hg2 (e ▸ h.sg.2 q hq)))

theorem R9 {l:ByteArray} {d:Nat} (ho:o.op=.range t x) (hx:(⟨env,b0,H⟩:AS).eval x=.c (.string l)) (h1:P.underlying t=some .string) (hd:o.dst=some d) (hN:Nat.blt d G.N=true)
  (hK:∀ g,K ⟨(d,.op H.length (some g) 0)::env,b0,H++[(some g,.obj (rz l 0))]⟩):kQ P G o ⟨env,b0,H⟩ K:=fun St a w hr Q=>by
 have hrun:(execOp a.eval o).run P w=.ok (.value (.pointer (some ⟨w.heap.size,0,none⟩))) (w.iter l 0):=by
  simp only [execOp,ho,kM hr hx]
  exact lY (run_range_string w t l h1)
 unfold Oper.wp
 rw [hrun]
 have hb:Below w.heap.size w (w.iter l 0):=eu w _
 refine ⟨hb,St,fun _ h=>h,_,hK w.heap.size,?_⟩
 have h2:=hr.freshObj (g:=w.heap.size) (p:=rz l 0) hb (YG _) (by show _<(w.heap.push _).size;simp) ⟨fun b=>Iff.rfl,World.iter_heap w l 0⟩
 have:=h2.put (dst:=o.dst) (v:=.op H.length (some w.heap.size) 0) (x:=.pointer (some ⟨w.heap.size,0,none⟩)) (by intro d' hd';rw [hd] at hd';cases hd';exact YU hN) ⟨_,rfl,rfl⟩
 rw [hd] at this ⊢
 exact this
theorem AK {l:ByteArray} {pos g:Nat} {w:World} (ty:TypeId) (hg:w.heap[g]?=some (.stringIter l pos)) (h:pos<l.size) :
  (Instr.next (.pointer (some ⟨g,0,none⟩)) true ty).run P w=.ok (.tuple #[.bool true,.int .i64 pos,.int .i32 (Utf8.decode l pos).1]) { w with heap:=w.heap.setIfInBounds g (.stringIter l (pos+(Utf8.decode l pos).2)) }:=by
 simp [Instr.next,getObj,setObj,Sem.run,hg,h,goInt]
theorem xY {l:ByteArray} {pos g:Nat} {w:World} (ty:TypeId) (hg:w.heap[g]?=some (.stringIter l pos)) (h:¬ pos<l.size) :
  (Instr.next (.pointer (some ⟨g,0,none⟩)) true ty).run P w=.ok (.tuple #[.bool false]) w:=by
 simp [Instr.next,getObj,Sem.run,hg,h]
theorem UA {l:ByteArray} {pos i g d:Nat} (ho:o.op=.next x true) (hx:(⟨env,b0,H⟩:AS).eval x=.op i (some g) 0) (hH:H[i]?=some (some g,.obj (rz l pos))) (hd:o.dst=some d) (hN:Nat.blt d G.N=true)
  (h1:pos<l.size→K ⟨(d,.tup 3 (fl [.c (.bool true),.c (.int .i64 (pos:Nat)),.c (.int .i32 ((Utf8.decode l pos).1:Nat))]))::env,b0,H.set i (some g,.obj (rz l (pos+(Utf8.decode l pos).2)))⟩)
  (h2:¬ pos<l.size→K ⟨(d,.tup 1 (fl [.c (.bool false)]))::env,b0,H⟩):ug P G o ⟨env,b0,H⟩ K:=fun St a w hr Q=>by
 obtain ⟨b,hb,e0⟩:=ji hr hx
 cases hb
 obtain ⟨fp,hp⟩:=id hr.hp
 obtain ⟨hF,hg⟩:=hp.rep i _ _ hH
 have dlt:∀ d',o.dst=some d'→d'<G.N:=by intro d' hd';rw [hd] at hd';cases hd';exact YU hN
 by_cases h:pos<l.size
 ·have hrun:(execOp a.eval o).run P w=.ok (.value (.tuple #[.bool true,.int .i64 pos,.int .i32 (Utf8.decode l pos).1])) { w with heap:=w.heap.setIfInBounds g (.stringIter l (pos+(Utf8.decode l pos).2)) }:=by
   simp only [execOp,ho,e0]
   exact lY (AK _ hg h)
  unfold Oper.wp
  rw [hrun]
  refine ⟨fun b hb=>?_,St,fun _ h=>h,_,h1 h,?_⟩
  ·have hne:b≠g:=fun e=>(hp.own i g ((hF g).2 rfl)).2.1 (e ▸ hb)
   simp [Zn (Ne.symm hne)]
  have hlt:g<w.heap.size:=(Y4.1 hg).1
  have h3:=hr.turnObj (p:=rz l pos) (p':=rz l (pos+(Utf8.decode l pos).2)) (w':={ w with heap:=w.heap.setIfInBounds g (.stringIter l (pos+(Utf8.decode l pos).2)) }) hH (fun F h=>h.1) (fun cur t z he=>by rw [hg] at he;cases he) rfl rfl rfl (by simp) (fun b hb=>by simp [Zn (Ne.symm hb)]) ⟨fun b=>Iff.rfl,by simp [hlt]⟩
  have:=h3.put (dst:=o.dst) (v:=.tup 3 (fl [.c (.bool true),.c (.int .i64 (pos:Nat)),.c (.int .i32 ((Utf8.decode l pos).1:Nat))])) (x:=.tuple #[.bool true,.int .i64 pos,.int .i32 (Utf8.decode l pos).1]) dlt ⟨_,rfl,rfl,fun j hj=>match j,hj with|0,_=>rfl|1,_=>rfl|2,_=>rfl⟩
  rw [hd] at this ⊢
  exact this
 ·have hrun:(execOp a.eval o).run P w=.ok (.value (.tuple #[.bool false])) w:=by
   simp only [execOp,ho,e0]
   exact lY (xY _ hg h)
  unfold Oper.wp
  rw [hrun]
  refine ⟨eX.refl _ _,St,fun _ h=>h,_,h2 h,?_⟩
  have:=hr.put (dst:=o.dst) (v:=.tup 1 (fl [.c (.bool false)])) (x:=.tuple #[.bool false]) dlt ⟨_,rfl,rfl,fun j hj=>match j,hj with|0,_=>rfl⟩
  rw [hd] at this ⊢
  exact this
end
def an (l:Z):CV:=.c (.string ⟨l.toArray⟩)
theorem uc {a b:Z}:((⟨a.toArray⟩:ByteArray)=⟨b.toArray⟩)↔a=b:=by
 constructor
 ·intro h
  have:=Y3 (fun x:ByteArray=>x.data.toList) h
  simpa using this
 ·rintro rfl;rfl
theorem lA (a:Z):(⟨a.toArray⟩:ByteArray).toList=a:=by rw [Go.ByteArray.toList_eq]
theorem Vo (l r:Z):(⟨l.toArray⟩++⟨r.toArray⟩:ByteArray)=⟨(l++r).toArray⟩:=by
 apply ByteArray.ext
 simp
theorem Vn (l:Z) (i j:Nat):(⟨l.toArray⟩:ByteArray).extract i j=⟨((l.take j).drop i).toArray⟩:=by
 apply ByteArray.ext
 simp [List.drop_take]
section
variable {P:Program} {G:Gh} {ops:Array Oper} {o:Oper} {s:AS} {r:List Oper} {K:AS→Prop} {t u:TypeId} {x y:Operand} {env:List (Nat×CV)} {b0:Nat→CV} {H:List (Option Nat×bi)} {k:IntKind} {a b:Z}
theorem Uc (ho:o.op=.binOp .eql t x y u) (hx:s.eval x=an a) (hy:s.eval y=an b):ci P G o s (.c (.bool (decide (a=b)))):=by
 have:=Ub (P:=P) (G:=G) ho hx hy
 rwa [show decide ((⟨a.toArray⟩:ByteArray)=⟨b.toArray⟩)=decide (a=b) from decide_eq_decide.2 uc] at this
theorem TZ (ho:o.op=.binOp .neq t x y u) (hx:s.eval x=an a) (hy:s.eval y=an b):ci P G o s (.c (.bool (decide (a≠b)))):=by
 have:=TY (P:=P) (G:=G) ho hx hy
 rwa [show decide ((⟨a.toArray⟩:ByteArray)≠⟨b.toArray⟩)=decide (a≠b) from decide_eq_decide.2 (not_congr uc)] at this
theorem T6 (ho:o.op=.binOp .lss t x y u) (hx:s.eval x=an a) (hy:s.eval y=an b):ci P G o s (.c (.bool (Op.bytesLess a b))):=by
 have:=T5 (P:=P) (G:=G) ho hx hy
 rwa [lA,lA] at this
theorem Ua (ho:o.op=.binOp .gtr t x y u) (hx:s.eval x=an a) (hy:s.eval y=an b):ci P G o s (.c (.bool (!(Op.bytesLess a b || a == b)))):=by
 have:=T9 (P:=P) (G:=G) ho hx hy
 rwa [lA,lA] at this
theorem QR (ho:o.op=.binOp .add t x y u) (hx:s.eval x=an a) (hy:s.eval y=an b) (hl:a.length+b.length≤9223372036854775807):ci P G o s (an (a++b)):=by
 have:=QQ (P:=P) (G:=G) ho hx hy hl
 rwa [Vo] at this
theorem Iz {i:Nat} {z:Int} (ho:o.op=.index t x y) (hx:s.eval x=an a) (hy:s.eval y=.c (.int k z)) (h1:P.underlying t=some .string) (hz:z=(i:Int)) (hi:i<a.length):ci P G o s (bc a i) :=
 lq (l:=⟨a.toArray⟩) ho hx hy h1 hz hi
theorem QN (ho:o.op=.call ⟨.builtin .len,#[x],#[t]⟩) (hx:s.eval x=an a) (h1:P.underlying t=some .string):ci P G o s (.c (.int .i64 (a.length:Nat))):=QJ ho hx h1
theorem yW {l v:Nat} {lo hi:Option Operand} (ho:o.op=.slice t x lo hi none) (hx:s.eval x=an a) (h1:P.underlying t=some .string)
  (hl:Bd s 0 lo l) (hu:Bd s a.length hi v) (hlv:l≤v) (hvn:v≤a.length):ci P G o s (an ((a.take v).drop l)):=by
 have:=Is (P:=P) (G:=G) (b:=⟨a.toArray⟩) ho hx h1 hl hu hlv hvn
 rwa [Vn] at this
theorem EH {l:Nat} {lo:Operand} {z:Int} (ho:o.op=.slice t x (some lo) none none) (hx:s.eval x=an a) (h1:P.underlying t=some .string) (hl:s.eval lo=.c (.int .i64 z)) (hz:z=(l:Int)) (hvn:l≤a.length):ci P G o s (an (a.drop l)):=by
 have:=yW (P:=P) (G:=G) ho hx h1 (cw hl hz) (bG _ _) hvn (YG _)
 rwa [Za] at this
theorem rf {v:Nat} {hi:Operand} {z:Int} (ho:o.op=.slice t x none (some hi) none) (hx:s.eval x=an a) (h1:P.underlying t=some .string) (hl:s.eval hi=.c (.int .i64 z)) (hz:z=(v:Int)) (hvn:v≤a.length):ci P G o s (an (a.take v)):=by
 have:=yW (P:=P) (G:=G) ho hx h1 (bG _ _) (cw hl hz) (YT _) hvn
 rwa [bxx] at this
theorem IJ {e:TypeId} (ho:o.op=.convert t u x) (hx:s.eval x=aV a) (h1:P.underlying t=some (.slice e)) (h2:P.underlying e=some (.int .u8)) (h3:P.underlying u=some .string):ci P G o s (an a):=IG ho hx h1 h2 h3
theorem OE {e:TypeId} {d:Nat} (ho:o.op=.convert t u x) (hx:(⟨env,b0,H⟩:AS).eval x=an a) (h1:P.underlying t=some .string) (h2:P.underlying u=some (.slice e)) (h3:P.underlying e=some (.int .u8)) (hl:a.length≤9223372036854775807) (hd:o.dst=some d) (hN:Nat.blt d G.N=true)
  (hK:K ⟨(d,aV a)::env,b0,H⟩):kQ P G o ⟨env,b0,H⟩ K:=by
 refine OD ho hx h1 h2 h3 hl hd hN ?_
 simpa using hK
end
theorem aa.errN {m n:Nat} (h:n=m):aa (.err m) (.err n):=by subst h;exact I
theorem aa.strL {a b:Z} (h:a=b):aa (an a) (an b):=by subst h;exact I
section
variable {P:Program} {G:Gh} {ops:Array Oper} {o:Oper} {s:AS} {r:List Oper} {K:AS→Prop} {t u:TypeId} {x y:Operand} {env:List (Nat×CV)} {b0:Nat→CV} {H:List (Option Nat×bi)}
theorem rF {ats:Array TypeId} (ho:o.op=.call ⟨.builtin .clear,#[x],ats⟩) {a:Act} {v:Value} {w w':World} (h:(Builtin.clear_ ats o.type #[a.eval x]).run P w=.ok v w'):(execOp a.eval o).run P w=.ok (.value v) w':=by
 simp [execOp,ho,resolve,invoke,builtin,h]
theorem Rn {e:TypeId} {z:Value} {i off n k N M:Nat} {g:Option Nat} {f:Nat→CV} (ho:o.op=.call ⟨.builtin .clear,#[x],#[t]⟩) (hx:(⟨env,b0,H⟩:AS).eval x=.os i g off n k) (hH:H[i]?=some (g,.blk N f)) (h1:P.underlying t=some (.slice e)) (h5:(P.info? e).map (·.size)=some k) (hz:(P.info? e).map (·.zero)=some (some z)) (hzk:z.cells.size=k) (hk:0<k) (hz1:z.cells.all (·.oneCell')=true)
  (hM:M≤off) (hMN:M≤N) (hg:g=none→M=N) (hd:o.dst=none) (hK:K ⟨env,b0,H.set i (g,.blk M f)⟩):ug P G o ⟨env,b0,H⟩ K:=fun St a w hr Q=>by
 obtain ⟨info,hi,h6⟩:=YM.1 h5
 obtain ⟨info',hi',hz⟩:=YM.1 hz
 obtain rfl:=Y9 (hi.symm.trans hi')
 have less:∀ {w'},az G St ⟨env,b0,H⟩ a w'→∃ St',(∀ b,St b→St' b)∧az G St' ⟨env,b0,H.set i (g,.blk M f)⟩ a w':=fun hr' =>
  eE (G:=G) (s:=⟨env,b0,H⟩) i (m:=M) (F:=f) hH hMN hg (fun j hj=>I) St a _ hr'
 have he:=ji hr hx
 have fin:∀ {w'},(execOp a.eval o).run P w=.ok (.value (.tuple #[])) w'→eX St w w'→(∃ St',(∀ b,St b→St' b)∧az G St' ⟨env,b0,H.set i (g,.blk M f)⟩ a w')→o.wp P a w (fun a' w'=>eX St w w'∧∃ St',(∀ b,St b→St' b)∧∃ s',K s'∧az G St' s' a' w') Q:=fun {w'} hrun hkeep ⟨St',hs,h⟩=>by
  unfold Oper.wp
  rw [hrun]
  refine ⟨hkeep,St',hs,_,hK,?_⟩
  rw [hd]
  exact h
 cases g with
 | none =>
  obtain ⟨hn,e0⟩:=he
  refine fin (rF ho ?_) (eX.refl _ _) (less hr)
  rw [e0]
  simp [Builtin.clear_,underlying,h1]
 | some b =>
  obtain ⟨cap,e0,h3,h4,cur,ty,zz,hh,hfit⟩:=he
  rcases arx n with hn|hn
  ·subst hn
   refine fin (rF ho ?_) (eX.refl _ _) (less hr)
   rw [e0]
   simp [Builtin.clear_,underlying,h1]
  ·obtain ⟨fp,hp⟩:=id hr.hp
   obtain ⟨h00,cur',ty',hh',hle,hcell⟩:=hp.rep i (some b) _ hH
   rw [hh] at hh'
   cases hh'
   have hlen:(Builtin.zeroCells z.cells n).toList.length=n * k:=by simp [Builtin.zeroCells,hzk]
   have hcap:off+n * k≤cur.size:=by
    have:=ZG k h3
    omega
   have hone:∀ v ∈ (Builtin.zeroCells z.cells n).toList,v.oneCell'=true:=fun v hv=>by
    have hv':v ∈ Builtin.zeroCells z.cells n:=by simpa using hv
    obtain ⟨j,hj,e⟩:=Array.mem_iff_getElem.1 hv'
    rw [← e]
    have hlt:j % z.cells.size<z.cells.size:=Z0 _ O
    have:=Array.all_eq_true.1 hz1 (j % z.cells.size) hlt
    simpa [Builtin.zeroCells,hlt] using this
   have hst:=run_storeCells_at P b off ty (Builtin.zeroCells z.cells n).toList 0 cur w hh (by rw [hlen];omega) hone
   simp only [Zt] at hst
   obtain ⟨m,rfl⟩:∃ m,n=m+1:=⟨n-1,by omega⟩
   refine fin (w':=w.setRow b (cur.toList.take off++(Builtin.zeroCells z.cells (m+1)).toList++cur.toList.drop (off+(Builtin.zeroCells z.cells (m+1)).toList.length)).toArray) (rF ho ?_) (fun q hq=>setRow_other w b q _ (fun e=>(hp.own i b ((h00 b).2 rfl)).2.1 (e ▸ hq))) ?_
   ·rw [e0]
    simp [Builtin.clear_,underlying,h1,zeroValue,typeInfo,hi,hz,hst]
   ·refine ⟨St,fun _ h=>h,hr.write hH hh ?_ ?_ fun j hj=>?_⟩
    ·simp only [List.size_toArray,YI,YS,YN,b1x,hlen];omega
    ·simp only [List.size_toArray,YI,YS,YN,b1x,hlen];omega
    ·rw [wj cur _ off (by rw [hlen];omega),jK]
     exact hcell j O
end
def mg (r:Loop):OP where
 p al St w g F:=(∀ b,F b↔b=g)∧w.heap[g]?=some (.loop r)
 st:=fun he hs hF ⟨h1,h2⟩=>⟨h1,(hF _ ((h1 _).2 rfl)).trans h2⟩
structure VE where
 N:Nat
 env:List (Nat×CV)
 b:Nat→CV
 ps:Array Tmp
 assign:Code
 body:Code
def gI (fn:FuncId) (tmps:Array Value) (L:VE) (D:Nat) (sp:LoopState×Option Code):Loop:={ state:=sp.1,pending:=sp.2,fn,tmps,params:=L.ps,assign:=L.assign,body:=L.body,defers:=D }
def o9 {π:Type} (L:VE) (sp:π→LoopState×Option Code) (HB:π→List (Option Nat×bi)) (φ:π→Prop):OP where
 p al St w g F:=∃ (x:π) (fn:FuncId) (tmps:Array Value) (D:Nat),φ x∧tmps.size=L.N∧(∀ d,ba al St w (look L.env L.b d) (tmps.getD d undef))∧∃ fp,W3 al St w F (HB x++[(some g,.obj (mg (gI fn tmps L D (sp x))))]) fp
 st:=fun he hs hF ⟨x,fn,tmps,D,h1,h2,h3,fp,h⟩=>⟨x,fn,tmps,D,h1,h2,fun d=>ba.evo he hs _ _ (h3 d),fp,fun i g r hi=>bi.rep_evo he hs (fun b hb=>hF b ((h.all b).2 ⟨i,hb⟩)) (h.rep i g r hi),h.dis,h.out,h.all⟩

def Xc (gs:List Nat) (P:Program) (l:Nat) (H:List (Option Nat×bi)) (args:List CV) (Q:CV→List (Option Nat×bi)→Prop):Prop :=
 ∀ al w St F0 (vals:Array Value),uR gs al St F0 H w→vals.size=args.length→(∀ i,ba al St w (fl args i) (vals.getD i undef)) →
  YieldAt (GW none) 0 P l vals w fun e w'=>∃ v r H' St',e=.returned v∧Q r H'∧ba al St' w' r v∧jr F0 w w'∧(∀ b,St b→St' b)∧(∀ b,St' b→St b∨w.heap.size≤b∨F0 b)∧(∀ b,St' b→b<w'.heap.size)∧dr al St' w' w.heap.size F0 H'
def YQ (l:Nat) (J' Jx:OP):CV→List (Option Nat×bi)→Prop:=fun r H'=>(r=.c (.bool true)∧H'=[(some l,.obj J')])∨(r=.c (.bool false)∧H'=[(some l,.obj Jx)])

section
variable {P:Program} {G:Gh} {ops:Array Oper} {o:Oper} {s:AS} {K:AS→Prop} {env:List (Nat×CV)} {b0:Nat→CV} {H:List (Option Nat×bi)} {R:Exit→AS→Prop}

def W5 (P:Program) (G:Gh) (o:Oper) (s:AS) (K:AS→Prop):Prop:=∀ a w,vy G s a w→∀ Q,o.wpIn (GW G.rd) 0 P a w (fun a' w'=>∃ s',K s'∧vy G s' a' w') Q
theorem AH {r:List Oper} (hw:br G ops o s true) (hy:G.yl=true) (h:W5 P G o s (fun s'=>cJ P G ops r s' K)):cJ P G ops (o::r) s K:=fun a w hr Q hQ=>by
 unfold mP
 obtain ⟨St,hs⟩:=id hr
 rw [YF (hw St a w hs)]
 exact .inr ⟨hy,Oper.wpIn_mono (fun a' w' ⟨s',h1,h2⟩=>h1 a' w' h2 Q hQ) (h a w hr Q)⟩

theorem Fu {v:Operand} {l:Nat} {xs:Array Operand} {ats:Array TypeId} (ho:o.op=.call ⟨.value v,xs,ats⟩) (a:Act) (hv:a.eval v=.func (.yield l) #[] #[]) {w:World} {x:Next} (h:(Instr.yield l (xs.map a.eval)).run P w=.ok x w) :
  (execOp a.eval o).run P w=.ok x w:=by
 simp [execOp,ho,resolve,hv,Deferred.ofValue,invoke,h]

theorem Bc {v:Operand} {l:Nat} {xs:Array Operand} {ats:Array TypeId} {args:List CV} {Q:CV→List (Option Nat×bi)→Prop} {i d:Nat} {x0:Option Nat×bi} (ho:o.op=.call ⟨.value v,xs,ats⟩) (hv:(⟨env,b0,H⟩:AS).eval v=.c (.func (.yield l) #[] #[])) (hi:H[i]?=some x0) (hA:Xc G.gs P l [x0] args Q) (he:BU G ⟨env,b0,H⟩ xs.toList args) (hd:o.dst=some d) (hN:Nat.blt d G.N=true)
  (hK:∀ r H',Q r H'→∃ x r',H'=[x]∧aa r r'∧K ⟨(d,r')::env,b0,H.set i x⟩):W5 P G o ⟨env,b0,H⟩ K:=fun a w ⟨St,hr⟩ Q'=>by
 obtain ⟨h1,h2⟩:=BN he hr
 obtain ⟨fp,hp⟩:=hr.hp
 have hlt:i<H.length:=(YJ.1 hi).1
 obtain ⟨g0,r0⟩:=x0
 have hent:uR G.gs G.al St (fp i) [(g0,r0)] w:=by
  refine ⟨hr.s3,hr.sn,hr.sg,⟨fun j b=>j=0∧fp i b,fun j g r hj=>?_,fun j l b hj hl=>by omega,fun j b hj=>⟨(hp.own i b hj.2).1,(hp.own i b hj.2).2.1,.inr hj.2⟩,fun j hj b hb=>by simp at hj;omega⟩,fun b hb=>(hp.own i b hb).2.1⟩
  match j,hj with
  | 0,hj =>
   simp at hj
   obtain ⟨rfl,rfl⟩:=hj
   have e:(fun b=>(0:Nat)=0∧fp i b)=fp i:=funext fun b=>by simp
   show r0.rep G.al St w (fun b=>(0:Nat)=0∧fp i b) g0
   rw [e]
   exact hp.rep i g0 r0 hi
  | j+1,hj=>simp at hj
 obtain ⟨fn,tmps,assign,body,hy,hR⟩:=hA G.al w St _ _ hent h1 h2
 refine ⟨fun f _=>trivial,?_⟩
 rw [Oper.semAt_eq _ _ _ (by rw [ho];intro c e;cases e),Fu ho a (kM hr hv) hy]
 refine ⟨fun e=>(by cases e),?_⟩
 refine RoundIn.mono (F:=GW none) (n:=0) hR ?_
 rintro e w' ⟨v,r,H',St',rfl,hq,hv,hu,h3,h4,h5,h6⟩
 obtain ⟨x,r',rfl,hce,hk⟩:=hK r H' hq
 refine ⟨_,hk,St',?_⟩
 have h7:=(hr.afterH hp hlt hu h3 h4 h5 h6).put (dst:=o.dst) (v:=r') (x:=v) (by intro d' hd';rw [hd] at hd';cases hd';exact YU hN) (hce _ _ _ _ hv)
 rw [hd] at h7 ⊢
 exact h7

def EM:List Tmp→List CV→List (Nat×CV)→List (Nat×CV)
 | p::ps,c::cs,env=>EM ps cs ((p,c)::env)
 | _,_,env=>env
theorem CK {al:List Addr} {St:Nat→Prop} {w:World} {b:Nat→CV} {N:Nat}:∀ (ps:List Tmp) (cs:List CV) (vs:List Value) (env:List (Nat×CV)) (tmps:Array Value),tmps.size=N→(∀ d,ba al St w (look env b d) (tmps.getD d undef))→ps.length=cs.length→vs.length=cs.length→(∀ p ∈ ps,p<N)→(∀ i,i<cs.length→ba al St w (fl cs i) (vs.getD i undef)) →
  ((ps.zip vs).foldl (fun t (p,v)=>t.setIfInBounds p v) tmps).size=N∧∀ d,ba al St w (look (EM ps cs env) b d) (((ps.zip vs).foldl (fun t (p,v)=>t.setIfInBounds p v) tmps).getD d undef)
 | [],cs,vs,env,tmps,h1,h2,_,_,_,_=>⟨by simpa using h1,by simpa [EM] using h2⟩
 | p::ps,[],vs,env,tmps,_,_,h3,_,_,_=>by simp at h3
 | p::ps,c::cs,[],env,tmps,_,_,_,h4,_,_=>by simp at h4
 | p::ps,c::cs,v::vs,env,tmps,h1,h2,h3,h4,h5,h6=>by
  simp only [List.zip_cons_cons,aRx,EM]
  refine CK ps cs vs _ _ (by simpa using h1) (fun d=>?_) (by simpa using h3) (by simpa using h4) (fun q hq=>h5 q (Y7 _ hq)) (fun i hi=>?_)
  ·by_cases hpd:p=d
   ·subst hpd
    rw [fu]
    have h0:=h6 0 (by simp)
    have hlt:p<tmps.size:=by rw [h1];exact h5 p (Y2 ..)
    simpa [hlt,fl] using h0
   ·rw [dy _ _ _ hpd]
    have:=h2 d
    simpa [Zn hpd] using this
  ·have:=h6 (i+1) (by simp;omega)
   simpa [fl] using this

theorem Lo {α:Type} (l:List α) (x y:α):(l++[x]).set l.length y=l++[y]:=by
 rw [List.set_append_right _ _ (YG _)];simp
theorem sy {α:Type} (l:List α) (x:α):(l++[x])[l.length]?=some x:=by simp

theorem dr.packR {al:List Addr} {St:Nat→Prop} {w:World} {base:Nat} {F0:Nat→Prop} {π:Type} {L:VE} {sp:π→LoopState×Option Code} {HB:π→List (Option Nat×bi)} {φ:π→Prop} {l:Nat} {x:π} {fn:FuncId} {tmps:Array Value} {D:Nat} (hx:φ x) (hs:tmps.size=L.N) (he:∀ d,ba al St w (look L.env L.b d) (tmps.getD d undef))
  (h:dr al St w base F0 (HB x++[(some l,.obj (mg (gI fn tmps L D (sp x))))])):dr al St w base F0 [(some l,.obj (o9 L sp HB φ))]:=by
 obtain ⟨fp,hp⟩:=h
 refine ⟨fun j b=>j=0∧∃ i,fp i b,fun j g r hj=>?_,fun i j b hi hj=>by omega,fun i b hi=>?_,fun i hi b hb=>by simp at hi;omega⟩
 ·match j,hj with
  | 0,hj =>
   simp at hj
   obtain ⟨rfl,rfl⟩:=hj
   exact ⟨x,fn,tmps,D,hx,hs,he,fp,fun i g r hi=>hp.rep i g r hi,hp.dis,hp.out,fun b=>by simp⟩
  | j+1,hj=>simp at hj
 ·obtain ⟨_,k,hk⟩:=hi
  exact hp.own k b hk

def AR {π q:Type} (l:Nat) (R1:OP) (HB:π→List (Option Nat×bi)) (φ':π→Prop) (HX:q→List (Option Nat×bi)) (χ:Code→q→Prop):Exit→AS→Prop
 | .normal,s=>∃ x,φ' x∧(HB x).length+1≤s.H.length∧aP (s.H.take ((HB x).length+1)) (HB x++[(some l,.obj R1)])
 | .ret,s=>∃ x,χ .ret x∧(HX x).length+1≤s.H.length∧aP (s.H.take ((HX x).length+1)) (HX x++[(some l,.obj R1)])
 | .exit id,s=>∃ x,χ (.exit id) x∧(HX x).length+1≤s.H.length∧aP (s.H.take ((HX x).length+1)) (HX x++[(some l,.obj R1)])
 | _,_=>False
def BM (P:Program) (G:Gh) (body:Code) (B:List (Option Nat×bi)) (l:Nat) (R0 R1:OP) (RE:Exit→AS→Prop):Exit→AS→Prop
 | .normal,s=>∃ env b,s=⟨env,b,B++[(some l,.obj R0)]⟩∧bj P G body ⟨env,b,B++[(some l,.obj R1)]⟩ RE
 | _,_=>False

theorem az.take_h {St:Nat→Prop} {a:Act} {w:World} {B:List (Option Nat×bi)} (h:az G St s a w) (hl:B.length≤s.H.length) (he:aP (s.H.take B.length) B):az G St ⟨s.env,s.b,B⟩ a w:=by
 have h1:=h.hp.pick (List.range B.length) (iO _) (iQ _ _ hl)
 exact ⟨h.df,h.sz,h.env,h.un,h.s1,h.s2,h.s3,h1.hent he,h.sn,h.sg⟩

theorem az.turnRec {St:Nat→Prop} {a:Act} {w:World} {B:List (Option Nat×bi)} {l:Nat} {r r':Loop} (h:az G St ⟨env,b0,B++[(some l,.obj (mg r))]⟩ a w) :
  w.heap[l]?=some (.loop r)∧az G St ⟨env,b0,B++[(some l,.obj (mg r'))]⟩ a (w.putObj l (.loop r')):=by
 obtain ⟨fp,hp⟩:=id h.hp
 obtain ⟨hF,hg⟩:=hp.rep B.length (some l) _ (sy _ _)
 have hlt:l<w.heap.size:=(Y4.1 hg).1
 refine ⟨hg,?_⟩
 have:=h.turnObj (i:=B.length) (g:=l) (p:=mg r) (p':=mg r') (w':=w.putObj l (.loop r')) (sy _ _) (fun F h=>h.1) (fun cur t z he=>by rw [hg] at he;cases he) rfl rfl rfl (by simp) (fun b hb=>World.putObj_heap_other hb) ⟨fun b=>Iff.rfl,World.putObj_heap_same hlt⟩
 rw [Lo] at this
 exact this

theorem rb {π:Type} {gs:List Nat} {al:List Addr} {l:Nat} {w W:World} {F0 St0 St:Nat→Prop} {N:Nat} {L:VE} {sp:π→LoopState×Option Code} {HB:π→List (Option Nat×bi)} {φ:π→Prop} {xq:List (Nat×CV)} {b:Nat→CV} {x:π} {a:Act} {fn:FuncId} {tmps:Array Value} {D:Nat} {jump:Option Code} {Q:CV→List (Option Nat×bi)→Prop}
  (hent:∀ b,F0 b→¬ St0 b) (h3:∀ b,St0 b→b<w.heap.size) (hx:φ x) (hs:tmps.size=L.N) (henv:∀ d,ba al St0 w (look L.env L.b d) (tmps.getD d undef))
  (hsp:sp x=(if jump.isNone then .ready else .done,jump))
  (hr:az ⟨gs,al,w,F0,St0,N,some l,false⟩ St ⟨xq,b,HB x++[(some l,.obj (mg { gI fn tmps L D (.ready,none) with state:=.busy }))]⟩ a W) (hQ:Q (.c (.bool jump.isNone)) [(some l,.obj (o9 L sp HB φ))]) :
  ∃ v w',(Instr.endRound l jump).run P W=.ok v w'∧∃ v' r H' St',Ending.returned v=.returned v'∧Q r H'∧ba al St' w' r v'∧jr F0 w w'∧(∀ b,St0 b→St' b)∧(∀ b,St' b→St0 b∨w.heap.size≤b∨F0 b)∧(∀ b,St' b→b<w'.heap.size)∧dr al St' w' w.heap.size F0 H':=by
 obtain ⟨hg,hr2⟩:=hr.turnRec (r':=gI fn tmps L D (sp x))
 refine ⟨_,_,run_endRound jump hg,.bool jump.isNone,_,_,St,rfl,hQ,rfl,?_⟩
 have e:({ { gI fn tmps L D (.ready,none) with state:=LoopState.busy } with state:=if jump.isNone then LoopState.ready else LoopState.done,pending:=jump }:Loop)=gI fn tmps L D (sp x):=by rw [hsp];rfl
 rw [e]
 have hev:qS St0 w (W.putObj l (.loop (gI fn tmps L D (sp x)))):=⟨fun b cur t z hb hc=>(hr2.un.block b (h3 b hb) (fun hf=>hent b hf hb)).trans hc,hr2.un.sh⟩
 exact ⟨hr2.un,hr2.s1,hr2.s2,hr2.s3,dr.packR hx hs (fun d=>ba.evo hev hr2.s1 _ _ (henv d)) hr2.hp⟩

theorem Kl {gs:List Nat} {π q:Type} {l:Nat} {L:VE} {HB:π→List (Option Nat×bi)} {φ φ':π→Prop} {HX:q→List (Option Nat×bi)} {χ:Code→q→Prop} {args:List CV} (hn:L.ps.toList.length=args.length) (hps:∀ p ∈ L.ps.toList,p<L.N)
  (hb:∀ (al:List Addr) (w0:World) (F0 St0:Nat→Prop) (R0 R1:OP) (x:π),φ x→bj P ⟨gs,al,w0,F0,St0,L.N,some l,false⟩ L.assign ⟨EM L.ps.toList args L.env,L.b,HB x++[(some l,.obj R0)]⟩ (BM P ⟨gs,al,w0,F0,St0,L.N,some l,false⟩ L.body (HB x) l R0 R1 (AR l R1 HB φ' HX χ))) :
  Xc gs P l [(some l,.obj (o9 L (fun _=>(.ready,none)) HB φ))] args (YQ l (o9 L (fun _=>(.ready,none)) HB φ') (o9 L (fun x:Code×q=>(.done,some x.1)) (fun x=>HX x.2) (fun x=>χ x.1 x.2))):=by
 intro al w St F0 vals he hvs hv
 obtain ⟨fp,hp⟩:=he.hp
 obtain ⟨x,fn,tmps,D,hx,hsz,henv,fq,hf⟩:=hp.rep 0 (some l) _ rfl
 obtain ⟨hFl,hg⟩:=hf.rep (HB x).length (some l) _ (sy _ _)
 have hlen:L.ps.size=args.length:=by simpa using hn
 have hy:=run_yield (P:=P) (args:=vals) hg (by rw [hvs];exact hlen.symm)
 refine ⟨_,_,_,_,hy,roundIn_of_wpIn trivial ?_⟩
 have hpe:=CK (al:=al) (St:=St) (w:=w) (b:=L.b) (N:=L.N) L.ps.toList args vals.toList L.env tmps hsz henv hn (by simpa using hvs) hps (fun i hi=>by
  have:=hv i
  simpa using this)
 have hfold:(L.ps.toList.zip vals.toList).foldl (fun t (p,v)=>t.setIfInBounds p v) tmps=((gI fn tmps L D (.ready,none)).params.zip vals).foldl (fun tmps (t,a)=>tmps.setIfInBounds t a) (gI fn tmps L D (.ready,none)).tmps:=by
  rw [← Array.foldl_toList,Array.toList_zip]
  rfl
 rw [hfold] at hpe
 have hrel:az ⟨gs,al,w,F0,St,L.N,some l,false⟩ St ⟨EM L.ps.toList args L.env,L.b,HB x++[(some l,.obj (mg (gI fn tmps L D (.ready,none))))]⟩ { tmps:=((gI fn tmps L D (.ready,none)).params.zip vals).foldl (fun tmps (t,a)=>tmps.setIfInBounds t a) (gI fn tmps L D (.ready,none)).tmps,defers:=[] } w :=
  ⟨pD.none _ _ _,hpe.1,hpe.2,jr.refl _ _,fun _ h=>h,fun _ h=>.inl h,he.s3,⟨fq,fun i g r hi=>hf.rep i g r hi,hf.dis,fun i b hi=>hp.own 0 b ((hf.all b).2 ⟨i,hi⟩),hf.out⟩,he.sn,he.sg⟩
 refine (hb al w F0 St (mg (gI fn tmps L D (.ready,none))) (mg { gI fn tmps L D (.ready,none) with state:=.busy }) x hx) _ _ ⟨St,hrel⟩ _ ?_
 intro e s1 a1 w1 h1 h2
 cases e with
 | normal =>
  obtain ⟨env1,b1,rfl,hbody⟩:=h1
  obtain ⟨St1,hr1⟩:=h2
  obtain ⟨hg1,hr2⟩:=hr1.turnRec (r':={ gI fn tmps L D (.ready,none) with state:=.busy })
  refine ⟨_,run_beginRound hg1 rfl,hbody a1 _ ⟨St1,hr2⟩ _ ?_⟩
  intro e s2 a2 w2 h3 ⟨St2,hr3⟩
  cases e with
  | normal =>
   obtain ⟨x',hx',hl',hh'⟩:=h3
   have hr4:=hr3.take_h (B:=HB x'++[(some l,.obj (mg { gI fn tmps L D (.ready,none) with state:=.busy }))]) (by simpa using hl') (by simpa using hh')
   exact rb (jump:=none) he.f0 he.s3 hx' hsz henv rfl hr4 (.inl ⟨rfl,rfl⟩)
  | ret =>
   obtain ⟨x',hx',hl',hh'⟩:=h3
   have hr4:=hr3.take_h (B:=HX x'++[(some l,.obj (mg { gI fn tmps L D (.ready,none) with state:=.busy }))]) (by simpa using hl') (by simpa using hh')
   exact rb (x:=(Code.ret,x')) (HB:=fun x:Code×q=>HX x.2) (φ:=fun x=>χ x.1 x.2) (sp:=fun x:Code×q=>(.done,some x.1)) (jump:=some .ret) he.f0 he.s3 hx' hsz henv rfl hr4 (.inr ⟨rfl,rfl⟩)
  | exit id =>
   obtain ⟨x',hx',hl',hh'⟩:=h3
   have hr4:=hr3.take_h (B:=HX x'++[(some l,.obj (mg { gI fn tmps L D (.ready,none) with state:=.busy }))]) (by simpa using hl') (by simpa using hh')
   exact rb (x:=(Code.exit id,x')) (HB:=fun x:Code×q=>HX x.2) (φ:=fun x=>χ x.1 x.2) (sp:=fun x:Code×q=>(.done,some x.1)) (jump:=some (.exit id)) he.f0 he.s3 hx' hsz henv rfl hr4 (.inr ⟨rfl,rfl⟩)
  | _=>exact h3.elim
 | _=>exact h1.elim
end
section
variable {P:Program} {G:Gh} {s:AS} {R:Exit→AS→Prop}

def Pm (gs:List Nat) (P:Program) (f:FuncId) (HI:List (Option Nat×bi)) (capt:List CV) (m:Nat) (E:Nat→List CV):Prop :=
 ∀ (l:Nat) (J:Nat→OP) (Jx:OP),(∀ k,k<m→Xc gs P l [(some l,.obj (J k))] (E k) (YQ l (J (k+1)) Jx)) →
  AC gs P f (HI++[(some l,.obj (J 0))]) (.c (.func (.yield l) #[] #[])::capt) fun _ H'=>H'=[(some l,.obj (J m))]∨H'=[(some l,.obj Jx)]

theorem xy {fi n:Nat} {fv:Nat→CV} {g:Operand} {ps:Array Tmp} {assign body:Code} {π q:Type} (m:Nat) (E:Nat→List CV) (HI:List (Option Nat×bi)) (HB:π→List (Option Nat×bi)) (φ:Nat→π→Prop) (HX:q→List (Option Nat×bi)) (χ:Code→q→Prop) (p0:π) (li:List Nat)
  (hrd:G.rd=none) (hg:s.eval g=.fn fi n fv) (hc:bA P fi=true) (hit:Pm G.gs P fi HI ((List.range n).map fv) m E) (h0:φ 0 p0) (hnd:li.Nodup) (hpick:im s.H li=HI++HB p0)
  (hps:∀ k,k<m→ps.toList.length=(E k).length) (hpN:(ps.toList.all fun p=>Nat.blt p G.N)=true)
  (hround:∀ k,k<m→∀ (l:Nat) (al:List Addr) (w0:World) (F0 St0:Nat→Prop) (R0 R1:OP) (x:π),φ k x→bj P ⟨G.gs,al,w0,F0,St0,G.N,some l,false⟩ assign ⟨EM ps.toList (E k) s.env,s.b,HB x++[(some l,.obj R0)]⟩ (BM P ⟨G.gs,al,w0,F0,St0,G.N,some l,false⟩ body (HB x) l R0 R1 (AR l R1 HB (φ (k+1)) HX χ)))
  (hdone:∀ x,φ m x→R .normal ⟨s.env,s.b,HB x⟩) (hjump:∀ c x,χ c x→(c=.ret∧R .ret ⟨s.env,s.b,HX x⟩)∨∃ id,c=.exit id∧R (.exit id) ⟨s.env,s.b,HX x⟩):bj P G (.rangeFunc g ps assign body) s R:=fun a w ⟨St,hr⟩ Q hQ=>by
 obtain ⟨cs,hcs,hcn,hfv⟩:=ji hr hg
 rw [hrd]
 refine wpIn_rangeFunc fun fn _=>?_
 obtain ⟨L,hL⟩:∃ L:VE,L=⟨G.N,s.env,s.b,ps,assign,body⟩:=⟨_,rfl⟩
 obtain ⟨w1,hw1⟩:∃ w1,w1=(w.alloc (.deferred (some []))).alloc (.loop (gI fn a.tmps L w.heap.size (.ready,none))):=⟨_,rfl⟩
 have hb1:Below w.heap.size w w1:=by rw [hw1];exact ((Below.refl _ w).alloc (YG _) _).alloc (by simp) _
 have hsz1:w1.heap.size=w.heap.size+2:=by rw [hw1];simp
 have hL1:w1.heap[w.heap.size+1]?=some (.loop (gI fn a.tmps L w.heap.size (.ready,none))):=by
  rw [hw1];have:=World.alloc_heap_new (w.alloc (.deferred (some []))) (.loop (gI fn a.tmps L w.heap.size (.ready,none)));rwa [World.size_alloc] at this
 have hD1:w1.heap[w.heap.size]?=some (.deferred (some [])):=by
  rw [hw1];exact (Below.heap_alloc _ _ _ (by simp)).trans (World.alloc_heap_new w _)
 -- the blocks that are handed over
 obtain ⟨fp,hp⟩:=hr.hp.pick li hnd hpick
 have hev1:qS St w w1:=qS.of_below hb1 hr.s3
 let l:=w.heap.size+1
 let D:=w.heap.size
 let St1:Nat→Prop:=fun b=>St b∨b=D
 let F1:Nat→Prop:=fun b=>(∃ i,fp i b)∨b=l
 have hfl:∀ i b,fp i b→b<D:=fun i b hi=>(hp.own i b hi).1
 have hst1:∀ b,St b→St1 b:=fun _ h=>.inl h
 have hrep:∀ (i:Nat) (g:Option Nat) (r:bi),(HI++HB p0)[i]?=some (g,r)→r.rep G.al St1 w1 (fp i) g:=fun i g r hi=>bi.rep_evo hev1 hst1 (fun b hF=>hb1.block b (hp.own i b hF).1) (hp.rep i g r hi)
 have hrec:bi.rep G.al St1 w1 (fun b=>b=l) (some l) (.obj (mg (gI fn a.tmps L D (.ready,none)))):=⟨fun b=>Iff.rfl,hL1⟩
 have henv1:∀ d,ba G.al St1 w1 (look s.env s.b d) (a.tmps.getD d undef):=fun d=>ba.evo hev1 hst1 _ _ (hr.env d)
 have hent:uR G.gs G.al St1 F1 (HI++[(some l,.obj (o9 L (fun _=>(.ready,none)) HB (φ 0)))]) w1:=by
  refine ⟨fun b hb=>?_,(hr.ext hb1).sn,⟨fun g hg=>.inl (hr.sg.1 g hg),fun x hx=>.inl (hr.sg.2 x hx)⟩,⟨fun i b=>(i<HI.length∧fp i b)∨(i=HI.length∧(b=l∨∃ j,HI.length≤j∧fp j b)),fun i g r hi=>?_,fun i j b hi hj=>?_,fun i b hi=>?_,fun i hi b hb=>?_⟩,fun b hb=>?_⟩
  ·rcases hb with hb|rfl
   ·exact Zf (hr.s3 b hb) hb1.size
   ·show w.heap.size<_;omega
  ·by_cases h1:i<HI.length
   ·rw [YL h1] at hi
    have e:(fun b=>(i<HI.length∧fp i b)∨(i=HI.length∧(b=l∨∃ j,HI.length≤j∧fp j b)))=fp i:=funext fun b=>propext ⟨fun h=>h.elim (fun h=>h.2) (fun h=>by omega),fun h=>.inl ⟨h1,h⟩⟩
    show r.rep G.al St1 w1 (fun b=>(i<HI.length∧fp i b)∨(i=HI.length∧(b=l∨∃ j,HI.length≤j∧fp j b))) g
    rw [e]
    exact hrep i g r (by rw [YL h1];exact hi)
   ·have h2:i=HI.length:=by
     have:=(YJ.1 hi).1
     simp at this
     omega
    subst h2
    simp at hi
    obtain ⟨rfl,rfl⟩:=hi
    refine ⟨p0,fn,a.tmps,D,h0,by rw [hL];exact hr.sz,by rw [hL];exact henv1,fun j b=>if j<(HB p0).length then fp (HI.length+j) b else j=(HB p0).length∧b=l,fun j g r hj=>?_,fun i j b hi hj=>?_,fun j hj b hb=>?_,fun b=>⟨fun hb=>?_,fun ⟨j,hj⟩=>?_⟩⟩
    ·by_cases h3:j<(HB p0).length
     ·rw [YL h3] at hj
      simp only [h3,if_true]
      exact hrep _ g r (by rw [YX O,Z2];exact hj)
     ·have h4:j=(HB p0).length:=by
       have:=(YJ.1 hj).1
       simp at this
       omega
      subst h4
      simp at hj
      obtain ⟨rfl,rfl⟩:=hj
      have e:(fun b=>if (HB p0).length<(HB p0).length then fp (HI.length+(HB p0).length) b else (HB p0).length=(HB p0).length∧b=l)=fun b=>b=l:=funext fun b=>by simp
      show bi.rep G.al St1 w1 (fun b=>if (HB p0).length<(HB p0).length then fp (HI.length+(HB p0).length) b else (HB p0).length=(HB p0).length∧b=l) _ _
      rw [e]
      exact hrec
    ·by_cases h3:i<(HB p0).length <;> by_cases h4:j<(HB p0).length <;> simp only [h3,h4,if_true,if_false] at hi hj
     ·have:=hp.dis _ _ b hi hj;omega
     ·have:=hfl _ b hi;obtain ⟨_,rfl⟩:=hj;simp only [l,D] at this;omega
     ·have:=hfl _ b hj;obtain ⟨_,rfl⟩:=hi;simp only [l,D] at this;omega
     ·omega
    ·have h3:¬ j<(HB p0).length:=by simp at hj;omega
     simp only [h3,if_false] at hb
     simp at hj;omega
    ·rcases hb with ⟨h5,_⟩|⟨_,rfl|⟨j,hj,hF⟩⟩
     ·omega
     ·exact ⟨(HB p0).length,by simp⟩
     ·refine ⟨j-HI.length,?_⟩
      have h5:j<(HI++HB p0).length:=hp.len hF
      rw [YF (by simp at h5;omega),show HI.length+(j-HI.length)=j by omega]
      exact hF
    ·by_cases h3:j<(HB p0).length
     ·simp only [h3,if_true] at hj
      exact .inr ⟨rfl,.inr ⟨_,by omega,hj⟩⟩
     ·simp only [h3,if_false] at hj
      exact .inr ⟨rfl,.inl hj.2⟩
  ·rcases hi with ⟨h1,h2⟩|⟨h1,h2⟩ <;> rcases hj with ⟨h3,h4⟩|⟨h3,h4⟩
   ·exact hp.dis i j b h2 h4
   ·rcases h4 with rfl|⟨k,hk,h4⟩
    ·have:=hfl _ _ h2;simp only [l,D] at this;omega
    ·have:=hp.dis _ _ b h2 h4;omega
   ·rcases h2 with rfl|⟨k,hk,h2⟩
    ·have:=hfl _ _ h4;simp only [l,D] at this;omega
    ·have:=hp.dis _ _ b h2 h4;omega
   ·omega
  ·have hb:b=l∨∃ j,fp j b:=by
    rcases hi with ⟨_,h2⟩|⟨_,h2|⟨j,_,h2⟩⟩
    ·exact .inr ⟨_,h2⟩
    ·exact .inl h2
    ·exact .inr ⟨j,h2⟩
   rcases hb with rfl|⟨j,hj⟩
   ·refine ⟨by simp only [l];omega,fun hs=>?_,.inr (.inr rfl)⟩
    rcases hs with hs|hs
    ·have:=hr.s3 _ hs;simp only [l] at this;omega
    ·simp only [l,D] at hs;omega
   ·obtain ⟨k1,k2,k3⟩:=hp.own j b hj
    refine ⟨by omega,fun hs=>?_,.inr (.inl ⟨j,hj⟩)⟩
    rcases hs with hs|hs
    ·exact k2 hs
    ·simp only [D] at hs;omega
  ·simp at hi
   rcases hb with ⟨h1,_⟩|⟨h1,_⟩ <;> omega
  ·intro hs
   rcases hb with ⟨j,hj⟩|rfl
   ·obtain ⟨k1,k2,k3⟩:=hp.own j b hj
    rcases hs with hs|hs
    ·exact k2 hs
    ·simp only [D] at hs;omega
   ·rcases hs with hs|hs
    ·have:=hr.s3 _ hs;simp only [l] at this;omega
    ·simp only [l,D] at hs;omega
 have hround':∀ k,k<m→Xc G.gs P l [(some l,.obj (o9 L (fun _=>(.ready,none)) HB (φ k)))] (E k) (YQ l (o9 L (fun _=>(.ready,none)) HB (φ (k+1))) (o9 L (fun x:Code×q=>(.done,some x.1)) (fun x=>HX x.2) (fun x=>χ x.1 x.2))):=fun k hk=>by
  refine Kl (by rw [hL];exact hps k hk) (fun p hp=>?_) (fun al w0 F0 St0 R0 R1 x hx=>?_)
  ·rw [hL] at hp ⊢
   exact YU (Y8.1 hpN p hp)
  ·rw [hL]
   exact hround k hk l al w0 F0 St0 R0 R1 x hx
 have hA:=hit l (fun k=>o9 L (fun _=>(.ready,none)) HB (φ k)) _ hround'
 have hvals:(#[.func (.yield l) #[] #[]]++cs:Array Value).size=(.c (.func (.yield l) #[] #[])::(List.range n).map fv:List CV).length:=by simp [hcn];omega
 have hcall:=hA G.al w1 St1 F1 (#[.func (.yield l) #[] #[]]++cs) hent hvals (fun i=>by
  cases i with
  | zero =>
   show (#[Value.func (.yield l) #[] #[]]++cs).getD 0 undef=_
   rw [ZD,ZI (by simp)]
   rfl
  | succ i =>
   rw [fl,dJ]
   by_cases hi:i<n
   ·have:=ba.evo hev1 hst1 _ _ (hfv i hi)
    simp only [List.getD,ZB,aEx hi,awx,Zw,ZD]
    rw [aox (by simp)]
    simpa [ZD] using this
   ·simp only [List.getD,Y6 (show ((List.range n).map fv).length≤i by simp;omega),Option.getD_none]
    trivial)
 have e0:[({ target:=.collected w.heap.size,args:=#[] }:Deferred)]++a.defers=oz D::a.defers:=rfl
 refine ⟨l,[{ target:=.collected w.heap.size,args:=#[] }],w1,{ target:=.fn (.func fi) cs,args:=#[.func (.yield l) #[] #[]] },w1,fi,#[.func (.yield l) #[] #[]]++cs,w1,?_,?_,fun _ _=>trivial,?_,fun h=>(by cases h),?_⟩
 ·rw [hw1]
  have:=run_enterLoop_outer (P:=P) (w:=w) fn a.tmps ps assign body
  rw [hL]
  exact this
 ·simp only [resolve,hcs]
  simp [go_sem]
 ·have:=pO hc (#[.func (.yield l) #[] #[]]++cs) w1
  simp [invoke,go_sem,this]
 ·refine CallsIn.mono (uI.2 hcall) ?_
  rintro e w3 ⟨v,r',H',St',rfl,hq,_,hu,h3,h4,h5,h6⟩
  -- the loop's end,whichever
  have key:∀ {γ:Type} {sp:γ→LoopState×Option Code} {HC:γ→List (Option Nat×bi)} {ψ:γ→Prop},H'=[(some l,.obj (o9 L sp HC ψ))]→(∀ x,(sp x).1≠.busy)→∃ x:γ,ψ x∧∃ w4,(Instr.endLoop l).run P w3=.ok (sp x).2 w4∧vy G ⟨s.env,s.b,HC x⟩ { a with defers:=[{ target:=.collected w.heap.size,args:=#[] }]++a.defers } w4:=by
   intro γ sp HC ψ hH hbusy
   subst hH
   obtain ⟨fz,hz⟩:=h6
   obtain ⟨x,fn',tmps',D',hx,_,_,fq,hf⟩:=hz.rep 0 (some l) _ rfl
   obtain ⟨hFl,hgl⟩:=hf.rep (HC x).length (some l) _ (sy _ _)
   have hlt:l<w3.heap.size:=(Y4.1 hgl).1
   refine ⟨x,hx,_,run_endLoop hgl (hbusy x),St',?_⟩
   obtain ⟨w4,hw4⟩:∃ w4,w4=w3.putObj l (.loop { gI fn' tmps' L D' (sp x) with state:=.exhausted }):=⟨_,rfl⟩
   rw [← hw4]
   have hold:∀ b,b≠l→w4.heap[b]?=w3.heap[b]?:=fun b hb=>by rw [hw4];exact World.putObj_heap_other hb
   have hs4:w4.heap.size=w3.heap.size:=by rw [hw4];simp
   have hf0:∀ b,F1 b→¬ St1 b:=hent.f0
   have hnl:∀ b,St1 b→b≠l:=fun b hb e=>hf0 b (.inr e) hb
   have hkeep:∀ b,St1 b→w4.heap[b]?=w1.heap[b]?:=fun b hb=>(hold b (hnl b hb)).trans (hu.block b (hent.s3 b hb) (fun hF=>hf0 b hF hb))
   have hkeep0:∀ b,St b→w4.heap[b]?=w.heap[b]?:=fun b hb=>(hkeep b (.inl hb)).trans (hb1.block b (hr.s3 b hb))
   have hnc:∀ cur t z,w3.heap[l]?≠some (.cells cur t z):=fun cur t z e=>by rw [hgl] at e;cases e
   have hev:qS St w w4:=⟨fun b cur t z hb hc=>(hkeep0 b hb).trans hc,fun b cur t z hc=>by
    obtain ⟨c1,z1,k1,k2⟩:=hev1.sh b cur t z hc
    obtain ⟨c2,z2,k3,k4⟩:=hu.sh b c1 t z1 k1
    refine ⟨c2,z2,(hold b (fun e=>?_)).trans k3,k4.trans k2⟩
    rw [e] at k3
    exact hnc _ _ _ k3⟩
   have hev3:qS St' w3 w4:=⟨fun b cur t z hb hc=>(hold b (fun e=>by rw [e] at hc;exact hnc _ _ _ hc)).trans hc,fun b cur t z hc=>⟨cur,z,(hold b (fun e=>by rw [e] at hc;exact hnc _ _ _ hc)).trans hc,rfl⟩⟩
   refine ⟨?_,hr.sz,fun d=>ba.evo hev (fun b hb=>h3 b (.inl hb)) _ _ (hr.env d),⟨?_,?_,?_,?_,fun k hk hF=>?_,fun b cur t z hc=>?_⟩,fun b hb=>h3 b (.inl (hr.s1 b hb)),fun b hb=>?_,fun b hb=>by rw [hs4];exact h5 b hb,⟨fun j b=>j<(HC x).length∧fq j b,fun j g r hj=>?_,fun i j b hi hj=>hf.dis i j b hi.2 hj.2,fun j b hj=>?_,fun j hj b hb=>?_⟩,?_,⟨fun g hg=>h3 g (.inl (hr.sg.1 g hg)),fun y hy=>h3 _ (.inl (hr.sg.2 y hy))⟩⟩
   ·obtain ⟨Ds,k1,k2,k3⟩:=hr.df
    refine ⟨D::Ds,by rw [e0,k1];rfl,aQx.2 ⟨fun hm=>?_,k2⟩,fun E hE=>?_⟩
    ·have:=(Y4.1 (k3 D hm).1.2).1
     simp only [D] at this
     omega
    ·rcases Zg.1 hE with rfl|hE
     ·refine ⟨⟨h3 _ (.inr rfl),(hkeep _ (.inr rfl)).trans hD1⟩,hr.un.size,fun hm=>?_,fun y hy e=>?_⟩
      ·have:=hr.sn.lt _ hm;simp only [D] at this;omega
      ·have:=hr.s3 _ (hr.sg.2 y hy);simp only [e,D] at this;omega
     ·obtain ⟨⟨k4,k5⟩,k6⟩:=k3 E hE
      exact ⟨⟨h3 _ (.inl k4),(hkeep0 E k4).trans k5⟩,k6⟩
   ·rw [hw4];exact (hu.os.trans hb1.os).trans hr.un.os
   ·rw [hw4];exact (hu.tape.trans hb1.tape).trans hr.un.tape
   ·rw [hw4];exact (hu.output.trans hb1.output).trans hr.un.output
   ·rw [hs4];exact Zd hr.un.size (Zd hb1.size hu.size)
   ·have hkw:k<w.heap.size:=Zf hk hr.un.size
    refine (hold k (by simp only [l];omega)).trans ((hu.block k O (fun hF1=>?_)).trans ((hb1.block k hkw).trans (hr.un.block k hk hF)))
    rcases hF1 with ⟨i,hi⟩|e
    ·rcases (hp.own i k hi).2.2 with k1|k1
     ·omega
     ·exact hF k1
    ·simp only [l] at e;omega
   ·obtain ⟨c1,z1,k1,k2⟩:=hr.un.sh b cur t z hc
    obtain ⟨c2,z2,k3,k4⟩:=hev.sh b c1 t z1 k1
    exact ⟨c2,z2,k3,k4.trans k2⟩
   ·rcases h4 b hb with (hb|hb)|hb|hb
    ·exact hr.s2 b hb
    ·exact .inr (.inl (by simp only [D] at hb;have:=hr.un.size;omega))
    ·exact .inr (.inl (Zd hr.un.size O))
    ·rcases hb with ⟨i,hi⟩|hb
     ·exact .inr (hp.own i b hi).2.2
     ·exact .inr (.inl (by simp only [l] at hb;have:=hr.un.size;omega))
   ·have hlt2:j<(HC x).length:=(YJ.1 hj).1
    have e:(fun b=>j<(HC x).length∧fq j b)=fq j:=funext fun b=>propext ⟨fun h=>h.2,fun h=>⟨hlt2,h⟩⟩
    show r.rep G.al St' w4 (fun b=>j<(HC x).length∧fq j b) g
    rw [e]
    refine bi.rep_evo hev3 (fun _ h=>h) (fun b hF=>hold b (fun eb=>?_)) (hf.rep j g r (by rw [YL hlt2];exact hj))
    have:=hf.dis j (HC x).length b hF ((hFl b).2 eb)
    omega
   ·obtain ⟨k1,k2,k3⟩:=hz.own 0 b ((hf.all b).2 ⟨j,hj.2⟩)
    refine ⟨by omega,k2,?_⟩
    rcases k3 with k3|⟨i,hi⟩|k3
    ·exact .inl (Zd hr.un.size O)
    ·exact (hp.own i b hi).2.2
    ·exact .inl (by simp only [l] at k3;have:=hr.un.size;omega)
   ·have hj:(HC x).length≤j:=hj
    exact absurd hb.1 O
   ·exact gc.keep hr.sn (fun g hg=>hkeep0 g (hr.sg.1 g hg)) (fun y hy=>hkeep0 _ (hr.sg.2 y hy))
  rcases hq with hq|hq
  ·obtain ⟨x,hx,w4,hend,hrel⟩:=key hq (fun _=>by simp)
   exact ⟨none,w4,hend,hQ .normal _ _ _ (hdone x hx) hrel⟩
  ·obtain ⟨x,hx,w4,hend,hrel⟩:=key hq (fun _=>by simp)
   refine ⟨some x.1,w4,hend,?_⟩
   rcases hjump _ _ hx with ⟨hc1,hR⟩|⟨id,hc1,hR⟩
   ·show Code.wpIn _ _ _ x.1 _ _ _
    rw [hc1]
    exact wpIn_ret (hQ .ret _ _ _ hR hrel)
   ·show Code.wpIn _ _ _ x.1 _ _ _
    rw [hc1]
    exact wpIn_exit (hQ (.exit id) _ _ _ hR hrel)
theorem uN {body:Code} {B:List (Option Nat×bi)} {l:Nat} {R0 R1:OP} {RE:Exit→AS→Prop} {env:List (Nat×CV)} {b:Nat→CV} (h:bj P G body ⟨env,b,B++[(some l,.obj R1)]⟩ RE):BM P G body B l R0 R1 RE .normal ⟨env,b,B++[(some l,.obj R0)]⟩:=⟨_,_,rfl,h⟩
theorem rc {π q:Type} {l:Nat} {R1:OP} {HB:π→List (Option Nat×bi)} {φ':π→Prop} {HX:q→List (Option Nat×bi)} {χ:Code→q→Prop} (x:π) (h1:φ' x) (h2:Nat.ble ((HB x).length+1) s.H.length=true) (h3:aP (s.H.take ((HB x).length+1)) (HB x++[(some l,.obj R1)])):AR l R1 HB φ' HX χ .normal s:=⟨x,h1,YU h2,h3⟩
theorem pQ {π q:Type} {l:Nat} {R1:OP} {HB:π→List (Option Nat×bi)} {φ':π→Prop} {HX:q→List (Option Nat×bi)} {χ:Code→q→Prop} (x:q) (h1:χ .ret x) (h2:Nat.ble ((HX x).length+1) s.H.length=true) (h3:aP (s.H.take ((HX x).length+1)) (HX x++[(some l,.obj R1)])):AR l R1 HB φ' HX χ .ret s:=⟨x,h1,YU h2,h3⟩
theorem IK {o:Oper} {t u e:TypeId} {x:Operand} {i n N:Nat} {g:Option Nat} {L:Z} (ho:o.op=.convert t u x) (hx:s.eval x=.os i g 0 n 1) (hH:Holds s i g N (bc L)) (hn:n=L.length) (hN:n≤N) (h1:P.underlying t=some (.slice e)) (h2:P.underlying e=some (.int .u8)) (h3:P.underlying u=some .string):kF P G o s (an L) :=
 IH L ho hx hH hn O (fun a _=>by rw [Nat.zero_add];exact I) h1 h2 h3
end
def dZ {α:Type} (p:α→Bool):List α→Int
 | []=>-1
 | x::l=>if p x=true then 0 else if dZ p l<0 then -1 else dZ p l+1
theorem nh {α:Type} (p:α→Bool):∀ l:List α,-1≤dZ p l∧dZ p l<l.length
 | []=>by simp [dZ]
 | x::l=>by
  have:=nh p l
  rw [dZ]
  rw [List.length_cons]
  split
  ·omega
  split <;> omega
theorem rB {α:Type} {p:α→Bool}:∀ {l:List α},dZ p l<0↔l.all (fun x=>!p x)=true
 | []=>by simp [dZ]
 | x::l=>by
  have ih:=@rB α p l
  have:=nh p l
  rw [dZ,Z6]
  by_cases h:p x=true
  ·simp [h]
  ·rw [YE h]
   have hx:(!p x)=true:=by simpa using h
   rw [hx,Zr,← ih]
   split <;> omega
theorem mo {α:Type} {p:α→Bool} {l:List α} (h:∀ i (hi:i<l.length),p l[i]=false):dZ p l=-1:=by
 have h1:dZ p l<0:=rB.2 (Y8.2 fun x hx=>by
  obtain ⟨i,hi,rfl⟩:=acx hx
  simp [h i hi])
 have:=nh p l
 omega
theorem ni {α:Type} {p:α→Bool}:∀ {l:List α} (i:Nat) (hi:i<l.length),p l[i]=true→(∀ j (hj:j<i),p (l[j]'O)=false)→dZ p l=(i:Nat)
 | [],i,hi,_,_=>by simp at hi
 | x::l,0,hi,h,_=>by simp at h;simp [dZ,h]
 | x::l,i+1,hi,h,hb=>by
  have h0:p x=false:=by simpa using hb 0 O
  have ih:=@ni α p l i (by simpa using hi) (by simpa using h) (fun j hj=>by simpa using hb (j+1) O)
  rw [dZ,YE (by simp [h0]),ih,jK]
  omega
theorem z7:∀ l:List CV,oQ l l
 | []=>.nil
 | c::l=>.cons (aa.refl c) (z7 l)
theorem nZ {c d:CV} (h:aa c d) (l:List CV):oQ ([c]++l) (d::l):=.cons h (z7 l)
theorem aa.fn0 {g:FuncId} {f:Nat→CV}:aa (.c (.func (.func g) #[] #[])) (.fn g 0 f):=fun al St w v h=>⟨#[],h,rfl,fun i hi=>absurd hi (YW i)⟩
theorem rC {α:Type} (p:α→Bool) (l:List α):decide (0≤dZ p l)=l.any p:=by
 have:=@rB _ p l
 by_cases h:dZ p l<0
 ·have h2:=this.1 h
  rw [Zl O]
  symm
  rw [bBx]
  intro x hx h3
  have:=Y8.1 h2 x hx
  rw [h3] at this
  exact Bool.noConfusion this
 ·have h2:=mt this.2 h
  rw [Zj O]
  symm
  rw [aIx]
  simpa using h2
theorem uO {α:Type} (p:α→Bool) (l:List α):(!l.any fun x=>!p x)=l.all p:=by
 induction l with
 | nil=>rfl
 | cons a l ih=>simp only [List.any_cons,Z6,Bool.not_or,bLx,ih]
theorem aa.rp {n:Nat} {f g:Nat→CV} (h:∀ j,j<n→aa (f j) (g j)):aa (.rp n f) (.rp n g):=fun al St w v ⟨b,o,h1,h2,h3⟩ =>
 ⟨b,o,h1,h2,fun j hj=>by
  obtain ⟨x,hx,hr⟩:=h3 j hj
  exact ⟨x,hx,h j hj al St w x hr⟩⟩
theorem aa.fn3 {k:FuncId} {f g:Nat→CV} (h0:aa (f 0) (g 0)) (h1:aa (f 1) (g 1)) (h2:aa (f 2) (g 2)):aa (.fn k 3 f) (.fn k 3 g):=fun al St w v ⟨cs,k1,k2,k3⟩ =>
 ⟨cs,k1,k2,fun i hi=>match i,hi with
  | 0,hi=>h0 al St w _ (k3 0 hi)
  | 1,hi=>h1 al St w _ (k3 1 hi)
  | 2,hi=>h2 al St w _ (k3 2 hi)⟩
theorem aa.fn1 {k:FuncId} {f g:Nat→CV} (h:aa (f 0) (g 0)):aa (.fn k 1 f) (.fn k 1 g):=fun al St w v ⟨cs,h1,h2,h3⟩ =>
 ⟨cs,h1,h2,fun i hi=>by
  obtain rfl:i=0:=by omega
  exact h al St w _ (h3 0 hi)⟩
theorem Ao.look2 {D:List Nat} {b0 b2:Nat→CV} {env2:List (Nat×CV)} (h:Ao D b0 b2) (h3:(env2.all fun x=>D.any (Nat.beq x.1))=true):Ao D b0 (look env2 b2):=Ao.nest (D2:=[]) (env2:=env2) (b2:=b2) h rfl h3
section
variable {P:Program} {G:Gh} {ops:Array Oper} {o:Oper} {s:AS} {r:List Oper} {K:AS→Prop} {R:Exit→AS→Prop} {Y:AS→Prop} {x y:Code} {env:List (Nat×CV)} {b0:Nat→CV} {H:List (Option Nat×bi)}

def SG:Nat→(Nat→Prop)→Prop
 | 0,_=>True
 | n+1,p=>p 0∧SG n fun j=>p (j+1)
theorem Vu:∀ {n:Nat} {p:Nat→Prop},SG n p→∀ j,j<n→p j
 | 0,_,_,j,hj=>absurd hj (YW j)
 | n+1,_,h,0,_=>h.1
 | n+1,_,h,j+1,hj=>Vu h.2 j (Nat.lt_of_succ_lt_succ hj)
theorem oB {n:Nat} {F H:Nat→CV} (h:SG n fun j=>aa (F j) (H j):=by (repeat refine And.intro (by first|exact I|exact cN|exact aa.nilS' rfl|exact cO rfl|exact cP|exact aa.fn0) ?_);exact True.intro) (j:Nat) (hj:j<n):aa (F j) (H j):=Vu h j hj
theorem iD {n m:Nat} {F H:Nat→CV} (hn:n=m:=by exact rfl) (h:SG n fun j=>aa (F j) (H j):=by (repeat refine And.intro (by first|exact I|exact cN|exact aa.nilS' rfl|exact cO rfl|exact cP|exact aa.fn0) ?_);exact True.intro):aa (.agg n F) (.agg m H):=aa.agg hn (Vu h)

def XH:CV→Option CV
 | .top=>some .top
 | .c v=>some (.c v)
 | .err k=>some (.err k)
 | .agg n f=>some (.agg n f)
 | .tup n f=>some (.tup n f)
 | .rs k n f=>some (.rs k n f)
 | .rp n f=>some (.rp n f)
 | .os i g off n k=>some (.os i g off n k)
 | .op i g off=>some (.op i g off)
 | .fn g n f=>some (.fn g n f)
 | .pv p=>some (.pv p)
theorem rx {c v:CV} (h:XH c=some v):c=v:=by cases c <;> (simp only [XH,Zi] at h;exact h)
def pp:List (Nat×CV)→Nat→Option CV
 | [],_=>none
 |(e,v)::r,d=>match Nat.beq e d with|true=>some v|false=>pp r d
theorem po {b:Nat→CV} {d:Nat} {v:CV}:∀ {env:List (Nat×CV)},pp env d=some v→look env b d=v
 |(e,u)::r,h=>by
  unfold pp at h;unfold look
  cases hb:Nat.beq e d with
  | true=>rw [hb] at h;exact Y9 h
  | false=>rw [hb] at h;exact po h
theorem uB {b:Nat→CV} {d:Nat}:∀ {env:List (Nat×CV)},pp env d=none→look env b d=b d
 | [],_=>rfl
 |(e,u)::r,h=>by
  unfold pp at h;unfold look
  cases hb:Nat.beq e d with
  | true=>rw [hb] at h;cases h
  | false=>rw [hb] at h;exact uB h
theorem xc {d:Nat} {v:CV} (h:pp s.env d=some v):s.eval (.tmp d)=v:=po h
theorem xd {D:List Nat} {e2:List (Nat×CV)} {b2:Nat→CV} {d:Nat} {v:CV} (h:pp env d=none) (hD:D.any (Nat.beq d)=false) (h2:pp e2 d=some v):(⟨env,uA D e2 b2,H⟩:AS).eval (.tmp d)=v:=by
 show look env (uA D e2 b2) d=v
 rw [uB h]
 unfold uA
 rw [hD]
 exact po h2
theorem xe {x:Operand} {v:CV} (h:XH (s.eval x)=some v):s.eval x=v:=rx h
def WF:List CV→Nat→Option CV
 | [],_=>none
 | x::_,0=>some x
 | _::r,i+1=>WF r i
theorem nU:∀ {l:List CV} {i:Nat} {v:CV},WF l i=some v→fl l i=v
 | x::_,0,v,h=>Y9 h
 | _::r,i+1,v,h=>nU (l:=r) h

def Bj (P:Program) (t:TypeId) (m:Nat):Bool:=match P.underlying t with|some (.slice e)=>(match (P.info? e).map (·.size) with|some k=>Nat.beq k m|none=>false)|_=>false
theorem nT {t:TypeId} {m:Nat} (h:Bj P t m=true):∃ e,P.underlying t=some (.slice e)∧(P.info? e).map (·.size)=some m:=by
 unfold Bj at h
 split at h
 ·rename_i e he
  refine ⟨e,he,?_⟩
  split at h
  ·rename_i k hk;rw [hk,Zm h]
  ·cases h
 ·cases h
def UH (P:Program) (t:TypeId):Bool:=match P.underlying t with|some (.slice _)=>true|_=>false
theorem Rz {t:TypeId} (h:UH P t=true):∃ e,P.underlying t=some (.slice e):=by
 unfold UH at h
 split at h
 ·rename_i e he;exact ⟨e,he⟩
 ·cases h
def Jp (P:Program) (t:TypeId):Bool:=match P.underlying t with|some (.slice e)=>(match P.underlying e with|some (.int .u8)=>true|_=>false)|_=>false
theorem vm {t:TypeId} (h:Jp P t=true):∃ e,P.underlying t=some (.slice e)∧P.underlying e=some (.int .u8):=by
 unfold Jp at h
 split at h
 ·rename_i e he
  split at h
  ·rename_i h2;exact ⟨e,he,h2⟩
  ·cases h
 ·cases h
def RC (P:Program) (t:TypeId) (i:Nat):Option (Nat×Nat×Bool):=match P.underlying t with
 | some (.struct fs)=>(match fs[i]? with|some fd=>(match (P.info? fd.type).map (·.size),P.underlying fd.type with|some m,some _=>some (fd.offset,m,iw P fd.type)|_,_=>none)|none=>none)
 | _=>none
theorem GM {t:TypeId} {i q m:Nat} {b:Bool} (h:RC P t i=some (q,m,b)):∃ fs fd d,P.underlying t=some (.struct fs)∧fs[i]?=some fd∧P.underlying fd.type=some d∧iw P fd.type=b∧(P.info? fd.type).map (·.size)=some m∧fd.offset=q:=by
 unfold RC at h
 split at h
 ·rename_i fs h1
  split at h
  ·rename_i fd h2
   split at h
   ·rename_i k d h3 h4
    simp only [Zi,b3x] at h
    exact ⟨fs,fd,d,h1,h2,h4,h.2.2,by rw [h3,h.2.1],h.1⟩
   ·cases h
  ·cases h
 ·cases h
def Np (P:Program) (t:TypeId) (m:Nat) (b:Bool):Bool:=match (P.info? t).map (·.size),P.underlying t with|some k,some _=>Nat.beq k m && (iw P t == b)|_,_=>false
theorem Bi {t:TypeId} {m:Nat} {b:Bool} (h:Np P t m b=true):∃ d,P.underlying t=some d∧iw P t=b∧(P.info? t).map (·.size)=some m:=by
 unfold Np at h
 split at h
 ·rename_i k d h1 h2
  rw [YK,ZZ] at h
  exact ⟨d,h2,h.2,by rw [h1,Zm h.1]⟩
 ·cases h
def Jo (P:Program) (t:TypeId):Bool:=match P.underlying t with|some _=>!(iw P t)|none=>false
theorem vj {t:TypeId} (h:Jo P t=true):∃ d,P.underlying t=some d∧iw P t=false:=by
 unfold Jo at h
 split at h
 ·rename_i d hd;exact ⟨d,hd,by simpa using h⟩
 ·cases h

def S8:Op→Option Operand|.move x=>some x|.assign x=>some x|_=>none
theorem UI {x:Operand} {v:CV} (ho:S8 o.op=some x:=by exact rfl) (hv:s.eval x=v:=by first|exact xc rfl|exact xd rfl rfl rfl|exact xe rfl):ci P G o s v:=by
 unfold S8 at ho
 split at ho
 ·rename_i z hz;exact QG hz (by rw [Y9 ho];exact hv)
 ·rename_i z hz;exact IL hz (by rw [Y9 ho];exact hv)
 ·cases ho
theorem Wx {z x' y':Operand} {v:CV} (ho:o.op=.pick z x' y':=by exact rfl) (hz:s.eval z=.c (.bool true):=by exact rfl) (hx:s.eval x'=v:=by first|exact xc rfl|exact xd rfl rfl rfl|exact xe rfl):ci P G o s v:=LR ho hz hx
theorem Wy {z x' y':Operand} {v:CV} (ho:o.op=.pick z x' y':=by exact rfl) (hz:s.eval z=.c (.bool false):=by exact rfl) (hy:s.eval y'=v:=by first|exact xc rfl|exact xd rfl rfl rfl|exact xe rfl):ci P G o s v:=LS ho hz hy
theorem Yn {x:Operand} {i n:Nat} {f:Nat→CV} {v:CV} (ho:o.op=.extract x i:=by exact rfl) (hx:s.eval x=.tup n f:=by exact rfl) (hi:Nat.blt i n=true:=by exact rfl) (hv:f i=v:=by first|exact nU rfl|exact rx rfl):ci P G o s v:=EJ ho hx hi hv
def Te (op:BinOp) (a b:Int):Option Bool:=match op with
 | .eql=>some (decide (a=b))
 | .neq=>some (decide (a≠b))
 | .lss=>some (decide (a<b))
 | .leq=>some (decide (a≤b))
 | .gtr=>some (decide (b<a))
 | .geq=>some (decide (b≤a))
 | _=>none
theorem X2 {op:BinOp} {t u:TypeId} {x y:Operand} {k:IntKind} {a b:Int} {z:Bool} (ho:o.op=.binOp op t x y u:=by exact rfl) (hx:s.eval x=.c (.int k a):=by exact rfl) (hy:s.eval y=.c (.int k b):=by exact rfl) (hc:Te op a b=some z:=by exact rfl):ci P G o s (.c (.bool z)):=by
 cases op <;> simp only [Te,Zi,reduceCtorEq] at hc
 all_goals subst hc
 ·exact Ud ho hx hy
 ·exact T0 ho hx hy
 ·exact Wa ho hx hy
 ·exact Wb ho hx hy
 ·exact Wc ho hx hy
 ·exact Wd ho hx hy
def WJ (op:BinOp) (a b:Int):Option Int:=match op with
 | .add=>some (a+b)
 | .sub=>some (a-b)
 | .mul=>some (a * b)
 | _=>none
theorem Nu {op:BinOp} {t u:TypeId} {x y:Operand} {k:IntKind} {a b z:Int} (ho:o.op=.binOp op t x y u:=by exact rfl) (hx:s.eval x=.c (.int k a):=by exact rfl) (hy:s.eval y=.c (.int k b):=by exact rfl) (hc:WJ op a b=some z:=by exact rfl) (hS:An k z:=by (show _∧_;(first|omega|decide|(dsimp only at *;omega)))):ci P G o s (.c (.int k z)):=by
 cases op <;> simp only [WJ,Zi,reduceCtorEq] at hc
 all_goals subst hc
 ·exact Ug ho hx hy (cC hS)
 ·exact TV ho hx hy (cC hS)
 ·exact T4 ho hx hy (cC hS)
theorem Yp {t u:TypeId} {x y:Operand} {k:IntKind} {a b:Int} (ho:o.op=.binOp .quo t x y u:=by exact rfl) (hx:s.eval x=.c (.int k a):=by exact rfl) (hy:s.eval y=.c (.int k b):=by exact rfl) (hS:0≤a:=by first|omega|decide|(dsimp only at *;omega)) (hS2:1≤b:=by first|omega|decide|(dsimp only at *;omega)) (hS3:An k (a / b):=by (show _∧_;(first|omega|decide|(dsimp only at *;omega)))):ci P G o s (.c (.int k (a / b))):=LQ ho hx hy hS hS2 (cC hS3)
theorem Yo {t u:TypeId} {x y:Operand} {k:IntKind} {a b:Int} (ho:o.op=.binOp .rem t x y u:=by exact rfl) (hx:s.eval x=.c (.int k a):=by exact rfl) (hy:s.eval y=.c (.int k b):=by exact rfl) (hS:0≤a:=by first|omega|decide|(dsimp only at *;omega)) (hS2:1≤b:=by first|omega|decide|(dsimp only at *;omega)):ci P G o s (.c (.int k (a % b))):=LP ho hx hy hS hS2
def Td (op:BinOp) (a b:Z):Option Bool:=match op with
 | .eql=>some (decide (a=b))
 | .neq=>some (decide (a≠b))
 | .lss=>some (Op.bytesLess a b)
 | .gtr=>some (!(Op.bytesLess a b || a == b))
 | _=>none
theorem Ff {op:BinOp} {t u:TypeId} {x y:Operand} {a b:Z} {z:Bool} (ho:o.op=.binOp op t x y u:=by exact rfl) (hx:s.eval x=an a:=by exact rfl) (hy:s.eval y=an b:=by exact rfl) (hc:Td op a b=some z:=by exact rfl):ci P G o s (.c (.bool z)):=by
 cases op <;> simp only [Td,Zi,reduceCtorEq] at hc
 all_goals subst hc
 ·exact Uc ho hx hy
 ·exact TZ ho hx hy
 ·exact T6 ho hx hy
 ·exact Ua ho hx hy
theorem Nt {t u:TypeId} {x y:Operand} {a b:Z} (ho:o.op=.binOp .add t x y u:=by exact rfl) (hx:s.eval x=an a:=by exact rfl) (hy:s.eval y=an b:=by exact rfl) (hS:a.length+b.length≤9223372036854775807:=by first|omega|decide|(dsimp only at *;omega)):ci P G o s (an (a++b)):=QR ho hx hy hS
theorem XF {op:BinOp} {t u:TypeId} {x y:Operand} {a b z:Bool} (ho:o.op=.binOp op t x y u:=by exact rfl) (hx:s.eval x=.c (.bool a):=by exact rfl) (hy:s.eval y=.c (.bool b):=by exact rfl) (hc:(match op with|.eql=>some (a == b)|.neq=>some (!(a == b))|_=>none)=some z:=by exact rfl) (hT:P.underlying t=some .bool:=by kernel_rfl):ci P G o s (.c (.bool z)):=by
 cases op <;> simp only [Zi,reduceCtorEq] at hc
 all_goals subst hc
 ·exact Uf ho hx hy hT
 ·exact T3 ho hx hy hT
def Di (c:CV) (z:Bool):Prop:=c=.c (.bool (!z))
theorem WB {p:Prop} [Decidable p] {c:CV} (h:c=.c (.bool (decide p))):Di c (decide ¬ p):=by unfold Di;rw [h];simp
theorem WC {p:Bool} {c:CV} (h:c=.c (.bool p)):Di c (!p):=by unfold Di;rw [h,bLx]
theorem X1 {t:TypeId} {x:Operand} {z:Bool} (ho:o.op=.unOp .not t x:=by exact rfl) (hx:Di (s.eval x) z:=by first|exact WB rfl|exact WC rfl):ci P G o s (.c (.bool z)):=by
 have:=TX (P:=P) (G:=G) ho hx
 rwa [bLx] at this
def Ta:CV→Option Int
 | .rs _ n _=>some ((n:Nat):Int)
 | .os _ _ _ n _=>some ((n:Nat):Int)
 | .c (.slice none 0 0)=>some 0
 | _=>none
theorem UJ {x:Operand} {t:TypeId} {z:Int} (ho:o.op=.call ⟨.builtin .len,#[x],#[t]⟩:=by exact rfl) (hx:Ta (s.eval x)=some z:=by exact rfl) (hT:UH P t=true:=by kernel_rfl):ci P G o s (.c (.int .i64 z)):=by
 obtain ⟨e,he⟩:=Rz hT
 unfold Ta at hx
 split at hx
 ·rename_i h;cases hx;exact QK ho h he
 ·rename_i h;cases hx;exact QL ho h he
 ·rename_i h;cases hx;exact QM ho h he
 ·cases hx
theorem Wz {x:Operand} {t:TypeId} {a:Z} (ho:o.op=.call ⟨.builtin .len,#[x],#[t]⟩:=by exact rfl) (hx:s.eval x=an a:=by exact rfl) (hT:P.underlying t=some .string:=by kernel_rfl):ci P G o s (.c (.int .i64 (a.length:Nat))):=QN ho hx hT
theorem S6 (q m:Nat) {t:TypeId} {x:Operand} {i n:Nat} {f:Nat→CV} {v:CV} (ho:o.op=.field t x i:=by exact rfl) (hx:s.eval x=.agg n f:=by exact rfl) (hv:f q=v:=by first|exact nU rfl|exact rx rfl) (hi:Nat.blt q n=true:=by exact rfl) (hT:RC P t i=some (q,m,false):=by kernel_rfl):ci P G o s v:=by
 obtain ⟨fs,fd,d,h1,h2,h3,h4,h5,h6⟩:=GM hT
 subst h6
 exact LY ho hx h1 h2 h3 h4 hi hv
def WG (q:Nat):CV→Option CV
 | .op j g off=>some (.op j g (off+q))
 | .rp n f=>some (.rp (n-q) fun j=>f (q+j))
 | _=>none
theorem fF (q m:Nat) (b:Bool) {t:TypeId} {x:Operand} {i:Nat} {v:CV} (ho:o.op=.fieldAddr t x i:=by exact rfl) (hx:WG q (s.eval x)=some v:=by exact rfl) (hm:Nat.blt 0 m=true:=by exact rfl) (hT:RC P t i=some (q,m,b):=by kernel_rfl):ci P G o s v:=by
 obtain ⟨fs,fd,d,h1,h2,h3,h4,h5,h6⟩:=GM hT
 subst h6
 unfold WG at hx
 split at hx
 ·rename_i h;cases hx;exact IF ho h h1 h2 h5 hm
 ·rename_i h;cases hx;exact IE ho h h1 h2 h5 hm
 ·cases hx
def WE (i:Nat):CV→Option (CV×Nat×Nat)
 | .rs m n f=>some (.rp m (f i),n,m)
 | .os j g off n m=>some (match Nat.beq off 0,Nat.beq m 1 with|true,true=>.op j g i|_,_=>.op j g (off+i * m),n,m)
 | _=>none
theorem dU {i:Nat} {t:TypeId} {x y:Operand} {k:IntKind} {z:Int} {v:CV} {n m:Nat} (ho:o.op=.indexAddr t x y:=by exact rfl) (hy:s.eval y=.c (.int k z):=by exact rfl) (hz:z=(i:Int):=by first|exact rfl|exact wP O) (hx:WE i (s.eval x)=some (v,n,m):=by exact rfl) (hS:i<n:=by first|omega|decide|(dsimp only at *;omega)) (hm:Nat.blt 0 m=true:=by exact rfl) (hT:Bj P t m=true:=by kernel_rfl):ci P G o s v:=by
 obtain ⟨e,h1,h5⟩:=nT hT
 unfold WE at hx
 split at hx
 ·rename_i h;cases hx;exact IC ho h hy h1 h5 hz hS (YU hm)
 ·rename_i j g off n' m' h
  cases hx
  cases h6:Nat.beq off 0 with
  | false=>exact gh ho h hy h1 h5 hz hS
  | true =>
   cases h7:Nat.beq m 1 with
   | false=>exact gh ho h hy h1 h5 hz hS
   | true =>
    have e1:=Zm h6
    have e2:=Zm h7
    subst e1 e2
    exact EI ho h hy h1 h5 hz hS
 ·cases hx
theorem Bk {i:Nat} {t:TypeId} {x y:Operand} {k:IntKind} {z:Int} {a:Z} (ho:o.op=.index t x y:=by exact rfl) (hx:s.eval x=an a:=by exact rfl) (hy:s.eval y=.c (.int k z):=by exact rfl) (hz:z=(i:Int):=by first|exact rfl|exact wP O) (hS:i<a.length:=by first|omega|decide|(dsimp only at *;omega)) (hT:P.underlying t=some .string:=by kernel_rfl):ci P G o s (bc a i):=Iz ho hx hy hT hz hS
def S7:CV→Option CV
 | .op i g off=>some (.op i g off)
 | .rp n f=>some (.rp n f)
 | .fn g n f=>some (.fn g n f)
 | _=>none
theorem RA {x:Operand} {v:CV} (ho:o.op=.nilCheck x:=by exact rfl) (hx:S7 (s.eval x)=some v:=by exact rfl):ci P G o s v:=by
 unfold S7 at hx
 split at hx
 ·rename_i h;cases hx;exact QB ho h
 ·rename_i h;cases hx;exact QA ho h
 ·rename_i h;cases hx;exact QC ho h
 ·cases hx
theorem Nr {g:FuncId} {cs:Array Operand} {n:Nat} (ho:o.op=.makeFunc (.func g) #[] cs:=by exact rfl) (hn:cs.size=n:=by exact rfl):ci P G o s (.fn g n (fl (cs.toList.map s.eval))):=CF ho hn
theorem ru (k':IntKind) {c:UInt8} {t u:TypeId} {x:Operand} (ho:o.op=.convert t u x:=by exact rfl) (hx:s.eval x=.c (.int .u8 ((c.toNat:Nat):Int)):=by exact rfl) (h1:P.underlying t=some (.int .u8):=by kernel_rfl) (h2:P.underlying u=some (.int k'):=by kernel_rfl) (hk:B4 k'=true:=by exact rfl):ci P G o s (.c (.int k' ((c.toNat:Nat):Int))):=L0 ho hx h1 h2 hk
theorem vi (k k':IntKind) {a:Int} {t u:TypeId} {x:Operand} (ho:o.op=.convert t u x:=by exact rfl) (hx:s.eval x=.c (.int k a):=by exact rfl) (hS:An k' a:=by (show _∧_;(first|omega|decide|(dsimp only at *;omega)))) (h1:P.underlying t=some (.int k):=by kernel_rfl) (h2:P.underlying u=some (.int k'):=by kernel_rfl):ci P G o s (.c (.int k' a)):=cG ho hx h1 h2 a (cC hS)
theorem yc (k k':IntKind) {a z:Int} {t u:TypeId} {x:Operand} (ho:o.op=.convert t u x:=by exact rfl) (hx:s.eval x=.c (.int k a):=by exact rfl) (hr:k'.wrap a=z:=by exact rfl) (h1:P.underlying t=some (.int k):=by kernel_rfl) (h2:P.underlying u=some (.int k'):=by kernel_rfl):ci P G o s (.c (.int k' z)):=cG ho hx h1 h2 z hr
theorem Fg {t u:TypeId} {x:Operand} {a:Z} (ho:o.op=.convert t u x:=by exact rfl) (hx:s.eval x=aV a:=by exact rfl) (hT:Jp P t=true:=by kernel_rfl) (h3:P.underlying u=some .string:=by kernel_rfl):ci P G o s (an a):=by
 obtain ⟨e,h1,h2⟩:=vm hT
 exact IJ ho hx h1 h2 h3
theorem XG {t u:TypeId} {x:Operand} (ho:o.op=.convert t u x:=by exact rfl) (hx:s.eval x=.c (.slice none 0 0):=by exact rfl) (hT:Jp P t=true:=by kernel_rfl) (h3:P.underlying u=some .string:=by kernel_rfl):ci P G o s (.c (.string ⟨#[]⟩)):=by
 obtain ⟨e,h1,h2⟩:=vm hT
 exact II ho hx h1 h2 h3
theorem Ns {t u:TypeId} {x:Operand} {i n N:Nat} {g:Option Nat} {L:Z} (ho:o.op=.convert t u x:=by exact rfl) (hx:s.eval x=.os i g 0 n 1:=by exact rfl) (hH:Holds s i g N (bc L):=by first|exact .inl rfl|exact .inr rfl) (hn:n=L.length:=by first|rfl|simp) (hN:n≤N:=by first|exact YG _|simp) (hT:Jp P t=true:=by kernel_rfl) (h3:P.underlying u=some .string:=by kernel_rfl):kF P G o s (an L):=by
 obtain ⟨e,h1,h2⟩:=vm hT
 exact IK ho hx hH hn hN h1 h2 h3
theorem qB {t:TypeId} {p a:Operand} {z1:Int} {k1:IntKind} {l:Nat} {bl:Z} (ho:o.op=.slice t p (some a) none none:=by exact rfl) (hx:s.eval p=aV bl:=by exact rfl) (ha:s.eval a=.c (.int k1 z1):=by exact rfl) (hz1:z1=(l:Int):=by first|exact rfl|exact wP O) (hS:l≤bl.length:=by first|omega|decide|(dsimp only at *;omega)) (hT:Bj P t 1=true:=by kernel_rfl):ci P G o s (aV (bl.drop l)):=by
 obtain ⟨e,h1,h5⟩:=nT hT
 exact wA ho hx h1 h5 ha hz1 hS
theorem w9 {t:TypeId} {p b:Operand} {z2:Int} {k2:IntKind} {v:Nat} {bl:Z} (ho:o.op=.slice t p none (some b) none:=by exact rfl) (hx:s.eval p=aV bl:=by exact rfl) (hb:s.eval b=.c (.int k2 z2):=by exact rfl) (hz2:z2=(v:Int):=by first|exact rfl|exact wP O) (hS:v≤bl.length:=by first|omega|decide|(dsimp only at *;omega)) (hT:Bj P t 1=true:=by kernel_rfl):ci P G o s (aV (bl.take v)):=by
 obtain ⟨e,h1,h5⟩:=nT hT
 exact AV ho hx h1 h5 hb hz2 hS
theorem Nq {t:TypeId} {p a b:Operand} {z1 z2:Int} {k1 k2:IntKind} {l v:Nat} {bl:Z} (ho:o.op=.slice t p (some a) (some b) none:=by exact rfl) (hx:s.eval p=aV bl:=by exact rfl) (ha:s.eval a=.c (.int k1 z1):=by exact rfl) (hz1:z1=(l:Int):=by first|exact rfl|exact wP O) (hb:s.eval b=.c (.int k2 z2):=by exact rfl) (hz2:z2=(v:Int):=by first|exact rfl|exact wP O) (hS:l≤v:=by first|omega|decide|(dsimp only at *;omega)) (hS2:v≤bl.length:=by first|omega|decide|(dsimp only at *;omega)) (hT:Bj P t 1=true:=by kernel_rfl):ci P G o s (aV ((bl.take v).drop l)):=by
 obtain ⟨e,h1,h5⟩:=nT hT
 exact Iu ho hx h1 h5 ha hz1 hb hz2 hS hS2
theorem Jl {t:TypeId} {p:Operand} {m n l v:Nat} {f:Nat→Nat→CV} {lo hi:Option Operand} (ho:o.op=.slice t p lo hi none:=by exact rfl) (hx:s.eval p=.rs m n f:=by exact rfl) (hl:Bd s 0 lo l:=by first|exact bG _ _|exact cw rfl rfl|exact cw rfl (wP O)) (hu:Bd s n hi v:=by first|exact bG _ _|exact cw rfl rfl|exact cw rfl (wP O)) (hS:l≤v:=by first|omega|decide|(dsimp only at *;omega)) (hS2:v≤n:=by first|omega|decide|(dsimp only at *;omega)) (hT:Bj P t m=true:=by kernel_rfl):ci P G o s (.rs m (v-l) fun i j=>f (l+i) j):=by
 obtain ⟨e,h1,h5⟩:=nT hT
 exact pS ho hx h1 h5 hl hu hS hS2
theorem Fe {t:TypeId} {p:Operand} {i off m n l v:Nat} {g:Option Nat} {lo hi:Option Operand} (ho:o.op=.slice t p lo hi none:=by exact rfl) (hx:s.eval p=.os i g off n m:=by exact rfl) (hl:Bd s 0 lo l:=by first|exact bG _ _|exact cw rfl rfl|exact cw rfl (wP O)) (hu:Bd s n hi v:=by first|exact bG _ _|exact cw rfl rfl|exact cw rfl (wP O)) (hS:l≤v:=by first|omega|decide|(dsimp only at *;omega)) (hS2:v≤n:=by first|omega|decide|(dsimp only at *;omega)) (hS3:l=0∨l<n:=by first|omega|decide|(dsimp only at *;omega)) (hT:Bj P t m=true:=by kernel_rfl):ci P G o s (.os i g (off+l * m) (v-l) m):=by
 obtain ⟨e,h1,h5⟩:=nT hT
 exact yV ho hx h1 h5 hl hu hS hS2 hS3
theorem gm {t:TypeId} {x:Operand} {i off n:Nat} {g:Option Nat} {f:Nat→CV} {v:CV} (ho:o.op=.load t x:=by exact rfl) (hx:s.eval x=.op i g off:=by exact rfl) (hH:Holds s i g n f:=by first|exact .inl rfl|exact .inr rfl) (hv:f off=v:=by first|exact nU rfl|exact rx rfl) (hn:off<n:=by first|decide|omega|(dsimp only at *;omega)) (hT:Jo P t=true:=by kernel_rfl):kF P G o s v:=by
 obtain ⟨d,h1,ha⟩:=vj hT
 exact LW ho hx hH h1 ha hn hv
theorem kC {t:TypeId} {x:Operand} {n:Nat} {f:Nat→CV} {v:CV} (ho:o.op=.load t x:=by exact rfl) (hx:s.eval x=.rp n f:=by exact rfl) (hv:f 0=v:=by first|exact nU rfl|exact rx rfl) (hn:0<n:=by first|decide|omega|(dsimp only at *;omega)) (hT:Jo P t=true:=by kernel_rfl):ci P G o s v:=by
 obtain ⟨d,h1,ha⟩:=vj hT
 exact LV ho hx h1 ha hn hv
theorem bq (m:Nat) {t:TypeId} {x:Operand} {i off n:Nat} {g:Option Nat} {f:Nat→CV} (ho:o.op=.load t x:=by exact rfl) (hx:s.eval x=.op i g off:=by exact rfl) (hH:Holds s i g n f:=by first|exact .inl rfl|exact .inr rfl) (hn:off+m≤n:=by first|decide|omega|(dsimp only at *;omega)) (hT:Np P t m true=true:=by kernel_rfl):kF P G o s (.agg m fun j=>f (off+j)):=by
 obtain ⟨d,h1,ha,h5⟩:=Bi hT
 exact Iy ho hx hH h1 ha h5 hn
theorem mn (m:Nat) {t:TypeId} {x:Operand} {n:Nat} {f:Nat→CV} (ho:o.op=.load t x:=by exact rfl) (hx:s.eval x=.rp n f:=by exact rfl) (hn:m≤n:=by first|decide|omega|(dsimp only at *;omega)) (hT:Np P t m true=true:=by kernel_rfl):ci P G o s (.agg m f):=by
 obtain ⟨d,h1,ha,h5⟩:=Bi hT
 exact Ix ho hx h1 ha h5 hn
theorem cK (i:Nat) [h0:dO G.gs i] {t:TypeId} {g:Nat} (ho:o.op=.load t (.global g):=by exact rfl) (hg:gs[i]?=some g:=by exact rfl) (hT:Jo P t=true:=by kernel_rfl):ci P G o s (.err (i+1)):=by
 obtain ⟨d,h1,ha⟩:=vj hT
 exact LX i ho hg h1 ha
theorem jq {d:Nat} {v:CV} (h:ci P G o ⟨env,b0,H⟩ v) (hk:cJ P G ops r ⟨(d,v)::env,b0,H⟩ K) (hd:o.dst=some d:=by exact rfl) (hN:Nat.blt d G.N=true:=by exact rfl) (hw:br G ops o ⟨env,b0,H⟩ true:=by first|exact bw rfl|exact dm rfl rfl rfl rfl true rfl):cJ P G ops (o::r) ⟨env,b0,H⟩ K:=Xr hw hd hN h hk
theorem gw {d:Nat} {v:CV} (h:kF P G o ⟨env,b0,H⟩ v) (hk:cJ P G ops r ⟨(d,v)::env,b0,H⟩ K) (hd:o.dst=some d:=by exact rfl) (hN:Nat.blt d G.N=true:=by exact rfl) (hw:br G ops o ⟨env,b0,H⟩ true:=by first|exact bw rfl|exact dm rfl rfl rfl rfl true rfl):cJ P G ops (o::r) ⟨env,b0,H⟩ K:=We hw hd hN h hk
theorem Yr {d:Nat} (hk:cJ P G ops r ⟨(d,.c undef)::env,b0,H⟩ K) (hd:o.dst=some d:=by exact rfl) (hN:Nat.blt d G.N=true:=by exact rfl) (hw:br G ops o ⟨env,b0,H⟩ false:=by first|exact dm rfl rfl rfl rfl false rfl|exact kV rfl rfl rfl rfl):cJ P G ops (o::r) ⟨env,b0,H⟩ K:=Uk hw hd hN hk
theorem au (h:kQ P G o ⟨env,b0,H⟩ (fun s'=>cJ P G ops r s' K)) (hw:br G ops o ⟨env,b0,H⟩ true:=by first|exact bw rfl|exact dm rfl rfl rfl rfl true rfl):cJ P G ops (o::r) ⟨env,b0,H⟩ K:=TN hw h
theorem aq (h:ug P G o ⟨env,b0,H⟩ (fun s'=>cJ P G ops r s' K)) (hw:br G ops o ⟨env,b0,H⟩ true:=by first|exact bw rfl|exact dm rfl rfl rfl rfl true rfl):cJ P G ops (o::r) ⟨env,b0,H⟩ K:=Lq hw h
def gp:List Oper→Nat→Oper
 | [],_=>default
 | a::_,0=>a
 | _::l,i+1=>gp l i
section
variable {i:Nat} {t:kE}
theorem lb (h:Nat.blt i ops.size=true):ops[i]?=some (gp ops.toList i):=by
 have hlt:i<ops.size:=YU h
 rw [YV hlt]
 have key:∀ (l:List Oper) (i:Nat) (hi:i<l.length),l[i]=gp l i:=fun l=>by
  induction l with
  | nil=>intro i hi;simp at hi
  | cons a l ih =>
   intro i hi
   cases i with
   | zero=>rfl
   | succ i=>exact ih i (by simpa using hi)
 have:=key ops.toList i (by simpa using hlt)
 rw [← this,bjx]
theorem tE (hi:Nat.blt i ops.size=true):aG ops (.rd i t)=.rd (gp ops.toList i) (aG ops t):=by simp only [aG,lb hi]
theorem gX (hi:Nat.blt i ops.size=true):aG ops (.one i t)=.one (gp ops.toList i) (aG ops t):=by simp only [aG,lb hi]
theorem aM {d:Nat} {v:CV} (h:ci P G (gp ops.toList i) ⟨env,b0,H⟩ v) (hk:AX P G ops (aG ops t) ⟨(d,v)::env,b0,H⟩ K) (hd:(gp ops.toList i).dst=some d:=by exact rfl) (hN:Nat.blt d G.N=true:=by exact rfl) (hw:br G ops (gp ops.toList i) ⟨env,b0,H⟩ true:=by first|exact bw rfl|exact dm rfl rfl rfl rfl true rfl) (hi:Nat.blt i ops.size=true:=by exact rfl):AX P G ops (aG ops (.rd i t)) ⟨env,b0,H⟩ K:=by rw [tE hi];exact Xg hw hd hN h hk
theorem w8 {d:Nat} {v:CV} (h:kF P G (gp ops.toList i) ⟨env,b0,H⟩ v) (hk:AX P G ops (aG ops t) ⟨(d,v)::env,b0,H⟩ K) (hd:(gp ops.toList i).dst=some d:=by exact rfl) (hN:Nat.blt d G.N=true:=by exact rfl) (hw:br G ops (gp ops.toList i) ⟨env,b0,H⟩ true:=by first|exact bw rfl|exact dm rfl rfl rfl rfl true rfl) (hi:Nat.blt i ops.size=true:=by exact rfl):AX P G ops (aG ops (.rd i t)) ⟨env,b0,H⟩ K:=by rw [tE hi];exact VT hw hd hN h hk
theorem yb {d:Nat} {v:CV} (h:kF P G (gp ops.toList i) ⟨env,b0,H⟩ v) (hk:AX P G ops (aG ops t) ⟨(d,v)::env,b0,H⟩ K) (hd:(gp ops.toList i).dst=some d:=by exact rfl) (hN:Nat.blt d G.N=true:=by exact rfl) (hw:br G ops (gp ops.toList i) ⟨env,b0,H⟩ true:=by first|exact bw rfl|exact dm rfl rfl rfl rfl true rfl) (hi:Nat.blt i ops.size=true:=by exact rfl):AX P G ops (aG ops (.one i t)) ⟨env,b0,H⟩ K:=by rw [gX hi];exact Py hw hd hN h hk
theorem Yk {d:Nat} (hk:AX P G ops (aG ops t) ⟨(d,.c undef)::env,b0,H⟩ K) (hd:(gp ops.toList i).dst=some d:=by exact rfl) (hN:Nat.blt d G.N=true:=by exact rfl) (hw:br G ops (gp ops.toList i) ⟨env,b0,H⟩ false:=by first|exact dm rfl rfl rfl rfl false rfl|exact kV rfl rfl rfl rfl) (hi:Nat.blt i ops.size=true:=by exact rfl):AX P G ops (aG ops (.rd i t)) ⟨env,b0,H⟩ K:=by rw [tE hi];exact TA hw hd hN hk
theorem Ww {d:Nat} (hk:AX P G ops (aG ops t) ⟨(d,.c undef)::env,b0,H⟩ K) (hd:(gp ops.toList i).dst=some d:=by exact rfl) (hN:Nat.blt d G.N=true:=by exact rfl) (hw:br G ops (gp ops.toList i) ⟨env,b0,H⟩ false:=by first|exact dm rfl rfl rfl rfl false rfl|exact kV rfl rfl rfl rfl) (hi:Nat.blt i ops.size=true:=by exact rfl):AX P G ops (aG ops (.one i t)) ⟨env,b0,H⟩ K:=by rw [gX hi];exact Pz hw hd hN hk
theorem ir (h:kQ P G (gp ops.toList i) ⟨env,b0,H⟩ (fun s'=>AX P G ops (aG ops t) s' K)) (hw:br G ops (gp ops.toList i) ⟨env,b0,H⟩ true:=by first|exact bw rfl|exact dm rfl rfl rfl rfl true rfl) (hi:Nat.blt i ops.size=true:=by exact rfl):AX P G ops (aG ops (.one i t)) ⟨env,b0,H⟩ K:=by rw [gX hi];exact SL hw h
theorem iX {d:Nat} {v:CV} (h:ci P G (gp ops.toList i) ⟨env,b0,H⟩ v) (hk:AZ P G ops (aG ops t) ⟨(d,v)::env,b0,H⟩ K) (hd:(gp ops.toList i).dst=some d:=by exact rfl) (hN:Nat.blt d G.N=true:=by exact rfl) (hw:br G ops (gp ops.toList i) ⟨env,b0,H⟩ true:=by first|exact bw rfl|exact dm rfl rfl rfl rfl true rfl) (hi:Nat.blt i ops.size=true:=by exact rfl):AZ P G ops (aG ops (.rd i t)) ⟨env,b0,H⟩ K:=by rw [tE hi];exact VG hw hd hN h hk
theorem XA {d:Nat} {v:CV} (h:kF P G (gp ops.toList i) ⟨env,b0,H⟩ v) (hk:AZ P G ops (aG ops t) ⟨(d,v)::env,b0,H⟩ K) (hd:(gp ops.toList i).dst=some d:=by exact rfl) (hN:Nat.blt d G.N=true:=by exact rfl) (hw:br G ops (gp ops.toList i) ⟨env,b0,H⟩ true:=by first|exact bw rfl|exact dm rfl rfl rfl rfl true rfl) (hb:ownB ops (gp ops.toList i)=true:=by kernel_rfl) (hi:Nat.blt i ops.size=true:=by exact rfl):AZ P G ops (aG ops (.rd i t)) ⟨env,b0,H⟩ K:=by rw [tE hi];exact Tu hw hd hN hb h hk
theorem Rw {d:Nat} {v:CV} (h:kF P G (gp ops.toList i) ⟨env,b0,H⟩ v) (hk:AZ P G ops (aG ops t) ⟨(d,v)::env,b0,H⟩ K) (hd:(gp ops.toList i).dst=some d:=by exact rfl) (hN:Nat.blt d G.N=true:=by exact rfl) (hw:br G ops (gp ops.toList i) ⟨env,b0,H⟩ true:=by first|exact bw rfl|exact dm rfl rfl rfl rfl true rfl) (hi:Nat.blt i ops.size=true:=by exact rfl):AZ P G ops (aG ops (.one i t)) ⟨env,b0,H⟩ K:=by rw [gX hi];exact Kp hw hd hN h hk
theorem Yi {d:Nat} (hk:AZ P G ops (aG ops t) ⟨(d,.c undef)::env,b0,H⟩ K) (hd:(gp ops.toList i).dst=some d:=by exact rfl) (hN:Nat.blt d G.N=true:=by exact rfl) (hw:br G ops (gp ops.toList i) ⟨env,b0,H⟩ false:=by first|exact dm rfl rfl rfl rfl false rfl|exact kV rfl rfl rfl rfl) (hi:Nat.blt i ops.size=true:=by exact rfl):AZ P G ops (aG ops (.rd i t)) ⟨env,b0,H⟩ K:=by rw [tE hi];exact Pr hw hd hN hk
theorem GL (h:kQ P G (gp ops.toList i) ⟨env,b0,H⟩ (fun s'=>AZ P G ops (aG ops t) s' K)) (hw:br G ops (gp ops.toList i) ⟨env,b0,H⟩ true:=by first|exact bw rfl|exact dm rfl rfl rfl rfl true rfl) (hi:Nat.blt i ops.size=true:=by exact rfl):AZ P G ops (aG ops (.one i t)) ⟨env,b0,H⟩ K:=by rw [gX hi];exact VS hw h
theorem lK (h:ug P G (gp ops.toList i) ⟨env,b0,H⟩ (fun s'=>AZ P G ops (aG ops t) s' K)) (hw:br G ops (gp ops.toList i) ⟨env,b0,H⟩ true:=by first|exact bw rfl|exact dm rfl rfl rfl rfl true rfl) (hm:zG (gp ops.toList i)=true:=by exact rfl) (hi:Nat.blt i ops.size=true:=by exact rfl):AZ P G ops (aG ops (.one i t)) ⟨env,b0,H⟩ K:=by rw [gX hi];exact Xf hw hm h
theorem xP (h:K s):AX P G ops (aG ops .done) s K:=TC h
theorem Yj (h:K s):AZ P G ops (aG ops .done) s K:=Tx h
theorem Dg {j:Nat} {u:kE} (h1:AX P G ops (aG ops (.one i t)) s K) (h2:AX P G ops (aG ops (.one j u)) s K) (hi:Nat.blt i ops.size=true:=by exact rfl) (hj:Nat.blt j ops.size=true:=by exact rfl):AX P G ops (aG ops (.two i t j u)) s K:=by
 rw [gX hi] at h1
 rw [gX hj] at h2
 simp only [aG,lb hi,lb hj]
 exact VU h1 h2
theorem Df {j:Nat} {u:kE} (h1:AZ P G ops (aG ops (.one i t)) s K) (h2:AZ P G ops (aG ops (.one j u)) s K) (hi:Nat.blt i ops.size=true:=by exact rfl) (hj:Nat.blt j ops.size=true:=by exact rfl):AZ P G ops (aG ops (.two i t j u)) s K:=by
 rw [gX hi] at h1
 rw [gX hj] at h2
 simp only [aG,lb hi,lb hj]
 exact VQ h1 h2
theorem Rx {j q:Nat} {u v:kE} (h1:AX P G ops (aG ops (.one i t)) s K) (h2:AX P G ops (aG ops (.one j u)) s K) (h3:AX P G ops (aG ops (.one q v)) s K) (hi:Nat.blt i ops.size=true:=by exact rfl) (hj:Nat.blt j ops.size=true:=by exact rfl) (hq:Nat.blt q ops.size=true:=by exact rfl):AX P G ops (aG ops (.three i t j u q v)) s K:=by
 rw [gX hi] at h1
 rw [gX hj] at h2
 rw [gX hq] at h3
 simp only [aG,lb hi,lb hj,lb hq]
 exact PC h1 h2 h3
end
theorem X3 {id:Nat} (h:cJ P G ops ops.toList s (R .normal)) (hd:Gq G.rd ops=true:=by rfl):bj P G (.region id ops false) s R:=uH h hd
theorem dY {id:Nat} (t:kE) (h:AX P G ops (aG ops t) s (R .normal)) (hm:P.follows .mixedOrders=true:=by kernel_rfl) (hs:Region.noSelect ops=true:=by kernel_rfl) (hl:t.len=ops.size:=by exact rfl) (hin:t.within ops.size=true:=by kernel_rfl) (hB:dX .any ops t (Array.replicate ops.size false)=true:=by kernel_rfl) (hd:Gq G.rd ops=true:=by rfl):bj P G (.region id ops true) s R:=J5 t hm hs hl hin hB h hd
theorem lM {id:Nat} (m:Nat) (t:kE) (h:AX P G ops (aG ops t) s (fun s'=>cJ P G ops (ops.toList.drop m) s' (R .normal))) (hmix:P.follows .mixedOrders=true:=by kernel_rfl) (hs:Region.noSelect ops=true:=by kernel_rfl) (hm:Nat.ble m ops.size=true:=by exact rfl) (hl:t.len=m:=by exact rfl) (hin:t.within ops.size=true:=by kernel_rfl) (hc:n9 .any ops m=true:=by kernel_rfl)
  (hB:fP .any ops m t (Array.replicate ops.size false)=true:=by kernel_rfl) (ht:vO .any ops (ops.size-m) m (yk m ops.size)=true:=by kernel_rfl) (hd:Gq G.rd ops=true:=by rfl) (hy:G.yl=false:=by rfl):bj P G (.region id ops true) s R:=FA m t hmix hs hm hl hin hc hB ht h hd hy
theorem lL {id:Nat} (u:kE) (h:AZ P G ops (aG ops u) s (R .normal)) (hmix:P.follows .mixedOrders=true:=by kernel_rfl) (hs:Region.noSelect ops=true:=by kernel_rfl) (hul:u.len=ops.size:=by exact rfl) (huin:u.within ops.size=true:=by kernel_rfl) (hu:dX .any ops u (Array.replicate ops.size false)=true:=by kernel_rfl) (hd:Gq G.rd ops=true:=by rfl):bj P G (.region id ops true) s R:=Fz u hmix hs hul huin hu h hd
theorem gY (h:bj P G x s (rM (fun s'=>bj P G y s' R) R)):bj P G (.seq x y) s R:=xx h
theorem dP {id:Nat} (h:cJ P G ops ops.toList s (fun s'=>bj P G y s' R)) (hd:Gq G.rd ops=true:=by rfl):bj P G (.seq (.region id ops false) y) s R:=xx (uH h hd)
theorem Yl (h:Y s):rM Y R .normal s:=h
theorem Ym {i:Nat} (h:R (.exit i) s):rM Y R (.exit i) s:=h
theorem kq (h:R .ret s):rM Y R .ret s:=h
theorem Yv {i:Nat} (h:R .normal s):om i R .normal s:=h
theorem Jq {i:Nat} (h:R .ret s):om i R .ret s:=h
theorem Yu {i j:Nat} (h:R .normal s) (he:Nat.beq j i=true:=by exact rfl):om i R (.exit j) s:=FJ he h
theorem XI {i j:Nat} (h:R (.exit j) s) (he:Nat.beq j i=false:=by exact rfl):om i R (.exit j) s:=D4 he h
def sr (c:CV) (p n:Prop):Prop:=∃ t:Bool,c=.c (.bool t)∧(t=true→p)∧(t=false→n)
theorem UK {p:Prop} [Decidable p] {c:CV} (h:c=.c (.bool (decide p))):sr c p (¬ p):=⟨_,h,aax,of_decide_eq_false⟩
theorem UL {t:Bool} {c:CV} (h:c=.c (.bool t)):sr c (t=true) (t=false):=⟨_,h,id,id⟩
theorem ap {d:Nat} {p n:Prop} (ht:p→bj P G x ⟨(d,.c (.bool true))::env,b0,H⟩ R) (hf:n→bj P G y ⟨(d,.c (.bool false))::env,b0,H⟩ R) (hl:sr (look env b0 d) p n:=by first|exact UK rfl|exact UL rfl) (hN:Nat.blt d G.N=true:=by exact rfl):bj P G (.cond (.tmp d) x y) ⟨env,b0,H⟩ R:=by
 obtain ⟨t,h1,h2,h3⟩:=hl
 exact FD hN h1 (fun e=>ht (h2 e)) (fun e=>hf (h3 e))
theorem Ys {d:Operand} (h:bj P G x s R) (hl:s.eval d=.c (.bool true):=by exact rfl):bj P G (.cond d x y) s R:=FB hl h
theorem Yt {d:Operand} (h:bj P G y s R) (hl:s.eval d=.c (.bool false):=by exact rfl):bj P G (.cond d x y) s R:=FE hl h
theorem aK (d:Nat) {p n:Prop} (ht:p→cJ P G ops r ⟨(d,.c (.bool true))::env,b0,H⟩ K) (hf:n→cJ P G ops r ⟨(d,.c (.bool false))::env,b0,H⟩ K) (hl:sr (look env b0 d) p n:=by first|exact UK rfl|exact UL rfl) (hN:Nat.blt d G.N=true:=by exact rfl):cJ P G ops r ⟨env,b0,H⟩ K:=by
 obtain ⟨t,h1,h2,h3⟩:=hl
 exact HT hN h1 (fun e=>ht (h2 e)) (fun e=>hf (h3 e))
theorem Jk {tr:eN} (d:Nat) {p n:Prop} (ht:p→AX P G ops tr ⟨(d,.c (.bool true))::env,b0,H⟩ K) (hf:n→AX P G ops tr ⟨(d,.c (.bool false))::env,b0,H⟩ K) (hl:sr (look env b0 d) p n:=by first|exact UK rfl|exact UL rfl) (hN:Nat.blt d G.N=true:=by exact rfl):AX P G ops tr ⟨env,b0,H⟩ K:=by
 obtain ⟨t,h1,h2,h3⟩:=hl
 exact PD hN h1 (fun e=>ht (h2 e)) (fun e=>hf (h3 e))
theorem cl {n:Nat} {t:TypeId} {z:Value} {d:Nat} (hz:(P.info? t).map (·.zero)=some (some z)) (hn:z.cells.size=n) (hK:∀ g,K ⟨(d,.op H.length g 0)::env,b0,H++[(g,.blk n fun j=>.c (z.cells.getD j undef))]⟩) (ho:o.op=.alloc t:=by exact rfl) (hd:o.dst=some d:=by exact rfl) (hN:Nat.blt d G.N=true:=by exact rfl):kQ P G o ⟨env,b0,H⟩ K:=Sc ho hz hn hd hN hK
theorem ff (n:Nat) {t:TypeId} {p:Operand} {c:CV} {l:List CV} {d:Nat} (hK:∀ g,K ⟨(d,.op H.length g 0)::env,b0,H++[(g,.blk n (fl l))]⟩) (ho:o.op=.box t p:=by exact rfl) (hx:(⟨env,b0,H⟩:AS).eval p=c:=by first|exact xc rfl|exact xd rfl rfl rfl|exact xe rfl) (hl:fA c=some l:=by exact rfl) (hn:l.length=n:=by exact rfl) (hd:o.dst=some d:=by exact rfl) (hN:Nat.blt d G.N=true:=by exact rfl):kQ P G o ⟨env,b0,H⟩ K:=WO ho hx hl hn hd hN hK
theorem aY (n m:Nat) {e t:TypeId} {z:Value} {len:Nat} {parts:Array (Nat×Operand)} {l:List CV} {d:Nat} (hz:(P.info? e).map (·.zero)=some (some z)) (hK:∀ g,K ⟨(d,.os H.length g 0 len m)::env,b0,H++[(g,.blk n (fl l))]⟩) (ho:o.op=.buildSlice t len parts:=by exact rfl) (h1:P.underlying t=some (.slice e):=by kernel_rfl) (h5:(P.info? e).map (·.size)=some m:=by kernel_rfl) (hm:Nat.ble (len * m) 16777216=true:=by exact rfl) (hlen:Nat.ble len 16777216=true:=by exact rfl)
  (hf:sE (fun i=>some (i * m,m)) ((List.range (len * m)).map fun i=>.c (z.cells[i % z.cells.size]!)) (parts.toList.map fun p=>(p.1,(⟨env,b0,H⟩:AS).eval p.2))=some l:=by exact rfl) (hn:l.length=n:=by exact rfl) (hle:n=len * m:=by exact rfl) (hd:o.dst=some d:=by exact rfl) (hN:Nat.blt d G.N=true:=by exact rfl):kQ P G o ⟨env,b0,H⟩ K:=BB ho h1 h5 hz hm hlen hf hn hle hd hN hK
theorem WI {t u:TypeId} {x:Operand} {a:Z} {d:Nat} (hK:K ⟨(d,aV a)::env,b0,H⟩) (ho:o.op=.convert t u x:=by exact rfl) (hx:(⟨env,b0,H⟩:AS).eval x=an a:=by exact rfl) (h1:P.underlying t=some .string:=by kernel_rfl) (hT:Jp P u=true:=by kernel_rfl) (hS:a.length≤9223372036854775807:=by first|omega|decide|(dsimp only at *;omega)) (hd:o.dst=some d:=by exact rfl) (hN:Nat.blt d G.N=true:=by exact rfl):kQ P G o ⟨env,b0,H⟩ K:=by
 obtain ⟨e,h2,h3⟩:=vm hT
 exact OE ho hx h1 h2 h3 hS hd hN hK
theorem ar {f:FuncId} {xs:Array Operand} {ats:Array TypeId} {args:List CV} {m:CV} {d:Nat} (hA:cc G.gs P f args m) (hK:K ⟨(d,m)::env,b0,H⟩) (ho:o.op=.call ⟨.value (.func f),xs,ats⟩:=by exact rfl) (hc:bA P f=true:=by kernel_rfl) (he:BU G ⟨env,b0,H⟩ xs.toList args:=by (repeat (first|exact .nil|refine .cons (by first|exact se rfl I|exact se rfl aa.nil|exact se rfl cN|exact se rfl (cO rfl)|exact se rfl cP|exact rU rfl|exact se rfl aa.fn0|exact se rfl iD|exact rV _ rfl rfl rfl (by simp) (fun _ _=>I)) ?_))) (hd:o.dst=some d:=by exact rfl) (hN:Nat.blt d G.N=true:=by exact rfl):kQ P G o ⟨env,b0,H⟩ K:=Sa ho hc hA he hd hN hK
theorem ry {f:FuncId} {xs:Array Operand} {ats:Array TypeId} {args:List CV} {Q:CV→List (Option Nat×bi)→Prop} {d:Nat} (hA:AC G.gs P f [] args Q) (hK:∀ r H',Q r H'→K ⟨(d,r)::env,b0,H++H'⟩) (ho:o.op=.call ⟨.value (.func f),xs,ats⟩:=by exact rfl) (hc:bA P f=true:=by kernel_rfl) (he:BU G ⟨env,b0,H⟩ xs.toList args:=by (repeat (first|exact .nil|refine .cons (by first|exact se rfl I|exact se rfl aa.nil|exact se rfl cN|exact se rfl (cO rfl)|exact se rfl cP|exact rU rfl|exact se rfl aa.fn0|exact se rfl iD|exact rV _ rfl rfl rfl (by simp) (fun _ _=>I)) ?_))) (hd:o.dst=some d:=by exact rfl) (hN:Nat.blt d G.N=true:=by exact rfl):kQ P G o ⟨env,b0,H⟩ K:=G4 ho hc hA he hd hN hK
theorem Bm {f:FuncId} {xs:Array Operand} {ats:Array TypeId} {args:List CV} {n m N:Nat} {F:Nat→CV} {d:Nat} (hA:AC G.gs P f [] args (sV n m N F)) (hK:∀ g,K ⟨(d,.os H.length g 0 n m)::env,b0,H++[(g,.blk N F)]⟩) (ho:o.op=.call ⟨.value (.func f),xs,ats⟩:=by exact rfl) (hc:bA P f=true:=by kernel_rfl) (he:BU G ⟨env,b0,H⟩ xs.toList args:=by (repeat (first|exact .nil|refine .cons (by first|exact se rfl I|exact se rfl aa.nil|exact se rfl cN|exact se rfl (cO rfl)|exact se rfl cP|exact rU rfl|exact se rfl aa.fn0|exact se rfl iD|exact rV _ rfl rfl rfl (by simp) (fun _ _=>I)) ?_))) (hd:o.dst=some d:=by exact rfl) (hN:Nat.blt d G.N=true:=by exact rfl):kQ P G o ⟨env,b0,H⟩ K:=Sb ho hc hA he hd hN hK
theorem Jn (i:Nat) {f:FuncId} {xs:Array Operand} {ats:Array TypeId} {args:List CV} {Q:CV→List (Option Nat×bi)→Prop} {d:Nat} {x0:Option Nat×bi} (hA:AC G.gs P f [x0] args Q) (hK:∀ r H',Q r H'→∃ x r',H'=[x]∧aa r r'∧K ⟨(d,r')::env,b0,H.set i x⟩) (hi:H[i]?=some x0:=by exact rfl) (ho:o.op=.call ⟨.value (.func f),xs,ats⟩:=by exact rfl) (hc:bA P f=true:=by kernel_rfl) (he:BU G ⟨env,b0,H⟩ xs.toList args:=by (repeat (first|exact .nil|refine .cons (by first|exact se rfl I|exact se rfl aa.nil|exact se rfl cN|exact se rfl (cO rfl)|exact se rfl cP|exact rU rfl|exact se rfl aa.fn0|exact se rfl iD|exact rV _ rfl rfl rfl (by simp) (fun _ _=>I)) ?_))) (hd:o.dst=some d:=by exact rfl) (hN:Nat.blt d G.N=true:=by exact rfl):ug P G o ⟨env,b0,H⟩ K:=Ro ho hc hi hA he hd hN hK
theorem aQ (i:Nat) {f:FuncId} {xs:Array Operand} {ats:Array TypeId} {args:List CV} {m:CV} {d:Nat} {x0 x:Option Nat×bi} (hA:AC G.gs P f [x0] args fun r H'=>r=m∧H'=[x]) (hK:K ⟨(d,m)::env,b0,H.set i x⟩) (hi:H[i]?=some x0:=by exact rfl) (ho:o.op=.call ⟨.value (.func f),xs,ats⟩:=by exact rfl) (hc:bA P f=true:=by kernel_rfl) (he:BU G ⟨env,b0,H⟩ xs.toList args:=by (repeat (first|exact .nil|refine .cons (by first|exact se rfl I|exact se rfl aa.nil|exact se rfl cN|exact se rfl (cO rfl)|exact se rfl cP|exact rU rfl|exact se rfl aa.fn0|exact se rfl iD|exact rV _ rfl rfl rfl (by simp) (fun _ _=>I)) ?_))) (hd:o.dst=some d:=by exact rfl) (hN:Nat.blt d G.N=true:=by exact rfl):ug P G o ⟨env,b0,H⟩ K :=
 Jn i hA (fun _ _ ⟨e1,e2⟩=>⟨x,m,e2,e1 ▸ I,hK⟩) hi ho hc he hd hN
theorem aA (m:Nat) {t:TypeId} {p q:Operand} {i off n:Nat} {g:Option Nat} {f:Nat→CV} {c:CV} {l:List CV} (hK:K ⟨env,b0,H.set i (g,.blk n (gT f off l))⟩) (ho:o.op=.store t p q:=by exact rfl) (hx:(⟨env,b0,H⟩:AS).eval p=.op i g off:=by exact rfl) (hH:H[i]?=some (g,.blk n f):=by exact rfl) (hy:(⟨env,b0,H⟩:AS).eval q=c:=by first|exact xc rfl|exact xd rfl rfl rfl|exact xe rfl) (hl:fA c=some l:=by exact rfl) (hm:l.length=m:=by exact rfl) (h5:(P.info? t).map (·.size)=some m:=by kernel_rfl) (hleaf:l.all iS=true:=by exact rfl) (hn:off+m≤n:=by first|decide|omega|(dsimp only at *;omega)) (hd:o.dst=none:=by exact rfl):ug P G o ⟨env,b0,H⟩ K :=
 GE ho hx hH hy hl h5 hm hleaf hn _ (fun _ _=>I) hd hK
theorem bo (m:Nat) (F:Nat→CV) {t:TypeId} {p q:Operand} {i off n:Nat} {g:Option Nat} {f:Nat→CV} {c:CV} {l:List CV} (hF:∀ j,j<n→aa (gT f off l j) (F j)) (hK:K ⟨env,b0,H.set i (g,.blk n F)⟩) (ho:o.op=.store t p q:=by exact rfl) (hx:(⟨env,b0,H⟩:AS).eval p=.op i g off:=by exact rfl) (hH:H[i]?=some (g,.blk n f):=by exact rfl) (hy:(⟨env,b0,H⟩:AS).eval q=c:=by first|exact xc rfl|exact xd rfl rfl rfl|exact xe rfl) (hl:fA c=some l:=by exact rfl) (hm:l.length=m:=by exact rfl) (h5:(P.info? t).map (·.size)=some m:=by kernel_rfl) (hleaf:l.all iS=true:=by exact rfl) (hn:off+m≤n:=by first|decide|omega|(dsimp only at *;omega)) (hd:o.dst=none:=by exact rfl):ug P G o ⟨env,b0,H⟩ K :=
 GE ho hx hH hy hl h5 hm hleaf hn F hF hd hK
theorem uY {d:Nat} {t:TypeId} {i off n:Nat} {g:Option Nat} {f:Nat→CV} {c:CV} (h:look s.env s.b d=.op i g off:=by exact rfl) (hH:Holds s i g n f:=by first|exact .inl rfl|exact .inr rfl) (hc:f off=c:=by first|exact nU rfl|exact rx rfl) (hn:off<n:=by first|decide|omega|(dsimp only at *;omega)) (hT:Jo P t=true:=by kernel_rfl):El P G s (.cell d t) c:=by
 obtain ⟨ds,h1,ha⟩:=vj hT
 exact Pa h hH h1 ha hn hc
theorem bD (m:Nat) {d:Nat} {t:TypeId} {i off n:Nat} {g:Option Nat} {f:Nat→CV} (h:look s.env s.b d=.op i g off:=by exact rfl) (hH:Holds s i g n f:=by first|exact .inl rfl|exact .inr rfl) (hn:off+m≤n:=by first|decide|omega|(dsimp only at *;omega)) (hT:Np P t m true=true:=by kernel_rfl):El P G s (.cell d t) (.agg m fun j=>f (off+j)):=by
 obtain ⟨ds,h1,ha,h5⟩:=Bi hT
 exact Aj h hH h1 ha h5 hn
theorem bJ {t:Nat} {c:CV} (h:s.eval (.tmp t)=c:=by first|exact xc rfl|exact xd rfl rfl rfl|exact xe rfl):El P G s (.tmp t) c:=ak h
theorem eA {fn:Func} {e:Exit} {v m:CV} (hres:lX P G fn s v:=by first|exact av rfl bJ|exact bB rfl bJ bJ|exact il rfl bJ bJ bJ|exact V7 rfl bJ bJ bJ bJ|exact cM rfl) (hv:aa v m:=by first|exact I|exact aa.nil) (he:e=.ret∨e=.normal:=by first|exact .inl rfl|exact .inr rfl):mz P G fn (fun r H=>r=m∧H=[]) e s:=R7 he hres hv
theorem aw {α:Type} {k:Nat} {φ:α→Prop} {μ:α→Nat} {D:List Nat} {M:α→List (Nat×CV)} {Hp:α→List (Option Nat×bi)} {b1:Nat→CV} (p':α) (h1:φ p') (h2:μ p'<k) (h5:bz s.env s.b (M p'):=by (repeat (first|exact bz.nil|refine bz.cons I ?_|refine bz.cons (cI O) ?_))) (h7:aP (s.H.take (Hp p').length) (Hp p'):=by (repeat (first|exact aP.nil|refine aP.same ?_|refine aP.blk rfl (fun j hj=>by rcases j with _|_|_|_|_|_|_|_|j <;> first|exact I|exact cI O|omega) ?_)))
  (h3:Ao D b1 s.b:=by first|exact .refl|exact .nest .refl rfl rfl|exact .nest (.nest .refl rfl rfl) rfl rfl|exact .nest (.nest (.nest .refl rfl rfl) rfl rfl) rfl rfl|(repeat (first|exact .refl|refine .nest ?_ rfl rfl|refine Ao.look2 ?_ rfl))) (h4:(s.env.all fun x=>D.any (Nat.beq x.1))=true:=by exact rfl) (h6:(Hp p').length≤s.H.length:=by exact YU rfl) :
  ∃ p',φ p'∧μ p'<k∧Ao D b1 s.b∧(s.env.all fun x=>D.any (Nat.beq x.1))=true∧bz s.env s.b (M p')∧(Hp p').length≤s.H.length∧aP (s.H.take (Hp p').length) (Hp p'):=⟨p',h1,h2,h3,h4,h5,h6,h7⟩
theorem cU {α:Type} {φ:α→Prop} {D:List Nat} {M:α→List (Nat×CV)} {Hp:α→List (Option Nat×bi)} {b1:Nat→CV} (p':α) (h1:φ p') (h5:bz s.env s.b (M p'):=by (repeat (first|exact bz.nil|refine bz.cons I ?_|refine bz.cons (cI O) ?_))) (h7:aP (s.H.take (Hp p').length) (Hp p'):=by (repeat (first|exact aP.nil|refine aP.same ?_|refine aP.blk rfl (fun j hj=>by rcases j with _|_|_|_|_|_|_|_|j <;> first|exact I|exact cI O|omega) ?_)))
  (h3:Ao D b1 s.b:=by first|exact .refl|exact .nest .refl rfl rfl|exact .nest (.nest .refl rfl rfl) rfl rfl|exact .nest (.nest (.nest .refl rfl rfl) rfl rfl) rfl rfl|(repeat (first|exact .refl|refine .nest ?_ rfl rfl|refine Ao.look2 ?_ rfl))) (h4:(s.env.all fun x=>D.any (Nat.beq x.1))=true:=by exact rfl) (h6:(Hp p').length≤s.H.length:=by exact YU rfl) :
  ∃ p',φ p'∧Ao D b1 s.b∧(s.env.all fun x=>D.any (Nat.beq x.1))=true∧bz s.env s.b (M p')∧(Hp p').length≤s.H.length∧aP (s.H.take (Hp p').length) (Hp p'):=⟨p',h1,h3,h4,h5,h6,h7⟩
end
section
variable {G:Gh} {o:Oper} {s:AS}
def Tc:CV→Option Nat
 | .err k=>some k
 | .c .nilIface=>some 0
 | _=>none
def Tb (op:BinOp) (n:Nat):Option Bool:=match op with|.eql=>some (decide (n=0))|.neq=>some (decide (n≠0))|_=>none
theorem Yq {op:BinOp} {x:Operand} {u:TypeId} {n:Nat} {z:Bool} (ho:o.op=.binOp op 37 x (.const .nilIface) u:=by exact rfl) (hx:Tc (s.eval x)=some n:=by exact rfl) (hz:Tb op n=some z:=by exact rfl):ci Tryz.prog G o s (.c (.bool z)):=by
 unfold Tc at hx
 cases op <;> simp only [Tb,Zi,reduceCtorEq] at hz
 all_goals subst hz
 ·split at hx
  ·rename_i h;cases hx;exact Ue ho h
  ·rename_i h;cases hx;exact QP ho h
  ·cases hx
 ·split at hx
  ·rename_i h;cases hx;exact T1 ho h
  ·rename_i h;cases hx;exact QE ho h
  ·cases hx
end
section
set_option maxHeartbeats 1000000
section
variable {P:Program} {G:Gh} {ops:Array Oper} {o:Oper} {s:AS} {K:AS→Prop} {t u:TypeId} {x y:Operand} {k:IntKind}
end
section
variable {P:Program} {G:Gh} {ops:Array Oper} {o:Oper} {env:List (Nat×CV)} {b0:Nat→CV} {H:List (Option Nat×bi)} {K:AS→Prop} {t u:TypeId} {p q:Operand}
end
section
variable {P:Program} {G:Gh} {ops:Array Oper} {o:Oper} {s:AS} {K:AS→Prop} {n:Nat} {R:Exit→AS→Prop}
end
section
variable {P:Program} {G:Gh} {ops:Array Oper} {o:Oper} {s:AS} {env:List (Nat×CV)} {b0:Nat→CV} {H:List (Option Nat×bi)} {K:AS→Prop} {i n:Nat} {t:kE} {R:Exit→AS→Prop}
end
end
def JV (_:Nat):Prop:=True
theorem jv (k:Nat) {n:Nat} (_:JV n) (_:Nat.beq (Nat.mod n 10) k=true:=by exact rfl):JV (Nat.div n 10):=trivial
structure JB (B:Prop):Prop where v:B
theorem U (n:Nat) {A B:Prop} (b:B) (h:JV n→JB B→A:=by
 intro c b
 repeat (first|(replace c:=jv 1 c;refine jq UI ?_)|(replace c:=jv 2 c;refine jq X2 ?_)|(replace c:=jv 3 c;refine jq UJ ?_)|(replace c:=jv 4 c;refine Yr ?_)|(replace c:=jv 5 c;refine jN ?_)|(replace c:=jv 6 c;refine dP ?_)|(replace c:=jv 7 c;refine gY ?_)|(replace c:=jv 8 c;refine Yl ?_)|(replace c:=jv 9 c;refine jq Nu ?_)|(replace c:=jv 0 c;first|(replace c:=jv 1 c;refine jS ?_)|(replace c:=jv 2 c;refine jB ?_)|(replace c:=jv 3 c;refine jq X1 ?_)|(replace c:=jv 4 c;refine jq RA ?_)|(replace c:=jv 5 c;refine gw gm ?_)|(replace c:=jv 6 c;refine jq kC ?_)|(replace c:=jv 7 c;refine aM UI ?_)|(replace c:=jv 8 c;refine xP ?_)|(replace c:=jv 9 c;refine jq (fF 0 1 false) ?_)|(replace c:=jv 0 c;first|(replace c:=jv 1 c;refine jq (fF 1 1 false) ?_)|(replace c:=jv 2 c;refine X3 ?_)|(replace c:=jv 3 c;refine Yt ?_)|(replace c:=jv 4 c;refine Yv ?_)|(replace c:=jv 5 c;refine jq Wy ?_)|(replace c:=jv 6 c;refine Yk ?_)|(replace c:=jv 7 c;refine jq dU ?_)|(replace c:=jv 8 c;refine aM X2 ?_)|(replace c:=jv 9 c;refine jq Yn ?_)|(replace c:=jv 0 c;first|(replace c:=jv 1 c;refine jq (fF 2 1 false) ?_)|(replace c:=jv 2 c;refine Ym ?_)|(replace c:=jv 3 c;refine kq ?_)|(replace c:=jv 4 c;refine Yu ?_)|(replace c:=jv 5 c;refine Jq ?_)|(replace c:=jv 6 c;refine jX ?_)|(replace c:=jv 7 c;refine jR ?_)|(replace c:=jv 8 c;refine eA (hv:=?_))|(replace c:=jv 9 c;refine Ys ?_)|(replace c:=jv 0 c;first|(replace c:=jv 1 c;refine w8 gm ?_)|(replace c:=jv 2 c;refine aM UJ ?_)|(replace c:=jv 3 c;refine aM Nu ?_)|(replace c:=jv 4 c;refine jq Wz ?_)|(replace c:=jv 5 c;refine aM RA ?_)|(replace c:=jv 6 c;refine jq Ff ?_)|(replace c:=jv 7 c;refine aM kC ?_)|(replace c:=jv 8 c;refine XI ?_)|(replace c:=jv 9 c;refine aM dU ?_)|(replace c:=jv 0 c;first|(replace c:=jv 1 c;refine aM X1 ?_)|(replace c:=jv 2 c;refine jq XF ?_)|(replace c:=jv 3 c;refine aM Wy ?_)|(replace c:=jv 4 c;refine iX UI ?_)|(replace c:=jv 5 c;refine jq Yq ?_)|(replace c:=jv 6 c;refine jq Yp ?_)|(replace c:=jv 7 c;refine Yj ?_)|(replace c:=jv 8 c;refine jq (vi .i64 .u8) ?_)|(replace c:=jv 9 c;refine aM (fF 0 1 false) ?_)|(replace c:=jv 0 c;first|(replace c:=jv 1 c;refine jq Yo ?_)|(replace c:=jv 2 c;refine jq (dU (i:=0)) ?_)|(replace c:=jv 3 c;refine aM Wx ?_)|(replace c:=jv 4 c;refine aM (cK 3) ?_)|(replace c:=jv 5 c;refine jq (fF 3 1 false) ?_)|(replace c:=jv 6 c;refine jq (fF 5 1 false) ?_)|(replace c:=jv 7 c;refine jq (fF 4 1 false) ?_)|(replace c:=jv 8 c;refine aM (fF 1 1 false) ?_)|(replace c:=jv 9 c;refine iX RA ?_)|(replace c:=jv 0 c;first|(replace c:=jv 1 c;refine iX (fF 0 1 false) ?_)|(replace c:=jv 2 c;refine jq (fF 6 1 false) ?_)|(replace c:=jv 3 c;refine aM Fg ?_)|(replace c:=jv 4 c;refine Yi ?_)|(replace c:=jv 5 c;refine XA gm ?_)|(replace c:=jv 6 c;refine iX (fF 1 1 false) ?_)|(replace c:=jv 7 c;refine jq (ru .i64) ?_)|(replace c:=jv 8 c;refine jq Bk ?_)|(replace c:=jv 9 c;refine jq w9 ?_)|(replace c:=jv 0 c;first|(replace c:=jv 1 c;refine jq Wx ?_))))))))))
 exact b.v):A:=h trivial ⟨b⟩
end Am
end Go.Proofs.YtghminnpfnkbjaaGreatDoor
