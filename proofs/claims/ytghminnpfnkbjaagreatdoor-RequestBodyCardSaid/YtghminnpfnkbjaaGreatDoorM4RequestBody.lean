/- What the law leans on, part 4 -/
import Derived.Test.YtghminnpfnkbjaaGreatDoorM3RequestBody
import Derived.Laws.RangeString
import Derived.Shelf.Abstract
set_option maxRecDepth 100000
namespace Go.Proofs.YtghminnpfnkbjaaGreatDoor
set_option linter.unusedVariables false
namespace Am
open Go.RowKit
def ka (L:List (Option Nat×aW)):Option Nat×aW:=lK 0 (fun _:Unit=>0) (fun _=>L)
theorem cY.bag_push {al:List Addr} {St:Nat→Prop} {w:World} {base:Nat} {F0:Nat→Prop} {H L:List (Option Nat×aW)} {i b:Nat} {x:Option Nat×aW} (hb:H[b]?=some (ka L)) (hi:H[i]?=some x) (hib:i≠b) (h:cY al St w base F0 H) :
  cY al St w base F0 ((H.set b (ka (x::L))).set i (Option.none,.dead)):=by
 have ⟨fp,hp⟩:=h
 have hbl:=(ZC.1 hb).1
 have hil:=(ZC.1 hi).1
 obtain ⟨u,_,fe,he⟩:=hp.rep b _ _ hb
 refine ⟨fun q c=>if q=i then False else if q=b then fp i c∨fp b c else fp q c,fun q g r hq=>?_,fun p q c h1 h2=>?_,fun q c hq=>?_,fun q hq c hc=>?_⟩
 ·by_cases e1:q=i
  ·subst e1
   simp [hil] at hq
   obtain ⟨rfl,rfl⟩:=hq
   simp only [if_true]
   exact fun c hc=>hc
  ·rw [ZQ (Ne.symm e1)] at hq
   by_cases e2:q=b
   ·subst e2
    simp [hbl,ka,lK] at hq
    obtain ⟨rfl,rfl⟩:=hq
    simp only [e1,if_true,if_false]
    refine ⟨(),rfl,fun k c=>match k with|0=>fp i c|k+1=>fe k c,fun k g r hk=>?_,fun j k c hj hk=>?_,fun k hk c hc=>?_,fun c=>⟨fun hc=>?_,fun ⟨k,hk⟩=>?_⟩⟩
    ·cases k with
     | zero =>
      simp only [aFx,adx] at hk
      exact hp.rep i g r (by rw [hi,hk])
     | succ k=>exact he.rep k g r (by simpa using hk)
    ·cases j with
     | zero =>
      cases k with
      | zero=>rfl
      | succ k=>exact absurd (hp.dis _ _ c hj ((he.all c).2 ⟨k,hk⟩)) (fun e=>hib e)
     | succ j =>
      cases k with
      | zero=>exact absurd (hp.dis _ _ c hk ((he.all c).2 ⟨j,hj⟩)) (fun e=>hib e)
      | succ k=>rw [he.dis j k c hj hk]
    ·cases k with
     | zero=>simp at hk
     | succ k=>exact he.out k (by simpa using hk) c hc
    ·rcases hc with hc|hc
     exact ⟨0,hc⟩
     ·obtain ⟨k,hk⟩:=(he.all c).1 hc
      exact ⟨k+1,hk⟩
    ·cases k with
     | zero=>exact .inl hk
     | succ k=>exact .inr ((he.all c).2 ⟨k,hk⟩)
   ·rw [ZQ (Ne.symm e2)] at hq
    simp only [e1,e2,if_false]
    exact hp.rep q g r hq
 ·by_cases e1:p=i
  ·simp only [e1,if_true] at h1
  ·by_cases e2:q=i
   ·simp only [e2,if_true] at h2
   ·simp only [e1,e2,if_false] at h1 h2
    by_cases e3:p=b<;>by_cases e4:q=b<;>simp only [e3,e4,if_true,if_false] at h1 h2
    ·rw [e3,e4]
    ·rcases h1 with h1|h1
     exact absurd (hp.dis _ _ c h1 h2).symm e2
     exact absurd (hp.dis _ _ c h1 h2).symm e4
    ·rcases h2 with h2|h2
     exact absurd (hp.dis _ _ c h1 h2) e1
     exact absurd (hp.dis _ _ c h1 h2) e3
    exact hp.dis _ _ c h1 h2
 ·by_cases e1:q=i
  ·simp only [e1,if_true] at hq
  ·by_cases e2:q=b
   ·rw [Zy e1,Zz e2] at hq
    rcases hq with hq|hq
    exact hp.own _ c hq
    exact hp.own _ c hq
   ·rw [Zy e1,Zy e2] at hq
    exact hp.own _ c hq
 ·simp only [aPx] at hq
  rw [jK,jK] at hc
  exact hp.out q hq c hc
theorem cY.bag_pop {al:List Addr} {St:Nat→Prop} {w:World} {base:Nat} {F0:Nat→Prop} {H L:List (Option Nat×aW)} {b:Nat} {x:Option Nat×aW} (hb:H[b]?=some (ka (x::L))) (h:cY al St w base F0 H) :
  cY al St w base F0 (H.set b (ka L)++[x]):=by
 have ⟨fp,hp⟩:=h
 have hbl:=(ZC.1 hb).1
 obtain ⟨u,_,fe,he⟩:=hp.rep b _ _ hb
 have Vr:∀ k c,fe k c→fp b c:=fun k c hk=>(he.all c).2 ⟨k,hk⟩
 refine ⟨fun q c=>if q=H.length then fe 0 c else if q=b then ∃ k,fe (k+1) c else fp q c,fun q g r hq=>?_,fun p q c h1 h2=>?_,fun q c hq=>?_,fun q hq c hc=>?_⟩
 ·by_cases e1:q=H.length
  ·subst e1
   rw [ZR (by simp)] at hq
   simp at hq
   simp only [if_true]
   exact he.rep 0 g r (by rw [hq];rfl)
  ·have hql:q<H.length:=by
    have:=(ZC.1 hq).1
    simp at this
    omega
   rw [ZF (by simpa using hql)] at hq
   simp only [e1,if_false]
   by_cases e2:q=b
   ·subst e2
    simp [hbl,ka,lK] at hq
    obtain ⟨rfl,rfl⟩:=hq
    simp only [if_true]
    refine ⟨(),rfl,fun k c=>fe (k+1) c,fun k g r hk=>he.rep (k+1) g r (by simpa using hk),fun j k c hj hk=>by have:=he.dis _ _ c hj hk;omega,fun k hk c hc=>he.out (k+1) (by simp;omega) c hc,fun c=>Iff.rfl⟩
   ·rw [ZQ (Ne.symm e2)] at hq
    simp only [e2,if_false]
    exact hp.rep q g r hq
 ·by_cases e1:p=H.length<;>by_cases e2:q=H.length
  ·rw [e1,e2]
  ·rw [Zz e1] at h1
   rw [Zy e2] at h2
   by_cases e3:q=b
   ·rw [Zz e3] at h2
    have ⟨k,hk⟩:=h2
    have:=he.dis _ _ c h1 hk
    omega
   ·rw [Zy e3] at h2
    exact absurd (hp.dis _ _ c (Vr _ _ h1) h2).symm e3
  ·rw [Zy e1] at h1
   rw [Zz e2] at h2
   by_cases e3:p=b
   ·rw [Zz e3] at h1
    have ⟨k,hk⟩:=h1
    have:=he.dis _ _ c h2 hk
    omega
   ·rw [Zy e3] at h1
    exact absurd (hp.dis _ _ c (Vr _ _ h2) h1).symm e3
  ·rw [Zy e1] at h1
   rw [Zy e2] at h2
   by_cases e3:p=b<;>by_cases e4:q=b<;>simp only [e3,e4,if_true,if_false] at h1 h2
   ·rw [e3,e4]
   ·have ⟨k,hk⟩:=h1
    exact absurd (hp.dis _ _ c (Vr _ _ hk) h2).symm e4
   ·have ⟨k,hk⟩:=h2
    exact absurd (hp.dis _ _ c (Vr _ _ hk) h1).symm e3
   exact hp.dis _ _ c h1 h2
 ·by_cases e1:q=H.length
  ·rw [Zz e1] at hq
   exact hp.own b c (Vr _ _ hq)
  ·rw [Zy e1] at hq
   by_cases e2:q=b
   ·rw [Zz e2] at hq
    have ⟨k,hk⟩:=hq
    exact hp.own b c (Vr _ _ hk)
   ·rw [Zy e2] at hq
    exact hp.own q c hq
 ·simp at hq
  rw [jK,jK] at hc
  exact hp.out q O c hc
theorem cY.bag_new {al:List Addr} {St:Nat→Prop} {w:World} {base:Nat} {F0:Nat→Prop} {H:List (Option Nat×aW)} (h:cY al St w base F0 H):cY al St w base F0 (H++[ka []]):=by
 have ⟨fp,hp⟩:=h
 refine ⟨fp,fun q g r hq=>?_,hp.dis,hp.own,fun q hq c hc=>hp.out q (by simp at hq;omega) c hc⟩
 by_cases e1:q<H.length
 ·rw [ZF e1] at hq
  exact hp.rep q g r hq
 ·rw [ZR O] at hq
  have hno:∀ c,¬ fp q c:=fun c hc=>hp.out q O c hc
  have e2:q-H.length=0:=by
   have:=(ZC.1 hq).1
   simp at this
   omega
  rw [e2] at hq
  simp [ka,lK] at hq
  obtain ⟨rfl,rfl⟩:=hq
  exact ⟨(),rfl,fun _ _=>False,fun k g r hk=>by simp at hk,fun _ _ _ h=>h.elim,fun _ _ _ h=>h,fun c=>⟨fun hc=>(hno c hc).elim,fun ⟨_,hk⟩=>hk.elim⟩⟩
section
variable {G:Gh} {env:List (Nat×CV)} {b0:Nat→CV} {H L:List (Option Nat×aW)} {x:Option Nat×aW}
theorem bag_push (b i:Nat) (hb:H[b]?=some (ka L)) (hi:H[i]?=some x) (hib:Nat.beq i b=false):cJ G ⟨env,b0,H⟩ ⟨env,b0,(H.set b (ka (x::L))).set i (none,.dead)⟩:=cJ.hrel fun h=>h.bag_push hb hi (bMx hib)
theorem bag_pop (b:Nat) (hb:H[b]?=some (ka (x::L))):cJ G ⟨env,b0,H⟩ ⟨env,b0,H.set b (ka L)++[x]⟩:=cJ.hrel fun h=>h.bag_pop hb
theorem bag_new:cJ G ⟨env,b0,H⟩ ⟨env,b0,H++[ka []]⟩:=cJ.hrel fun h=>h.bag_new
end
theorem cY.osRs {al:List Addr} {St:Nat→Prop} {w:World} {base:Nat} {F0:Nat→Prop} {H:List (Option Nat×aW)} {i q off n m N:Nat} {g:Option Nat} {F:Nat→CV} {f:Nat→Nat→CV} {v:Value} (h:cY al St w base F0 H) (hH:H[i]?=some (g,.frz N F)) (hN:off+n * m≤N) (hf:∀ a b,a<n→b<m→aa (F (off+(a * m+b))) (f a b)) (he:aP al St w (.os q g off n m) v):aP al St w (.rs m n f) v:=by
 cases g with
 | none =>
  have ⟨h1,h2⟩:=he
  subst h1
  exact ⟨_,0,h2,ZA _,by decide,fun _=>rfl,fun _ h=>by cases h⟩
 | some g =>
  have ⟨cap,h1,h2,h3,_⟩:=he
  have ⟨fp,hp⟩:=h
  obtain ⟨_,hg,cur,t,z,hh,hle,hc⟩:=hp.rep i (some g) _ hH
  refine ⟨_,cap,h1,h2,h3,(fun h=>by cases h),fun ad ha _=>?_⟩
  cases ha
  refine ⟨rfl,hg,fun p q hp' hq=>?_⟩
  have hb:p * m+q<n * m:=by
   have:p * m+m≤n * m:=by rw [← c8x];exact aox _ hp'
   omega
  have hlt:off+(p * m+q)<cur.size:=by omega
  refine ⟨cur.getD (off+(p * m+q)) undef,?_,hf p q hp' hq _ _ _ _ (hc _ O)⟩
  show w.cell? ⟨g,off+(p * m+q),Option.none⟩=_
  rw [cell_of_row w g _ cur t z hh];simp [hlt]
theorem cY.thawC {al:List Addr} {St:Nat→Prop} {w:World} {base:Nat} {F0:Nat→Prop} {H:List (Option Nat×aW)} {b j0 i q off n m M N:Nat} {g gb:Option Nat} {B B' F:Nat→CV} {f:Nat→Nat→CV} (hb:H[b]?=some (gb,.blk M B)) (hH:H[i]?=some (g,.frz N F)) (hB:aa (B j0) (.os q g off n m)) (hB0:aa (.rs m n f) (B' j0)) (hB':∀ j,j<M→j≠j0→aa (B j) (B' j)) (hN:off+n * m≤N) (hf:∀ a b,a<n→b<m→aa (F (off+(a * m+b))) (f a b)) (h:cY al St w base F0 H) :
  cY al St w base F0 (H.set b (gb,.blk M B')):=by
 have hk:=fun {v}=>h.osRs (v:=v) hH hN hf (q:=q)
 have ⟨fp,hp⟩:=h
 have hlt:=(ZC.1 hb).1
 refine ⟨fp,fun j q r hj=>?_,hp.dis,hp.own,fun j hj=>hp.out j (by simpa using hj)⟩
 by_cases e:j=b
 ·subst e
  simp [hlt] at hj
  obtain ⟨rfl,rfl⟩:=hj
  have:=hp.rep j gb _ hb
  cases gb with
  | none=>exact this
  | some gb =>
   have ⟨h0,cur,t,h1,h2,h3⟩:=this
   refine ⟨h0,cur,t,h1,h2,fun a ha=>?_⟩
   by_cases ea:a=j0
   ·subst ea
    exact hB0 _ _ _ _ (hk (hB _ _ _ _ (h3 a ha)))
   exact hB' a ha ea _ _ _ _ (h3 a ha)
 ·rw [ZQ (Ne.symm e)] at hj
  exact hp.rep j q r hj
section
variable {G:Gh} {env:List (Nat×CV)} {b0:Nat→CV} {H:List (Option Nat×aW)}
theorem thawC (b j0 i:Nat) (B':Nat→CV) (f:Nat→Nat→CV) {q off n m M N:Nat} {g gb:Option Nat} {B F:Nat→CV} (hb:H[b]?=some (gb,.blk M B)) (hH:H[i]?=some (g,.frz N F)) (hB:aa (B j0) (.os q g off n m)) (hB0:aa (.rs m n f) (B' j0)) (hB':∀ j,j<M→j≠j0→aa (B j) (B' j)) (hN:off+n * m≤N) (hf:∀ a b,a<n→b<m→aa (F (off+(a * m+b))) (f a b)) :
  cJ G ⟨env,b0,H⟩ ⟨env,b0,H.set b (gb,.blk M B')⟩:=cJ.hrel fun h=>h.thawC hb hH hB hB0 hB' hN hf
theorem WB (d i:Nat) (f:Nat→Nat→CV) (c0:CV) {q off n m N:Nat} {g:Option Nat} {A F:Nat→CV} (hl:look env b0 d=.agg 2 A) (hH:H[i]?=some (g,.frz N F)) (h0:aa (A 0) c0) (h1:aa (A 1) (.os q g off n m)) (hN:off+n * m≤N) (hf:∀ a b,a<n→b<m→aa (F (off+(a * m+b))) (f a b)) :
  cJ G ⟨env,b0,H⟩ ⟨(d,.agg 2 (fl [c0,.rs m n f]))::env,b0,H⟩:=fun St a w hr=>by
 refine ⟨St,fun _ h=>h,hr.df,hr.sz,fun e=>?_,hr.un,hr.s1,hr.s2,hr.s3,hr.hp,hr.sn,hr.sg⟩
 by_cases hde:d=e
 ·subst hde
  rw [fx]
  have he:=hr.env d
  rw [hl] at he
  have ⟨cs,k1,k2,k3⟩:=he
  refine ⟨cs,k1,k2,fun j hj=>?_⟩
  rcases j with _|_|j
  exact h0 _ _ _ _ (k3 0 O)
  exact hr.hp.osRs hH hN hf (h1 _ _ _ _ (k3 1 O))
  omega
 ·rw [dr _ _ _ hde];exact hr.env e
end
theorem yq {P:Program} {G:Gh} {fn:Func} {Q:CV→List (Option Nat×aW)→Prop} {e:Exit} {env:List (Nat×CV)} {b0:Nat→CV} {H H':List (Option Nat×aW)} (h:∀ {al St w base F0},cY al St w base F0 H→cY al St w base F0 H') (hb:lW P G fn Q e ⟨env,b0,H'⟩):lW P G fn Q e ⟨env,b0,H⟩:=by
 have cv:∀ {St a w},ax G St ⟨env,b0,H⟩ a w→ax G St ⟨env,b0,H'⟩ a w:=fun hr=>⟨hr.df,hr.sz,hr.env,hr.un,hr.s1,hr.s2,hr.s3,h hr.hp,hr.sn,hr.sg⟩
 cases e with
 | normal =>
  have ⟨r,K,k1,k2,k3⟩:=hb
  exact ⟨r,K,fun St a w hr=>k1 St a w (cv hr),k2,fun St a w hr=>k3 St a w (cv hr)⟩
 | ret =>
  have ⟨r,K,k1,k2,k3⟩:=hb
  exact ⟨r,K,fun St a w hr=>k1 St a w (cv hr),k2,fun St a w hr=>k3 St a w (cv hr)⟩
 | _=>exact hb
section
variable {P:Program} {G:Gh} {o:Oper} {env:List (Nat×CV)} {b0:Nat→CV} {H:List (Option Nat×aW)} {K:AS→Prop}
theorem NQ {f:FuncId} {v:Operand} {n:Nat} {fv:Nat→CV} {xs:Array Operand} {ats:Array TypeId} {args:List CV} {Q:CV→List (Option Nat×aW)→Prop} {i:Nat} {x0:Option Nat×aW} (ho:o.op=.call ⟨.value v,xs,ats⟩) (hv:(⟨env,b0,H⟩:AS).eval v=.fn f n fv) (hc:bA P f=true) (hi:H[i]?=some x0) (hA:AC G.gs P f [x0] args Q)
  (he:o6 (xs.toList.map (⟨env,b0,H⟩:AS).eval++(List.range n).map fv) args) (hd:bY G o=true)
  (hK:∀ r H',Q r H'→∃ x,H'=[x]∧K ((⟨env,b0,H⟩:AS).with o.dst r (H.set i x))):vn P G o ⟨env,b0,H⟩ K:=fun St a w hr Q'=>by
 have ⟨cs,hcs,hn,hf⟩:=iY hr hv
 unfold Oper.wp
 rw [yo ho hc a hcs]
 have hl:=EC he
 simp at hl
 have ⟨fp,hp⟩:=hr.hp
 have hlt:i<H.length:=(ZC.1 hi).1
 have ⟨g0,r0⟩:=x0
 have hent:vW G.gs G.al St (fp i) [(g0,r0)] w:=by
  refine ⟨hr.s3,hr.sn,hr.sg,⟨fun j b=>j=0∧fp i b,fun j g r hj=>?_,fun j l b hj hl=>by omega,fun j b hj=>⟨(hp.own i b hj.2).1,(hp.own i b hj.2).2.1,.inr hj.2⟩,fun j hj b hb=>by simp at hj;omega⟩,fun b hb=>(hp.own i b hb).2.1⟩
  match j,hj with
  | 0,hj =>
   simp at hj
   obtain ⟨rfl,rfl⟩:=hj
   have e:(fun b=>(0:Nat)=0∧fp i b)=fp i:=funext fun b=>by simp
   show r0.rep G.al St w (fun b=>(0:Nat)=0∧fp i b) g0
   rw [e]
   exact hp.rep i g0 r0 hi
  | j+1,hj=>simp at hj
 refine (hA G.al w St _ _ hent (by simp [hn,hl]) (fun i=>?_)).mono ?_
 ·by_cases hi:i<args.length
  ·refine ED he i _ _ _ _ ?_
   rw [AT]
   by_cases h1:i<xs.size
   ·rw [Zz (by simpa using h1),dK]
    simp [List.getD,h1,aCx]
    exact hr.eval _
   ·rw [Zy (by simpa using h1),dK]
    have h2:i-xs.size<n:=by omega
    have:=hf _ h2
    simp [List.getD,h2,bpx (show (xs.map a.eval).size≤i by simp;omega)] at this ⊢
    exact this
  ·rw [qK args i O];trivial
 rintro e w' ⟨v,r,H',St',rfl,hq,hv,hu,h3,h4,h5,h6⟩
 obtain ⟨x,rfl,hk⟩:=hK r H' hq
 refine ⟨fun b hb=>hu.block b (hr.s3 b hb) fun hf=>(hp.own i b hf).2.1 hb,St',h3,_,hk,?_⟩
 have h7:=(hr.afterH hp hlt hu h3 h4 h5 h6).put (dst:=o.dst) (v:=r) (x:=v) (dB hd) hv
 cases ho:o.dst with
 | none=>rw [ho] at h7;exact h7
 | some d=>rw [ho] at h7;exact h7
end
def sc (l:ByteArray) (pos:Nat):OP where
 p al St w g F:=(∀ b,F b↔b=g)∧w.heap[g]?=some (.stringIter l pos)
 st:=fun he hs hF ⟨h1,h2⟩=>⟨h1,(hF _ ((h1 _).2 rfl)).trans h2⟩
section
variable {P:Program} {G:Gh} {ops:Array Oper} {o:Oper} {s:AS} {r:List Oper} {K:AS→Prop} {t u:TypeId} {x y:Operand} {env:List (Nat×CV)} {b0:Nat→CV} {H:List (Option Nat×aW)}
theorem CU {w w':World} (h:Below w.heap.size w w'):jw (fun _=>False) w w':=(jw.refl _ w).then h
theorem ax.freshObj {St:Nat→Prop} {a:Act} {w w':World} {g:Nat} {p:OP} (h:ax G St s a w) (hb:Below w.heap.size w w') (h1:w.heap.size≤g) (h2:g<w'.heap.size) (hp:p.p G.al St w' g (fun b=>b=g)):ax G St ⟨s.env,s.b,s.H++[(some g,.obj p)]⟩ a w':=by
 refine h.after (CU hb) (fun _ h=>h) (fun b h=>.inl h) (fun b hs=>Z4 (h.s3 b hs) hb.size) ⟨fun i b=>i=0∧b=g,fun i q r hi=>?_,fun i j b hi hj=>by omega,fun i b hi=>?_,fun i hi b hb=>by simp at hi;omega⟩
 ·match i,hi with
  | 0,hi =>
   simp at hi
   obtain ⟨rfl,rfl⟩:=hi
   have e:(fun b=>(0:Nat)=0∧b=g)=fun b=>b=g:=funext fun b=>by simp
   show p.p G.al St w' g (fun b=>(0:Nat)=0∧b=g)
   rw [e]
   exact hp
  | i+1,hi=>simp at hi
 ·obtain ⟨_,rfl⟩:=hi
  exact ⟨h2,fun hs=>by have:=h.s3 _ hs;omega,.inl h1⟩
theorem ax.turnObj {St:Nat→Prop} {a:Act} {w w':World} {i g:Nat} {p p':OP} (h:ax G St s a w) (hH:s.H[i]?=some (some g,.obj p)) (hF:∀ F,p.p G.al St w g F→(∀ b,F b↔b=g)) (hno:∀ cur t z,w.heap[g]?≠some (.cells cur t z))
  (ho:w'.os=w.os) (ht:w'.tape=w.tape) (hout:w'.output=w.output) (hsz:w'.heap.size=w.heap.size) (hold:∀ b,b≠g→w'.heap[b]?=w.heap[b]?) (hp':p'.p G.al St w' g (fun b=>b=g)):ax G St ⟨s.env,s.b,s.H.set i (some g,.obj p')⟩ a w':=by
 have ⟨fp,hp⟩:=h.hp
 have hlt:i<s.H.length:=(ZC.1 hH).1
 have hrep:p.p G.al St w g (fp i):=hp.rep i (some g) _ hH
 have hfi:=hF _ hrep
 have hg:fp i g:=(hfi g).2 rfl
 have ⟨hg1,hg2,hg3⟩:=hp.own i g hg
 have he:rc St w w':=⟨fun b cu ct cz hb hcu=>(hold b (fun e=>hg2 (e ▸ hb))).trans hcu,fun b cu t z hb=>⟨cu,z,(hold b (fun e=>hno cu t z (e ▸ hb))).trans hb,rfl⟩⟩
 refine ⟨h.df.keep (fun _ h=>h) (fun b hb=>hold b (fun e=>hg2 (e ▸ hb))),h.sz,fun d=>aP.evo he (fun _ x=>x) _ _ (h.env d),⟨ho.trans h.un.os,ht.trans h.un.tape,hout.trans h.un.output,by rw [hsz];exact h.un.size,fun k hk hFk=>?_,fun b cu t z hb=>?_⟩,h.s1,h.s2,fun b hb=>by rw [hsz];exact h.s3 b hb,?_,?_,h.sg⟩
 ·refine (hold k (fun e=>?_)).trans (h.un.block k hk hFk)
  subst e
  rcases hg3 with h1|h1
  omega
  exact hFk h1
 ·have ⟨cur',z',h1,h2⟩:=h.un.sh b cu t z hb
  have ⟨cur2,z2,h3,h4⟩:=he.sh b cur' t z' h1
  exact ⟨cur2,z2,h3,h4.trans h2⟩
 ·refine ⟨fp,fun j q r hj=>?_,hp.dis,fun j b hb=>by rw [hsz];exact hp.own j b hb,fun j hj=>hp.out j (by simpa using hj)⟩
  by_cases e:j=i
  ·subst e
   simp [hlt] at hj
   obtain ⟨rfl,rfl⟩:=hj
   have e2:fp j=fun b=>b=g:=funext fun b=>propext (hfi b)
   show p'.p G.al St w' g (fp j)
   rw [e2]
   exact hp'
  ·rw [ZQ (Ne.symm e)] at hj
   exact aW.rep_evo he (fun _ x=>x) (fun b hFb=>hold b (fun e2=>e (hp.dis j i b hFb (e2 ▸ hg)))) (hp.rep j q r hj)
 exact gc.keep h.sn (fun q hq=>hold q (fun e=>hg2 (e ▸ h.sg.1 q hq))) (fun q hq=>hold _ (fun e=>hg2 (e ▸ h.sg.2 q hq)))
theorem SL {l:ByteArray} {d:Nat} (ho:o.op=.range t x) (hx:(⟨env,b0,H⟩:AS).eval x=.c (.string l)) (h1:P.underlying t=some .string) (hd:o.dst=some d) (hN:Nat.blt d G.N=true)
  (hK:∀ g,K ⟨(d,.op H.length (some g) 0)::env,b0,H++[(some g,.obj (sc l 0))]⟩):kP P G o ⟨env,b0,H⟩ K:=fun St a w hr Q=>by
 have hrun:(execOp a.eval o).run P w=.ok (.value (.pointer (some ⟨w.heap.size,0,none⟩))) (w.iter l 0):=by
  simp only [execOp,ho,kZ hr hx]
  exact ma (run_range_string w t l h1)
 unfold Oper.wp
 rw [hrun]
 have hb:Below w.heap.size w (w.iter l 0):=ew w _
 refine ⟨hb,St,fun _ h=>h,_,hK w.heap.size,?_⟩
 have h2:=hr.freshObj (g:=w.heap.size) (p:=sc l 0) hb (ZA _) (by show _<(w.heap.push _).size;simp) ⟨fun b=>Iff.rfl,World.iter_heap w l 0⟩
 have:=h2.put (dst:=o.dst) (v:=.op H.length (some w.heap.size) 0) (x:=.pointer (some ⟨w.heap.size,0,none⟩)) (by intro d' hd';rw [hd] at hd';cases hd';exact ZN hN) ⟨_,rfl,rfl⟩
 rw [hd] at this ⊢
 exact this
theorem By {l:ByteArray} {pos g:Nat} {w:World} (ty:TypeId) (hg:w.heap[g]?=some (.stringIter l pos)) (h:pos<l.size) :
  (Instr.next (.pointer (some ⟨g,0,none⟩)) true ty).run P w=.ok (.tuple #[.bool true,.int .i64 pos,.int .i32 (Utf8.decode l pos).1]) { w with heap:=w.heap.setIfInBounds g (.stringIter l (pos+(Utf8.decode l pos).2)) }:=by
 simp [Instr.next,getObj,setObj,Sem.run,hg,h,goInt]
theorem y8 {l:ByteArray} {pos g:Nat} {w:World} (ty:TypeId) (hg:w.heap[g]?=some (.stringIter l pos)) (h:¬ pos<l.size) :
  (Instr.next (.pointer (some ⟨g,0,none⟩)) true ty).run P w=.ok (.tuple #[.bool false]) w:=by
 simp [Instr.next,getObj,Sem.run,hg,h]
theorem Vd {l:ByteArray} {pos i g d:Nat} (ho:o.op=.next x true) (hx:(⟨env,b0,H⟩:AS).eval x=.op i (some g) 0) (hH:H[i]?=some (some g,.obj (sc l pos))) (hd:o.dst=some d) (hN:Nat.blt d G.N=true)
  (h1:pos<l.size→K ⟨(d,.tup 3 (fl [.c (.bool true),.c (.int .i64 (pos:Nat)),.c (.int .i32 ((Utf8.decode l pos).1:Nat))]))::env,b0,H.set i (some g,.obj (sc l (pos+(Utf8.decode l pos).2)))⟩)
  (h2:¬ pos<l.size→K ⟨(d,.tup 1 (fl [.c (.bool false)]))::env,b0,H⟩):vn P G o ⟨env,b0,H⟩ K:=fun St a w hr Q=>by
 have ⟨b,hb,e0⟩:=iY hr hx
 cases hb
 have ⟨fp,hp⟩:=id hr.hp
 obtain ⟨hF,hg⟩:=hp.rep i _ _ hH
 have dlt:∀ d',o.dst=some d'→d'<G.N:=by intro d' hd';rw [hd] at hd';cases hd';exact ZN hN
 by_cases h:pos<l.size
 ·have hrun:(execOp a.eval o).run P w=.ok (.value (.tuple #[.bool true,.int .i64 pos,.int .i32 (Utf8.decode l pos).1])) { w with heap:=w.heap.setIfInBounds g (.stringIter l (pos+(Utf8.decode l pos).2)) }:=by
   simp only [execOp,ho,e0]
   exact ma (By _ hg h)
  unfold Oper.wp
  rw [hrun]
  refine ⟨fun b hb=>?_,St,fun _ h=>h,_,h1 h,?_⟩
  ·have hne:b≠g:=fun e=>(hp.own i g ((hF g).2 rfl)).2.1 (e ▸ hb)
   simp [ajx (Ne.symm hne)]
  have hlt:g<w.heap.size:=(ZX.1 hg).1
  have h3:=hr.turnObj (p:=sc l pos) (p':=sc l (pos+(Utf8.decode l pos).2)) (w':={ w with heap:=w.heap.setIfInBounds g (.stringIter l (pos+(Utf8.decode l pos).2)) }) hH (fun F h=>h.1) (fun cur t z he=>by rw [hg] at he;cases he) rfl rfl rfl (by simp) (fun b hb=>by simp [ajx (Ne.symm hb)]) ⟨fun b=>Iff.rfl,by simp [hlt]⟩
  have:=h3.put (dst:=o.dst) (v:=.tup 3 (fl [.c (.bool true),.c (.int .i64 (pos:Nat)),.c (.int .i32 ((Utf8.decode l pos).1:Nat))])) (x:=.tuple #[.bool true,.int .i64 pos,.int .i32 (Utf8.decode l pos).1]) dlt ⟨_,rfl,rfl,fun j hj=>match j,hj with|0,_=>rfl|1,_=>rfl|2,_=>rfl⟩
  rw [hd] at this ⊢
  exact this
 ·have hrun:(execOp a.eval o).run P w=.ok (.value (.tuple #[.bool false])) w:=by
   simp only [execOp,ho,e0]
   exact ma (y8 _ hg h)
  unfold Oper.wp
  rw [hrun]
  refine ⟨ff.refl _ _,St,fun _ h=>h,_,h2 h,?_⟩
  have:=hr.put (dst:=o.dst) (v:=.tup 1 (fl [.c (.bool false)])) (x:=.tuple #[.bool false]) dlt ⟨_,rfl,rfl,fun j hj=>match j,hj with|0,_=>rfl⟩
  rw [hd] at this ⊢
  exact this
end
def ap (l:I):CV:=.c (.string ⟨l.toArray⟩)
theorem Cu {a b:I}:((⟨a.toArray⟩:ByteArray)=⟨b.toArray⟩)↔a=b:=by
 constructor
 ·intro h
  have:=ZV (fun x:ByteArray=>x.data.toList) h
  simpa using this
 ·rintro rfl;rfl
theorem Tc (s:ByteArray):∃ l:I,s=⟨l.toArray⟩:=⟨s.data.toList,by cases s;simp⟩
theorem lE (a:I):(⟨a.toArray⟩:ByteArray).toList=a:=by rw [Go.ByteArray.toList_eq]
theorem VW (l r:I):(⟨l.toArray⟩++⟨r.toArray⟩:ByteArray)=⟨(l++r).toArray⟩:=by
 apply ByteArray.ext
 simp
theorem VU (l:I) (i j:Nat):(⟨l.toArray⟩:ByteArray).extract i j=⟨((l.take j).drop i).toArray⟩:=by
 apply ByteArray.ext
 simp [List.drop_take]
section
variable {P:Program} {G:Gh} {ops:Array Oper} {o:Oper} {s:AS} {r:List Oper} {K:AS→Prop} {t u:TypeId} {x y:Operand} {env:List (Nat×CV)} {b0:Nat→CV} {H:List (Option Nat×aW)} {k:IntKind} {a b:I}
theorem UR (ho:o.op=.binOp .eql t x y u) (hx:s.eval x=ap a) (hy:s.eval y=ap b):cj P G o s (.c (.bool (decide (a=b)))):=by
 have:=UQ (P:=P) (G:=G) ho hx hy
 rwa [show decide ((⟨a.toArray⟩:ByteArray)=⟨b.toArray⟩)=decide (a=b) from decide_eq_decide.2 Cu] at this
theorem UF (ho:o.op=.binOp .neq t x y u) (hx:s.eval x=ap a) (hy:s.eval y=ap b):cj P G o s (.c (.bool (decide (a≠b)))):=by
 have:=UE (P:=P) (G:=G) ho hx hy
 rwa [show decide ((⟨a.toArray⟩:ByteArray)≠⟨b.toArray⟩)=decide (a≠b) from decide_eq_decide.2 (not_congr Cu)] at this
theorem UL (ho:o.op=.binOp .lss t x y u) (hx:s.eval x=ap a) (hy:s.eval y=ap b):cj P G o s (.c (.bool (Op.bytesLess a b))):=by
 have:=UK (P:=P) (G:=G) ho hx hy
 rwa [lE,lE] at this
theorem UP (ho:o.op=.binOp .gtr t x y u) (hx:s.eval x=ap a) (hy:s.eval y=ap b):cj P G o s (.c (.bool (!(Op.bytesLess a b || a == b)))):=by
 have:=UO (P:=P) (G:=G) ho hx hy
 rwa [lE,lE] at this
theorem Rs (ho:o.op=.binOp .add t x y u) (hx:s.eval x=ap a) (hy:s.eval y=ap b) (hl:a.length+b.length≤9223372036854775807):cj P G o s (ap (a++b)):=by
 have:=Rr (P:=P) (G:=G) ho hx hy hl
 rwa [VW] at this
theorem Jy {i:Nat} {z:Int} (ho:o.op=.index t x y) (hx:s.eval x=ap a) (hy:s.eval y=.c (.int k z)) (h1:P.underlying t=some .string) (hz:z=(i:Int)) (hi:i<a.length):cj P G o s (aV a i) :=
 lB (l:=⟨a.toArray⟩) ho hx hy h1 hz hi
theorem Ro (ho:o.op=.call ⟨.builtin .len,#[x],#[t]⟩) (hx:s.eval x=ap a) (h1:P.underlying t=some .string):cj P G o s (.c (.int .i64 (a.length:Nat))):=Rk ho hx h1
theorem uy {l v:Nat} {lo hi:Option Operand} (ho:o.op=.slice t x lo hi none) (hx:s.eval x=ap a) (h1:P.underlying t=some .string)
  (hl:Bd s 0 lo l) (hu:Bd s a.length hi v) (hlv:l≤v) (hvn:v≤a.length):cj P G o s (ap ((a.take v).drop l)):=by
 have:=Jq (P:=P) (G:=G) (b:=⟨a.toArray⟩) ho hx h1 hl hu hlv hvn
 rwa [VU] at this
theorem xy {l:Nat} {lo:Operand} {z:Int} (ho:o.op=.slice t x (some lo) none none) (hx:s.eval x=ap a) (h1:P.underlying t=some .string) (hl:s.eval lo=.c (.int .i64 z)) (hz:z=(l:Int)) (hvn:l≤a.length):cj P G o s (ap (a.drop l)):=by
 have:=uy (P:=P) (G:=G) ho hx h1 (ci hl hz) (bv _ _) hvn (ZA _)
 rwa [ZW] at this
theorem rR {v:Nat} {hi:Operand} {z:Int} (ho:o.op=.slice t x none (some hi) none) (hx:s.eval x=ap a) (h1:P.underlying t=some .string) (hl:s.eval hi=.c (.int .i64 z)) (hz:z=(v:Int)) (hvn:v≤a.length):cj P G o s (ap (a.take v)):=by
 have:=uy (P:=P) (G:=G) ho hx h1 (bv _ _) (ci hl hz) (ZL _) hvn
 rwa [cUx] at this
theorem JJ {e:TypeId} (ho:o.op=.convert t u x) (hx:s.eval x=bc a) (h1:P.underlying t=some (.slice e)) (h2:P.underlying e=some (.int .u8)) (h3:P.underlying u=some .string):cj P G o s (ap a):=JG ho hx h1 h2 h3
theorem Ph {e:TypeId} {d:Nat} (ho:o.op=.convert t u x) (hx:(⟨env,b0,H⟩:AS).eval x=ap a) (h1:P.underlying t=some .string) (h2:P.underlying u=some (.slice e)) (h3:P.underlying e=some (.int .u8)) (hl:a.length≤9223372036854775807) (hd:o.dst=some d) (hN:Nat.blt d G.N=true)
  (hK:K ⟨(d,bc a)::env,b0,H⟩):kP P G o ⟨env,b0,H⟩ K:=by
 refine Pg ho hx h1 h2 h3 hl hd hN ?_
 simpa using hK
end
theorem aa.errN {m n:Nat} (h:n=m):aa (.err m) (.err n):=by subst h;exact Z
theorem aa.strL {a b:I} (h:a=b):aa (ap a) (ap b):=by subst h;exact Z
section
variable {P:Program} {G:Gh} {ops:Array Oper} {o:Oper} {s:AS} {r:List Oper} {K:AS→Prop} {t u:TypeId} {x y:Operand} {env:List (Nat×CV)} {b0:Nat→CV} {H:List (Option Nat×aW)}
theorem sl {ats:Array TypeId} (ho:o.op=.call ⟨.builtin .clear,#[x],ats⟩) {a:Act} {v:Value} {w w':World} (h:(Builtin.clear_ ats o.type #[a.eval x]).run P w=.ok v w'):(execOp a.eval o).run P w=.ok (.value v) w':=by
 simp [execOp,ho,resolve,invoke,builtin,h]
theorem RY {e:TypeId} {z:Value} {i off n k N M:Nat} {g:Option Nat} {f:Nat→CV} (ho:o.op=.call ⟨.builtin .clear,#[x],#[t]⟩) (hx:(⟨env,b0,H⟩:AS).eval x=.os i g off n k) (hH:H[i]?=some (g,.blk N f)) (h1:P.underlying t=some (.slice e)) (h5:(P.info? e).map (·.size)=some k) (hz:(P.info? e).map (·.zero)=some (some z)) (hzk:z.cells.size=k) (hk:0<k) (hz1:z.cells.all (·.oneCell')=true)
  (hM:M≤off) (hMN:M≤N) (hg:g=none→M=N) (hd:o.dst=none) (hK:K ⟨env,b0,H.set i (g,.blk M f)⟩):vn P G o ⟨env,b0,H⟩ K:=fun St a w hr Q=>by
 have ⟨info,hi,h6⟩:=ZG.1 h5
 have ⟨info',hi',hz⟩:=ZG.1 hz
 obtain rfl:=Z3 (hi.symm.trans hi')
 have less:∀ {w'},ax G St ⟨env,b0,H⟩ a w'→∃ St',(∀ b,St b→St' b)∧ax G St' ⟨env,b0,H.set i (g,.blk M f)⟩ a w':=fun hr' =>
  dt (G:=G) (s:=⟨env,b0,H⟩) i (m:=M) (F:=f) hH hMN hg (fun j hj=>Z) St a _ hr'
 have he:=iY hr hx
 have fin:∀ {w'},(execOp a.eval o).run P w=.ok (.value (.tuple #[])) w'→ff St w w'→(∃ St',(∀ b,St b→St' b)∧ax G St' ⟨env,b0,H.set i (g,.blk M f)⟩ a w')→o.wp P a w (fun a' w'=>ff St w w'∧∃ St',(∀ b,St b→St' b)∧∃ s',K s'∧ax G St' s' a' w') Q:=fun {w'} hrun hkeep ⟨St',hs,h⟩=>by
  unfold Oper.wp
  rw [hrun]
  refine ⟨hkeep,St',hs,_,hK,?_⟩
  rw [hd]
  exact h
 cases g with
 | none =>
  have ⟨hn,e0⟩:=he
  refine fin (sl ho ?_) (ff.refl _ _) (less hr)
  rw [e0]
  simp [Builtin.clear_,underlying,h1]
 | some b =>
  have ⟨cap,e0,h3,h4,cur,ty,zz,hh,hfit⟩:=he
  rcases btx n with hn|hn
  ·subst hn
   refine fin (sl ho ?_) (ff.refl _ _) (less hr)
   rw [e0]
   simp [Builtin.clear_,underlying,h1]
  ·have ⟨fp,hp⟩:=id hr.hp
   obtain ⟨h00,cur',ty',hh',hle,hcell⟩:=hp.rep i (some b) _ hH
   rw [hh] at hh'
   cases hh'
   have hlen:(Builtin.zeroCells z.cells n).toList.length=n * k:=by simp [Builtin.zeroCells,hzk]
   have hcap:off+n * k≤cur.size:=by
    have:=aox k h3
    omega
   have hone:∀ v ∈ (Builtin.zeroCells z.cells n).toList,v.oneCell'=true:=fun v hv=>by
    have hv':v ∈ Builtin.zeroCells z.cells n:=by simpa using hv
    have ⟨j,hj,e⟩:=Array.mem_iff_getElem.1 hv'
    rw [← e]
    have hlt:j % z.cells.size<z.cells.size:=aNx _ O
    have:=Array.all_eq_true.1 hz1 (j % z.cells.size) hlt
    simpa [Builtin.zeroCells,hlt] using this
   have hst:=run_storeCells_at P b off ty (Builtin.zeroCells z.cells n).toList 0 cur w hh (by rw [hlen];omega) hone
   simp only [afx] at hst
   obtain ⟨m,rfl⟩:∃ m,n=m+1:=⟨n-1,by omega⟩
   refine fin (w':=w.setRow b (cur.toList.take off++(Builtin.zeroCells z.cells (m+1)).toList++cur.toList.drop (off+(Builtin.zeroCells z.cells (m+1)).toList.length)).toArray) (sl ho ?_) (fun q hq=>setRow_other w b q _ (fun e=>(hp.own i b ((h00 b).2 rfl)).2.1 (e ▸ hq))) ?_
   ·rw [e0]
    simp [Builtin.clear_,underlying,h1,zeroValue,typeInfo,hi,hz,hst]
   ·refine ⟨St,fun _ h=>h,hr.write hH hh ?_ ?_ fun j hj=>?_⟩
    ·simp only [List.size_toArray,ZD,ZK,ZI,c3x,hlen];omega
    ·simp only [List.size_toArray,ZD,ZK,ZI,c3x,hlen];omega
    ·rw [rL cur _ off (by rw [hlen];omega),jK]
     exact hcell j O
end
def mn (r:Loop):OP where
 p al St w g F:=(∀ b,F b↔b=g)∧w.heap[g]?=some (.loop r)
 st:=fun he hs hF ⟨h1,h2⟩=>⟨h1,(hF _ ((h1 _).2 rfl)).trans h2⟩
structure Wf where
 N:Nat
 env:List (Nat×CV)
 b:Nat→CV
 ps:Array Tmp
 assign:Code
 body:Code
def gV (fn:FuncId) (tmps:Array Value) (L:Wf) (D:Nat) (sp:LoopState×Option Code):Loop:={ state:=sp.1,pending:=sp.2,fn,tmps,params:=L.ps,assign:=L.assign,body:=L.body,defers:=D }
def pn {π:Type} (L:Wf) (sp:π→LoopState×Option Code) (HB:π→List (Option Nat×aW)) (φ:π→Prop):OP where
 p al St w g F:=∃ (x:π) (fn:FuncId) (tmps:Array Value) (D:Nat),φ x∧tmps.size=L.N∧(∀ d,aP al St w (look L.env L.b d) (tmps.getD d undef))∧∃ fp,XU al St w F (HB x++[(some g,.obj (mn (gV fn tmps L D (sp x))))]) fp
 st:=fun he hs hF ⟨x,fn,tmps,D,h1,h2,h3,fp,h⟩=>⟨x,fn,tmps,D,h1,h2,fun d=>aP.evo he hs _ _ (h3 d),fp,fun i g r hi=>aW.rep_evo he hs (fun b hb=>hF b ((h.all b).2 ⟨i,hb⟩)) (h.rep i g r hi),h.dis,h.out,h.all⟩
def X3 (gs:List Nat) (P:Program) (l:Nat) (H:List (Option Nat×aW)) (args:List CV) (Q:CV→List (Option Nat×aW)→Prop):Prop :=
 ∀ al w St F0 (vals:Array Value),vW gs al St F0 H w→vals.size=args.length→(∀ i,aP al St w (fl args i) (vals.getD i undef)) →
  YieldAt (H7 none) 0 P l vals w fun e w'=>∃ v r H' St',e=.returned v∧Q r H'∧aP al St' w' r v∧jw F0 w w'∧(∀ b,St b→St' b)∧(∀ b,St' b→St b∨w.heap.size≤b∨F0 b)∧(∀ b,St' b→b<w'.heap.size)∧cY al St' w' w.heap.size F0 H'
def YQ (l:Nat) (J' Jx:OP):CV→List (Option Nat×aW)→Prop:=fun r H'=>(r=.c (.bool true)∧H'=[(some l,.obj J')])∨(r=.c (.bool false)∧H'=[(some l,.obj Jx)])
section
variable {P:Program} {G:Gh} {ops:Array Oper} {o:Oper} {s:AS} {K:AS→Prop} {env:List (Nat×CV)} {b0:Nat→CV} {H:List (Option Nat×aW)} {R:Exit→AS→Prop}
def XW (P:Program) (G:Gh) (o:Oper) (s:AS) (K:AS→Prop):Prop:=∀ a w,wm G s a w→∀ Q,o.wpIn (H7 G.rd) 0 P a w (fun a' w'=>∃ s',K s'∧wm G s' a' w') Q
theorem Bu {r:List Oper} (hw:aS G ops o s true) (hy:G.yl=true) (h:XW P G o s (fun s'=>cQ P G ops r s' K)):cQ P G ops (o::r) s K:=fun a w hr Q hQ=>by
 unfold m7
 have ⟨St,hs⟩:=id hr
 rw [Zz (hw St a w hs)]
 exact .inr ⟨hy,Oper.wpIn_mono (fun a' w' ⟨s',h1,h2⟩=>h1 a' w' h2 Q hQ) (h a w hr Q)⟩
theorem Gx {v:Operand} {l:Nat} {xs:Array Operand} {ats:Array TypeId} (ho:o.op=.call ⟨.value v,xs,ats⟩) (a:Act) (hv:a.eval v=.func (.yield l) #[] #[]) {w:World} {x:Next} (h:(Instr.yield l (xs.map a.eval)).run P w=.ok x w) :
  (execOp a.eval o).run P w=.ok x w:=by
 simp [execOp,ho,resolve,hv,Deferred.ofValue,invoke,h]
theorem BX {v:Operand} {l:Nat} {xs:Array Operand} {ats:Array TypeId} {args:List CV} {Q:CV→List (Option Nat×aW)→Prop} {i d:Nat} {x0:Option Nat×aW} (ho:o.op=.call ⟨.value v,xs,ats⟩) (hv:(⟨env,b0,H⟩:AS).eval v=.c (.func (.yield l) #[] #[])) (hi:H[i]?=some x0) (hA:X3 G.gs P l [x0] args Q) (he:CI G ⟨env,b0,H⟩ xs.toList args) (hd:o.dst=some d) (hN:Nat.blt d G.N=true)
  (hK:∀ r H',Q r H'→∃ x r',H'=[x]∧aa r r'∧K ⟨(d,r')::env,b0,H.set i x⟩):XW P G o ⟨env,b0,H⟩ K:=fun a w ⟨St,hr⟩ Q'=>by
 have ⟨h1,h2⟩:=Cw he hr
 have ⟨fp,hp⟩:=hr.hp
 have hlt:i<H.length:=(ZC.1 hi).1
 have ⟨g0,r0⟩:=x0
 have hent:vW G.gs G.al St (fp i) [(g0,r0)] w:=by
  refine ⟨hr.s3,hr.sn,hr.sg,⟨fun j b=>j=0∧fp i b,fun j g r hj=>?_,fun j l b hj hl=>by omega,fun j b hj=>⟨(hp.own i b hj.2).1,(hp.own i b hj.2).2.1,.inr hj.2⟩,fun j hj b hb=>by simp at hj;omega⟩,fun b hb=>(hp.own i b hb).2.1⟩
  match j,hj with
  | 0,hj =>
   simp at hj
   obtain ⟨rfl,rfl⟩:=hj
   have e:(fun b=>(0:Nat)=0∧fp i b)=fp i:=funext fun b=>by simp
   show r0.rep G.al St w (fun b=>(0:Nat)=0∧fp i b) g0
   rw [e]
   exact hp.rep i g0 r0 hi
  | j+1,hj=>simp at hj
 obtain ⟨fn,tmps,assign,body,hy,hR⟩:=hA G.al w St _ _ hent h1 h2
 refine ⟨fun f _=>trivial,?_⟩
 rw [Oper.semAt_eq _ _ _ (by rw [ho];intro c e;cases e),Gx ho a (kZ hr hv) hy]
 refine ⟨fun e=>(by cases e),?_⟩
 refine RoundIn.mono (F:=H7 none) (n:=0) hR ?_
 rintro e w' ⟨v,r,H',St',rfl,hq,hv,hu,h3,h4,h5,h6⟩
 obtain ⟨x,r',rfl,hce,hk⟩:=hK r H' hq
 refine ⟨_,hk,St',?_⟩
 have h7:=(hr.afterH hp hlt hu h3 h4 h5 h6).put (dst:=o.dst) (v:=r') (x:=v) (by intro d' hd';rw [hd] at hd';cases hd';exact ZN hN) (hce _ _ _ _ hv)
 rw [hd] at h7 ⊢
 exact h7
def FN:List Tmp→List CV→List (Nat×CV)→List (Nat×CV)
 | p::ps,c::cs,env=>FN ps cs ((p,c)::env)
 | _,_,env=>env
theorem DA {al:List Addr} {St:Nat→Prop} {w:World} {b:Nat→CV} {N:Nat}:∀ (ps:List Tmp) (cs:List CV) (vs:List Value) (env:List (Nat×CV)) (tmps:Array Value),tmps.size=N→(∀ d,aP al St w (look env b d) (tmps.getD d undef))→ps.length=cs.length→vs.length=cs.length→(∀ p ∈ ps,p<N)→(∀ i,i<cs.length→aP al St w (fl cs i) (vs.getD i undef)) →
  ((ps.zip vs).foldl (fun t (p,v)=>t.setIfInBounds p v) tmps).size=N∧∀ d,aP al St w (look (FN ps cs env) b d) (((ps.zip vs).foldl (fun t (p,v)=>t.setIfInBounds p v) tmps).getD d undef)
 | [],cs,vs,env,tmps,h1,h2,_,_,_,_=>⟨by simpa using h1,by simpa [FN] using h2⟩
 | p::ps,[],vs,env,tmps,_,_,h3,_,_,_=>by simp at h3
 | p::ps,c::cs,[],env,tmps,_,_,_,h4,_,_=>by simp at h4
 | p::ps,c::cs,v::vs,env,tmps,h1,h2,h3,h4,h5,h6=>by
  simp only [List.zip_cons_cons,bRx,FN]
  refine DA ps cs vs _ _ (by simpa using h1) (fun d=>?_) (by simpa using h3) (by simpa using h4) (fun q hq=>h5 q (Z2 _ hq)) (fun i hi=>?_)
  ·by_cases hpd:p=d
   ·subst hpd
    rw [fx]
    have h0:=h6 0 (by simp)
    have hlt:p<tmps.size:=by rw [h1];exact h5 p (ZU ..)
    simpa [hlt,fl] using h0
   ·rw [dr _ _ _ hpd]
    have:=h2 d
    simpa [ajx hpd] using this
  ·have:=h6 (i+1) (by simp;omega)
   simpa [fl] using this
theorem Mq {α:Type} (l:List α) (x y:α):(l++[x]).set l.length y=l++[y]:=by
 rw [List.set_append_right _ _ (ZA _)];simp
theorem tw {α:Type} (l:List α) (x:α):(l++[x])[l.length]?=some x:=by simp
theorem cY.packR {al:List Addr} {St:Nat→Prop} {w:World} {base:Nat} {F0:Nat→Prop} {π:Type} {L:Wf} {sp:π→LoopState×Option Code} {HB:π→List (Option Nat×aW)} {φ:π→Prop} {l:Nat} {x:π} {fn:FuncId} {tmps:Array Value} {D:Nat} (hx:φ x) (hs:tmps.size=L.N) (he:∀ d,aP al St w (look L.env L.b d) (tmps.getD d undef))
  (h:cY al St w base F0 (HB x++[(some l,.obj (mn (gV fn tmps L D (sp x))))])):cY al St w base F0 [(some l,.obj (pn L sp HB φ))]:=by
 have ⟨fp,hp⟩:=h
 refine ⟨fun j b=>j=0∧∃ i,fp i b,fun j g r hj=>?_,fun i j b hi hj=>by omega,fun i b hi=>?_,fun i hi b hb=>by simp at hi;omega⟩
 ·match j,hj with
  | 0,hj =>
   simp at hj
   obtain ⟨rfl,rfl⟩:=hj
   exact ⟨x,fn,tmps,D,hx,hs,he,fp,fun i g r hi=>hp.rep i g r hi,hp.dis,hp.out,fun b=>by simp⟩
  | j+1,hj=>simp at hj
 ·have ⟨_,k,hk⟩:=hi
  exact hp.own k b hk
def BG {π q:Type} (l:Nat) (R1:OP) (HB:π→List (Option Nat×aW)) (φ':π→Prop) (HX:q→List (Option Nat×aW)) (χ:Code→q→Prop):Exit→AS→Prop
 | .normal,s=>∃ x,φ' x∧(HB x).length+1≤s.H.length∧aD (s.H.take ((HB x).length+1)) (HB x++[(some l,.obj R1)])
 | .ret,s=>∃ x,χ .ret x∧(HX x).length+1≤s.H.length∧aD (s.H.take ((HX x).length+1)) (HX x++[(some l,.obj R1)])
 | .exit id,s=>∃ x,χ (.exit id) x∧(HX x).length+1≤s.H.length∧aD (s.H.take ((HX x).length+1)) (HX x++[(some l,.obj R1)])
 | _,_=>False
def Cv (P:Program) (G:Gh) (body:Code) (B:List (Option Nat×aW)) (l:Nat) (R0 R1:OP) (RE:Exit→AS→Prop):Exit→AS→Prop
 | .normal,s=>∃ env b,s=⟨env,b,B++[(some l,.obj R0)]⟩∧aY P G body ⟨env,b,B++[(some l,.obj R1)]⟩ RE
 | _,_=>False
theorem ax.take_h {St:Nat→Prop} {a:Act} {w:World} {B:List (Option Nat×aW)} (h:ax G St s a w) (hl:B.length≤s.H.length) (he:aD (s.H.take B.length) B):ax G St ⟨s.env,s.b,B⟩ a w:=by
 have h1:=h.hp.pick (List.range B.length) (gQ _) (gR _ _ hl)
 exact ⟨h.df,h.sz,h.env,h.un,h.s1,h.s2,h.s3,h1.hent he,h.sn,h.sg⟩
theorem ax.turnRec {St:Nat→Prop} {a:Act} {w:World} {B:List (Option Nat×aW)} {l:Nat} {r r':Loop} (h:ax G St ⟨env,b0,B++[(some l,.obj (mn r))]⟩ a w) :
  w.heap[l]?=some (.loop r)∧ax G St ⟨env,b0,B++[(some l,.obj (mn r'))]⟩ a (w.putObj l (.loop r')):=by
 have ⟨fp,hp⟩:=id h.hp
 obtain ⟨hF,hg⟩:=hp.rep B.length (some l) _ (tw _ _)
 have hlt:l<w.heap.size:=(ZX.1 hg).1
 refine ⟨hg,?_⟩
 have:=h.turnObj (i:=B.length) (g:=l) (p:=mn r) (p':=mn r') (w':=w.putObj l (.loop r')) (tw _ _) (fun F h=>h.1) (fun cur t z he=>by rw [hg] at he;cases he) rfl rfl rfl (by simp) (fun b hb=>World.putObj_heap_other hb) ⟨fun b=>Iff.rfl,World.putObj_heap_same hlt⟩
 rw [Mq] at this
 exact this
theorem rM {π:Type} {gs:List Nat} {al:List Addr} {l:Nat} {w W:World} {F0 St0 St:Nat→Prop} {N:Nat} {L:Wf} {sp:π→LoopState×Option Code} {HB:π→List (Option Nat×aW)} {φ:π→Prop} {yp:List (Nat×CV)} {b:Nat→CV} {x:π} {a:Act} {fn:FuncId} {tmps:Array Value} {D:Nat} {jump:Option Code} {Q:CV→List (Option Nat×aW)→Prop}
  (hent:∀ b,F0 b→¬ St0 b) (h3:∀ b,St0 b→b<w.heap.size) (hx:φ x) (hs:tmps.size=L.N) (henv:∀ d,aP al St0 w (look L.env L.b d) (tmps.getD d undef))
  (hsp:sp x=(if jump.isNone then .ready else .done,jump))
  (hr:ax ⟨gs,al,w,F0,St0,N,some l,false⟩ St ⟨yp,b,HB x++[(some l,.obj (mn { gV fn tmps L D (.ready,none) with state:=.busy }))]⟩ a W) (hQ:Q (.c (.bool jump.isNone)) [(some l,.obj (pn L sp HB φ))]) :
  ∃ v w',(Instr.endRound l jump).run P W=.ok v w'∧∃ v' r H' St',Ending.returned v=.returned v'∧Q r H'∧aP al St' w' r v'∧jw F0 w w'∧(∀ b,St0 b→St' b)∧(∀ b,St' b→St0 b∨w.heap.size≤b∨F0 b)∧(∀ b,St' b→b<w'.heap.size)∧cY al St' w' w.heap.size F0 H':=by
 obtain ⟨hg,hr2⟩:=hr.turnRec (r':=gV fn tmps L D (sp x))
 refine ⟨_,_,run_endRound jump hg,.bool jump.isNone,_,_,St,rfl,hQ,rfl,?_⟩
 have e:({ { gV fn tmps L D (.ready,none) with state:=LoopState.busy } with state:=if jump.isNone then LoopState.ready else LoopState.done,pending:=jump }:Loop)=gV fn tmps L D (sp x):=by rw [hsp];rfl
 rw [e]
 have hev:rc St0 w (W.putObj l (.loop (gV fn tmps L D (sp x)))):=⟨fun b cur t z hb hc=>(hr2.un.block b (h3 b hb) (fun hf=>hent b hf hb)).trans hc,hr2.un.sh⟩
 exact ⟨hr2.un,hr2.s1,hr2.s2,hr2.s3,cY.packR hx hs (fun d=>aP.evo hev hr2.s1 _ _ (henv d)) hr2.hp⟩
theorem Lm {gs:List Nat} {π q:Type} {l:Nat} {L:Wf} {HB:π→List (Option Nat×aW)} {φ φ':π→Prop} {HX:q→List (Option Nat×aW)} {χ:Code→q→Prop} {args:List CV} (hn:L.ps.toList.length=args.length) (hps:∀ p ∈ L.ps.toList,p<L.N)
  (hb:∀ (al:List Addr) (w0:World) (F0 St0:Nat→Prop) (R0 R1:OP) (x:π),φ x→aY P ⟨gs,al,w0,F0,St0,L.N,some l,false⟩ L.assign ⟨FN L.ps.toList args L.env,L.b,HB x++[(some l,.obj R0)]⟩ (Cv P ⟨gs,al,w0,F0,St0,L.N,some l,false⟩ L.body (HB x) l R0 R1 (BG l R1 HB φ' HX χ))) :
  X3 gs P l [(some l,.obj (pn L (fun _=>(.ready,none)) HB φ))] args (YQ l (pn L (fun _=>(.ready,none)) HB φ') (pn L (fun x:Code×q=>(.done,some x.1)) (fun x=>HX x.2) (fun x=>χ x.1 x.2))):=by
 intro al w St F0 vals he hvs hv
 have ⟨fp,hp⟩:=he.hp
 obtain ⟨x,fn,tmps,D,hx,hsz,henv,fq,hf⟩:=hp.rep 0 (some l) _ rfl
 obtain ⟨hFl,hg⟩:=hf.rep (HB x).length (some l) _ (tw _ _)
 have hlen:L.ps.size=args.length:=by simpa using hn
 have hy:=run_yield (P:=P) (args:=vals) hg (by rw [hvs];exact hlen.symm)
 refine ⟨_,_,_,_,hy,roundIn_of_wpIn trivial ?_⟩
 have hpe:=DA (al:=al) (St:=St) (w:=w) (b:=L.b) (N:=L.N) L.ps.toList args vals.toList L.env tmps hsz henv hn (by simpa using hvs) hps (fun i hi=>by
  have:=hv i
  simpa using this)
 have hfold:(L.ps.toList.zip vals.toList).foldl (fun t (p,v)=>t.setIfInBounds p v) tmps=((gV fn tmps L D (.ready,none)).params.zip vals).foldl (fun tmps (t,a)=>tmps.setIfInBounds t a) (gV fn tmps L D (.ready,none)).tmps:=by
  rw [← Array.foldl_toList,Array.toList_zip]
  rfl
 rw [hfold] at hpe
 have hrel:ax ⟨gs,al,w,F0,St,L.N,some l,false⟩ St ⟨FN L.ps.toList args L.env,L.b,HB x++[(some l,.obj (mn (gV fn tmps L D (.ready,none))))]⟩ { tmps:=((gV fn tmps L D (.ready,none)).params.zip vals).foldl (fun tmps (t,a)=>tmps.setIfInBounds t a) (gV fn tmps L D (.ready,none)).tmps,defers:=[] } w :=
  ⟨pZ.none _ _ _,hpe.1,hpe.2,jw.refl _ _,fun _ h=>h,fun _ h=>.inl h,he.s3,⟨fq,fun i g r hi=>hf.rep i g r hi,hf.dis,fun i b hi=>hp.own 0 b ((hf.all b).2 ⟨i,hi⟩),hf.out⟩,he.sn,he.sg⟩
 refine (hb al w F0 St (mn (gV fn tmps L D (.ready,none))) (mn { gV fn tmps L D (.ready,none) with state:=.busy }) x hx) _ _ ⟨St,hrel⟩ _ ?_
 intro e s1 a1 w1 h1 h2
 cases e with
 | normal =>
  obtain ⟨env1,b1,rfl,hbody⟩:=h1
  have ⟨St1,hr1⟩:=h2
  obtain ⟨hg1,hr2⟩:=hr1.turnRec (r':={ gV fn tmps L D (.ready,none) with state:=.busy })
  refine ⟨_,run_beginRound hg1 rfl,hbody a1 _ ⟨St1,hr2⟩ _ ?_⟩
  intro e s2 a2 w2 h3 ⟨St2,hr3⟩
  cases e with
  | normal =>
   have ⟨x',hx',hl',hh'⟩:=h3
   have hr4:=hr3.take_h (B:=HB x'++[(some l,.obj (mn { gV fn tmps L D (.ready,none) with state:=.busy }))]) (by simpa using hl') (by simpa using hh')
   exact rM (jump:=none) he.f0 he.s3 hx' hsz henv rfl hr4 (.inl ⟨rfl,rfl⟩)
  | ret =>
   have ⟨x',hx',hl',hh'⟩:=h3
   have hr4:=hr3.take_h (B:=HX x'++[(some l,.obj (mn { gV fn tmps L D (.ready,none) with state:=.busy }))]) (by simpa using hl') (by simpa using hh')
   exact rM (x:=(Code.ret,x')) (HB:=fun x:Code×q=>HX x.2) (φ:=fun x=>χ x.1 x.2) (sp:=fun x:Code×q=>(.done,some x.1)) (jump:=some .ret) he.f0 he.s3 hx' hsz henv rfl hr4 (.inr ⟨rfl,rfl⟩)
  | exit id =>
   have ⟨x',hx',hl',hh'⟩:=h3
   have hr4:=hr3.take_h (B:=HX x'++[(some l,.obj (mn { gV fn tmps L D (.ready,none) with state:=.busy }))]) (by simpa using hl') (by simpa using hh')
   exact rM (x:=(Code.exit id,x')) (HB:=fun x:Code×q=>HX x.2) (φ:=fun x=>χ x.1 x.2) (sp:=fun x:Code×q=>(.done,some x.1)) (jump:=some (.exit id)) he.f0 he.s3 hx' hsz henv rfl hr4 (.inr ⟨rfl,rfl⟩)
  | _=>exact h3.elim
 | _=>exact h1.elim
end
section
variable {P:Program} {G:Gh} {s:AS} {R:Exit→AS→Prop}
def PY (gs:List Nat) (P:Program) (f:FuncId) (HI:List (Option Nat×aW)) (capt:List CV) (m:Nat) (E:Nat→List CV):Prop :=
 ∀ (l:Nat) (J:Nat→OP) (Jx:OP),(∀ k,k<m→X3 gs P l [(some l,.obj (J k))] (E k) (YQ l (J (k+1)) Jx)) →
  AC gs P f (HI++[(some l,.obj (J 0))]) (.c (.func (.yield l) #[] #[])::capt) fun _ H'=>H'=[(some l,.obj (J m))]∨H'=[(some l,.obj Jx)]
theorem yA {fi n:Nat} {fv:Nat→CV} {g:Operand} {ps:Array Tmp} {assign body:Code} {π q:Type} (m:Nat) (E:Nat→List CV) (HI:List (Option Nat×aW)) (HB:π→List (Option Nat×aW)) (φ:Nat→π→Prop) (HX:q→List (Option Nat×aW)) (χ:Code→q→Prop) (p0:π) (li:List Nat)
  (hrd:G.rd=none) (hg:s.eval g=.fn fi n fv) (hc:bA P fi=true) (hit:PY G.gs P fi HI ((List.range n).map fv) m E) (h0:φ 0 p0) (hnd:li.Nodup) (hpick:il s.H li=HI++HB p0)
  (hps:∀ k,k<m→ps.toList.length=(E k).length) (hpN:(ps.toList.all fun p=>Nat.blt p G.N)=true)
  (hround:∀ k,k<m→∀ (l:Nat) (al:List Addr) (w0:World) (F0 St0:Nat→Prop) (R0 R1:OP) (x:π),φ k x→aY P ⟨G.gs,al,w0,F0,St0,G.N,some l,false⟩ assign ⟨FN ps.toList (E k) s.env,s.b,HB x++[(some l,.obj R0)]⟩ (Cv P ⟨G.gs,al,w0,F0,St0,G.N,some l,false⟩ body (HB x) l R0 R1 (BG l R1 HB (φ (k+1)) HX χ)))
  (hdone:∀ x,φ m x→R .normal ⟨s.env,s.b,HB x⟩) (hjump:∀ c x,χ c x→(c=.ret∧R .ret ⟨s.env,s.b,HX x⟩)∨∃ id,c=.exit id∧R (.exit id) ⟨s.env,s.b,HX x⟩):aY P G (.rangeFunc g ps assign body) s R:=fun a w ⟨St,hr⟩ Q hQ=>by
 have ⟨cs,hcs,hcn,hfv⟩:=iY hr hg
 rw [hrd]
 refine wpIn_rangeFunc fun fn _=>?_
 obtain ⟨L,hL⟩:∃ L:Wf,L=⟨G.N,s.env,s.b,ps,assign,body⟩:=⟨_,rfl⟩
 obtain ⟨w1,hw1⟩:∃ w1,w1=(w.alloc (.deferred (some []))).alloc (.loop (gV fn a.tmps L w.heap.size (.ready,none))):=⟨_,rfl⟩
 have hb1:Below w.heap.size w w1:=by rw [hw1];exact ((Below.refl _ w).alloc (ZA _) _).alloc (by simp) _
 have hsz1:w1.heap.size=w.heap.size+2:=by rw [hw1];simp
 have hL1:w1.heap[w.heap.size+1]?=some (.loop (gV fn a.tmps L w.heap.size (.ready,none))):=by
  rw [hw1];have:=World.alloc_heap_new (w.alloc (.deferred (some []))) (.loop (gV fn a.tmps L w.heap.size (.ready,none)));rwa [World.size_alloc] at this
 have hD1:w1.heap[w.heap.size]?=some (.deferred (some [])):=by
  rw [hw1];exact (Below.heap_alloc _ _ _ (by simp)).trans (World.alloc_heap_new w _)
 -- the blocks that are handed over
 have ⟨fp,hp⟩:=hr.hp.pick li hnd hpick
 have hev1:rc St w w1:=rc.of_below hb1 hr.s3
 let l:=w.heap.size+1
 let D:=w.heap.size
 let St1:Nat→Prop:=fun b=>St b∨b=D
 let F1:Nat→Prop:=fun b=>(∃ i,fp i b)∨b=l
 have hfl:∀ i b,fp i b→b<D:=fun i b hi=>(hp.own i b hi).1
 have hst1:∀ b,St b→St1 b:=fun _ h=>.inl h
 have hrep:∀ (i:Nat) (g:Option Nat) (r:aW),(HI++HB p0)[i]?=some (g,r)→r.rep G.al St1 w1 (fp i) g:=fun i g r hi=>aW.rep_evo hev1 hst1 (fun b hF=>hb1.block b (hp.own i b hF).1) (hp.rep i g r hi)
 have hrec:aW.rep G.al St1 w1 (fun b=>b=l) (some l) (.obj (mn (gV fn a.tmps L D (.ready,none)))):=⟨fun b=>Iff.rfl,hL1⟩
 have henv1:∀ d,aP G.al St1 w1 (look s.env s.b d) (a.tmps.getD d undef):=fun d=>aP.evo hev1 hst1 _ _ (hr.env d)
 have hent:vW G.gs G.al St1 F1 (HI++[(some l,.obj (pn L (fun _=>(.ready,none)) HB (φ 0)))]) w1:=by
  refine ⟨fun b hb=>?_,(hr.ext hb1).sn,⟨fun g hg=>.inl (hr.sg.1 g hg),fun x hx=>.inl (hr.sg.2 x hx)⟩,⟨fun i b=>(i<HI.length∧fp i b)∨(i=HI.length∧(b=l∨∃ j,HI.length≤j∧fp j b)),fun i g r hi=>?_,fun i j b hi hj=>?_,fun i b hi=>?_,fun i hi b hb=>?_⟩,fun b hb=>?_⟩
  ·rcases hb with hb|rfl
   exact Z4 (hr.s3 b hb) hb1.size
   show w.heap.size<_;omega
  ·by_cases h1:i<HI.length
   ·rw [ZF h1] at hi
    have e:(fun b=>(i<HI.length∧fp i b)∨(i=HI.length∧(b=l∨∃ j,HI.length≤j∧fp j b)))=fp i:=funext fun b=>propext ⟨fun h=>h.elim (fun h=>h.2) (fun h=>by omega),fun h=>.inl ⟨h1,h⟩⟩
    show r.rep G.al St1 w1 (fun b=>(i<HI.length∧fp i b)∨(i=HI.length∧(b=l∨∃ j,HI.length≤j∧fp j b))) g
    rw [e]
    exact hrep i g r (by rw [ZF h1];exact hi)
   ·have h2:i=HI.length:=by
     have:=(ZC.1 hi).1
     simp at this
     omega
    subst h2
    simp at hi
    obtain ⟨rfl,rfl⟩:=hi
    refine ⟨p0,fn,a.tmps,D,h0,by rw [hL];exact hr.sz,by rw [hL];exact henv1,fun j b=>if j<(HB p0).length then fp (HI.length+j) b else j=(HB p0).length∧b=l,fun j g r hj=>?_,fun i j b hi hj=>?_,fun j hj b hb=>?_,fun b=>⟨fun hb=>?_,fun ⟨j,hj⟩=>?_⟩⟩
    ·by_cases h3:j<(HB p0).length
     ·rw [ZF h3] at hj
      simp only [h3,if_true]
      exact hrep _ g r (by rw [ZR O,aWx];exact hj)
     ·have h4:j=(HB p0).length:=by
       have:=(ZC.1 hj).1
       simp at this
       omega
      subst h4
      simp at hj
      obtain ⟨rfl,rfl⟩:=hj
      have e:(fun b=>if (HB p0).length<(HB p0).length then fp (HI.length+(HB p0).length) b else (HB p0).length=(HB p0).length∧b=l)=fun b=>b=l:=funext fun b=>by simp
      show aW.rep G.al St1 w1 (fun b=>if (HB p0).length<(HB p0).length then fp (HI.length+(HB p0).length) b else (HB p0).length=(HB p0).length∧b=l) _ _
      rw [e]
      exact hrec
    ·by_cases h3:i<(HB p0).length<;>by_cases h4:j<(HB p0).length<;>simp only [h3,h4,if_true,if_false] at hi hj
     ·have:=hp.dis _ _ b hi hj;omega
     ·have:=hfl _ b hi;obtain ⟨_,rfl⟩:=hj;simp only [l,D] at this;omega
     ·have:=hfl _ b hj;obtain ⟨_,rfl⟩:=hi;simp only [l,D] at this;omega
     omega
    ·have h3:¬ j<(HB p0).length:=by simp at hj;omega
     simp only [h3,if_false] at hb
     simp at hj;omega
    ·rcases hb with ⟨h5,_⟩|⟨_,rfl|⟨j,hj,hF⟩⟩
     omega
     exact ⟨(HB p0).length,by simp⟩
     ·refine ⟨j-HI.length,?_⟩
      have h5:j<(HI++HB p0).length:=hp.len hF
      rw [Zz (by simp at h5;omega),show HI.length+(j-HI.length)=j by omega]
      exact hF
    ·by_cases h3:j<(HB p0).length
     ·simp only [h3,if_true] at hj
      exact .inr ⟨rfl,.inr ⟨_,by omega,hj⟩⟩
     ·simp only [h3,if_false] at hj
      exact .inr ⟨rfl,.inl hj.2⟩
  ·rcases hi with ⟨h1,h2⟩|⟨h1,h2⟩<;>rcases hj with ⟨h3,h4⟩|⟨h3,h4⟩
   exact hp.dis i j b h2 h4
   ·rcases h4 with rfl|⟨k,hk,h4⟩
    ·have:=hfl _ _ h2;simp only [l,D] at this;omega
    ·have:=hp.dis _ _ b h2 h4;omega
   ·rcases h2 with rfl|⟨k,hk,h2⟩
    ·have:=hfl _ _ h4;simp only [l,D] at this;omega
    ·have:=hp.dis _ _ b h2 h4;omega
   omega
  ·have hb:b=l∨∃ j,fp j b:=by
    rcases hi with ⟨_,h2⟩|⟨_,h2|⟨j,_,h2⟩⟩
    exact .inr ⟨_,h2⟩
    exact .inl h2
    exact .inr ⟨j,h2⟩
   rcases hb with rfl|⟨j,hj⟩
   ·refine ⟨by simp only [l];omega,fun hs=>?_,.inr (.inr rfl)⟩
    rcases hs with hs|hs
    ·have:=hr.s3 _ hs;simp only [l] at this;omega
    ·simp only [l,D] at hs;omega
   ·have ⟨k1,k2,k3⟩:=hp.own j b hj
    refine ⟨by omega,fun hs=>?_,.inr (.inl ⟨j,hj⟩)⟩
    rcases hs with hs|hs
    exact k2 hs
    ·simp only [D] at hs;omega
  ·simp at hi
   rcases hb with ⟨h1,_⟩|⟨h1,_⟩<;>omega
  ·intro hs
   rcases hb with ⟨j,hj⟩|rfl
   ·have ⟨k1,k2,k3⟩:=hp.own j b hj
    rcases hs with hs|hs
    exact k2 hs
    ·simp only [D] at hs;omega
   ·rcases hs with hs|hs
    ·have:=hr.s3 _ hs;simp only [l] at this;omega
    ·simp only [l,D] at hs;omega
 have hround':∀ k,k<m→X3 G.gs P l [(some l,.obj (pn L (fun _=>(.ready,none)) HB (φ k)))] (E k) (YQ l (pn L (fun _=>(.ready,none)) HB (φ (k+1))) (pn L (fun x:Code×q=>(.done,some x.1)) (fun x=>HX x.2) (fun x=>χ x.1 x.2))):=fun k hk=>by
  refine Lm (by rw [hL];exact hps k hk) (fun p hp=>?_) (fun al w0 F0 St0 R0 R1 x hx=>?_)
  ·rw [hL] at hp ⊢
   exact ZN (Z1.1 hpN p hp)
  ·rw [hL]
   exact hround k hk l al w0 F0 St0 R0 R1 x hx
 have hA:=hit l (fun k=>pn L (fun _=>(.ready,none)) HB (φ k)) _ hround'
 have hvals:(#[.func (.yield l) #[] #[]]++cs:Array Value).size=(.c (.func (.yield l) #[] #[])::(List.range n).map fv:List CV).length:=by simp [hcn];omega
 have hcall:=hA G.al w1 St1 F1 (#[.func (.yield l) #[] #[]]++cs) hent hvals (fun i=>by
  cases i with
  | zero =>
   show (#[Value.func (.yield l) #[] #[]]++cs).getD 0 undef=_
   rw [ayx,aCx (by simp)]
   rfl
  | succ i =>
   rw [fl,dK]
   by_cases hi:i<n
   ·have:=aP.evo hev1 hst1 _ _ (hfv i hi)
    simp only [List.getD,aBx,bEx hi,bzx,asx,ayx]
    rw [bpx (by simp)]
    simpa [ayx] using this
   ·simp only [List.getD,Z0 (show ((List.range n).map fv).length≤i by simp;omega),Option.getD_none]
    trivial)
 have e0:[({ target:=.collected w.heap.size,args:=#[] }:Deferred)]++a.defers=oO D::a.defers:=rfl
 refine ⟨l,[{ target:=.collected w.heap.size,args:=#[] }],w1,{ target:=.fn (.func fi) cs,args:=#[.func (.yield l) #[] #[]] },w1,fi,#[.func (.yield l) #[] #[]]++cs,w1,?_,?_,fun _ _=>trivial,?_,fun h=>(by cases h),?_⟩
 ·rw [hw1]
  have:=run_enterLoop_outer (P:=P) (w:=w) fn a.tmps ps assign body
  rw [hL]
  exact this
 ·simp only [resolve,hcs]
  simp [go_sem]
 ·have:=qk hc (#[.func (.yield l) #[] #[]]++cs) w1
  simp [invoke,go_sem,this]
 ·refine CallsIn.mono (vP.2 hcall) ?_
  rintro e w3 ⟨v,r',H',St',rfl,hq,_,hu,h3,h4,h5,h6⟩
  -- the loop's end,whichever
  have key:∀ {γ:Type} {sp:γ→LoopState×Option Code} {HC:γ→List (Option Nat×aW)} {ψ:γ→Prop},H'=[(some l,.obj (pn L sp HC ψ))]→(∀ x,(sp x).1≠.busy)→∃ x:γ,ψ x∧∃ w4,(Instr.endLoop l).run P w3=.ok (sp x).2 w4∧wm G ⟨s.env,s.b,HC x⟩ { a with defers:=[{ target:=.collected w.heap.size,args:=#[] }]++a.defers } w4:=by
   intro γ sp HC ψ hH hbusy
   subst hH
   have ⟨fz,hz⟩:=h6
   obtain ⟨x,fn',tmps',D',hx,_,_,fq,hf⟩:=hz.rep 0 (some l) _ rfl
   obtain ⟨hFl,hgl⟩:=hf.rep (HC x).length (some l) _ (tw _ _)
   have hlt:l<w3.heap.size:=(ZX.1 hgl).1
   refine ⟨x,hx,_,run_endLoop hgl (hbusy x),St',?_⟩
   obtain ⟨w4,hw4⟩:∃ w4,w4=w3.putObj l (.loop { gV fn' tmps' L D' (sp x) with state:=.exhausted }):=⟨_,rfl⟩
   rw [← hw4]
   have hold:∀ b,b≠l→w4.heap[b]?=w3.heap[b]?:=fun b hb=>by rw [hw4];exact World.putObj_heap_other hb
   have hs4:w4.heap.size=w3.heap.size:=by rw [hw4];simp
   have hf0:∀ b,F1 b→¬ St1 b:=hent.f0
   have hnl:∀ b,St1 b→b≠l:=fun b hb e=>hf0 b (.inr e) hb
   have hkeep:∀ b,St1 b→w4.heap[b]?=w1.heap[b]?:=fun b hb=>(hold b (hnl b hb)).trans (hu.block b (hent.s3 b hb) (fun hF=>hf0 b hF hb))
   have hkeep0:∀ b,St b→w4.heap[b]?=w.heap[b]?:=fun b hb=>(hkeep b (.inl hb)).trans (hb1.block b (hr.s3 b hb))
   have hnc:∀ cur t z,w3.heap[l]?≠some (.cells cur t z):=fun cur t z e=>by rw [hgl] at e;cases e
   have hev:rc St w w4:=⟨fun b cur t z hb hc=>(hkeep0 b hb).trans hc,fun b cur t z hc=>by
    have ⟨c1,z1,k1,k2⟩:=hev1.sh b cur t z hc
    have ⟨c2,z2,k3,k4⟩:=hu.sh b c1 t z1 k1
    refine ⟨c2,z2,(hold b (fun e=>?_)).trans k3,k4.trans k2⟩
    rw [e] at k3
    exact hnc _ _ _ k3⟩
   have hev3:rc St' w3 w4:=⟨fun b cur t z hb hc=>(hold b (fun e=>by rw [e] at hc;exact hnc _ _ _ hc)).trans hc,fun b cur t z hc=>⟨cur,z,(hold b (fun e=>by rw [e] at hc;exact hnc _ _ _ hc)).trans hc,rfl⟩⟩
   refine ⟨?_,hr.sz,fun d=>aP.evo hev (fun b hb=>h3 b (.inl hb)) _ _ (hr.env d),⟨?_,?_,?_,?_,fun k hk hF=>?_,fun b cur t z hc=>?_⟩,fun b hb=>h3 b (.inl (hr.s1 b hb)),fun b hb=>?_,fun b hb=>by rw [hs4];exact h5 b hb,⟨fun j b=>j<(HC x).length∧fq j b,fun j g r hj=>?_,fun i j b hi hj=>hf.dis i j b hi.2 hj.2,fun j b hj=>?_,fun j hj b hb=>?_⟩,?_,⟨fun g hg=>h3 g (.inl (hr.sg.1 g hg)),fun y hy=>h3 _ (.inl (hr.sg.2 y hy))⟩⟩
   ·have ⟨Ds,k1,k2,k3⟩:=hr.df
    refine ⟨D::Ds,by rw [e0,k1];rfl,bQx.2 ⟨fun hm=>?_,k2⟩,fun E hE=>?_⟩
    ·have:=(ZX.1 (k3 D hm).1.2).1
     simp only [D] at this
     omega
    ·rcases Z9.1 hE with rfl|hE
     ·refine ⟨⟨h3 _ (.inr rfl),(hkeep _ (.inr rfl)).trans hD1⟩,hr.un.size,fun hm=>?_,fun y hy e=>?_⟩
      ·have:=hr.sn.lt _ hm;simp only [D] at this;omega
      ·have:=hr.s3 _ (hr.sg.2 y hy);simp only [e,D] at this;omega
     ·have ⟨⟨k4,k5⟩,k6⟩:=k3 E hE
      exact ⟨⟨h3 _ (.inl k4),(hkeep0 E k4).trans k5⟩,k6⟩
   ·rw [hw4];exact (hu.os.trans hb1.os).trans hr.un.os
   ·rw [hw4];exact (hu.tape.trans hb1.tape).trans hr.un.tape
   ·rw [hw4];exact (hu.output.trans hb1.output).trans hr.un.output
   ·rw [hs4];exact Z7 hr.un.size (Z7 hb1.size hu.size)
   ·have hkw:k<w.heap.size:=Z4 hk hr.un.size
    refine (hold k (by simp only [l];omega)).trans ((hu.block k O (fun hF1=>?_)).trans ((hb1.block k hkw).trans (hr.un.block k hk hF)))
    rcases hF1 with ⟨i,hi⟩|e
    ·rcases (hp.own i k hi).2.2 with k1|k1
     omega
     exact hF k1
    ·simp only [l] at e;omega
   ·have ⟨c1,z1,k1,k2⟩:=hr.un.sh b cur t z hc
    have ⟨c2,z2,k3,k4⟩:=hev.sh b c1 t z1 k1
    exact ⟨c2,z2,k3,k4.trans k2⟩
   ·rcases h4 b hb with (hb|hb)|hb|hb
    exact hr.s2 b hb
    exact .inr (.inl (by simp only [D] at hb;have:=hr.un.size;omega))
    exact .inr (.inl (Z7 hr.un.size O))
    ·rcases hb with ⟨i,hi⟩|hb
     exact .inr (hp.own i b hi).2.2
     exact .inr (.inl (by simp only [l] at hb;have:=hr.un.size;omega))
   ·have hlt2:j<(HC x).length:=(ZC.1 hj).1
    have e:(fun b=>j<(HC x).length∧fq j b)=fq j:=funext fun b=>propext ⟨fun h=>h.2,fun h=>⟨hlt2,h⟩⟩
    show r.rep G.al St' w4 (fun b=>j<(HC x).length∧fq j b) g
    rw [e]
    refine aW.rep_evo hev3 (fun _ h=>h) (fun b hF=>hold b (fun eb=>?_)) (hf.rep j g r (by rw [ZF hlt2];exact hj))
    have:=hf.dis j (HC x).length b hF ((hFl b).2 eb)
    omega
   ·obtain ⟨k1,k2,k3⟩:=hz.own 0 b ((hf.all b).2 ⟨j,hj.2⟩)
    refine ⟨by omega,k2,?_⟩
    rcases k3 with k3|⟨i,hi⟩|k3
    exact .inl (Z7 hr.un.size O)
    exact (hp.own i b hi).2.2
    exact .inl (by simp only [l] at k3;have:=hr.un.size;omega)
   ·have hj:(HC x).length≤j:=hj
    exact absurd hb.1 O
   exact gc.keep hr.sn (fun g hg=>hkeep0 g (hr.sg.1 g hg)) (fun y hy=>hkeep0 _ (hr.sg.2 y hy))
  rcases hq with hq|hq
  ·obtain ⟨x,hx,w4,hend,hrel⟩:=key hq (fun _=>by simp)
   exact ⟨none,w4,hend,hQ .normal _ _ _ (hdone x hx) hrel⟩
  ·obtain ⟨x,hx,w4,hend,hrel⟩:=key hq (fun _=>by simp)
   refine ⟨some x.1,w4,hend,?_⟩
   rcases hjump _ _ hx with ⟨hc1,hR⟩|⟨id,hc1,hR⟩
   ·show Code.wpIn _ _ _ x.1 _ _ _
    rw [hc1]
    exact wpIn_ret (hQ .ret _ _ _ hR hrel)
   ·show Code.wpIn _ _ _ x.1 _ _ _
    rw [hc1]
    exact wpIn_exit (hQ (.exit id) _ _ _ hR hrel)
theorem vS {body:Code} {B:List (Option Nat×aW)} {l:Nat} {R0 R1:OP} {RE:Exit→AS→Prop} {env:List (Nat×CV)} {b:Nat→CV} (h:aY P G body ⟨env,b,B++[(some l,.obj R1)]⟩ RE):Cv P G body B l R0 R1 RE .normal ⟨env,b,B++[(some l,.obj R0)]⟩:=⟨_,_,rfl,h⟩
theorem rN {π q:Type} {l:Nat} {R1:OP} {HB:π→List (Option Nat×aW)} {φ':π→Prop} {HX:q→List (Option Nat×aW)} {χ:Code→q→Prop} (x:π) (h1:φ' x) (h2:Nat.ble ((HB x).length+1) s.H.length=true) (h3:aD (s.H.take ((HB x).length+1)) (HB x++[(some l,.obj R1)])):BG l R1 HB φ' HX χ .normal s:=⟨x,h1,ZN h2,h3⟩
theorem ql {π q:Type} {l:Nat} {R1:OP} {HB:π→List (Option Nat×aW)} {φ':π→Prop} {HX:q→List (Option Nat×aW)} {χ:Code→q→Prop} (x:q) (h1:χ .ret x) (h2:Nat.ble ((HX x).length+1) s.H.length=true) (h3:aD (s.H.take ((HX x).length+1)) (HX x++[(some l,.obj R1)])):BG l R1 HB φ' HX χ .ret s:=⟨x,h1,ZN h2,h3⟩
theorem JK {o:Oper} {t u e:TypeId} {x:Operand} {i n N:Nat} {g:Option Nat} {L:I} (ho:o.op=.convert t u x) (hx:s.eval x=.os i g 0 n 1) (hH:Holds s i g N (aV L)) (hn:n=L.length) (hN:n≤N) (h1:P.underlying t=some (.slice e)) (h2:P.underlying e=some (.int .u8)) (h3:P.underlying u=some .string):kf P G o s (ap L) :=
 JH L ho hx hH hn O (fun a _=>by rw [Nat.zero_add];exact Z) h1 h2 h3
end
def ek {α:Type} (p:α→Bool):List α→Int
 | []=>-1
 | x::l=>if p x=true then 0 else if ek p l<0 then -1 else ek p l+1
theorem nw {α:Type} (p:α→Bool):∀ l:List α,-1≤ek p l∧ek p l<l.length
 | []=>by simp [ek]
 | x::l=>by
  have:=nw p l
  rw [ek]
  rw [List.length_cons]
  split
  omega
  split<;>omega
theorem si {α:Type} {p:α→Bool}:∀ {l:List α},ek p l<0↔l.all (fun x=>!p x)=true
 | []=>by simp [ek]
 | x::l=>by
  have ih:=@si α p l
  have:=nw p l
  rw [ek,a4x]
  by_cases h:p x=true
  ·simp [h]
  ·rw [Zy h]
   have hx:(!p x)=true:=by simpa using h
   rw [hx,awx,← ih]
   split<;>omega
theorem my {α:Type} {p:α→Bool} {l:List α} (h:∀ i (hi:i<l.length),p l[i]=false):ek p l=-1:=by
 have h1:ek p l<0:=si.2 (Z1.2 fun x hx=>by
  obtain ⟨i,hi,rfl⟩:=bbx hx
  simp [h i hi])
 have:=nw p l
 omega
theorem ny {α:Type} {p:α→Bool}:∀ {l:List α} (i:Nat) (hi:i<l.length),p l[i]=true→(∀ j (hj:j<i),p (l[j]'O)=false)→ek p l=(i:Nat)
 | [],i,hi,_,_=>by simp at hi
 | x::l,0,hi,h,_=>by simp at h;simp [ek,h]
 | x::l,i+1,hi,h,hb=>by
  have h0:p x=false:=by simpa using hb 0 O
  have ih:=@ny α p l i (by simpa using hi) (by simpa using h) (fun j hj=>by simpa using hb (j+1) O)
  rw [ek,Zy (by simp [h0]),ih,jK]
  omega
theorem AW:∀ l:List CV,o6 l l
 | []=>.nil
 | c::l=>.cons (aa.refl c) (AW l)
theorem oz {c d:CV} (h:aa c d) (l:List CV):o6 ([c]++l) (d::l):=.cons h (AW l)
theorem aa.fn0 {g:FuncId} {f:Nat→CV}:aa (.c (.func (.func g) #[] #[])) (.fn g 0 f):=fun al St w v h=>⟨#[],h,rfl,fun i hi=>absurd hi (ZO i)⟩
theorem sj {α:Type} (p:α→Bool) (l:List α):decide (0≤ek p l)=l.any p:=by
 have:=@si _ p l
 by_cases h:ek p l<0
 ·have h2:=this.1 h
  rw [aex O]
  symm
  rw [cEx]
  intro x hx h3
  have:=Z1.1 h2 x hx
  rw [h3] at this
  exact Bool.noConfusion this
 ·have h2:=mt this.2 h
  rw [abx O]
  symm
  rw [brx]
  simpa using h2
theorem vU {α:Type} (p:α→Bool) (l:List α):(!l.any fun x=>!p x)=l.all p:=by
 induction l with
 | nil=>rfl
 | cons a l ih=>simp only [List.any_cons,a4x,Bool.not_or,cOx,ih]
theorem aa.rp {n:Nat} {f g:Nat→CV} (h:∀ j,j<n→aa (f j) (g j)):aa (.rp n f) (.rp n g):=fun al St w v ⟨b,o,h1,h2,h3⟩ =>
 ⟨b,o,h1,h2,fun j hj=>by
  have ⟨x,hx,hr⟩:=h3 j hj
  exact ⟨x,hx,h j hj al St w x hr⟩⟩
theorem aa.fn3 {k:FuncId} {f g:Nat→CV} (h0:aa (f 0) (g 0)) (h1:aa (f 1) (g 1)) (h2:aa (f 2) (g 2)):aa (.fn k 3 f) (.fn k 3 g):=fun al St w v ⟨cs,k1,k2,k3⟩ =>
 ⟨cs,k1,k2,fun i hi=>match i,hi with
  | 0,hi=>h0 al St w _ (k3 0 hi)
  | 1,hi=>h1 al St w _ (k3 1 hi)
  | 2,hi=>h2 al St w _ (k3 2 hi)⟩
theorem aa.fn1 {k:FuncId} {f g:Nat→CV} (h:aa (f 0) (g 0)):aa (.fn k 1 f) (.fn k 1 g):=fun al St w v ⟨cs,h1,h2,h3⟩ =>
 ⟨cs,h1,h2,fun i hi=>by
  obtain rfl:i=0:=by omega
  exact h al St w _ (h3 0 hi)⟩
theorem Bf.look2 {D:List Nat} {b0 b2:Nat→CV} {env2:List (Nat×CV)} (h:Bf D b0 b2) (h3:(env2.all fun x=>D.any (Nat.beq x.1))=true):Bf D b0 (look env2 b2):=Bf.nest (D2:=[]) (env2:=env2) (b2:=b2) h rfl h3
section
variable {P:Program} {G:Gh} {ops:Array Oper} {o:Oper} {s:AS} {r:List Oper} {K:AS→Prop} {R:Exit→AS→Prop} {Y:AS→Prop} {x y:Code} {env:List (Nat×CV)} {b0:Nat→CV} {H:List (Option Nat×aW)}
def Tm:Nat→(Nat→Prop)→Prop
 | 0,_=>True
 | n+1,p=>p 0∧Tm n fun j=>p (j+1)
theorem V2:∀ {n:Nat} {p:Nat→Prop},Tm n p→∀ j,j<n→p j
 | 0,_,_,j,hj=>absurd hj (ZO j)
 | n+1,_,h,0,_=>h.1
 | n+1,_,h,j+1,hj=>V2 h.2 j (Nat.lt_of_succ_lt_succ hj)
theorem sb {n:Nat} {F H:Nat→CV} (h:Tm n fun j=>aa (F j) (H j):=by (repeat refine And.intro (by first|exact Z|exact cN|exact aa.nilS' rfl|exact cO rfl|exact cP|exact aa.fn0) ?_);exact True.intro) (j:Nat) (hj:j<n):aa (F j) (H j):=V2 h j hj
theorem Ko {n m:Nat} {F H:Nat→CV} (hn:n=m:=by exact rfl) (h:Tm n fun j=>aa (F j) (H j):=by (repeat refine And.intro (by first|exact Z|exact cN|exact aa.nilS' rfl|exact cO rfl|exact cP|exact aa.fn0) ?_);exact True.intro):aa (.agg n F) (.agg m H):=aa.agg hn (V2 h)
def YF:CV→Option CV
 | .top=>some .top
 | .c v=>some (.c v)
 | .err k=>some (.err k)
 | .agg n f=>some (.agg n f)
 | .tup n f=>some (.tup n f)
 | .rs k n f=>some (.rs k n f)
 | .rp n f=>some (.rp n f)
 | .os i g off n k=>some (.os i g off n k)
 | .op i g off=>some (.op i g off)
 | .fn g n f=>some (.fn g n f)
 | .pv p=>some (.pv p)
theorem sa {c v:CV} (h:YF c=some v):c=v:=by cases c<;>(simp only [YF,adx] at h;exact h)
def pL:List (Nat×CV)→Nat→Option CV
 | [],_=>none
 |(e,v)::r,d=>match Nat.beq e d with|true=>some v|false=>pL r d
theorem pK {b:Nat→CV} {d:Nat} {v:CV}:∀ {env:List (Nat×CV)},pL env d=some v→look env b d=v
 |(e,u)::r,h=>by
  unfold pL at h;unfold look
  cases hb:Nat.beq e d with
  | true=>rw [hb] at h;exact Z3 h
  | false=>rw [hb] at h;exact pK h
theorem vF {b:Nat→CV} {d:Nat}:∀ {env:List (Nat×CV)},pL env d=none→look env b d=b d
 | [],_=>rfl
 |(e,u)::r,h=>by
  unfold pL at h;unfold look
  cases hb:Nat.beq e d with
  | true=>rw [hb] at h;cases h
  | false=>rw [hb] at h;exact vF h
theorem vG {d:Nat} {v:CV} (h:pL s.env d=some v):s.eval (.tmp d)=v:=pK h
theorem vH {D:List Nat} {e2:List (Nat×CV)} {b2:Nat→CV} {d:Nat} {v:CV} (h:pL env d=none) (hD:D.any (Nat.beq d)=false) (h2:pL e2 d=some v):(⟨env,vD D e2 b2,H⟩:AS).eval (.tmp d)=v:=by
 show look env (vD D e2 b2) d=v
 rw [vF h]
 unfold vD
 rw [hD]
 exact pK h2
theorem vJ {x:Operand} {v:CV} (h:YF (s.eval x)=some v):s.eval x=v:=sa h
def Xq:List CV→Nat→Option CV
 | [],_=>none
 | x::_,0=>some x
 | _::r,i+1=>Xq r i
theorem oq:∀ {l:List CV} {i:Nat} {v:CV},Xq l i=some v→fl l i=v
 | x::_,0,v,h=>Z3 h
 | _::r,i+1,v,h=>oq (l:=r) h
def B7 (P:Program) (t:TypeId) (m:Nat):Bool:=match P.underlying t with|some (.slice e)=>(match (P.info? e).map (·.size) with|some k=>Nat.beq k m|none=>false)|_=>false
theorem om {t:TypeId} {m:Nat} (h:B7 P t m=true):∃ e,P.underlying t=some (.slice e)∧(P.info? e).map (·.size)=some m:=by
 unfold B7 at h
 split at h
 ·rename_i e he
  refine ⟨e,he,?_⟩
  split at h
  ·rename_i k hk;rw [hk,acx h]
  ·cases h
 ·cases h
def Vl (P:Program) (t:TypeId):Bool:=match P.underlying t with|some (.slice _)=>true|_=>false
theorem Sd {t:TypeId} (h:Vl P t=true):∃ e,P.underlying t=some (.slice e):=by
 unfold Vl at h
 split at h
 ·rename_i e he;exact ⟨e,he⟩
 ·cases h
def Kn (P:Program) (t:TypeId):Bool:=match P.underlying t with|some (.slice e)=>(match P.underlying e with|some (.int .u8)=>true|_=>false)|_=>false
theorem wB {t:TypeId} (h:Kn P t=true):∃ e,P.underlying t=some (.slice e)∧P.underlying e=some (.int .u8):=by
 unfold Kn at h
 split at h
 ·rename_i e he
  split at h
  ·rename_i h2;exact ⟨e,he,h2⟩
  ·cases h
 ·cases h
def Vn (P:Program) (t:TypeId) (i:Nat):Option (Nat×Nat×Bool):=match P.underlying t with
 | some (.struct fs)=>(match fs[i]? with|some fd=>(match (P.info? fd.type).map (·.size),P.underlying fd.type with|some m,some _=>some (fd.offset,m,iB P fd.type)|_,_=>none)|none=>none)
 | _=>none
theorem Sg {t:TypeId} {i q m:Nat} {b:Bool} (h:Vn P t i=some (q,m,b)):∃ fs fd d,P.underlying t=some (.struct fs)∧fs[i]?=some fd∧P.underlying fd.type=some d∧iB P fd.type=b∧(P.info? fd.type).map (·.size)=some m∧fd.offset=q:=by
 unfold Vn at h
 split at h
 ·rename_i fs h1
  split at h
  ·rename_i fd h2
   split at h
   ·rename_i k d h3 h4
    simp only [adx,c6x] at h
    exact ⟨fs,fd,d,h1,h2,h4,h.2.2,by rw [h3,h.2.1],h.1⟩
   ·cases h
  ·cases h
 ·cases h
def Oe (P:Program) (t:TypeId) (m:Nat) (b:Bool):Bool:=match (P.info? t).map (·.size),P.underlying t with|some k,some _=>Nat.beq k m && (iB P t == b)|_,_=>false
theorem B6 {t:TypeId} {m:Nat} {b:Bool} (h:Oe P t m b=true):∃ d,P.underlying t=some d∧iB P t=b∧(P.info? t).map (·.size)=some m:=by
 unfold Oe at h
 split at h
 ·rename_i k d h1 h2
  rw [ZE,aUx] at h
  exact ⟨d,h2,h.2,by rw [h1,acx h.1]⟩
 ·cases h
def Gf (P:Program) (t:TypeId):Bool:=match P.underlying t with|some _=>!(iB P t)|none=>false
theorem tj {t:TypeId} (h:Gf P t=true):∃ d,P.underlying t=some d∧iB P t=false:=by
 unfold Gf at h
 split at h
 ·rename_i d hd;exact ⟨d,hd,by simpa using h⟩
 ·cases h
def TL:Op→Option Operand|.move x=>some x|.assign x=>some x|_=>none
theorem Lt {x:Operand} {v:CV} (ho:TL o.op=some x:=by exact rfl) (hv:s.eval x=v:=by first|exact vG rfl|exact vH rfl rfl rfl|exact vJ rfl):cj P G o s v:=by
 unfold TL at ho
 split at ho
 ·rename_i z hz;exact Rh hz (by rw [Z3 ho];exact hv)
 ·rename_i z hz;exact JL hz (by rw [Z3 ho];exact hv)
 ·cases ho
theorem Xg {z x' y':Operand} {v:CV} (ho:o.op=.pick z x' y':=by exact rfl) (hz:s.eval z=.c (.bool true):=by exact rfl) (hx:s.eval x'=v:=by first|exact vG rfl|exact vH rfl rfl rfl|exact vJ rfl):cj P G o s v:=MQ ho hz hx
theorem Xh {z x' y':Operand} {v:CV} (ho:o.op=.pick z x' y':=by exact rfl) (hz:s.eval z=.c (.bool false):=by exact rfl) (hy:s.eval y'=v:=by first|exact vG rfl|exact vH rfl rfl rfl|exact vJ rfl):cj P G o s v:=MR ho hz hy
theorem Zi {x:Operand} {i n:Nat} {f:Nat→CV} {v:CV} (ho:o.op=.extract x i:=by exact rfl) (hx:s.eval x=.tup n f:=by exact rfl) (hi:Nat.blt i n=true:=by exact rfl) (hv:f i=v:=by first|exact oq rfl|exact sa rfl):cj P G o s v:=FH ho hx hi hv
def TR (op:BinOp) (a b:Int):Option Bool:=match op with
 | .eql=>some (decide (a=b))
 | .neq=>some (decide (a≠b))
 | .lss=>some (decide (a<b))
 | .leq=>some (decide (a≤b))
 | .gtr=>some (decide (b<a))
 | .geq=>some (decide (b≤a))
 | _=>none
theorem Y0 {op:BinOp} {t u:TypeId} {x y:Operand} {k:IntKind} {a b:Int} {z:Bool} (ho:o.op=.binOp op t x y u:=by exact rfl) (hx:s.eval x=.c (.int k a):=by exact rfl) (hy:s.eval y=.c (.int k b):=by exact rfl) (hc:TR op a b=some z:=by exact rfl):cj P G o s (.c (.bool z)):=by
 cases op<;>simp only [TR,adx,reduceCtorEq] at hc
 all_goals subst hc
 exact US ho hx hy
 exact UG ho hx hy
 exact WK ho hx hy
 exact WL ho hx hy
 exact WM ho hx hy
 exact WN ho hx hy
def Xt (op:BinOp) (a b:Int):Option Int:=match op with
 | .add=>some (a+b)
 | .sub=>some (a-b)
 | .mul=>some (a * b)
 | _=>none
theorem P3 {op:BinOp} {t u:TypeId} {x y:Operand} {k:IntKind} {a b z:Int} (ho:o.op=.binOp op t x y u:=by exact rfl) (hx:s.eval x=.c (.int k a):=by exact rfl) (hy:s.eval y=.c (.int k b):=by exact rfl) (hc:Xt op a b=some z:=by exact rfl) (hS:Be k z:=by (show _∧_;(first|omega|decide|(dsimp only at *;omega)))):cj P G o s (.c (.int k z)):=by
 cases op<;>simp only [Xt,adx,reduceCtorEq] at hc
 all_goals subst hc
 exact UV ho hx hy (cU hS)
 exact UB ho hx hy (cU hS)
 exact UJ ho hx hy (cU hS)
theorem Zk {t u:TypeId} {x y:Operand} {k:IntKind} {a b:Int} (ho:o.op=.binOp .quo t x y u:=by exact rfl) (hx:s.eval x=.c (.int k a):=by exact rfl) (hy:s.eval y=.c (.int k b):=by exact rfl) (hS:0≤a:=by first|omega|decide|(dsimp only at *;omega)) (hS2:1≤b:=by first|omega|decide|(dsimp only at *;omega)) (hS3:Be k (a / b):=by (show _∧_;(first|omega|decide|(dsimp only at *;omega)))):cj P G o s (.c (.int k (a / b))):=MP ho hx hy hS hS2 (cU hS3)
theorem Zj {t u:TypeId} {x y:Operand} {k:IntKind} {a b:Int} (ho:o.op=.binOp .rem t x y u:=by exact rfl) (hx:s.eval x=.c (.int k a):=by exact rfl) (hy:s.eval y=.c (.int k b):=by exact rfl) (hS:0≤a:=by first|omega|decide|(dsimp only at *;omega)) (hS2:1≤b:=by first|omega|decide|(dsimp only at *;omega)):cj P G o s (.c (.int k (a % b))):=MO ho hx hy hS hS2
def TQ (op:BinOp) (a b:I):Option Bool:=match op with
 | .eql=>some (decide (a=b))
 | .neq=>some (decide (a≠b))
 | .lss=>some (Op.bytesLess a b)
 | .gtr=>some (!(Op.bytesLess a b || a == b))
 | _=>none
theorem zh {op:BinOp} {t u:TypeId} {x y:Operand} {a b:I} {z:Bool} (ho:o.op=.binOp op t x y u:=by exact rfl) (hx:s.eval x=ap a:=by exact rfl) (hy:s.eval y=ap b:=by exact rfl) (hc:TQ op a b=some z:=by exact rfl):cj P G o s (.c (.bool z)):=by
 cases op<;>simp only [TQ,adx,reduceCtorEq] at hc
 all_goals subst hc
 exact UR ho hx hy
 exact UF ho hx hy
 exact UL ho hx hy
 exact UP ho hx hy
theorem Xk {t u:TypeId} {x y:Operand} {a b:I} (ho:o.op=.binOp .add t x y u:=by exact rfl) (hx:s.eval x=ap a:=by exact rfl) (hy:s.eval y=ap b:=by exact rfl) (hS:a.length+b.length≤9223372036854775807:=by first|omega|decide|(dsimp only at *;omega)):cj P G o s (ap (a++b)):=Rs ho hx hy hS
theorem Vm {op:BinOp} {t u:TypeId} {x y:Operand} {a b z:Bool} (ho:o.op=.binOp op t x y u:=by exact rfl) (hx:s.eval x=.c (.bool a):=by exact rfl) (hy:s.eval y=.c (.bool b):=by exact rfl) (hc:(match op with|.eql=>some (a == b)|.neq=>some (!(a == b))|_=>none)=some z:=by exact rfl) (hT:P.underlying t=some .bool:=by kernel_rfl):cj P G o s (.c (.bool z)):=by
 cases op<;>simp only [adx,reduceCtorEq] at hc
 all_goals subst hc
 exact UU ho hx hy hT
 exact UI ho hx hy hT
def Eb (c:CV) (z:Bool):Prop:=c=.c (.bool (!z))
theorem Xl {p:Prop} [Decidable p] {c:CV} (h:c=.c (.bool (decide p))):Eb c (decide ¬ p):=by unfold Eb;rw [h];simp
theorem Xm {p:Bool} {c:CV} (h:c=.c (.bool p)):Eb c (!p):=by unfold Eb;rw [h,cOx]
theorem YZ {t:TypeId} {x:Operand} {z:Bool} (ho:o.op=.unOp .not t x:=by exact rfl) (hx:Eb (s.eval x) z:=by first|exact Xl rfl|exact Xm rfl):cj P G o s (.c (.bool z)):=by
 have:=UD (P:=P) (G:=G) ho hx
 rwa [cOx] at this
def TN:CV→Option Int
 | .rs _ n _=>some ((n:Nat):Int)
 | .os _ _ _ n _=>some ((n:Nat):Int)
 | .c (.slice none 0 0)=>some 0
 | _=>none
theorem Wb {x:Operand} {t:TypeId} {z:Int} (ho:o.op=.call ⟨.builtin .len,#[x],#[t]⟩:=by exact rfl) (hx:TN (s.eval x)=some z:=by exact rfl) (hT:Vl P t=true:=by kernel_rfl):cj P G o s (.c (.int .i64 z)):=by
 have ⟨e,he⟩:=Sd hT
 unfold TN at hx
 split at hx
 ·rename_i h;cases hx;exact Rl ho h he
 ·rename_i h;cases hx;exact Rm ho h he
 ·rename_i h;cases hx;exact Rn ho h he
 ·cases hx
theorem Xi {x:Operand} {t:TypeId} {a:I} (ho:o.op=.call ⟨.builtin .len,#[x],#[t]⟩:=by exact rfl) (hx:s.eval x=ap a:=by exact rfl) (hT:P.underlying t=some .string:=by kernel_rfl):cj P G o s (.c (.int .i64 (a.length:Nat))):=Ro ho hx hT
def Xr (q:Nat):CV→Option CV
 | .op j g off=>some (.op j g (off+q))
 | .rp n f=>some (.rp (n-q) fun j=>f (q+j))
 | _=>none
theorem en (q m:Nat) (b:Bool) {t:TypeId} {x:Operand} {i:Nat} {v:CV} (ho:o.op=.fieldAddr t x i:=by exact rfl) (hx:Xr q (s.eval x)=some v:=by exact rfl) (hm:Nat.blt 0 m=true:=by exact rfl) (hT:Vn P t i=some (q,m,b):=by kernel_rfl):cj P G o s v:=by
 have ⟨fs,fd,d,h1,h2,h3,h4,h5,h6⟩:=Sg hT
 subst h6
 unfold Xr at hx
 split at hx
 ·rename_i h;cases hx;exact JF ho h h1 h2 h5 hm
 ·rename_i h;cases hx;exact JE ho h h1 h2 h5 hm
 ·cases hx
def Xp (i:Nat):CV→Option (CV×Nat×Nat)
 | .rs m n f=>some (.rp m (f i),n,m)
 | .os j g off n m=>some (match Nat.beq off 0,Nat.beq m 1 with|true,true=>.op j g i|_,_=>.op j g (off+i * m),n,m)
 | _=>none
theorem dP {i:Nat} {t:TypeId} {x y:Operand} {k:IntKind} {z:Int} {v:CV} {n m:Nat} (ho:o.op=.indexAddr t x y:=by exact rfl) (hy:s.eval y=.c (.int k z):=by exact rfl) (hz:z=(i:Int):=by first|exact rfl|exact xQ O) (hx:Xp i (s.eval x)=some (v,n,m):=by exact rfl) (hS:i<n:=by first|omega|decide|(dsimp only at *;omega)) (hm:Nat.blt 0 m=true:=by exact rfl) (hT:B7 P t m=true:=by kernel_rfl):cj P G o s v:=by
 have ⟨e,h1,h5⟩:=om hT
 unfold Xp at hx
 split at hx
 ·rename_i h;cases hx;exact JC ho h hy h1 h5 hz hS (ZN hm)
 ·rename_i j g off n' m' h
  cases hx
  cases h6:Nat.beq off 0 with
  | false=>exact gm ho h hy h1 h5 hz hS
  | true =>
   cases h7:Nat.beq m 1 with
   | false=>exact gm ho h hy h1 h5 hz hS
   | true =>
    have e1:=acx h6
    have e2:=acx h7
    subst e1 e2
    exact FG ho h hy h1 h5 hz hS
 ·cases hx
theorem B8 {i:Nat} {t:TypeId} {x y:Operand} {k:IntKind} {z:Int} {a:I} (ho:o.op=.index t x y:=by exact rfl) (hx:s.eval x=ap a:=by exact rfl) (hy:s.eval y=.c (.int k z):=by exact rfl) (hz:z=(i:Int):=by first|exact rfl|exact xQ O) (hS:i<a.length:=by first|omega|decide|(dsimp only at *;omega)) (hT:P.underlying t=some .string:=by kernel_rfl):cj P G o s (aV a i):=Jy ho hx hy hT hz hS
def TK:CV→Option CV
 | .op i g off=>some (.op i g off)
 | .rp n f=>some (.rp n f)
 | .fn g n f=>some (.fn g n f)
 | _=>none
theorem Kj {x:Operand} {v:CV} (ho:o.op=.nilCheck x:=by exact rfl) (hx:TK (s.eval x)=some v:=by exact rfl):cj P G o s v:=by
 unfold TK at hx
 split at hx
 ·rename_i h;cases hx;exact Re ho h
 ·rename_i h;cases hx;exact Rd ho h
 ·rename_i h;cases hx;exact Rf ho h
 ·cases hx
theorem Of {g:FuncId} {cs:Array Operand} {n:Nat} (ho:o.op=.makeFunc (.func g) #[] cs:=by exact rfl) (hn:cs.size=n:=by exact rfl):cj P G o s (.fn g n (fl (cs.toList.map s.eval))):=Dv ho hn
theorem r9 (k':IntKind) {c:UInt8} {t u:TypeId} {x:Operand} (ho:o.op=.convert t u x:=by exact rfl) (hx:s.eval x=.c (.int .u8 ((c.toNat:Nat):Int)):=by exact rfl) (h1:P.underlying t=some (.int .u8):=by kernel_rfl) (h2:P.underlying u=some (.int k'):=by kernel_rfl) (hk:CQ k'=true:=by exact rfl):cj P G o s (.c (.int k' ((c.toNat:Nat):Int))):=MZ ho hx h1 h2 hk
theorem wg (k k':IntKind) {a:Int} {t u:TypeId} {x:Operand} (ho:o.op=.convert t u x:=by exact rfl) (hx:s.eval x=.c (.int k a):=by exact rfl) (hS:Be k' a:=by (show _∧_;(first|omega|decide|(dsimp only at *;omega)))) (h1:P.underlying t=some (.int k):=by kernel_rfl) (h2:P.underlying u=some (.int k'):=by kernel_rfl):cj P G o s (.c (.int k' a)):=cC ho hx h1 h2 a (cU hS)
theorem zg (k k':IntKind) {a z:Int} {t u:TypeId} {x:Operand} (ho:o.op=.convert t u x:=by exact rfl) (hx:s.eval x=.c (.int k a):=by exact rfl) (hr:k'.wrap a=z:=by exact rfl) (h1:P.underlying t=some (.int k):=by kernel_rfl) (h2:P.underlying u=some (.int k'):=by kernel_rfl):cj P G o s (.c (.int k' z)):=cC ho hx h1 h2 z hr
theorem D8 {t u:TypeId} {x:Operand} {a:I} (ho:o.op=.convert t u x:=by exact rfl) (hx:s.eval x=bc a:=by exact rfl) (hT:Kn P t=true:=by kernel_rfl) (h3:P.underlying u=some .string:=by kernel_rfl):cj P G o s (ap a):=by
 have ⟨e,h1,h2⟩:=wB hT
 exact JJ ho hx h1 h2 h3
theorem YE {t u:TypeId} {x:Operand} (ho:o.op=.convert t u x:=by exact rfl) (hx:s.eval x=.c (.slice none 0 0):=by exact rfl) (hT:Kn P t=true:=by kernel_rfl) (h3:P.underlying u=some .string:=by kernel_rfl):cj P G o s (.c (.string ⟨#[]⟩)):=by
 have ⟨e,h1,h2⟩:=wB hT
 exact JI ho hx h1 h2 h3
theorem Se {t u:TypeId} {x:Operand} {i n N:Nat} {g:Option Nat} {L:I} (ho:o.op=.convert t u x:=by exact rfl) (hx:s.eval x=.os i g 0 n 1:=by exact rfl) (hH:Holds s i g N (aV L):=by first|exact .inl rfl|exact .inr rfl) (hn:n=L.length:=by first|rfl|simp) (hN:n≤N:=by first|exact ZA _|simp) (hT:Kn P t=true:=by kernel_rfl) (h3:P.underlying u=some .string:=by kernel_rfl):kf P G o s (ap L):=by
 have ⟨e,h1,h2⟩:=wB hT
 exact JK ho hx hH hn hN h1 h2 h3
theorem o0 {t:TypeId} {p a:Operand} {z1:Int} {k1:IntKind} {l:Nat} {bl:I} (ho:o.op=.slice t p (some a) none none:=by exact rfl) (hx:s.eval p=bc bl:=by exact rfl) (ha:s.eval a=.c (.int k1 z1):=by exact rfl) (hz1:z1=(l:Int):=by first|exact rfl|exact xQ O) (hS:l≤bl.length:=by first|omega|decide|(dsimp only at *;omega)) (hT:B7 P t 1=true:=by kernel_rfl):cj P G o s (bc (bl.drop l)):=by
 have ⟨e,h1,h5⟩:=om hT
 exact xz ho hx h1 h5 ha hz1 hS
theorem D5 {t:TypeId} {p b:Operand} {z2:Int} {k2:IntKind} {v:Nat} {bl:I} (ho:o.op=.slice t p none (some b) none:=by exact rfl) (hx:s.eval p=bc bl:=by exact rfl) (hb:s.eval b=.c (.int k2 z2):=by exact rfl) (hz2:z2=(v:Int):=by first|exact rfl|exact xQ O) (hS:v≤bl.length:=by first|omega|decide|(dsimp only at *;omega)) (hT:B7 P t 1=true:=by kernel_rfl):cj P G o s (bc (bl.take v)):=by
 have ⟨e,h1,h5⟩:=om hT
 exact BK ho hx h1 h5 hb hz2 hS
theorem Xf {t:TypeId} {p a b:Operand} {z1 z2:Int} {k1 k2:IntKind} {l v:Nat} {bl:I} (ho:o.op=.slice t p (some a) (some b) none:=by exact rfl) (hx:s.eval p=bc bl:=by exact rfl) (ha:s.eval a=.c (.int k1 z1):=by exact rfl) (hz1:z1=(l:Int):=by first|exact rfl|exact xQ O) (hb:s.eval b=.c (.int k2 z2):=by exact rfl) (hz2:z2=(v:Int):=by first|exact rfl|exact xQ O) (hS:l≤v:=by first|omega|decide|(dsimp only at *;omega)) (hS2:v≤bl.length:=by first|omega|decide|(dsimp only at *;omega)) (hT:B7 P t 1=true:=by kernel_rfl):cj P G o s (bc ((bl.take v).drop l)):=by
 have ⟨e,h1,h5⟩:=om hT
 exact Js ho hx h1 h5 ha hz1 hb hz2 hS hS2
theorem D7 {t:TypeId} {p:Operand} {m n l v:Nat} {f:Nat→Nat→CV} {lo hi:Option Operand} (ho:o.op=.slice t p lo hi none:=by exact rfl) (hx:s.eval p=.rs m n f:=by exact rfl) (hl:Bd s 0 lo l:=by first|exact bv _ _|exact ci rfl rfl|exact ci rfl (xQ O)) (hu:Bd s n hi v:=by first|exact bv _ _|exact ci rfl rfl|exact ci rfl (xQ O)) (hS:l≤v:=by first|omega|decide|(dsimp only at *;omega)) (hS2:v≤n:=by first|omega|decide|(dsimp only at *;omega)) (hT:B7 P t m=true:=by kernel_rfl):cj P G o s (.rs m (v-l) fun i j=>f (l+i) j):=by
 have ⟨e,h1,h5⟩:=om hT
 exact qp ho hx h1 h5 hl hu hS hS2
theorem Gb {t:TypeId} {p:Operand} {i off m n l v:Nat} {g:Option Nat} {lo hi:Option Operand} (ho:o.op=.slice t p lo hi none:=by exact rfl) (hx:s.eval p=.os i g off n m:=by exact rfl) (hl:Bd s 0 lo l:=by first|exact bv _ _|exact ci rfl rfl|exact ci rfl (xQ O)) (hu:Bd s n hi v:=by first|exact bv _ _|exact ci rfl rfl|exact ci rfl (xQ O)) (hS:l≤v:=by first|omega|decide|(dsimp only at *;omega)) (hS2:v≤n:=by first|omega|decide|(dsimp only at *;omega)) (hS3:l=0∨l<n:=by first|omega|decide|(dsimp only at *;omega)) (hT:B7 P t m=true:=by kernel_rfl):cj P G o s (.os i g (off+l * m) (v-l) m):=by
 have ⟨e,h1,h5⟩:=om hT
 exact zW ho hx h1 h5 hl hu hS hS2 hS3
theorem gy {t:TypeId} {x:Operand} {i off n:Nat} {g:Option Nat} {f:Nat→CV} {v:CV} (ho:o.op=.load t x:=by exact rfl) (hx:s.eval x=.op i g off:=by exact rfl) (hH:Holds s i g n f:=by first|exact .inl rfl|exact .inr rfl) (hv:f off=v:=by first|exact oq rfl|exact sa rfl) (hn:off<n:=by first|decide|omega|(dsimp only at *;omega)) (hT:Gf P t=true:=by kernel_rfl):kf P G o s v:=by
 have ⟨d,h1,ha⟩:=tj hT
 exact MV ho hx hH h1 ha hn hv
theorem kF {t:TypeId} {x:Operand} {n:Nat} {f:Nat→CV} {v:CV} (ho:o.op=.load t x:=by exact rfl) (hx:s.eval x=.rp n f:=by exact rfl) (hv:f 0=v:=by first|exact oq rfl|exact sa rfl) (hn:0<n:=by first|decide|omega|(dsimp only at *;omega)) (hT:Gf P t=true:=by kernel_rfl):cj P G o s v:=by
 have ⟨d,h1,ha⟩:=tj hT
 exact MU ho hx h1 ha hn hv
theorem bD (m:Nat) {t:TypeId} {x:Operand} {i off n:Nat} {g:Option Nat} {f:Nat→CV} (ho:o.op=.load t x:=by exact rfl) (hx:s.eval x=.op i g off:=by exact rfl) (hH:Holds s i g n f:=by first|exact .inl rfl|exact .inr rfl) (hn:off+m≤n:=by first|decide|omega|(dsimp only at *;omega)) (hT:Oe P t m true=true:=by kernel_rfl):kf P G o s (.agg m fun j=>f (off+j)):=by
 have ⟨d,h1,ha,h5⟩:=B6 hT
 exact Jw ho hx hH h1 ha h5 hn
theorem pJ (m:Nat) {t:TypeId} {x:Operand} {n:Nat} {f:Nat→CV} (ho:o.op=.load t x:=by exact rfl) (hx:s.eval x=.rp n f:=by exact rfl) (hn:m≤n:=by first|decide|omega|(dsimp only at *;omega)) (hT:Oe P t m true=true:=by kernel_rfl):cj P G o s (.agg m f):=by
 have ⟨d,h1,ha,h5⟩:=B6 hT
 exact Jv ho hx h1 ha h5 hn
theorem cK (i:Nat) [h0:dU G.gs i] {t:TypeId} {g:Nat} (ho:o.op=.load t (.global g):=by exact rfl) (hg:gs[i]?=some g:=by exact rfl) (hT:Gf P t=true:=by kernel_rfl):cj P G o s (.err (i+1)):=by
 have ⟨d,h1,ha⟩:=tj hT
 exact MX i ho hg h1 ha
theorem jq {d:Nat} {v:CV} (h:cj P G o ⟨env,b0,H⟩ v) (hk:cQ P G ops r ⟨(d,v)::env,b0,H⟩ K) (hd:o.dst=some d:=by exact rfl) (hN:Nat.blt d G.N=true:=by exact rfl) (hw:aS G ops o ⟨env,b0,H⟩ true:=by first|exact aU rfl|exact ck rfl rfl rfl rfl true rfl):cQ P G ops (o::r) ⟨env,b0,H⟩ K:=Yp hw hd hN h hk
theorem kj {d:Nat} {v:CV} (h:kf P G o ⟨env,b0,H⟩ v) (hk:cQ P G ops r ⟨(d,v)::env,b0,H⟩ K) (hd:o.dst=some d:=by exact rfl) (hN:Nat.blt d G.N=true:=by exact rfl) (hw:aS G ops o ⟨env,b0,H⟩ true:=by first|exact aU rfl|exact ck rfl rfl rfl rfl true rfl):cQ P G ops (o::r) ⟨env,b0,H⟩ K:=WP hw hd hN h hk
theorem Zl {d:Nat} (hk:cQ P G ops r ⟨(d,.c undef)::env,b0,H⟩ K) (hd:o.dst=some d:=by exact rfl) (hN:Nat.blt d G.N=true:=by exact rfl) (hw:aS G ops o ⟨env,b0,H⟩ false:=by first|exact ck rfl rfl rfl rfl false rfl|exact lb rfl rfl rfl rfl):cQ P G ops (o::r) ⟨env,b0,H⟩ K:=UZ hw hd hN hk
theorem aq (h:kP P G o ⟨env,b0,H⟩ (fun s'=>cQ P G ops r s' K)) (hw:aS G ops o ⟨env,b0,H⟩ true:=by first|exact aU rfl|exact ck rfl rfl rfl rfl true rfl):cQ P G ops (o::r) ⟨env,b0,H⟩ K:=Uu hw h
theorem aw (h:vn P G o ⟨env,b0,H⟩ (fun s'=>cQ P G ops r s' K)) (hw:aS G ops o ⟨env,b0,H⟩ true:=by first|exact aU rfl|exact ck rfl rfl rfl rfl true rfl):cQ P G ops (o::r) ⟨env,b0,H⟩ K:=Mu hw h
def dW:List Oper→Nat→Oper
 | [],_=>default
 | a::_,0=>a
 | _::l,i+1=>dW l i
section
variable {i:Nat} {t:kl}
theorem jk (h:Nat.blt i ops.size=true):ops[i]?=some (dW ops.toList i):=by
 have hlt:i<ops.size:=ZN h
 rw [ZP hlt]
 have key:∀ (l:List Oper) (i:Nat) (hi:i<l.length),l[i]=dW l i:=fun l=>by
  induction l with
  | nil=>intro i hi;simp at hi
  | cons a l ih =>
   intro i hi
   cases i with
   | zero=>rfl
   | succ i=>exact ih i (by simpa using hi)
 have:=key ops.toList i (by simpa using hlt)
 rw [← this,ckx]
theorem oo (hi:Nat.blt i ops.size=true):av ops (.rd i t)=.rd (dW ops.toList i) (av ops t):=by simp only [av,jk hi]
theorem eX (hi:Nat.blt i ops.size=true):av ops (.one i t)=.one (dW ops.toList i) (av ops t):=by simp only [av,jk hi]
theorem aJ {d:Nat} {v:CV} (h:cj P G (dW ops.toList i) ⟨env,b0,H⟩ v) (hk:AX P G ops (av ops t) ⟨(d,v)::env,b0,H⟩ K) (hd:(dW ops.toList i).dst=some d:=by exact rfl) (hN:Nat.blt d G.N=true:=by exact rfl) (hw:aS G ops (dW ops.toList i) ⟨env,b0,H⟩ true:=by first|exact aU rfl|exact ck rfl rfl rfl rfl true rfl) (hi:Nat.blt i ops.size=true:=by exact rfl):AX P G ops (av ops (.rd i t)) ⟨env,b0,H⟩ K:=by rw [oo hi];exact X7 hw hd hN h hk
theorem qF {d:Nat} {v:CV} (h:kf P G (dW ops.toList i) ⟨env,b0,H⟩ v) (hk:AX P G ops (av ops t) ⟨(d,v)::env,b0,H⟩ K) (hd:(dW ops.toList i).dst=some d:=by exact rfl) (hN:Nat.blt d G.N=true:=by exact rfl) (hw:aS G ops (dW ops.toList i) ⟨env,b0,H⟩ true:=by first|exact aU rfl|exact ck rfl rfl rfl rfl true rfl) (hi:Nat.blt i ops.size=true:=by exact rfl):AX P G ops (av ops (.rd i t)) ⟨env,b0,H⟩ K:=by rw [oo hi];exact Ww hw hd hN h hk
theorem zf {d:Nat} {v:CV} (h:kf P G (dW ops.toList i) ⟨env,b0,H⟩ v) (hk:AX P G ops (av ops t) ⟨(d,v)::env,b0,H⟩ K) (hd:(dW ops.toList i).dst=some d:=by exact rfl) (hN:Nat.blt d G.N=true:=by exact rfl) (hw:aS G ops (dW ops.toList i) ⟨env,b0,H⟩ true:=by first|exact aU rfl|exact ck rfl rfl rfl rfl true rfl) (hi:Nat.blt i ops.size=true:=by exact rfl):AX P G ops (av ops (.one i t)) ⟨env,b0,H⟩ K:=by rw [eX hi];exact Qe hw hd hN h hk
theorem Zf {d:Nat} (hk:AX P G ops (av ops t) ⟨(d,.c undef)::env,b0,H⟩ K) (hd:(dW ops.toList i).dst=some d:=by exact rfl) (hN:Nat.blt d G.N=true:=by exact rfl) (hw:aS G ops (dW ops.toList i) ⟨env,b0,H⟩ false:=by first|exact ck rfl rfl rfl rfl false rfl|exact lb rfl rfl rfl rfl) (hi:Nat.blt i ops.size=true:=by exact rfl):AX P G ops (av ops (.rd i t)) ⟨env,b0,H⟩ K:=by rw [oo hi];exact Ug hw hd hN hk
theorem Ga {d:Nat} (hk:AX P G ops (av ops t) ⟨(d,.c undef)::env,b0,H⟩ K) (hd:(dW ops.toList i).dst=some d:=by exact rfl) (hN:Nat.blt d G.N=true:=by exact rfl) (hw:aS G ops (dW ops.toList i) ⟨env,b0,H⟩ false:=by first|exact ck rfl rfl rfl rfl false rfl|exact lb rfl rfl rfl rfl) (hi:Nat.blt i ops.size=true:=by exact rfl):AX P G ops (av ops (.one i t)) ⟨env,b0,H⟩ K:=by rw [eX hi];exact Qf hw hd hN hk
theorem gp (h:kP P G (dW ops.toList i) ⟨env,b0,H⟩ (fun s'=>AX P G ops (av ops t) s' K)) (hw:aS G ops (dW ops.toList i) ⟨env,b0,H⟩ true:=by first|exact aU rfl|exact ck rfl rfl rfl rfl true rfl) (hi:Nat.blt i ops.size=true:=by exact rfl):AX P G ops (av ops (.one i t)) ⟨env,b0,H⟩ K:=by rw [eX hi];exact Tt hw h
theorem jy {d:Nat} {v:CV} (h:cj P G (dW ops.toList i) ⟨env,b0,H⟩ v) (hk:AZ P G ops (av ops t) ⟨(d,v)::env,b0,H⟩ K) (hd:(dW ops.toList i).dst=some d:=by exact rfl) (hN:Nat.blt d G.N=true:=by exact rfl) (hw:aS G ops (dW ops.toList i) ⟨env,b0,H⟩ true:=by first|exact aU rfl|exact ck rfl rfl rfl rfl true rfl) (hi:Nat.blt i ops.size=true:=by exact rfl):AZ P G ops (av ops (.rd i t)) ⟨env,b0,H⟩ K:=by rw [oo hi];exact Wg hw hd hN h hk
theorem Yy {d:Nat} {v:CV} (h:kf P G (dW ops.toList i) ⟨env,b0,H⟩ v) (hk:AZ P G ops (av ops t) ⟨(d,v)::env,b0,H⟩ K) (hd:(dW ops.toList i).dst=some d:=by exact rfl) (hN:Nat.blt d G.N=true:=by exact rfl) (hw:aS G ops (dW ops.toList i) ⟨env,b0,H⟩ true:=by first|exact aU rfl|exact ck rfl rfl rfl rfl true rfl) (hb:ownB ops (dW ops.toList i)=true:=by kernel_rfl) (hi:Nat.blt i ops.size=true:=by exact rfl):AZ P G ops (av ops (.rd i t)) ⟨env,b0,H⟩ K:=by rw [oo hi];exact T8 hw hd hN hb h hk
theorem Sa {d:Nat} {v:CV} (h:kf P G (dW ops.toList i) ⟨env,b0,H⟩ v) (hk:AZ P G ops (av ops t) ⟨(d,v)::env,b0,H⟩ K) (hd:(dW ops.toList i).dst=some d:=by exact rfl) (hN:Nat.blt d G.N=true:=by exact rfl) (hw:aS G ops (dW ops.toList i) ⟨env,b0,H⟩ true:=by first|exact aU rfl|exact ck rfl rfl rfl rfl true rfl) (hi:Nat.blt i ops.size=true:=by exact rfl):AZ P G ops (av ops (.one i t)) ⟨env,b0,H⟩ K:=by rw [eX hi];exact Lx hw hd hN h hk
theorem Zd {d:Nat} (hk:AZ P G ops (av ops t) ⟨(d,.c undef)::env,b0,H⟩ K) (hd:(dW ops.toList i).dst=some d:=by exact rfl) (hN:Nat.blt d G.N=true:=by exact rfl) (hw:aS G ops (dW ops.toList i) ⟨env,b0,H⟩ false:=by first|exact ck rfl rfl rfl rfl false rfl|exact lb rfl rfl rfl rfl) (hi:Nat.blt i ops.size=true:=by exact rfl):AZ P G ops (av ops (.rd i t)) ⟨env,b0,H⟩ K:=by rw [oo hi];exact P6 hw hd hN hk
theorem HP (h:kP P G (dW ops.toList i) ⟨env,b0,H⟩ (fun s'=>AZ P G ops (av ops t) s' K)) (hw:aS G ops (dW ops.toList i) ⟨env,b0,H⟩ true:=by first|exact aU rfl|exact ck rfl rfl rfl rfl true rfl) (hi:Nat.blt i ops.size=true:=by exact rfl):AZ P G ops (av ops (.one i t)) ⟨env,b0,H⟩ K:=by rw [eX hi];exact Wv hw h
theorem lP (h:vn P G (dW ops.toList i) ⟨env,b0,H⟩ (fun s'=>AZ P G ops (av ops t) s' K)) (hw:aS G ops (dW ops.toList i) ⟨env,b0,H⟩ true:=by first|exact aU rfl|exact ck rfl rfl rfl rfl true rfl) (hm:vK (dW ops.toList i)=true:=by exact rfl) (hi:Nat.blt i ops.size=true:=by exact rfl):AZ P G ops (av ops (.one i t)) ⟨env,b0,H⟩ K:=by rw [eX hi];exact X6 hw hm h
theorem Az (h:K s):AX P G ops (av ops .done) s K:=Uj h
theorem Ze (h:K s):AZ P G ops (av ops .done) s K:=Ue h
theorem ya {j:Nat} {u:kl} (h1:AX P G ops (av ops (.one i t)) s K) (h2:AX P G ops (av ops (.one j u)) s K) (hi:Nat.blt i ops.size=true:=by exact rfl) (hj:Nat.blt j ops.size=true:=by exact rfl):AX P G ops (av ops (.two i t j u)) s K:=by
 rw [eX hi] at h1
 rw [eX hj] at h2
 simp only [av,jk hi,jk hj]
 exact Wx h1 h2
theorem D4 {j:Nat} {u:kl} (h1:AZ P G ops (av ops (.one i t)) s K) (h2:AZ P G ops (av ops (.one j u)) s K) (hi:Nat.blt i ops.size=true:=by exact rfl) (hj:Nat.blt j ops.size=true:=by exact rfl):AZ P G ops (av ops (.two i t j u)) s K:=by
 rw [eX hi] at h1
 rw [eX hj] at h2
 simp only [av,jk hi,jk hj]
 exact Wt h1 h2
theorem Sb {j q:Nat} {u v:kl} (h1:AX P G ops (av ops (.one i t)) s K) (h2:AX P G ops (av ops (.one j u)) s K) (h3:AX P G ops (av ops (.one q v)) s K) (hi:Nat.blt i ops.size=true:=by exact rfl) (hj:Nat.blt j ops.size=true:=by exact rfl) (hq:Nat.blt q ops.size=true:=by exact rfl):AX P G ops (av ops (.three i t j u q v)) s K:=by
 rw [eX hi] at h1
 rw [eX hj] at h2
 rw [eX hq] at h3
 simp only [av,jk hi,jk hj,jk hq]
 exact Qi h1 h2 h3
end
theorem Zm {id:Nat} (h:cQ P G ops ops.toList s (R .normal)) (hd:Fc G.rd ops=true:=by rfl):aY P G (.region id ops false) s R:=vO h hd
theorem dQ {id:Nat} (t:kl) (h:AX P G ops (av ops t) s (R .normal)) (hm:P.follows .mixedOrders=true:=by kernel_rfl) (hs:Region.noSelect ops=true:=by kernel_rfl) (hl:t.len=ops.size:=by exact rfl) (hin:t.within ops.size=true:=by kernel_rfl) (hB:dI .any ops t (Array.replicate ops.size false)=true:=by kernel_rfl) (hd:Fc G.rd ops=true:=by rfl):aY P G (.region id ops true) s R:=KY t hm hs hl hin hB h hd
theorem mT {id:Nat} (m:Nat) (t:kl) (h:AX P G ops (av ops t) s (fun s'=>cQ P G ops (ops.toList.drop m) s' (R .normal))) (hmix:P.follows .mixedOrders=true:=by kernel_rfl) (hs:Region.noSelect ops=true:=by kernel_rfl) (hm:Nat.ble m ops.size=true:=by exact rfl) (hl:t.len=m:=by exact rfl) (hin:t.within ops.size=true:=by kernel_rfl) (hc:oA .any ops m=true:=by kernel_rfl)
  (hB:fU .any ops m t (Array.replicate ops.size false)=true:=by kernel_rfl) (ht:w8 .any ops (ops.size-m) m (zp m ops.size)=true:=by kernel_rfl) (hd:Fc G.rd ops=true:=by rfl) (hy:G.yl=false:=by rfl):aY P G (.region id ops true) s R:=GE m t hmix hs hm hl hin hc hB ht h hd hy
theorem lQ {id:Nat} (u:kl) (h:AZ P G ops (av ops u) s (R .normal)) (hmix:P.follows .mixedOrders=true:=by kernel_rfl) (hs:Region.noSelect ops=true:=by kernel_rfl) (hul:u.len=ops.size:=by exact rfl) (huin:u.within ops.size=true:=by kernel_rfl) (hu:dI .any ops u (Array.replicate ops.size false)=true:=by kernel_rfl) (hd:Fc G.rd ops=true:=by rfl):aY P G (.region id ops true) s R:=GC u hmix hs hul huin hu h hd
theorem ia (h:aY P G x s (sB (fun s'=>aY P G y s' R) R)):aY P G (.seq x y) s R:=yz h
theorem eA {id:Nat} (h:cQ P G ops ops.toList s (fun s'=>aY P G y s' R)) (hd:Fc G.rd ops=true:=by rfl):aY P G (.seq (.region id ops false) y) s R:=yz (vO h hd)
theorem Zg (h:Y s):sB Y R .normal s:=h
theorem Zh {i:Nat} (h:R (.exit i) s):sB Y R (.exit i) s:=h
theorem l9 (h:R .ret s):sB Y R .ret s:=h
theorem Zq {i:Nat} (h:R .normal s):oG i R .normal s:=h
theorem Oh {i:Nat} (h:R .ret s):oG i R .ret s:=h
theorem Zp {i j:Nat} (h:R .normal s) (he:Nat.beq j i=true:=by exact rfl):oG i R (.exit j) s:=GL he h
theorem YH {i j:Nat} (h:R (.exit j) s) (he:Nat.beq j i=false:=by exact rfl):oG i R (.exit j) s:=EY he h
def tk (c:CV) (p n:Prop):Prop:=∃ t:Bool,c=.c (.bool t)∧(t=true→p)∧(t=false→n)
theorem Vo {p:Prop} [Decidable p] {c:CV} (h:c=.c (.bool (decide p))):tk c p (¬ p):=⟨_,h,a9x,of_decide_eq_false⟩
theorem Vp {t:Bool} {c:CV} (h:c=.c (.bool t)):tk c (t=true) (t=false):=⟨_,h,id,id⟩
theorem an {d:Nat} {p n:Prop} (ht:p→aY P G x ⟨(d,.c (.bool true))::env,b0,H⟩ R) (hf:n→aY P G y ⟨(d,.c (.bool false))::env,b0,H⟩ R) (hl:tk (look env b0 d) p n:=by first|exact Vo rfl|exact Vp rfl) (hN:Nat.blt d G.N=true:=by exact rfl):aY P G (.cond (.tmp d) x y) ⟨env,b0,H⟩ R:=by
 have ⟨t,h1,h2,h3⟩:=hl
 exact GG hN h1 (fun e=>ht (h2 e)) (fun e=>hf (h3 e))
theorem aaa {d:Nat} {p n:Prop} (hf:n→aY P G y ⟨(d,.c (.bool false))::env,b0,H⟩ R) (ht:p→aY P G x ⟨(d,.c (.bool true))::env,b0,H⟩ R) (hl:tk (look env b0 d) p n:=by first|exact Vo rfl|exact Vp rfl) (hN:Nat.blt d G.N=true:=by exact rfl):aY P G (.cond (.tmp d) x y) ⟨env,b0,H⟩ R:=by
 exact an ht hf hl hN
theorem Zn {d:Operand} (h:aY P G x s R) (hl:s.eval d=.c (.bool true):=by exact rfl):aY P G (.cond d x y) s R:=GF hl h
theorem Zo {d:Operand} (h:aY P G y s R) (hl:s.eval d=.c (.bool false):=by exact rfl):aY P G (.cond d x y) s R:=GH hl h
theorem aH (d:Nat) {p n:Prop} (ht:p→cQ P G ops r ⟨(d,.c (.bool true))::env,b0,H⟩ K) (hf:n→cQ P G ops r ⟨(d,.c (.bool false))::env,b0,H⟩ K) (hl:tk (look env b0 d) p n:=by first|exact Vo rfl|exact Vp rfl) (hN:Nat.blt d G.N=true:=by exact rfl):cQ P G ops r ⟨env,b0,H⟩ K:=by
 have ⟨t,h1,h2,h3⟩:=hl
 exact IT hN h1 (fun e=>ht (h2 e)) (fun e=>hf (h3 e))
theorem ze {tr:dT} (d:Nat) {p n:Prop} (ht:p→AX P G ops tr ⟨(d,.c (.bool true))::env,b0,H⟩ K) (hf:n→AX P G ops tr ⟨(d,.c (.bool false))::env,b0,H⟩ K) (hl:tk (look env b0 d) p n:=by first|exact Vo rfl|exact Vp rfl) (hN:Nat.blt d G.N=true:=by exact rfl):AX P G ops tr ⟨env,b0,H⟩ K:=by
 have ⟨t,h1,h2,h3⟩:=hl
 exact Qj hN h1 (fun e=>ht (h2 e)) (fun e=>hf (h3 e))
theorem dh {n:Nat} {t:TypeId} {z:Value} {d:Nat} (hz:(P.info? t).map (·.zero)=some (some z)) (hn:z.cells.size=n) (hK:∀ g,K ⟨(d,.op H.length g 0)::env,b0,H++[(g,.blk n fun j=>.c (z.cells.getD j undef))]⟩) (ho:o.op=.alloc t:=by exact rfl) (hd:o.dst=some d:=by exact rfl) (hN:Nat.blt d G.N=true:=by exact rfl):kP P G o ⟨env,b0,H⟩ K:=SO ho hz hn hd hN hK
theorem ee (n:Nat) {t:TypeId} {p:Operand} {c:CV} {l:List CV} {d:Nat} (hK:∀ g,K ⟨(d,.op H.length g 0)::env,b0,H++[(g,.blk n (fl l))]⟩) (ho:o.op=.box t p:=by exact rfl) (hx:(⟨env,b0,H⟩:AS).eval p=c:=by first|exact vG rfl|exact vH rfl rfl rfl|exact vJ rfl) (hl:eH c=some l:=by exact rfl) (hn:l.length=n:=by exact rfl) (hd:o.dst=some d:=by exact rfl) (hN:Nat.blt d G.N=true:=by exact rfl):kP P G o ⟨env,b0,H⟩ K:=XE ho hx hl hn hd hN hK
theorem aM (n m:Nat) {e t:TypeId} {z:Value} {len:Nat} {parts:Array (Nat×Operand)} {l:List CV} {d:Nat} (hz:(P.info? e).map (·.zero)=some (some z)) (hK:∀ g,K ⟨(d,.os H.length g 0 len m)::env,b0,H++[(g,.blk n (fl l))]⟩) (ho:o.op=.buildSlice t len parts:=by exact rfl) (h1:P.underlying t=some (.slice e):=by kernel_rfl) (h5:(P.info? e).map (·.size)=some m:=by kernel_rfl) (hm:Nat.ble (len * m) 16777216=true:=by exact rfl) (hlen:Nat.ble len 16777216=true:=by exact rfl)
  (hf:tF (fun i=>some (i * m,m)) ((List.range (len * m)).map fun i=>.c (z.cells[i % z.cells.size]!)) (parts.toList.map fun p=>(p.1,(⟨env,b0,H⟩:AS).eval p.2))=some l:=by exact rfl) (hn:l.length=n:=by exact rfl) (hle:n=len * m:=by exact rfl) (hd:o.dst=some d:=by exact rfl) (hN:Nat.blt d G.N=true:=by exact rfl):kP P G o ⟨env,b0,H⟩ K:=Cj ho h1 h5 hz hm hlen hf hn hle hd hN hK
theorem Km {t u:TypeId} {x:Operand} {a:I} {d:Nat} (hK:K ⟨(d,bc a)::env,b0,H⟩) (ho:o.op=.convert t u x:=by exact rfl) (hx:(⟨env,b0,H⟩:AS).eval x=ap a:=by exact rfl) (h1:P.underlying t=some .string:=by kernel_rfl) (hT:Kn P u=true:=by kernel_rfl) (hS:a.length≤9223372036854775807:=by first|omega|decide|(dsimp only at *;omega)) (hd:o.dst=some d:=by exact rfl) (hN:Nat.blt d G.N=true:=by exact rfl):kP P G o ⟨env,b0,H⟩ K:=by
 have ⟨e,h2,h3⟩:=wB hT
 exact Ph ho hx h1 h2 h3 hS hd hN hK
theorem ak {f:FuncId} {xs:Array Operand} {ats:Array TypeId} {args:List CV} {m:CV} {d:Nat} (hA:cd G.gs P f args m) (hK:K ⟨(d,m)::env,b0,H⟩) (ho:o.op=.call ⟨.value (.func f),xs,ats⟩:=by exact rfl) (hc:bA P f=true:=by kernel_rfl) (he:CI G ⟨env,b0,H⟩ xs.toList args:=by (repeat (first|exact .nil|refine .cons (by first|exact se rfl Z|exact se rfl aa.nil|exact se rfl cN|exact se rfl (cO rfl)|exact se rfl cP|exact sO rfl|exact se rfl aa.fn0|exact se rfl Ko|exact sP _ rfl rfl rfl (by simp) (fun _ _=>Z)) ?_))) (hd:o.dst=some d:=by exact rfl) (hN:Nat.blt d G.N=true:=by exact rfl):kP P G o ⟨env,b0,H⟩ K:=SM ho hc hA he hd hN hK
theorem yc {f:FuncId} {xs:Array Operand} {ats:Array TypeId} {args:List CV} {Q:CV→List (Option Nat×aW)→Prop} {d:Nat} (hA:AC G.gs P f [] args Q) (hK:∀ r H',Q r H'→K ⟨(d,r)::env,b0,H++H'⟩) (ho:o.op=.call ⟨.value (.func f),xs,ats⟩:=by exact rfl) (hc:bA P f=true:=by kernel_rfl) (he:CI G ⟨env,b0,H⟩ xs.toList args:=by (repeat (first|exact .nil|refine .cons (by first|exact se rfl Z|exact se rfl aa.nil|exact se rfl cN|exact se rfl (cO rfl)|exact se rfl cP|exact sO rfl|exact se rfl aa.fn0|exact se rfl Ko|exact sP _ rfl rfl rfl (by simp) (fun _ _=>Z)) ?_))) (hd:o.dst=some d:=by exact rfl) (hN:Nat.blt d G.N=true:=by exact rfl):kP P G o ⟨env,b0,H⟩ K:=If ho hc hA he hd hN hK
theorem yd {f:FuncId} {xs:Array Operand} {ats:Array TypeId} {args:List CV} {n m N:Nat} {F:Nat→CV} {d:Nat} (hA:AC G.gs P f [] args (ss n m N F)) (hK:∀ g,K ⟨(d,.os H.length g 0 n m)::env,b0,H++[(g,.blk N F)]⟩) (ho:o.op=.call ⟨.value (.func f),xs,ats⟩:=by exact rfl) (hc:bA P f=true:=by kernel_rfl) (he:CI G ⟨env,b0,H⟩ xs.toList args:=by (repeat (first|exact .nil|refine .cons (by first|exact se rfl Z|exact se rfl aa.nil|exact se rfl cN|exact se rfl (cO rfl)|exact se rfl cP|exact sO rfl|exact se rfl aa.fn0|exact se rfl Ko|exact sP _ rfl rfl rfl (by simp) (fun _ _=>Z)) ?_))) (hd:o.dst=some d:=by exact rfl) (hN:Nat.blt d G.N=true:=by exact rfl):kP P G o ⟨env,b0,H⟩ K:=SN ho hc hA he hd hN hK
theorem Kl (i:Nat) {f:FuncId} {xs:Array Operand} {ats:Array TypeId} {args:List CV} {Q:CV→List (Option Nat×aW)→Prop} {d:Nat} {x0:Option Nat×aW} (hA:AC G.gs P f [x0] args Q) (hK:∀ r H',Q r H'→∃ x r',H'=[x]∧aa r r'∧K ⟨(d,r')::env,b0,H.set i x⟩) (hi:H[i]?=some x0:=by exact rfl) (ho:o.op=.call ⟨.value (.func f),xs,ats⟩:=by exact rfl) (hc:bA P f=true:=by kernel_rfl) (he:CI G ⟨env,b0,H⟩ xs.toList args:=by (repeat (first|exact .nil|refine .cons (by first|exact se rfl Z|exact se rfl aa.nil|exact se rfl cN|exact se rfl (cO rfl)|exact se rfl cP|exact sO rfl|exact se rfl aa.fn0|exact se rfl Ko|exact sP _ rfl rfl rfl (by simp) (fun _ _=>Z)) ?_))) (hd:o.dst=some d:=by exact rfl) (hN:Nat.blt d G.N=true:=by exact rfl):vn P G o ⟨env,b0,H⟩ K:=RZ ho hc hi hA he hd hN hK
theorem aN (i:Nat) {f:FuncId} {xs:Array Operand} {ats:Array TypeId} {args:List CV} {m:CV} {d:Nat} {x0 x:Option Nat×aW} (hA:AC G.gs P f [x0] args fun r H'=>r=m∧H'=[x]) (hK:K ⟨(d,m)::env,b0,H.set i x⟩) (hi:H[i]?=some x0:=by exact rfl) (ho:o.op=.call ⟨.value (.func f),xs,ats⟩:=by exact rfl) (hc:bA P f=true:=by kernel_rfl) (he:CI G ⟨env,b0,H⟩ xs.toList args:=by (repeat (first|exact .nil|refine .cons (by first|exact se rfl Z|exact se rfl aa.nil|exact se rfl cN|exact se rfl (cO rfl)|exact se rfl cP|exact sO rfl|exact se rfl aa.fn0|exact se rfl Ko|exact sP _ rfl rfl rfl (by simp) (fun _ _=>Z)) ?_))) (hd:o.dst=some d:=by exact rfl) (hN:Nat.blt d G.N=true:=by exact rfl):vn P G o ⟨env,b0,H⟩ K :=
 Kl i hA (fun _ _ ⟨e1,e2⟩=>⟨x,m,e2,e1 ▸ Z,hK⟩) hi ho hc he hd hN
theorem bn (m:Nat) {t:TypeId} {p q:Operand} {i off n:Nat} {g:Option Nat} {f:Nat→CV} {c:CV} {l:List CV} (hK:K ⟨env,b0,H.set i (g,.blk n (fX f off l))⟩) (ho:o.op=.store t p q:=by exact rfl) (hx:(⟨env,b0,H⟩:AS).eval p=.op i g off:=by exact rfl) (hH:H[i]?=some (g,.blk n f):=by exact rfl) (hy:(⟨env,b0,H⟩:AS).eval q=c:=by first|exact vG rfl|exact vH rfl rfl rfl|exact vJ rfl) (hl:eH c=some l:=by exact rfl) (hm:l.length=m:=by exact rfl) (h5:(P.info? t).map (·.size)=some m:=by kernel_rfl) (hleaf:l.all fO=true:=by exact rfl) (hn:off+m≤n:=by first|decide|omega|(dsimp only at *;omega)) (hd:o.dst=none:=by exact rfl):vn P G o ⟨env,b0,H⟩ K :=
 HE ho hx hH hy hl h5 hm hleaf hn _ (fun _ _=>Z) hd hK
theorem bg (m:Nat) (F:Nat→CV) {t:TypeId} {p q:Operand} {i off n:Nat} {g:Option Nat} {f:Nat→CV} {c:CV} {l:List CV} (hF:∀ j,j<n→aa (fX f off l j) (F j)) (hK:K ⟨env,b0,H.set i (g,.blk n F)⟩) (ho:o.op=.store t p q:=by exact rfl) (hx:(⟨env,b0,H⟩:AS).eval p=.op i g off:=by exact rfl) (hH:H[i]?=some (g,.blk n f):=by exact rfl) (hy:(⟨env,b0,H⟩:AS).eval q=c:=by first|exact vG rfl|exact vH rfl rfl rfl|exact vJ rfl) (hl:eH c=some l:=by exact rfl) (hm:l.length=m:=by exact rfl) (h5:(P.info? t).map (·.size)=some m:=by kernel_rfl) (hleaf:l.all fO=true:=by exact rfl) (hn:off+m≤n:=by first|decide|omega|(dsimp only at *;omega)) (hd:o.dst=none:=by exact rfl):vn P G o ⟨env,b0,H⟩ K :=
 HE ho hx hH hy hl h5 hm hleaf hn F hF hd hK
theorem wi {d:Nat} {t:TypeId} {i off n:Nat} {g:Option Nat} {f:Nat→CV} {c:CV} (h:look s.env s.b d=.op i g off:=by exact rfl) (hH:Holds s i g n f:=by first|exact .inl rfl|exact .inr rfl) (hc:f off=c:=by first|exact oq rfl|exact sa rfl) (hn:off<n:=by first|decide|omega|(dsimp only at *;omega)) (hT:Gf P t=true:=by kernel_rfl):Fh P G s (.cell d t) c:=by
 have ⟨ds,h1,ha⟩:=tj hT
 exact PK h hH h1 ha hn hc
theorem f5 (m:Nat) {d:Nat} {t:TypeId} {i off n:Nat} {g:Option Nat} {f:Nat→CV} (h:look s.env s.b d=.op i g off:=by exact rfl) (hH:Holds s i g n f:=by first|exact .inl rfl|exact .inr rfl) (hn:off+m≤n:=by first|decide|omega|(dsimp only at *;omega)) (hT:Oe P t m true=true:=by kernel_rfl):Fh P G s (.cell d t) (.agg m fun j=>f (off+j)):=by
 have ⟨ds,h1,ha,h5⟩:=B6 hT
 exact Ba h hH h1 ha h5 hn
theorem bo {t:Nat} {c:CV} (h:s.eval (.tmp t)=c:=by first|exact vG rfl|exact vH rfl rfl rfl|exact vJ rfl):Fh P G s (.tmp t) c:=ai h
theorem eN {fn:Func} {e:Exit} {v m:CV} (hres:lp P G fn s v:=by first|exact aK rfl bo|exact di rfl bo bo|exact eP rfl bo bo bo|exact WI rfl bo bo bo bo|exact br rfl) (hv:aa v m:=by first|exact Z|exact aa.nil) (he:e=.ret∨e=.normal:=by first|exact .inl rfl|exact .inr rfl):lW P G fn (fun r H=>r=m∧H=[]) e s:=SK he hres hv
theorem am {α:Type} {k:Nat} {φ:α→Prop} {μ:α→Nat} {D:List Nat} {M:α→List (Nat×CV)} {Hp:α→List (Option Nat×aW)} {b1:Nat→CV} (p':α) (h1:φ p') (h2:μ p'<k) (h5:bh s.env s.b (M p'):=by (repeat (first|exact bh.nil|refine bh.cons Z ?_|refine bh.cons (cI O) ?_))) (h7:aD (s.H.take (Hp p').length) (Hp p'):=by (repeat (first|exact aD.nil|refine aD.same ?_|refine aD.blk rfl (fun j hj=>by rcases j with _|_|_|_|_|_|_|_|j<;>first|exact Z|exact cI O|omega) ?_)))
  (h3:Bf D b1 s.b:=by first|exact .refl|exact .nest .refl rfl rfl|exact .nest (.nest .refl rfl rfl) rfl rfl|exact .nest (.nest (.nest .refl rfl rfl) rfl rfl) rfl rfl|(repeat (first|exact .refl|refine .nest ?_ rfl rfl|refine Bf.look2 ?_ rfl))) (h4:(s.env.all fun x=>D.any (Nat.beq x.1))=true:=by exact rfl) (h6:(Hp p').length≤s.H.length:=by exact ZN rfl) :
  ∃ p',φ p'∧μ p'<k∧Bf D b1 s.b∧(s.env.all fun x=>D.any (Nat.beq x.1))=true∧bh s.env s.b (M p')∧(Hp p').length≤s.H.length∧aD (s.H.take (Hp p').length) (Hp p'):=⟨p',h1,h2,h3,h4,h5,h6,h7⟩
theorem fy {α:Type} {φ:α→Prop} {D:List Nat} {M:α→List (Nat×CV)} {Hp:α→List (Option Nat×aW)} {b1:Nat→CV} (p':α) (h1:φ p') (h5:bh s.env s.b (M p'):=by (repeat (first|exact bh.nil|refine bh.cons Z ?_|refine bh.cons (cI O) ?_))) (h7:aD (s.H.take (Hp p').length) (Hp p'):=by (repeat (first|exact aD.nil|refine aD.same ?_|refine aD.blk rfl (fun j hj=>by rcases j with _|_|_|_|_|_|_|_|j<;>first|exact Z|exact cI O|omega) ?_)))
  (h3:Bf D b1 s.b:=by first|exact .refl|exact .nest .refl rfl rfl|exact .nest (.nest .refl rfl rfl) rfl rfl|exact .nest (.nest (.nest .refl rfl rfl) rfl rfl) rfl rfl|(repeat (first|exact .refl|refine .nest ?_ rfl rfl|refine Bf.look2 ?_ rfl))) (h4:(s.env.all fun x=>D.any (Nat.beq x.1))=true:=by exact rfl) (h6:(Hp p').length≤s.H.length:=by exact ZN rfl) :
  ∃ p',φ p'∧Bf D b1 s.b∧(s.env.all fun x=>D.any (Nat.beq x.1))=true∧bh s.env s.b (M p')∧(Hp p').length≤s.H.length∧aD (s.H.take (Hp p').length) (Hp p'):=⟨p',h1,h3,h4,h5,h6,h7⟩
end
section
variable {G:Gh} {o:Oper} {s:AS}
def TP:CV→Option Nat
 | .err k=>some k
 | .c .nilIface=>some 0
 | _=>none
def TO (op:BinOp) (n:Nat):Option Bool:=match op with|.eql=>some (decide (n=0))|.neq=>some (decide (n≠0))|_=>none
theorem YD {op:BinOp} {x:Operand} {u:TypeId} {n:Nat} {z:Bool} (ho:o.op=.binOp op 37 x (.const .nilIface) u:=by exact rfl) (hx:TP (s.eval x)=some n:=by exact rfl) (hz:TO op n=some z:=by exact rfl):cj Tryz.prog G o s (.c (.bool z)):=by
 unfold TP at hx
 cases op<;>simp only [TO,adx,reduceCtorEq] at hz
 all_goals subst hz
 ·split at hx
  ·rename_i h;cases hx;exact UT ho h
  ·rename_i h;cases hx;exact Rq ho h
  ·cases hx
 ·split at hx
  ·rename_i h;cases hx;exact UH ho h
  ·rename_i h;cases hx;exact Rg ho h
  ·cases hx
end
end Am
end Go.Proofs.YtghminnpfnkbjaaGreatDoor
