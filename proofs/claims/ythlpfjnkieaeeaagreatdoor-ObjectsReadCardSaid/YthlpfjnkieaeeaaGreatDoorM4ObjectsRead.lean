/- What the law leans on, part 4: AmL, AmD, AmE, AmF, AmG, AmH, AmI, AmJ -/
import Derived.Test.YthlpfjnkieaeeaaGreatDoorM3ObjectsRead
import Derived.Laws.RangeString
import Derived.Shelf.Abstract

set_option maxRecDepth 100000
namespace Go.Proofs.YthlpfjnkieaeeaaGreatDoor
set_option linter.unusedVariables false
namespace Am
open Go.RowKit
section
def nG (L:List (Option Nat×bp)):Option Nat×bp:=lZ 0 (fun _:Unit=>0) (fun _=>L)
theorem cH.bag_push {al:List Addr} {St:Nat→Prop} {w:World} {base:Nat} {F0:Nat→Prop} {H L:List (Option Nat×bp)} {i b:Nat} {x:Option Nat×bp} (hb:H[b]?=some (nG L)) (hi:H[i]?=some x) (hib:i≠b) (h:cH al St w base F0 H) :
  cH al St w base F0 ((H.set b (nG (x::L))).set i (Option.none,.dead)):=by
 obtain ⟨fp,hp⟩:=h
 have hbl:=(List.getElem?_eq_some_iff.1 hb).1
 have hil:=(List.getElem?_eq_some_iff.1 hi).1
 obtain ⟨u,_,fe,he⟩:=hp.rep b _ _ hb
 refine ⟨fun q c=>if q=i then False else if q=b then fp i c∨fp b c else fp q c,fun q g r hq=>?_,fun p q c h1 h2=>?_,fun q c hq=>?_,fun q hq c hc=>?_⟩
 ·by_cases e1:q=i
  ·subst e1
   simp [hil] at hq
   obtain ⟨rfl,rfl⟩:=hq
   simp only [if_true]
   exact fun c hc=>hc
  ·rw [List.getElem?_set_ne (Ne.symm e1)] at hq
   by_cases e2:q=b
   ·subst e2
    simp [hbl,nG,lZ] at hq
    obtain ⟨rfl,rfl⟩:=hq
    simp only [e1,if_true,if_false]
    refine ⟨(),rfl,fun k c=>match k with|0=>fp i c|k+1=>fe k c,fun k g r hk=>?_,fun j k c hj hk=>?_,fun k hk c hc=>?_,fun c=>⟨fun hc=>?_,fun ⟨k,hk⟩=>?_⟩⟩
    ·cases k with
     | zero =>
      simp only [List.getElem?_cons_zero,Option.some.injEq] at hk
      exact hp.rep i g r (by rw [hi,hk])
     | succ k=>exact he.rep k g r (by simpa using hk)
    ·cases j with
     | zero =>
      cases k with
      | zero=>rfl
      | succ k=>exact absurd (hp.dis _ _ c hj ((he.all c).2 ⟨k,hk⟩)) (fun e=>hib e)
     | succ j =>
      cases k with
      | zero=>exact absurd (hp.dis _ _ c hk ((he.all c).2 ⟨j,hj⟩)) (fun e=>hib e)
      | succ k=>rw [he.dis j k c hj hk]
    ·cases k with
     | zero=>simp at hk
     | succ k=>exact he.out k (by simpa using hk) c hc
    ·rcases hc with hc|hc
     ·exact ⟨0,hc⟩
     ·obtain ⟨k,hk⟩:=(he.all c).1 hc
      exact ⟨k+1,hk⟩
    ·cases k with
     | zero=>exact .inl hk
     | succ k=>exact .inr ((he.all c).2 ⟨k,hk⟩)
   ·rw [List.getElem?_set_ne (Ne.symm e2)] at hq
    simp only [e1,e2,if_false]
    exact hp.rep q g r hq
 ·by_cases e1:p=i
  ·simp only [e1,if_true] at h1
  ·by_cases e2:q=i
   ·simp only [e2,if_true] at h2
   ·simp only [e1,e2,if_false] at h1 h2
    by_cases e3:p=b <;> by_cases e4:q=b <;> simp only [e3,e4,if_true,if_false] at h1 h2
    ·rw [e3,e4]
    ·rcases h1 with h1|h1
     ·exact absurd (hp.dis _ _ c h1 h2).symm e2
     ·exact absurd (hp.dis _ _ c h1 h2).symm e4
    ·rcases h2 with h2|h2
     ·exact absurd (hp.dis _ _ c h1 h2) e1
     ·exact absurd (hp.dis _ _ c h1 h2) e3
    ·exact hp.dis _ _ c h1 h2
 ·by_cases e1:q=i
  ·simp only [e1,if_true] at hq
  ·by_cases e2:q=b
   ·rw [if_neg e1,if_pos e2] at hq
    rcases hq with hq|hq
    ·exact hp.own _ c hq
    ·exact hp.own _ c hq
   ·rw [if_neg e1,if_neg e2] at hq
    exact hp.own _ c hq
 ·simp only [List.length_set] at hq
  rw [jK,jK] at hc
  exact hp.out q hq c hc
theorem cH.bag_pop {al:List Addr} {St:Nat→Prop} {w:World} {base:Nat} {F0:Nat→Prop} {H L:List (Option Nat×bp)} {b:Nat} {x:Option Nat×bp} (hb:H[b]?=some (nG (x::L))) (h:cH al St w base F0 H) :
  cH al St w base F0 (H.set b (nG L)++[x]):=by
 obtain ⟨fp,hp⟩:=h
 have hbl:=(List.getElem?_eq_some_iff.1 hb).1
 obtain ⟨u,_,fe,he⟩:=hp.rep b _ _ hb
 have inB:∀ k c,fe k c→fp b c:=fun k c hk=>(he.all c).2 ⟨k,hk⟩
 refine ⟨fun q c=>if q=H.length then fe 0 c else if q=b then ∃ k,fe (k+1) c else fp q c,fun q g r hq=>?_,fun p q c h1 h2=>?_,fun q c hq=>?_,fun q hq c hc=>?_⟩
 ·by_cases e1:q=H.length
  ·subst e1
   rw [List.getElem?_append_right (by simp)] at hq
   simp at hq
   simp only [if_true]
   exact he.rep 0 g r (by rw [hq];rfl)
  ·have hql:q<H.length:=by
    have:=(List.getElem?_eq_some_iff.1 hq).1
    simp at this
    omega
   rw [List.getElem?_append_left (by simpa using hql)] at hq
   simp only [e1,if_false]
   by_cases e2:q=b
   ·subst e2
    simp [hbl,nG,lZ] at hq
    obtain ⟨rfl,rfl⟩:=hq
    simp only [if_true]
    refine ⟨(),rfl,fun k c=>fe (k+1) c,fun k g r hk=>he.rep (k+1) g r (by simpa using hk),fun j k c hj hk=>by have:=he.dis _ _ c hj hk;omega,fun k hk c hc=>he.out (k+1) (by simp;omega) c hc,fun c=>Iff.rfl⟩
   ·rw [List.getElem?_set_ne (Ne.symm e2)] at hq
    simp only [e2,if_false]
    exact hp.rep q g r hq
 ·by_cases e1:p=H.length <;> by_cases e2:q=H.length
  ·rw [e1,e2]
  ·rw [if_pos e1] at h1
   rw [if_neg e2] at h2
   by_cases e3:q=b
   ·rw [if_pos e3] at h2
    obtain ⟨k,hk⟩:=h2
    have:=he.dis _ _ c h1 hk
    omega
   ·rw [if_neg e3] at h2
    exact absurd (hp.dis _ _ c (inB _ _ h1) h2).symm e3
  ·rw [if_neg e1] at h1
   rw [if_pos e2] at h2
   by_cases e3:p=b
   ·rw [if_pos e3] at h1
    obtain ⟨k,hk⟩:=h1
    have:=he.dis _ _ c h2 hk
    omega
   ·rw [if_neg e3] at h1
    exact absurd (hp.dis _ _ c (inB _ _ h2) h1).symm e3
  ·rw [if_neg e1] at h1
   rw [if_neg e2] at h2
   by_cases e3:p=b <;> by_cases e4:q=b <;> simp only [e3,e4,if_true,if_false] at h1 h2
   ·rw [e3,e4]
   ·obtain ⟨k,hk⟩:=h1
    exact absurd (hp.dis _ _ c (inB _ _ hk) h2).symm e4
   ·obtain ⟨k,hk⟩:=h2
    exact absurd (hp.dis _ _ c (inB _ _ hk) h1).symm e3
   ·exact hp.dis _ _ c h1 h2
 ·by_cases e1:q=H.length
  ·rw [if_pos e1] at hq
   exact hp.own b c (inB _ _ hq)
  ·rw [if_neg e1] at hq
   by_cases e2:q=b
   ·rw [if_pos e2] at hq
    obtain ⟨k,hk⟩:=hq
    exact hp.own b c (inB _ _ hk)
   ·rw [if_neg e2] at hq
    exact hp.own q c hq
 ·simp at hq
  rw [jK,jK] at hc
  exact hp.out q jO c hc
theorem cH.bag_new {al:List Addr} {St:Nat→Prop} {w:World} {base:Nat} {F0:Nat→Prop} {H:List (Option Nat×bp)} (h:cH al St w base F0 H):cH al St w base F0 (H++[nG []]):=by
 obtain ⟨fp,hp⟩:=h
 refine ⟨fp,fun q g r hq=>?_,hp.dis,hp.own,fun q hq c hc=>hp.out q (by simp at hq;omega) c hc⟩
 by_cases e1:q<H.length
 ·rw [List.getElem?_append_left e1] at hq
  exact hp.rep q g r hq
 ·rw [List.getElem?_append_right jO] at hq
  have hno:∀ c,¬ fp q c:=fun c hc=>hp.out q jO c hc
  have e2:q-H.length=0:=by
   have:=(List.getElem?_eq_some_iff.1 hq).1
   simp at this
   omega
  rw [e2] at hq
  simp [nG,lZ] at hq
  obtain ⟨rfl,rfl⟩:=hq
  exact ⟨(),rfl,fun _ _=>False,fun k g r hk=>by simp at hk,fun _ _ _ h=>h.elim,fun _ _ _ h=>h,fun c=>⟨fun hc=>(hno c hc).elim,fun ⟨_,hk⟩=>hk.elim⟩⟩
section
variable {G:Gh} {env:List (Nat×CV)} {b0:Nat→CV} {H L:List (Option Nat×bp)} {x:Option Nat×bp}
theorem bag_push (b i:Nat) (hb:H[b]?=some (nG L)) (hi:H[i]?=some x) (hib:Nat.beq i b=false):cU G ⟨env,b0,H⟩ ⟨env,b0,(H.set b (nG (x::L))).set i (none,.dead)⟩:=cU.hrel fun h=>h.bag_push hb hi (Nat.ne_of_beq_eq_false hib)
theorem bag_pop (b:Nat) (hb:H[b]?=some (nG (x::L))):cU G ⟨env,b0,H⟩ ⟨env,b0,H.set b (nG L)++[x]⟩:=cU.hrel fun h=>h.bag_pop hb
theorem bag_new:cU G ⟨env,b0,H⟩ ⟨env,b0,H++[nG []]⟩:=cU.hrel fun h=>h.bag_new
end
theorem cH.osRs {al:List Addr} {St:Nat→Prop} {w:World} {base:Nat} {F0:Nat→Prop} {H:List (Option Nat×bp)} {i q off n m N:Nat} {g:Option Nat} {F:Nat→CV} {f:Nat→Nat→CV} {v:Value} (h:cH al St w base F0 H) (hH:H[i]?=some (g,.frz N F)) (hN:off+n * m≤N) (hf:∀ a b,a<n→b<m→ab (F (off+(a * m+b))) (f a b)) (he:bv al St w (.os q g off n m) v):bv al St w (.rs m n f) v:=by
 cases g with
 | none =>
  obtain ⟨h1,h2⟩:=he
  subst h1
  exact ⟨_,0,h2,Nat.le_refl _,by decide,fun _=>rfl,fun _ h=>by cases h⟩
 | some g =>
  obtain ⟨cap,h1,h2,h3,_⟩:=he
  obtain ⟨fp,hp⟩:=h
  obtain ⟨_,hg,cur,t,z,hh,hle,hc⟩:=hp.rep i (some g) _ hH
  refine ⟨_,cap,h1,h2,h3,(fun h=>by cases h),fun ad ha _=>?_⟩
  cases ha
  refine ⟨rfl,hg,fun p q hp' hq=>?_⟩
  have hb:p * m+q<n * m:=by
   have:p * m+m≤n * m:=by rw [← Nat.succ_mul];exact Nat.mul_le_mul_right _ hp'
   omega
  have hlt:off+(p * m+q)<cur.size:=by omega
  refine ⟨cur.getD (off+(p * m+q)) undef,?_,hf p q hp' hq _ _ _ _ (hc _ jO)⟩
  show w.cell? ⟨g,off+(p * m+q),Option.none⟩=_
  rw [cell_of_row w g _ cur t z hh];simp [hlt]
theorem cH.thawC {al:List Addr} {St:Nat→Prop} {w:World} {base:Nat} {F0:Nat→Prop} {H:List (Option Nat×bp)} {b j0 i q off n m M N:Nat} {g gb:Option Nat} {B B' F:Nat→CV} {f:Nat→Nat→CV} (hb:H[b]?=some (gb,.blk M B)) (hH:H[i]?=some (g,.frz N F)) (hB:ab (B j0) (.os q g off n m)) (hB0:ab (.rs m n f) (B' j0)) (hB':∀ j,j<M→j≠j0→ab (B j) (B' j)) (hN:off+n * m≤N) (hf:∀ a b,a<n→b<m→ab (F (off+(a * m+b))) (f a b)) (h:cH al St w base F0 H) :
  cH al St w base F0 (H.set b (gb,.blk M B')):=by
 have hk:=fun {v}=>h.osRs (v:=v) hH hN hf (q:=q)
 obtain ⟨fp,hp⟩:=h
 have hlt:=(List.getElem?_eq_some_iff.1 hb).1
 refine ⟨fp,fun j q r hj=>?_,hp.dis,hp.own,fun j hj=>hp.out j (by simpa using hj)⟩
 by_cases e:j=b
 ·subst e
  simp [hlt] at hj
  obtain ⟨rfl,rfl⟩:=hj
  have:=hp.rep j gb _ hb
  cases gb with
  | none=>exact this
  | some gb =>
   obtain ⟨h0,cur,t,h1,h2,h3⟩:=this
   refine ⟨h0,cur,t,h1,h2,fun a ha=>?_⟩
   by_cases ea:a=j0
   ·subst ea
    exact hB0 _ _ _ _ (hk (hB _ _ _ _ (h3 a ha)))
   ·exact hB' a ha ea _ _ _ _ (h3 a ha)
 ·rw [List.getElem?_set_ne (Ne.symm e)] at hj
  exact hp.rep j q r hj
section
variable {G:Gh} {env:List (Nat×CV)} {b0:Nat→CV} {H:List (Option Nat×bp)}
theorem thawC (b j0 i:Nat) (B':Nat→CV) (f:Nat→Nat→CV) {q off n m M N:Nat} {g gb:Option Nat} {B F:Nat→CV} (hb:H[b]?=some (gb,.blk M B)) (hH:H[i]?=some (g,.frz N F)) (hB:ab (B j0) (.os q g off n m)) (hB0:ab (.rs m n f) (B' j0)) (hB':∀ j,j<M→j≠j0→ab (B j) (B' j)) (hN:off+n * m≤N) (hf:∀ a b,a<n→b<m→ab (F (off+(a * m+b))) (f a b)) :
  cU G ⟨env,b0,H⟩ ⟨env,b0,H.set b (gb,.blk M B')⟩:=cU.hrel fun h=>h.thawC hb hH hB hB0 hB' hN hf
theorem OY (d i:Nat) (f:Nat→Nat→CV) (c0:CV) {q off n m N:Nat} {g:Option Nat} {A F:Nat→CV} (hl:look env b0 d=.agg 2 A) (hH:H[i]?=some (g,.frz N F)) (h0:ab (A 0) c0) (h1:ab (A 1) (.os q g off n m)) (hN:off+n * m≤N) (hf:∀ a b,a<n→b<m→ab (F (off+(a * m+b))) (f a b)) :
  cU G ⟨env,b0,H⟩ ⟨(d,.agg 2 (fl [c0,.rs m n f]))::env,b0,H⟩:=fun St a w hr=>by
 refine ⟨St,fun _ h=>h,hr.df,hr.sz,fun e=>?_,hr.un,hr.s1,hr.s2,hr.s3,hr.hp,hr.sn,hr.sg⟩
 by_cases hde:d=e
 ·subst hde
  rw [eR]
  have he:=hr.env d
  rw [hl] at he
  obtain ⟨cs,k1,k2,k3⟩:=he
  refine ⟨cs,k1,k2,fun j hj=>?_⟩
  rcases j with _|_|j
  ·exact h0 _ _ _ _ (k3 0 jO)
  ·exact hr.hp.osRs hH hN hf (h1 _ _ _ _ (k3 1 jO))
  ·omega
 ·rw [c9 _ _ _ hde];exact hr.env e
end
theorem C2 {P:Program} {G:Gh} {fn:Func} {Q:CV→List (Option Nat×bp)→Prop} {e:Exit} {env:List (Nat×CV)} {b0:Nat→CV} {H H':List (Option Nat×bp)} (h:∀ {al St w base F0},cH al St w base F0 H→cH al St w base F0 H') (hb:k7 P G fn Q e ⟨env,b0,H'⟩):k7 P G fn Q e ⟨env,b0,H⟩:=by
 have cv:∀ {St a w},aC G St ⟨env,b0,H⟩ a w→aC G St ⟨env,b0,H'⟩ a w:=fun hr=>⟨hr.df,hr.sz,hr.env,hr.un,hr.s1,hr.s2,hr.s3,h hr.hp,hr.sn,hr.sg⟩
 cases e with
 | normal =>
  obtain ⟨r,K,k1,k2,k3⟩:=hb
  exact ⟨r,K,fun St a w hr=>k1 St a w (cv hr),k2,fun St a w hr=>k3 St a w (cv hr)⟩
 | ret =>
  obtain ⟨r,K,k1,k2,k3⟩:=hb
  exact ⟨r,K,fun St a w hr=>k1 St a w (cv hr),k2,fun St a w hr=>k3 St a w (cv hr)⟩
 | _=>exact hb
section
variable {P:Program} {G:Gh} {o:Oper} {env:List (Nat×CV)} {b0:Nat→CV} {H:List (Option Nat×bp)} {K:AS→Prop}
theorem It {f:FuncId} {v:Operand} {n:Nat} {fv:Nat→CV} {xs:Array Operand} {ats:Array TypeId} {args:List CV} {Q:CV→List (Option Nat×bp)→Prop} {i:Nat} {x0:Option Nat×bp} (ho:o.op=.call ⟨.value v,xs,ats⟩) (hv:(⟨env,b0,H⟩:AS).eval v=.fn f n fv) (hc:br P f=true) (hi:H[i]?=some x0) (hA:AC G.gs P f [x0] args Q)
  (he:oE (xs.toList.map (⟨env,b0,H⟩:AS).eval++(List.range n).map fv) args) (hd:ck G o=true)
  (hK:∀ r H',Q r H'→∃ x,H'=[x]∧K ((⟨env,b0,H⟩:AS).with o.dst r (H.set i x))):uc P G o ⟨env,b0,H⟩ K:=fun St a w hr Q'=>by
 obtain ⟨cs,hcs,hn,hf⟩:=ka hr hv
 unfold Oper.wp
 rw [vH ho hc a hcs]
 have hl:=Bl he
 simp at hl
 obtain ⟨fp,hp⟩:=hr.hp
 have hlt:i<H.length:=(List.getElem?_eq_some_iff.1 hi).1
 obtain ⟨g0,r0⟩:=x0
 have hent:wk G.gs G.al St (fp i) [(g0,r0)] w:=by
  refine ⟨hr.s3,hr.sn,hr.sg,⟨fun j b=>j=0∧fp i b,fun j g r hj=>?_,fun j l b hj hl=>by omega,fun j b hj=>⟨(hp.own i b hj.2).1,(hp.own i b hj.2).2.1,.inr hj.2⟩,fun j hj b hb=>by simp at hj;omega⟩,fun b hb=>(hp.own i b hb).2.1⟩
  match j,hj with
  | 0,hj =>
   simp at hj
   obtain ⟨rfl,rfl⟩:=hj
   have e:(fun b=>(0:Nat)=0∧fp i b)=fp i:=funext fun b=>by simp
   show r0.rep G.al St w (fun b=>(0:Nat)=0∧fp i b) g0
   rw [e]
   exact hp.rep i g0 r0 hi
  | j+1,hj=>simp at hj
 refine (hA G.al w St _ _ hent (by simp [hn,hl]) (fun i=>?_)).mono ?_
 ·by_cases hi:i<args.length
  ·refine Bm he i _ _ _ _ ?_
   rw [xJ]
   by_cases h1:i<xs.size
   ·rw [if_pos (by simpa using h1),eT]
    simp [List.getD,h1,Array.getElem?_append_left]
    exact hr.eval _
   ·rw [if_neg (by simpa using h1),eT]
    have h2:i-xs.size<n:=by omega
    have:=hf _ h2
    simp [List.getD,h2,Array.getElem?_append_right (show (xs.map a.eval).size≤i by simp;omega)] at this ⊢
    exact this
  ·rw [rf args i jO];trivial
 rintro e w' ⟨v,r,H',St',rfl,hq,hv,hu,h3,h4,h5,h6⟩
 obtain ⟨x,rfl,hk⟩:=hK r H' hq
 refine ⟨fun b hb=>hu.block b (hr.s3 b hb) fun hf=>(hp.own i b hf).2.1 hb,St',h3,_,hk,?_⟩
 have h7:=(hr.afterH hp hlt hu h3 h4 h5 h6).put (dst:=o.dst) (v:=r) (x:=v) (ef hd) hv
 cases ho:o.dst with
 | none=>rw [ho] at h7;exact h7
 | some d=>rw [ho] at h7;exact h7
end
end
section
def qa (l:ByteArray) (pos:Nat):OP where
 p al St w g F:=(∀ b,F b↔b=g)∧w.heap[g]?=some (.stringIter l pos)
 st:=fun he hs hF ⟨h1,h2⟩=>⟨h1,(hF _ ((h1 _).2 rfl)).trans h2⟩
section
variable {P:Program} {G:Gh} {ops:Array Oper} {o:Oper} {s:AS} {r:List Oper} {K:AS→Prop} {t u:TypeId} {x y:Operand} {env:List (Nat×CV)} {b0:Nat→CV} {H:List (Option Nat×bp)}
theorem zK {w w':World} (h:Below w.heap.size w w'):iI (fun _=>False) w w':=(iI.refl _ w).then h
theorem aC.freshObj {St:Nat→Prop} {a:Act} {w w':World} {g:Nat} {p:OP} (h:aC G St s a w) (hb:Below w.heap.size w w') (h1:w.heap.size≤g) (h2:g<w'.heap.size) (hp:p.p G.al St w' g (fun b=>b=g)):aC G St ⟨s.env,s.b,s.H++[(some g,.obj p)]⟩ a w':=by
 refine h.after (zK hb) (fun _ h=>h) (fun b h=>.inl h) (fun b hs=>Nat.lt_of_lt_of_le (h.s3 b hs) hb.size) ⟨fun i b=>i=0∧b=g,fun i q r hi=>?_,fun i j b hi hj=>by omega,fun i b hi=>?_,fun i hi b hb=>by simp at hi;omega⟩
 ·match i,hi with
  | 0,hi =>
   simp at hi
   obtain ⟨rfl,rfl⟩:=hi
   have e:(fun b=>(0:Nat)=0∧b=g)=fun b=>b=g:=funext fun b=>by simp
   show p.p G.al St w' g (fun b=>(0:Nat)=0∧b=g)
   rw [e]
   exact hp
  | i+1,hi=>simp at hi
 ·obtain ⟨_,rfl⟩:=hi
  exact ⟨h2,fun hs=>by have:=h.s3 _ hs;omega,.inl h1⟩
theorem aC.turnObj {St:Nat→Prop} {a:Act} {w w':World} {i g:Nat} {p p':OP} (h:aC G St s a w) (hH:s.H[i]?=some (some g,.obj p)) (hF:∀ F,p.p G.al St w g F→(∀ b,F b↔b=g)) (hno:∀ cur t z,w.heap[g]?≠some (.cells cur t z))
  (ho:w'.os=w.os) (ht:w'.tape=w.tape) (hout:w'.output=w.output) (hsz:w'.heap.size=w.heap.size) (hold:∀ b,b≠g→w'.heap[b]?=w.heap[b]?) (hp':p'.p G.al St w' g (fun b=>b=g)):aC G St ⟨s.env,s.b,s.H.set i (some g,.obj p')⟩ a w':=by
 obtain ⟨fp,hp⟩:=h.hp
 have hlt:i<s.H.length:=(List.getElem?_eq_some_iff.1 hH).1
 have hrep:p.p G.al St w g (fp i):=hp.rep i (some g) _ hH
 have hfi:=hF _ hrep
 have hg:fp i g:=(hfi g).2 rfl
 obtain ⟨hg1,hg2,hg3⟩:=hp.own i g hg
 have he:qk St w w':=⟨fun b cu ct cz hb hcu=>(hold b (fun e=>hg2 (e ▸ hb))).trans hcu,fun b cu t z hb=>⟨cu,z,(hold b (fun e=>hno cu t z (e ▸ hb))).trans hb,rfl⟩⟩
 refine ⟨h.df.keep (fun _ h=>h) (fun b hb=>hold b (fun e=>hg2 (e ▸ hb))),h.sz,fun d=>bv.evo he (fun _ x=>x) _ _ (h.env d),⟨ho.trans h.un.os,ht.trans h.un.tape,hout.trans h.un.output,by rw [hsz];exact h.un.size,fun k hk hFk=>?_,fun b cu t z hb=>?_⟩,h.s1,h.s2,fun b hb=>by rw [hsz];exact h.s3 b hb,?_,?_,h.sg⟩
 ·refine (hold k (fun e=>?_)).trans (h.un.block k hk hFk)
  subst e
  rcases hg3 with h1|h1
  ·omega
  ·exact hFk h1
 ·obtain ⟨cur',z',h1,h2⟩:=h.un.sh b cu t z hb
  obtain ⟨cur2,z2,h3,h4⟩:=he.sh b cur' t z' h1
  exact ⟨cur2,z2,h3,h4.trans h2⟩
 ·refine ⟨fp,fun j q r hj=>?_,hp.dis,fun j b hb=>by rw [hsz];exact hp.own j b hb,fun j hj=>hp.out j (by simpa using hj)⟩
  by_cases e:j=i
  ·subst e
   simp [hlt] at hj
   obtain ⟨rfl,rfl⟩:=hj
   have e2:fp j=fun b=>b=g:=funext fun b=>propext (hfi b)
   show p'.p G.al St w' g (fp j)
   rw [e2]
   exact hp'
  ·rw [List.getElem?_set_ne (Ne.symm e)] at hj
   exact bp.rep_evo he (fun _ x=>x) (fun b hFb=>hold b (fun e2=>e (hp.dis j i b hFb (e2 ▸ hg)))) (hp.rep j q r hj)
 ·exact fY.keep h.sn (fun q hq=>hold q (fun e=>hg2 (e ▸ h.sg.1 q hq))) (fun q hq=>hold _ (fun e=>hg2 (e ▸ h.sg.2 q hq)))

theorem Mk {l:ByteArray} {d:Nat} (ho:o.op=.range t x) (hx:(⟨env,b0,H⟩:AS).eval x=.c (.string l)) (h1:P.underlying t=some .string) (hd:o.dst=some d) (hN:Nat.blt d G.N=true)
  (hK:∀ g,K ⟨(d,.op H.length (some g) 0)::env,b0,H++[(some g,.obj (qa l 0))]⟩):lb P G o ⟨env,b0,H⟩ K:=fun St a w hr Q=>by
 have hrun:(execOp a.eval o).run P w=.ok (.value (.pointer (some ⟨w.heap.size,0,none⟩))) (w.iter l 0):=by
  simp only [execOp,ho,ov hr hx]
  exact oI (run_range_string w t l h1)
 unfold Oper.wp
 rw [hrun]
 have hb:Below w.heap.size w (w.iter l 0):=fu w _
 refine ⟨hb,St,fun _ h=>h,_,hK w.heap.size,?_⟩
 have h2:=hr.freshObj (g:=w.heap.size) (p:=qa l 0) hb (Nat.le_refl _) (by show _<(w.heap.push _).size;simp) ⟨fun b=>Iff.rfl,World.iter_heap w l 0⟩
 have:=h2.put (dst:=o.dst) (v:=.op H.length (some w.heap.size) 0) (x:=.pointer (some ⟨w.heap.size,0,none⟩)) (by intro d' hd';rw [hd] at hd';cases hd';exact Nat.le_of_ble_eq_true hN) ⟨_,rfl,rfl⟩
 rw [hd] at this ⊢
 exact this
theorem yt {l:ByteArray} {pos g:Nat} {w:World} (ty:TypeId) (hg:w.heap[g]?=some (.stringIter l pos)) (h:pos<l.size) :
  (Instr.next (.pointer (some ⟨g,0,none⟩)) true ty).run P w=.ok (.tuple #[.bool true,.int .i64 pos,.int .i32 (Utf8.decode l pos).1]) { w with heap:=w.heap.setIfInBounds g (.stringIter l (pos+(Utf8.decode l pos).2)) }:=by
 simp [Instr.next,getObj,setObj,Sem.run,hg,h,goInt]
theorem wu {l:ByteArray} {pos g:Nat} {w:World} (ty:TypeId) (hg:w.heap[g]?=some (.stringIter l pos)) (h:¬ pos<l.size) :
  (Instr.next (.pointer (some ⟨g,0,none⟩)) true ty).run P w=.ok (.tuple #[.bool false]) w:=by
 simp [Instr.next,getObj,Sem.run,hg,h]
theorem N8 {l:ByteArray} {pos i g d:Nat} (ho:o.op=.next x true) (hx:(⟨env,b0,H⟩:AS).eval x=.op i (some g) 0) (hH:H[i]?=some (some g,.obj (qa l pos))) (hd:o.dst=some d) (hN:Nat.blt d G.N=true)
  (h1:pos<l.size→K ⟨(d,.tup 3 (fl [.c (.bool true),.c (.int .i64 (pos:Nat)),.c (.int .i32 ((Utf8.decode l pos).1:Nat))]))::env,b0,H.set i (some g,.obj (qa l (pos+(Utf8.decode l pos).2)))⟩)
  (h2:¬ pos<l.size→K ⟨(d,.tup 1 (fl [.c (.bool false)]))::env,b0,H⟩):uc P G o ⟨env,b0,H⟩ K:=fun St a w hr Q=>by
 obtain ⟨b,hb,e0⟩:=ka hr hx
 cases hb
 obtain ⟨fp,hp⟩:=id hr.hp
 obtain ⟨hF,hg⟩:=hp.rep i _ _ hH
 have dlt:∀ d',o.dst=some d'→d'<G.N:=by intro d' hd';rw [hd] at hd';cases hd';exact Nat.le_of_ble_eq_true hN
 by_cases h:pos<l.size
 ·have hrun:(execOp a.eval o).run P w=.ok (.value (.tuple #[.bool true,.int .i64 pos,.int .i32 (Utf8.decode l pos).1])) { w with heap:=w.heap.setIfInBounds g (.stringIter l (pos+(Utf8.decode l pos).2)) }:=by
   simp only [execOp,ho,e0]
   exact oI (yt _ hg h)
  unfold Oper.wp
  rw [hrun]
  refine ⟨fun b hb=>?_,St,fun _ h=>h,_,h1 h,?_⟩
  ·have hne:b≠g:=fun e=>(hp.own i g ((hF g).2 rfl)).2.1 (e ▸ hb)
   simp [Array.getElem?_setIfInBounds_ne (Ne.symm hne)]
  have hlt:g<w.heap.size:=(Array.getElem?_eq_some_iff.1 hg).1
  have h3:=hr.turnObj (p:=qa l pos) (p':=qa l (pos+(Utf8.decode l pos).2)) (w':={ w with heap:=w.heap.setIfInBounds g (.stringIter l (pos+(Utf8.decode l pos).2)) }) hH (fun F h=>h.1) (fun cur t z he=>by rw [hg] at he;cases he) rfl rfl rfl (by simp) (fun b hb=>by simp [Array.getElem?_setIfInBounds_ne (Ne.symm hb)]) ⟨fun b=>Iff.rfl,by simp [hlt]⟩
  have:=h3.put (dst:=o.dst) (v:=.tup 3 (fl [.c (.bool true),.c (.int .i64 (pos:Nat)),.c (.int .i32 ((Utf8.decode l pos).1:Nat))])) (x:=.tuple #[.bool true,.int .i64 pos,.int .i32 (Utf8.decode l pos).1]) dlt ⟨_,rfl,rfl,fun j hj=>match j,hj with|0,_=>rfl|1,_=>rfl|2,_=>rfl⟩
  rw [hd] at this ⊢
  exact this
 ·have hrun:(execOp a.eval o).run P w=.ok (.value (.tuple #[.bool false])) w:=by
   simp only [execOp,ho,e0]
   exact oI (wu _ hg h)
  unfold Oper.wp
  rw [hrun]
  refine ⟨gK.refl _ _,St,fun _ h=>h,_,h2 h,?_⟩
  have:=hr.put (dst:=o.dst) (v:=.tup 1 (fl [.c (.bool false)])) (x:=.tuple #[.bool false]) dlt ⟨_,rfl,rfl,fun j hj=>match j,hj with|0,_=>rfl⟩
  rw [hd] at this ⊢
  exact this
end
end
section
def au (l:List UInt8):CV:=.c (.string ⟨l.toArray⟩)
theorem sN {a b:List UInt8}:((⟨a.toArray⟩:ByteArray)=⟨b.toArray⟩)↔a=b:=by
 constructor
 ·intro h
  have:=congrArg (fun x:ByteArray=>x.data.toList) h
  simpa using this
 ·rintro rfl;rfl
theorem pw (a:List UInt8):(⟨a.toArray⟩:ByteArray).toList=a:=by rw [Go.ByteArray.toList_eq]
theorem Oz (l r:List UInt8):(⟨l.toArray⟩++⟨r.toArray⟩:ByteArray)=⟨(l++r).toArray⟩:=by
 apply ByteArray.ext
 simp
theorem Oy (l:List UInt8) (i j:Nat):(⟨l.toArray⟩:ByteArray).extract i j=⟨((l.take j).drop i).toArray⟩:=by
 apply ByteArray.ext
 simp [List.drop_take]
section
variable {P:Program} {G:Gh} {ops:Array Oper} {o:Oper} {s:AS} {r:List Oper} {K:AS→Prop} {t u:TypeId} {x y:Operand} {env:List (Nat×CV)} {b0:Nat→CV} {H:List (Option Nat×bp)} {k:IntKind} {a b:List UInt8}
theorem NM (ho:o.op=.binOp .eql t x y u) (hx:s.eval x=au a) (hy:s.eval y=au b):cq P G o s (.c (.bool (decide (a=b)))):=by
 have:=NL (P:=P) (G:=G) ho hx hy
 rwa [show decide ((⟨a.toArray⟩:ByteArray)=⟨b.toArray⟩)=decide (a=b) from decide_eq_decide.2 sN] at this
theorem NC (ho:o.op=.binOp .neq t x y u) (hx:s.eval x=au a) (hy:s.eval y=au b):cq P G o s (.c (.bool (decide (a≠b)))):=by
 have:=HA (P:=P) (G:=G) ho hx hy
 rwa [show decide ((⟨a.toArray⟩:ByteArray)≠⟨b.toArray⟩)=decide (a≠b) from decide_eq_decide.2 (not_congr sN)] at this
theorem NI (ho:o.op=.binOp .lss t x y u) (hx:s.eval x=au a) (hy:s.eval y=au b):cq P G o s (.c (.bool (Op.bytesLess a b))):=by
 have:=NH (P:=P) (G:=G) ho hx hy
 rwa [pw,pw] at this
theorem NK (ho:o.op=.binOp .gtr t x y u) (hx:s.eval x=au a) (hy:s.eval y=au b):cq P G o s (.c (.bool (!(Op.bytesLess a b || a == b)))):=by
 have:=NJ (P:=P) (G:=G) ho hx hy
 rwa [pw,pw] at this
theorem Ll (ho:o.op=.binOp .add t x y u) (hx:s.eval x=au a) (hy:s.eval y=au b) (hl:a.length+b.length≤9223372036854775807):cq P G o s (au (a++b)):=by
 have:=Lk (P:=P) (G:=G) ho hx hy hl
 rwa [Oz] at this
theorem Fa {i:Nat} {z:Int} (ho:o.op=.index t x y) (hx:s.eval x=au a) (hy:s.eval y=.c (.int k z)) (h1:P.underlying t=some .string) (hz:z=(i:Int)) (hi:i<a.length):cq P G o s (ft a i) :=
 E9 (l:=⟨a.toArray⟩) ho hx hy h1 hz hi
theorem Lh (ho:o.op=.call ⟨.builtin .len,#[x],#[t]⟩) (hx:s.eval x=au a) (h1:P.underlying t=some .string):cq P G o s (.c (.int .i64 (a.length:Nat))):=Ld ho hx h1
theorem rW {l v:Nat} {lo hi:Option Operand} (ho:o.op=.slice t x lo hi none) (hx:s.eval x=au a) (h1:P.underlying t=some .string)
  (hl:Bd s 0 lo l) (hu:Bd s a.length hi v) (hlv:l≤v) (hvn:v≤a.length):cq P G o s (au ((a.take v).drop l)):=by
 have:=E3 (P:=P) (G:=G) (b:=⟨a.toArray⟩) ho hx h1 hl hu hlv hvn
 rwa [Oy] at this
theorem uS {l:Nat} {lo:Operand} {z:Int} (ho:o.op=.slice t x (some lo) none none) (hx:s.eval x=au a) (h1:P.underlying t=some .string) (hl:s.eval lo=.c (.int .i64 z)) (hz:z=(l:Int)) (hvn:l≤a.length):cq P G o s (au (a.drop l)):=by
 have:=rW (P:=P) (G:=G) ho hx h1 (bY hl hz) (dc _ _) hvn (Nat.le_refl _)
 rwa [List.take_length] at this
theorem Ch {v:Nat} {hi:Operand} {z:Int} (ho:o.op=.slice t x none (some hi) none) (hx:s.eval x=au a) (h1:P.underlying t=some .string) (hl:s.eval hi=.c (.int .i64 z)) (hz:z=(v:Int)) (hvn:v≤a.length):cq P G o s (au (a.take v)):=by
 have:=rW (P:=P) (G:=G) ho hx h1 (dc _ _) (bY hl hz) (Nat.zero_le _) hvn
 rwa [List.drop_zero] at this
theorem Fi {e:TypeId} (ho:o.op=.convert t u x) (hx:s.eval x=bu a) (h1:P.underlying t=some (.slice e)) (h2:P.underlying e=some (.int .u8)) (h3:P.underlying u=some .string):cq P G o s (au a):=rY ho hx h1 h2 h3
theorem Jw {e:TypeId} {d:Nat} (ho:o.op=.convert t u x) (hx:(⟨env,b0,H⟩:AS).eval x=au a) (h1:P.underlying t=some .string) (h2:P.underlying u=some (.slice e)) (h3:P.underlying e=some (.int .u8)) (hl:a.length≤9223372036854775807) (hd:o.dst=some d) (hN:Nat.blt d G.N=true)
  (hK:K ⟨(d,bu a)::env,b0,H⟩):lb P G o ⟨env,b0,H⟩ K:=by
 refine Jv ho hx h1 h2 h3 hl hd hN ?_
 simpa using hK
end
theorem ab.errN {m n:Nat} (h:n=m):ab (.err m) (.err n):=by subst h;exact cZ
theorem ab.strL {a b:List UInt8} (h:a=b):ab (au a) (au b):=by subst h;exact cZ
end
section
section
variable {P:Program} {G:Gh} {ops:Array Oper} {o:Oper} {s:AS} {r:List Oper} {K:AS→Prop} {t u:TypeId} {x y:Operand} {env:List (Nat×CV)} {b0:Nat→CV} {H:List (Option Nat×bp)}
end
end
section
def lm (r:Loop):OP where
 p al St w g F:=(∀ b,F b↔b=g)∧w.heap[g]?=some (.loop r)
 st:=fun he hs hF ⟨h1,h2⟩=>⟨h1,(hF _ ((h1 _).2 rfl)).trans h2⟩
structure OE where
 N:Nat
 env:List (Nat×CV)
 b:Nat→CV
 ps:Array Tmp
 assign:Code
 body:Code
def gp (fn:FuncId) (tmps:Array Value) (L:OE) (D:Nat) (sp:LoopState×Option Code):Loop:={ state:=sp.1,pending:=sp.2,fn,tmps,params:=L.ps,assign:=L.assign,body:=L.body,defers:=D }
def nT {π:Type} (L:OE) (sp:π→LoopState×Option Code) (HB:π→List (Option Nat×bp)) (φ:π→Prop):OP where
 p al St w g F:=∃ (x:π) (fn:FuncId) (tmps:Array Value) (D:Nat),φ x∧tmps.size=L.N∧(∀ d,bv al St w (look L.env L.b d) (tmps.getD d undef))∧∃ fp,PX al St w F (HB x++[(some g,.obj (lm (gp fn tmps L D (sp x))))]) fp
 st:=fun he hs hF ⟨x,fn,tmps,D,h1,h2,h3,fp,h⟩=>⟨x,fn,tmps,D,h1,h2,fun d=>bv.evo he hs _ _ (h3 d),fp,fun i g r hi=>bp.rep_evo he hs (fun b hb=>hF b ((h.all b).2 ⟨i,hb⟩)) (h.rep i g r hi),h.dis,h.out,h.all⟩

def P3 (gs:List Nat) (P:Program) (l:Nat) (H:List (Option Nat×bp)) (args:List CV) (Q:CV→List (Option Nat×bp)→Prop):Prop :=
 ∀ al w St F0 (vals:Array Value),wk gs al St F0 H w→vals.size=args.length→(∀ i,bv al St w (fl args i) (vals.getD i undef)) →
  YieldAt (D8 none) 0 P l vals w fun e w'=>∃ v r H' St',e=.returned v∧Q r H'∧bv al St' w' r v∧iI F0 w w'∧(∀ b,St b→St' b)∧(∀ b,St' b→St b∨w.heap.size≤b∨F0 b)∧(∀ b,St' b→b<w'.heap.size)∧cH al St' w' w.heap.size F0 H'
def YQ (l:Nat) (J' Jx:OP):CV→List (Option Nat×bp)→Prop:=fun r H'=>(r=.c (.bool true)∧H'=[(some l,.obj J')])∨(r=.c (.bool false)∧H'=[(some l,.obj Jx)])

section
variable {P:Program} {G:Gh} {ops:Array Oper} {o:Oper} {s:AS} {K:AS→Prop} {env:List (Nat×CV)} {b0:Nat→CV} {H:List (Option Nat×bp)} {R:Exit→AS→Prop}

def PY (P:Program) (G:Gh) (o:Oper) (s:AS) (K:AS→Prop):Prop:=∀ a w,wd G s a w→∀ Q,o.wpIn (D8 G.rd) 0 P a w (fun a' w'=>∃ s',K s'∧wd G s' a' w') Q
theorem ym {r:List Oper} (hw:be G ops o s true) (hy:G.yl=true) (h:PY P G o s (fun s'=>cV P G ops r s' K)):cV P G ops (o::r) s K:=fun a w hr Q hQ=>by
 unfold lQ
 obtain ⟨St,hs⟩:=id hr
 rw [if_pos (hw St a w hs)]
 exact .inr ⟨hy,Oper.wpIn_mono (fun a' w' ⟨s',h1,h2⟩=>h1 a' w' h2 Q hQ) (h a w hr Q)⟩

theorem C1 {v:Operand} {l:Nat} {xs:Array Operand} {ats:Array TypeId} (ho:o.op=.call ⟨.value v,xs,ats⟩) (a:Act) (hv:a.eval v=.func (.yield l) #[] #[]) {w:World} {x:Next} (h:(Instr.yield l (xs.map a.eval)).run P w=.ok x w) :
  (execOp a.eval o).run P w=.ok x w:=by
 simp [execOp,ho,resolve,hv,Deferred.ofValue,invoke,h]

theorem yN {v:Operand} {l:Nat} {xs:Array Operand} {ats:Array TypeId} {args:List CV} {Q:CV→List (Option Nat×bp)→Prop} {i d:Nat} {x0:Option Nat×bp} (ho:o.op=.call ⟨.value v,xs,ats⟩) (hv:(⟨env,b0,H⟩:AS).eval v=.c (.func (.yield l) #[] #[])) (hi:H[i]?=some x0) (hA:P3 G.gs P l [x0] args Q) (he:ya G ⟨env,b0,H⟩ xs.toList args) (hd:o.dst=some d) (hN:Nat.blt d G.N=true)
  (hK:∀ r H',Q r H'→∃ x r',H'=[x]∧ab r r'∧K ⟨(d,r')::env,b0,H.set i x⟩):PY P G o ⟨env,b0,H⟩ K:=fun a w ⟨St,hr⟩ Q'=>by
 obtain ⟨h1,h2⟩:=zq he hr
 obtain ⟨fp,hp⟩:=hr.hp
 have hlt:i<H.length:=(List.getElem?_eq_some_iff.1 hi).1
 obtain ⟨g0,r0⟩:=x0
 have hent:wk G.gs G.al St (fp i) [(g0,r0)] w:=by
  refine ⟨hr.s3,hr.sn,hr.sg,⟨fun j b=>j=0∧fp i b,fun j g r hj=>?_,fun j l b hj hl=>by omega,fun j b hj=>⟨(hp.own i b hj.2).1,(hp.own i b hj.2).2.1,.inr hj.2⟩,fun j hj b hb=>by simp at hj;omega⟩,fun b hb=>(hp.own i b hb).2.1⟩
  match j,hj with
  | 0,hj =>
   simp at hj
   obtain ⟨rfl,rfl⟩:=hj
   have e:(fun b=>(0:Nat)=0∧fp i b)=fp i:=funext fun b=>by simp
   show r0.rep G.al St w (fun b=>(0:Nat)=0∧fp i b) g0
   rw [e]
   exact hp.rep i g0 r0 hi
  | j+1,hj=>simp at hj
 obtain ⟨fn,tmps,assign,body,hy,hR⟩:=hA G.al w St _ _ hent h1 h2
 refine ⟨fun f _=>trivial,?_⟩
 rw [Oper.semAt_eq _ _ _ (by rw [ho];intro c e;cases e),C1 ho a (ov hr hv) hy]
 refine ⟨fun e=>(by cases e),?_⟩
 refine RoundIn.mono (F:=D8 none) (n:=0) hR ?_
 rintro e w' ⟨v,r,H',St',rfl,hq,hv,hu,h3,h4,h5,h6⟩
 obtain ⟨x,r',rfl,hce,hk⟩:=hK r H' hq
 refine ⟨_,hk,St',?_⟩
 have h7:=(hr.afterH hp hlt hu h3 h4 h5 h6).put (dst:=o.dst) (v:=r') (x:=v) (by intro d' hd';rw [hd] at hd';cases hd';exact Nat.le_of_ble_eq_true hN) (hce _ _ _ _ hv)
 rw [hd] at h7 ⊢
 exact h7

def Cp:List Tmp→List CV→List (Nat×CV)→List (Nat×CV)
 | p::ps,c::cs,env=>Cp ps cs ((p,c)::env)
 | _,_,env=>env
theorem Aw {al:List Addr} {St:Nat→Prop} {w:World} {b:Nat→CV} {N:Nat}:∀ (ps:List Tmp) (cs:List CV) (vs:List Value) (env:List (Nat×CV)) (tmps:Array Value),tmps.size=N→(∀ d,bv al St w (look env b d) (tmps.getD d undef))→ps.length=cs.length→vs.length=cs.length→(∀ p ∈ ps,p<N)→(∀ i,i<cs.length→bv al St w (fl cs i) (vs.getD i undef)) →
  ((ps.zip vs).foldl (fun t (p,v)=>t.setIfInBounds p v) tmps).size=N∧∀ d,bv al St w (look (Cp ps cs env) b d) (((ps.zip vs).foldl (fun t (p,v)=>t.setIfInBounds p v) tmps).getD d undef)
 | [],cs,vs,env,tmps,h1,h2,_,_,_,_=>⟨by simpa using h1,by simpa [Cp] using h2⟩
 | p::ps,[],vs,env,tmps,_,_,h3,_,_,_=>by simp at h3
 | p::ps,c::cs,[],env,tmps,_,_,_,h4,_,_=>by simp at h4
 | p::ps,c::cs,v::vs,env,tmps,h1,h2,h3,h4,h5,h6=>by
  simp only [List.zip_cons_cons,List.foldl_cons,Cp]
  refine Aw ps cs vs _ _ (by simpa using h1) (fun d=>?_) (by simpa using h3) (by simpa using h4) (fun q hq=>h5 q (List.mem_cons_of_mem _ hq)) (fun i hi=>?_)
  ·by_cases hpd:p=d
   ·subst hpd
    rw [eR]
    have h0:=h6 0 (by simp)
    have hlt:p<tmps.size:=by rw [h1];exact h5 p (List.mem_cons_self ..)
    simpa [hlt,fl] using h0
   ·rw [c9 _ _ _ hpd]
    have:=h2 d
    simpa [Array.getElem?_setIfInBounds_ne hpd] using this
  ·have:=h6 (i+1) (by simp;omega)
   simpa [fl] using this

theorem G7 {α:Type} (l:List α) (x y:α):(l++[x]).set l.length y=l++[y]:=by
 rw [List.set_append_right _ _ (Nat.le_refl _)];simp
theorem qZ {α:Type} (l:List α) (x:α):(l++[x])[l.length]?=some x:=by simp

theorem cH.packR {al:List Addr} {St:Nat→Prop} {w:World} {base:Nat} {F0:Nat→Prop} {π:Type} {L:OE} {sp:π→LoopState×Option Code} {HB:π→List (Option Nat×bp)} {φ:π→Prop} {l:Nat} {x:π} {fn:FuncId} {tmps:Array Value} {D:Nat} (hx:φ x) (hs:tmps.size=L.N) (he:∀ d,bv al St w (look L.env L.b d) (tmps.getD d undef))
  (h:cH al St w base F0 (HB x++[(some l,.obj (lm (gp fn tmps L D (sp x))))])):cH al St w base F0 [(some l,.obj (nT L sp HB φ))]:=by
 obtain ⟨fp,hp⟩:=h
 refine ⟨fun j b=>j=0∧∃ i,fp i b,fun j g r hj=>?_,fun i j b hi hj=>by omega,fun i b hi=>?_,fun i hi b hb=>by simp at hi;omega⟩
 ·match j,hj with
  | 0,hj =>
   simp at hj
   obtain ⟨rfl,rfl⟩:=hj
   exact ⟨x,fn,tmps,D,hx,hs,he,fp,fun i g r hi=>hp.rep i g r hi,hp.dis,hp.out,fun b=>by simp⟩
  | j+1,hj=>simp at hj
 ·obtain ⟨_,k,hk⟩:=hi
  exact hp.own k b hk

def yA {π q:Type} (l:Nat) (R1:OP) (HB:π→List (Option Nat×bp)) (φ':π→Prop) (HX:q→List (Option Nat×bp)) (χ:Code→q→Prop):Exit→AS→Prop
 | .normal,s=>∃ x,φ' x∧(HB x).length+1≤s.H.length∧aS (s.H.take ((HB x).length+1)) (HB x++[(some l,.obj R1)])
 | .ret,s=>∃ x,χ .ret x∧(HX x).length+1≤s.H.length∧aS (s.H.take ((HX x).length+1)) (HX x++[(some l,.obj R1)])
 | .exit id,s=>∃ x,χ (.exit id) x∧(HX x).length+1≤s.H.length∧aS (s.H.take ((HX x).length+1)) (HX x++[(some l,.obj R1)])
 | _,_=>False
def zp (P:Program) (G:Gh) (body:Code) (B:List (Option Nat×bp)) (l:Nat) (R0 R1:OP) (RE:Exit→AS→Prop):Exit→AS→Prop
 | .normal,s=>∃ env b,s=⟨env,b,B++[(some l,.obj R0)]⟩∧bj P G body ⟨env,b,B++[(some l,.obj R1)]⟩ RE
 | _,_=>False

theorem aC.take_h {St:Nat→Prop} {a:Act} {w:World} {B:List (Option Nat×bp)} (h:aC G St s a w) (hl:B.length≤s.H.length) (he:aS (s.H.take B.length) B):aC G St ⟨s.env,s.b,B⟩ a w:=by
 have h1:=h.hp.pick (List.range B.length) (gj _) (gm _ _ hl)
 exact ⟨h.df,h.sz,h.env,h.un,h.s1,h.s2,h.s3,h1.hent he,h.sn,h.sg⟩

theorem aC.turnRec {St:Nat→Prop} {a:Act} {w:World} {B:List (Option Nat×bp)} {l:Nat} {r r':Loop} (h:aC G St ⟨env,b0,B++[(some l,.obj (lm r))]⟩ a w) :
  w.heap[l]?=some (.loop r)∧aC G St ⟨env,b0,B++[(some l,.obj (lm r'))]⟩ a (w.putObj l (.loop r')):=by
 obtain ⟨fp,hp⟩:=id h.hp
 obtain ⟨hF,hg⟩:=hp.rep B.length (some l) _ (qZ _ _)
 have hlt:l<w.heap.size:=(Array.getElem?_eq_some_iff.1 hg).1
 refine ⟨hg,?_⟩
 have:=h.turnObj (i:=B.length) (g:=l) (p:=lm r) (p':=lm r') (w':=w.putObj l (.loop r')) (qZ _ _) (fun F h=>h.1) (fun cur t z he=>by rw [hg] at he;cases he) rfl rfl rfl (by simp) (fun b hb=>World.putObj_heap_other hb) ⟨fun b=>Iff.rfl,World.putObj_heap_same hlt⟩
 rw [G7] at this
 exact this

theorem pQ {π:Type} {gs:List Nat} {al:List Addr} {l:Nat} {w W:World} {F0 St0 St:Nat→Prop} {N:Nat} {L:OE} {sp:π→LoopState×Option Code} {HB:π→List (Option Nat×bp)} {φ:π→Prop} {vJ:List (Nat×CV)} {b:Nat→CV} {x:π} {a:Act} {fn:FuncId} {tmps:Array Value} {D:Nat} {jump:Option Code} {Q:CV→List (Option Nat×bp)→Prop}
  (hent:∀ b,F0 b→¬ St0 b) (h3:∀ b,St0 b→b<w.heap.size) (hx:φ x) (hs:tmps.size=L.N) (henv:∀ d,bv al St0 w (look L.env L.b d) (tmps.getD d undef))
  (hsp:sp x=(if jump.isNone then .ready else .done,jump))
  (hr:aC ⟨gs,al,w,F0,St0,N,some l,false⟩ St ⟨vJ,b,HB x++[(some l,.obj (lm { gp fn tmps L D (.ready,none) with state:=.busy }))]⟩ a W) (hQ:Q (.c (.bool jump.isNone)) [(some l,.obj (nT L sp HB φ))]) :
  ∃ v w',(Instr.endRound l jump).run P W=.ok v w'∧∃ v' r H' St',Ending.returned v=.returned v'∧Q r H'∧bv al St' w' r v'∧iI F0 w w'∧(∀ b,St0 b→St' b)∧(∀ b,St' b→St0 b∨w.heap.size≤b∨F0 b)∧(∀ b,St' b→b<w'.heap.size)∧cH al St' w' w.heap.size F0 H':=by
 obtain ⟨hg,hr2⟩:=hr.turnRec (r':=gp fn tmps L D (sp x))
 refine ⟨_,_,run_endRound jump hg,.bool jump.isNone,_,_,St,rfl,hQ,rfl,?_⟩
 have e:({ { gp fn tmps L D (.ready,none) with state:=LoopState.busy } with state:=if jump.isNone then LoopState.ready else LoopState.done,pending:=jump }:Loop)=gp fn tmps L D (sp x):=by rw [hsp];rfl
 rw [e]
 have hev:qk St0 w (W.putObj l (.loop (gp fn tmps L D (sp x)))):=⟨fun b cur t z hb hc=>(hr2.un.block b (h3 b hb) (fun hf=>hent b hf hb)).trans hc,hr2.un.sh⟩
 exact ⟨hr2.un,hr2.s1,hr2.s2,hr2.s3,cH.packR hx hs (fun d=>bv.evo hev hr2.s1 _ _ (henv d)) hr2.hp⟩

theorem Gx {gs:List Nat} {π q:Type} {l:Nat} {L:OE} {HB:π→List (Option Nat×bp)} {φ φ':π→Prop} {HX:q→List (Option Nat×bp)} {χ:Code→q→Prop} {args:List CV} (hn:L.ps.toList.length=args.length) (hps:∀ p ∈ L.ps.toList,p<L.N)
  (hb:∀ (al:List Addr) (w0:World) (F0 St0:Nat→Prop) (R0 R1:OP) (x:π),φ x→bj P ⟨gs,al,w0,F0,St0,L.N,some l,false⟩ L.assign ⟨Cp L.ps.toList args L.env,L.b,HB x++[(some l,.obj R0)]⟩ (zp P ⟨gs,al,w0,F0,St0,L.N,some l,false⟩ L.body (HB x) l R0 R1 (yA l R1 HB φ' HX χ))) :
  P3 gs P l [(some l,.obj (nT L (fun _=>(.ready,none)) HB φ))] args (YQ l (nT L (fun _=>(.ready,none)) HB φ') (nT L (fun x:Code×q=>(.done,some x.1)) (fun x=>HX x.2) (fun x=>χ x.1 x.2))):=by
 intro al w St F0 vals he hvs hv
 obtain ⟨fp,hp⟩:=he.hp
 obtain ⟨x,fn,tmps,D,hx,hsz,henv,fq,hf⟩:=hp.rep 0 (some l) _ rfl
 obtain ⟨hFl,hg⟩:=hf.rep (HB x).length (some l) _ (qZ _ _)
 have hlen:L.ps.size=args.length:=by simpa using hn
 have hy:=run_yield (P:=P) (args:=vals) hg (by rw [hvs];exact hlen.symm)
 refine ⟨_,_,_,_,hy,roundIn_of_wpIn trivial ?_⟩
 have hpe:=Aw (al:=al) (St:=St) (w:=w) (b:=L.b) (N:=L.N) L.ps.toList args vals.toList L.env tmps hsz henv hn (by simpa using hvs) hps (fun i hi=>by
  have:=hv i
  simpa using this)
 have hfold:(L.ps.toList.zip vals.toList).foldl (fun t (p,v)=>t.setIfInBounds p v) tmps=((gp fn tmps L D (.ready,none)).params.zip vals).foldl (fun tmps (t,a)=>tmps.setIfInBounds t a) (gp fn tmps L D (.ready,none)).tmps:=by
  rw [← Array.foldl_toList,Array.toList_zip]
  rfl
 rw [hfold] at hpe
 have hrel:aC ⟨gs,al,w,F0,St,L.N,some l,false⟩ St ⟨Cp L.ps.toList args L.env,L.b,HB x++[(some l,.obj (lm (gp fn tmps L D (.ready,none))))]⟩ { tmps:=((gp fn tmps L D (.ready,none)).params.zip vals).foldl (fun tmps (t,a)=>tmps.setIfInBounds t a) (gp fn tmps L D (.ready,none)).tmps,defers:=[] } w :=
  ⟨oF.none _ _ _,hpe.1,hpe.2,iI.refl _ _,fun _ h=>h,fun _ h=>.inl h,he.s3,⟨fq,fun i g r hi=>hf.rep i g r hi,hf.dis,fun i b hi=>hp.own 0 b ((hf.all b).2 ⟨i,hi⟩),hf.out⟩,he.sn,he.sg⟩
 refine (hb al w F0 St (lm (gp fn tmps L D (.ready,none))) (lm { gp fn tmps L D (.ready,none) with state:=.busy }) x hx) _ _ ⟨St,hrel⟩ _ ?_
 intro e s1 a1 w1 h1 h2
 cases e with
 | normal =>
  obtain ⟨env1,b1,rfl,hbody⟩:=h1
  obtain ⟨St1,hr1⟩:=h2
  obtain ⟨hg1,hr2⟩:=hr1.turnRec (r':={ gp fn tmps L D (.ready,none) with state:=.busy })
  refine ⟨_,run_beginRound hg1 rfl,hbody a1 _ ⟨St1,hr2⟩ _ ?_⟩
  intro e s2 a2 w2 h3 ⟨St2,hr3⟩
  cases e with
  | normal =>
   obtain ⟨x',hx',hl',hh'⟩:=h3
   have hr4:=hr3.take_h (B:=HB x'++[(some l,.obj (lm { gp fn tmps L D (.ready,none) with state:=.busy }))]) (by simpa using hl') (by simpa using hh')
   exact pQ (jump:=none) he.f0 he.s3 hx' hsz henv rfl hr4 (.inl ⟨rfl,rfl⟩)
  | ret =>
   obtain ⟨x',hx',hl',hh'⟩:=h3
   have hr4:=hr3.take_h (B:=HX x'++[(some l,.obj (lm { gp fn tmps L D (.ready,none) with state:=.busy }))]) (by simpa using hl') (by simpa using hh')
   exact pQ (x:=(Code.ret,x')) (HB:=fun x:Code×q=>HX x.2) (φ:=fun x=>χ x.1 x.2) (sp:=fun x:Code×q=>(.done,some x.1)) (jump:=some .ret) he.f0 he.s3 hx' hsz henv rfl hr4 (.inr ⟨rfl,rfl⟩)
  | exit id =>
   obtain ⟨x',hx',hl',hh'⟩:=h3
   have hr4:=hr3.take_h (B:=HX x'++[(some l,.obj (lm { gp fn tmps L D (.ready,none) with state:=.busy }))]) (by simpa using hl') (by simpa using hh')
   exact pQ (x:=(Code.exit id,x')) (HB:=fun x:Code×q=>HX x.2) (φ:=fun x=>χ x.1 x.2) (sp:=fun x:Code×q=>(.done,some x.1)) (jump:=some (.exit id)) he.f0 he.s3 hx' hsz henv rfl hr4 (.inr ⟨rfl,rfl⟩)
  | _=>exact h3.elim
 | _=>exact h1.elim
end
end
section
section
variable {P:Program} {G:Gh} {s:AS} {R:Exit→AS→Prop}

def Kf (gs:List Nat) (P:Program) (f:FuncId) (HI:List (Option Nat×bp)) (capt:List CV) (m:Nat) (E:Nat→List CV):Prop :=
 ∀ (l:Nat) (J:Nat→OP) (Jx:OP),(∀ k,k<m→P3 gs P l [(some l,.obj (J k))] (E k) (YQ l (J (k+1)) Jx)) →
  AC gs P f (HI++[(some l,.obj (J 0))]) (.c (.func (.yield l) #[] #[])::capt) fun _ H'=>H'=[(some l,.obj (J m))]∨H'=[(some l,.obj Jx)]

theorem vU {fi n:Nat} {fv:Nat→CV} {g:Operand} {ps:Array Tmp} {assign body:Code} {π q:Type} (m:Nat) (E:Nat→List CV) (HI:List (Option Nat×bp)) (HB:π→List (Option Nat×bp)) (φ:Nat→π→Prop) (HX:q→List (Option Nat×bp)) (χ:Code→q→Prop) (p0:π) (li:List Nat)
  (hrd:G.rd=none) (hg:s.eval g=.fn fi n fv) (hc:br P fi=true) (hit:Kf G.gs P fi HI ((List.range n).map fv) m E) (h0:φ 0 p0) (hnd:li.Nodup) (hpick:gZ s.H li=HI++HB p0)
  (hps:∀ k,k<m→ps.toList.length=(E k).length) (hpN:(ps.toList.all fun p=>Nat.blt p G.N)=true)
  (hround:∀ k,k<m→∀ (l:Nat) (al:List Addr) (w0:World) (F0 St0:Nat→Prop) (R0 R1:OP) (x:π),φ k x→bj P ⟨G.gs,al,w0,F0,St0,G.N,some l,false⟩ assign ⟨Cp ps.toList (E k) s.env,s.b,HB x++[(some l,.obj R0)]⟩ (zp P ⟨G.gs,al,w0,F0,St0,G.N,some l,false⟩ body (HB x) l R0 R1 (yA l R1 HB (φ (k+1)) HX χ)))
  (hdone:∀ x,φ m x→R .normal ⟨s.env,s.b,HB x⟩) (hjump:∀ c x,χ c x→(c=.ret∧R .ret ⟨s.env,s.b,HX x⟩)∨∃ id,c=.exit id∧R (.exit id) ⟨s.env,s.b,HX x⟩):bj P G (.rangeFunc g ps assign body) s R:=fun a w ⟨St,hr⟩ Q hQ=>by
 obtain ⟨cs,hcs,hcn,hfv⟩:=ka hr hg
 rw [hrd]
 refine wpIn_rangeFunc fun fn _=>?_
 obtain ⟨L,hL⟩:∃ L:OE,L=⟨G.N,s.env,s.b,ps,assign,body⟩:=⟨_,rfl⟩
 obtain ⟨w1,hw1⟩:∃ w1,w1=(w.alloc (.deferred (some []))).alloc (.loop (gp fn a.tmps L w.heap.size (.ready,none))):=⟨_,rfl⟩
 have hb1:Below w.heap.size w w1:=by rw [hw1];exact ((Below.refl _ w).alloc (Nat.le_refl _) _).alloc (by simp) _
 have hsz1:w1.heap.size=w.heap.size+2:=by rw [hw1];simp
 have hL1:w1.heap[w.heap.size+1]?=some (.loop (gp fn a.tmps L w.heap.size (.ready,none))):=by
  rw [hw1];have:=World.alloc_heap_new (w.alloc (.deferred (some []))) (.loop (gp fn a.tmps L w.heap.size (.ready,none)));rwa [World.size_alloc] at this
 have hD1:w1.heap[w.heap.size]?=some (.deferred (some [])):=by
  rw [hw1];exact (Below.heap_alloc _ _ _ (by simp)).trans (World.alloc_heap_new w _)
 -- the blocks that are handed over
 obtain ⟨fp,hp⟩:=hr.hp.pick li hnd hpick
 have hev1:qk St w w1:=qk.of_below hb1 hr.s3
 let l:=w.heap.size+1
 let D:=w.heap.size
 let St1:Nat→Prop:=fun b=>St b∨b=D
 let F1:Nat→Prop:=fun b=>(∃ i,fp i b)∨b=l
 have hfl:∀ i b,fp i b→b<D:=fun i b hi=>(hp.own i b hi).1
 have hst1:∀ b,St b→St1 b:=fun _ h=>.inl h
 have hrep:∀ (i:Nat) (g:Option Nat) (r:bp),(HI++HB p0)[i]?=some (g,r)→r.rep G.al St1 w1 (fp i) g:=fun i g r hi=>bp.rep_evo hev1 hst1 (fun b hF=>hb1.block b (hp.own i b hF).1) (hp.rep i g r hi)
 have hrec:bp.rep G.al St1 w1 (fun b=>b=l) (some l) (.obj (lm (gp fn a.tmps L D (.ready,none)))):=⟨fun b=>Iff.rfl,hL1⟩
 have henv1:∀ d,bv G.al St1 w1 (look s.env s.b d) (a.tmps.getD d undef):=fun d=>bv.evo hev1 hst1 _ _ (hr.env d)
 have hent:wk G.gs G.al St1 F1 (HI++[(some l,.obj (nT L (fun _=>(.ready,none)) HB (φ 0)))]) w1:=by
  refine ⟨fun b hb=>?_,(hr.ext hb1).sn,⟨fun g hg=>.inl (hr.sg.1 g hg),fun x hx=>.inl (hr.sg.2 x hx)⟩,⟨fun i b=>(i<HI.length∧fp i b)∨(i=HI.length∧(b=l∨∃ j,HI.length≤j∧fp j b)),fun i g r hi=>?_,fun i j b hi hj=>?_,fun i b hi=>?_,fun i hi b hb=>?_⟩,fun b hb=>?_⟩
  ·rcases hb with hb|rfl
   ·exact Nat.lt_of_lt_of_le (hr.s3 b hb) hb1.size
   ·show w.heap.size<_;omega
  ·by_cases h1:i<HI.length
   ·rw [List.getElem?_append_left h1] at hi
    have e:(fun b=>(i<HI.length∧fp i b)∨(i=HI.length∧(b=l∨∃ j,HI.length≤j∧fp j b)))=fp i:=funext fun b=>propext ⟨fun h=>h.elim (fun h=>h.2) (fun h=>by omega),fun h=>.inl ⟨h1,h⟩⟩
    show r.rep G.al St1 w1 (fun b=>(i<HI.length∧fp i b)∨(i=HI.length∧(b=l∨∃ j,HI.length≤j∧fp j b))) g
    rw [e]
    exact hrep i g r (by rw [List.getElem?_append_left h1];exact hi)
   ·have h2:i=HI.length:=by
     have:=(List.getElem?_eq_some_iff.1 hi).1
     simp at this
     omega
    subst h2
    simp at hi
    obtain ⟨rfl,rfl⟩:=hi
    refine ⟨p0,fn,a.tmps,D,h0,by rw [hL];exact hr.sz,by rw [hL];exact henv1,fun j b=>if j<(HB p0).length then fp (HI.length+j) b else j=(HB p0).length∧b=l,fun j g r hj=>?_,fun i j b hi hj=>?_,fun j hj b hb=>?_,fun b=>⟨fun hb=>?_,fun ⟨j,hj⟩=>?_⟩⟩
    ·by_cases h3:j<(HB p0).length
     ·rw [List.getElem?_append_left h3] at hj
      simp only [h3,if_true]
      exact hrep _ g r (by rw [List.getElem?_append_right jO,Nat.add_sub_cancel_left];exact hj)
     ·have h4:j=(HB p0).length:=by
       have:=(List.getElem?_eq_some_iff.1 hj).1
       simp at this
       omega
      subst h4
      simp at hj
      obtain ⟨rfl,rfl⟩:=hj
      have e:(fun b=>if (HB p0).length<(HB p0).length then fp (HI.length+(HB p0).length) b else (HB p0).length=(HB p0).length∧b=l)=fun b=>b=l:=funext fun b=>by simp
      show bp.rep G.al St1 w1 (fun b=>if (HB p0).length<(HB p0).length then fp (HI.length+(HB p0).length) b else (HB p0).length=(HB p0).length∧b=l) _ _
      rw [e]
      exact hrec
    ·by_cases h3:i<(HB p0).length <;> by_cases h4:j<(HB p0).length <;> simp only [h3,h4,if_true,if_false] at hi hj
     ·have:=hp.dis _ _ b hi hj;omega
     ·have:=hfl _ b hi;obtain ⟨_,rfl⟩:=hj;simp only [l,D] at this;omega
     ·have:=hfl _ b hj;obtain ⟨_,rfl⟩:=hi;simp only [l,D] at this;omega
     ·omega
    ·have h3:¬ j<(HB p0).length:=by simp at hj;omega
     simp only [h3,if_false] at hb
     simp at hj;omega
    ·rcases hb with ⟨h5,_⟩|⟨_,rfl|⟨j,hj,hF⟩⟩
     ·omega
     ·exact ⟨(HB p0).length,by simp⟩
     ·refine ⟨j-HI.length,?_⟩
      have h5:j<(HI++HB p0).length:=hp.len hF
      rw [if_pos (by simp at h5;omega),show HI.length+(j-HI.length)=j by omega]
      exact hF
    ·by_cases h3:j<(HB p0).length
     ·simp only [h3,if_true] at hj
      exact .inr ⟨rfl,.inr ⟨_,by omega,hj⟩⟩
     ·simp only [h3,if_false] at hj
      exact .inr ⟨rfl,.inl hj.2⟩
  ·rcases hi with ⟨h1,h2⟩|⟨h1,h2⟩ <;> rcases hj with ⟨h3,h4⟩|⟨h3,h4⟩
   ·exact hp.dis i j b h2 h4
   ·rcases h4 with rfl|⟨k,hk,h4⟩
    ·have:=hfl _ _ h2;simp only [l,D] at this;omega
    ·have:=hp.dis _ _ b h2 h4;omega
   ·rcases h2 with rfl|⟨k,hk,h2⟩
    ·have:=hfl _ _ h4;simp only [l,D] at this;omega
    ·have:=hp.dis _ _ b h2 h4;omega
   ·omega
  ·have hb:b=l∨∃ j,fp j b:=by
    rcases hi with ⟨_,h2⟩|⟨_,h2|⟨j,_,h2⟩⟩
    ·exact .inr ⟨_,h2⟩
    ·exact .inl h2
    ·exact .inr ⟨j,h2⟩
   rcases hb with rfl|⟨j,hj⟩
   ·refine ⟨by simp only [l];omega,fun hs=>?_,.inr (.inr rfl)⟩
    rcases hs with hs|hs
    ·have:=hr.s3 _ hs;simp only [l] at this;omega
    ·simp only [l,D] at hs;omega
   ·obtain ⟨k1,k2,k3⟩:=hp.own j b hj
    refine ⟨by omega,fun hs=>?_,.inr (.inl ⟨j,hj⟩)⟩
    rcases hs with hs|hs
    ·exact k2 hs
    ·simp only [D] at hs;omega
  ·simp at hi
   rcases hb with ⟨h1,_⟩|⟨h1,_⟩ <;> omega
  ·intro hs
   rcases hb with ⟨j,hj⟩|rfl
   ·obtain ⟨k1,k2,k3⟩:=hp.own j b hj
    rcases hs with hs|hs
    ·exact k2 hs
    ·simp only [D] at hs;omega
   ·rcases hs with hs|hs
    ·have:=hr.s3 _ hs;simp only [l] at this;omega
    ·simp only [l,D] at hs;omega
 have hround':∀ k,k<m→P3 G.gs P l [(some l,.obj (nT L (fun _=>(.ready,none)) HB (φ k)))] (E k) (YQ l (nT L (fun _=>(.ready,none)) HB (φ (k+1))) (nT L (fun x:Code×q=>(.done,some x.1)) (fun x=>HX x.2) (fun x=>χ x.1 x.2))):=fun k hk=>by
  refine Gx (by rw [hL];exact hps k hk) (fun p hp=>?_) (fun al w0 F0 St0 R0 R1 x hx=>?_)
  ·rw [hL] at hp ⊢
   exact Nat.le_of_ble_eq_true (List.all_eq_true.1 hpN p hp)
  ·rw [hL]
   exact hround k hk l al w0 F0 St0 R0 R1 x hx
 have hA:=hit l (fun k=>nT L (fun _=>(.ready,none)) HB (φ k)) _ hround'
 have hvals:(#[.func (.yield l) #[] #[]]++cs:Array Value).size=(.c (.func (.yield l) #[] #[])::(List.range n).map fv:List CV).length:=by simp [hcn];omega
 have hcall:=hA G.al w1 St1 F1 (#[.func (.yield l) #[] #[]]++cs) hent hvals (fun i=>by
  cases i with
  | zero =>
   show (#[Value.func (.yield l) #[] #[]]++cs).getD 0 undef=_
   rw [Array.getD_eq_getD_getElem?,Array.getElem?_append_left (by simp)]
   rfl
  | succ i =>
   rw [fl,eT]
   by_cases hi:i<n
   ·have:=bv.evo hev1 hst1 _ _ (hfv i hi)
    simp only [List.getD,List.getElem?_map,List.getElem?_range hi,Option.map_some,Option.getD_some,Array.getD_eq_getD_getElem?]
    rw [Array.getElem?_append_right (by simp)]
    simpa [Array.getD_eq_getD_getElem?] using this
   ·simp only [List.getD,List.getElem?_eq_none (show ((List.range n).map fv).length≤i by simp;omega),Option.getD_none]
    trivial)
 have e0:[({ target:=.collected w.heap.size,args:=#[] }:Deferred)]++a.defers=nq D::a.defers:=rfl
 refine ⟨l,[{ target:=.collected w.heap.size,args:=#[] }],w1,{ target:=.fn (.func fi) cs,args:=#[.func (.yield l) #[] #[]] },w1,fi,#[.func (.yield l) #[] #[]]++cs,w1,?_,?_,fun _ _=>trivial,?_,fun h=>(by cases h),?_⟩
 ·rw [hw1]
  have:=run_enterLoop_outer (P:=P) (w:=w) fn a.tmps ps assign body
  rw [hL]
  exact this
 ·simp only [resolve,hcs]
  simp [go_sem]
 ·have:=oS hc (#[.func (.yield l) #[] #[]]++cs) w1
  simp [invoke,go_sem,this]
 ·refine CallsIn.mono (tv.2 hcall) ?_
  rintro e w3 ⟨v,r',H',St',rfl,hq,_,hu,h3,h4,h5,h6⟩
  -- the loop's end,whichever
  have key:∀ {γ:Type} {sp:γ→LoopState×Option Code} {HC:γ→List (Option Nat×bp)} {ψ:γ→Prop},H'=[(some l,.obj (nT L sp HC ψ))]→(∀ x,(sp x).1≠.busy)→∃ x:γ,ψ x∧∃ w4,(Instr.endLoop l).run P w3=.ok (sp x).2 w4∧wd G ⟨s.env,s.b,HC x⟩ { a with defers:=[{ target:=.collected w.heap.size,args:=#[] }]++a.defers } w4:=by
   intro γ sp HC ψ hH hbusy
   subst hH
   obtain ⟨fz,hz⟩:=h6
   obtain ⟨x,fn',tmps',D',hx,_,_,fq,hf⟩:=hz.rep 0 (some l) _ rfl
   obtain ⟨hFl,hgl⟩:=hf.rep (HC x).length (some l) _ (qZ _ _)
   have hlt:l<w3.heap.size:=(Array.getElem?_eq_some_iff.1 hgl).1
   refine ⟨x,hx,_,run_endLoop hgl (hbusy x),St',?_⟩
   obtain ⟨w4,hw4⟩:∃ w4,w4=w3.putObj l (.loop { gp fn' tmps' L D' (sp x) with state:=.exhausted }):=⟨_,rfl⟩
   rw [← hw4]
   have hold:∀ b,b≠l→w4.heap[b]?=w3.heap[b]?:=fun b hb=>by rw [hw4];exact World.putObj_heap_other hb
   have hs4:w4.heap.size=w3.heap.size:=by rw [hw4];simp
   have hf0:∀ b,F1 b→¬ St1 b:=hent.f0
   have hnl:∀ b,St1 b→b≠l:=fun b hb e=>hf0 b (.inr e) hb
   have hkeep:∀ b,St1 b→w4.heap[b]?=w1.heap[b]?:=fun b hb=>(hold b (hnl b hb)).trans (hu.block b (hent.s3 b hb) (fun hF=>hf0 b hF hb))
   have hkeep0:∀ b,St b→w4.heap[b]?=w.heap[b]?:=fun b hb=>(hkeep b (.inl hb)).trans (hb1.block b (hr.s3 b hb))
   have hnc:∀ cur t z,w3.heap[l]?≠some (.cells cur t z):=fun cur t z e=>by rw [hgl] at e;cases e
   have hev:qk St w w4:=⟨fun b cur t z hb hc=>(hkeep0 b hb).trans hc,fun b cur t z hc=>by
    obtain ⟨c1,z1,k1,k2⟩:=hev1.sh b cur t z hc
    obtain ⟨c2,z2,k3,k4⟩:=hu.sh b c1 t z1 k1
    refine ⟨c2,z2,(hold b (fun e=>?_)).trans k3,k4.trans k2⟩
    rw [e] at k3
    exact hnc _ _ _ k3⟩
   have hev3:qk St' w3 w4:=⟨fun b cur t z hb hc=>(hold b (fun e=>by rw [e] at hc;exact hnc _ _ _ hc)).trans hc,fun b cur t z hc=>⟨cur,z,(hold b (fun e=>by rw [e] at hc;exact hnc _ _ _ hc)).trans hc,rfl⟩⟩
   refine ⟨?_,hr.sz,fun d=>bv.evo hev (fun b hb=>h3 b (.inl hb)) _ _ (hr.env d),⟨?_,?_,?_,?_,fun k hk hF=>?_,fun b cur t z hc=>?_⟩,fun b hb=>h3 b (.inl (hr.s1 b hb)),fun b hb=>?_,fun b hb=>by rw [hs4];exact h5 b hb,⟨fun j b=>j<(HC x).length∧fq j b,fun j g r hj=>?_,fun i j b hi hj=>hf.dis i j b hi.2 hj.2,fun j b hj=>?_,fun j hj b hb=>?_⟩,?_,⟨fun g hg=>h3 g (.inl (hr.sg.1 g hg)),fun y hy=>h3 _ (.inl (hr.sg.2 y hy))⟩⟩
   ·obtain ⟨Ds,k1,k2,k3⟩:=hr.df
    refine ⟨D::Ds,by rw [e0,k1];rfl,List.nodup_cons.2 ⟨fun hm=>?_,k2⟩,fun E hE=>?_⟩
    ·have:=(Array.getElem?_eq_some_iff.1 (k3 D hm).1.2).1
     simp only [D] at this
     omega
    ·rcases List.mem_cons.1 hE with rfl|hE
     ·refine ⟨⟨h3 _ (.inr rfl),(hkeep _ (.inr rfl)).trans hD1⟩,hr.un.size,fun hm=>?_,fun y hy e=>?_⟩
      ·have:=hr.sn.lt _ hm;simp only [D] at this;omega
      ·have:=hr.s3 _ (hr.sg.2 y hy);simp only [e,D] at this;omega
     ·obtain ⟨⟨k4,k5⟩,k6⟩:=k3 E hE
      exact ⟨⟨h3 _ (.inl k4),(hkeep0 E k4).trans k5⟩,k6⟩
   ·rw [hw4];exact (hu.os.trans hb1.os).trans hr.un.os
   ·rw [hw4];exact (hu.tape.trans hb1.tape).trans hr.un.tape
   ·rw [hw4];exact (hu.output.trans hb1.output).trans hr.un.output
   ·rw [hs4];exact Nat.le_trans hr.un.size (Nat.le_trans hb1.size hu.size)
   ·have hkw:k<w.heap.size:=Nat.lt_of_lt_of_le hk hr.un.size
    refine (hold k (by simp only [l];omega)).trans ((hu.block k jO (fun hF1=>?_)).trans ((hb1.block k hkw).trans (hr.un.block k hk hF)))
    rcases hF1 with ⟨i,hi⟩|e
    ·rcases (hp.own i k hi).2.2 with k1|k1
     ·omega
     ·exact hF k1
    ·simp only [l] at e;omega
   ·obtain ⟨c1,z1,k1,k2⟩:=hr.un.sh b cur t z hc
    obtain ⟨c2,z2,k3,k4⟩:=hev.sh b c1 t z1 k1
    exact ⟨c2,z2,k3,k4.trans k2⟩
   ·rcases h4 b hb with (hb|hb)|hb|hb
    ·exact hr.s2 b hb
    ·exact .inr (.inl (by simp only [D] at hb;have:=hr.un.size;omega))
    ·exact .inr (.inl (Nat.le_trans hr.un.size jO))
    ·rcases hb with ⟨i,hi⟩|hb
     ·exact .inr (hp.own i b hi).2.2
     ·exact .inr (.inl (by simp only [l] at hb;have:=hr.un.size;omega))
   ·have hlt2:j<(HC x).length:=(List.getElem?_eq_some_iff.1 hj).1
    have e:(fun b=>j<(HC x).length∧fq j b)=fq j:=funext fun b=>propext ⟨fun h=>h.2,fun h=>⟨hlt2,h⟩⟩
    show r.rep G.al St' w4 (fun b=>j<(HC x).length∧fq j b) g
    rw [e]
    refine bp.rep_evo hev3 (fun _ h=>h) (fun b hF=>hold b (fun eb=>?_)) (hf.rep j g r (by rw [List.getElem?_append_left hlt2];exact hj))
    have:=hf.dis j (HC x).length b hF ((hFl b).2 eb)
    omega
   ·obtain ⟨k1,k2,k3⟩:=hz.own 0 b ((hf.all b).2 ⟨j,hj.2⟩)
    refine ⟨by omega,k2,?_⟩
    rcases k3 with k3|⟨i,hi⟩|k3
    ·exact .inl (Nat.le_trans hr.un.size jO)
    ·exact (hp.own i b hi).2.2
    ·exact .inl (by simp only [l] at k3;have:=hr.un.size;omega)
   ·have hj:(HC x).length≤j:=hj
    exact absurd hb.1 jO
   ·exact fY.keep hr.sn (fun g hg=>hkeep0 g (hr.sg.1 g hg)) (fun y hy=>hkeep0 _ (hr.sg.2 y hy))
  rcases hq with hq|hq
  ·obtain ⟨x,hx,w4,hend,hrel⟩:=key hq (fun _=>by simp)
   exact ⟨none,w4,hend,hQ .normal _ _ _ (hdone x hx) hrel⟩
  ·obtain ⟨x,hx,w4,hend,hrel⟩:=key hq (fun _=>by simp)
   refine ⟨some x.1,w4,hend,?_⟩
   rcases hjump _ _ hx with ⟨hc1,hR⟩|⟨id,hc1,hR⟩
   ·show Code.wpIn _ _ _ x.1 _ _ _
    rw [hc1]
    exact wpIn_ret (hQ .ret _ _ _ hR hrel)
   ·show Code.wpIn _ _ _ x.1 _ _ _
    rw [hc1]
    exact wpIn_exit (hQ (.exit id) _ _ _ hR hrel)
theorem tB {body:Code} {B:List (Option Nat×bp)} {l:Nat} {R0 R1:OP} {RE:Exit→AS→Prop} {env:List (Nat×CV)} {b:Nat→CV} (h:bj P G body ⟨env,b,B++[(some l,.obj R1)]⟩ RE):zp P G body B l R0 R1 RE .normal ⟨env,b,B++[(some l,.obj R0)]⟩:=⟨_,_,rfl,h⟩
theorem pR {π q:Type} {l:Nat} {R1:OP} {HB:π→List (Option Nat×bp)} {φ':π→Prop} {HX:q→List (Option Nat×bp)} {χ:Code→q→Prop} (x:π) (h1:φ' x) (h2:Nat.ble ((HB x).length+1) s.H.length=true) (h3:aS (s.H.take ((HB x).length+1)) (HB x++[(some l,.obj R1)])):yA l R1 HB φ' HX χ .normal s:=⟨x,h1,Nat.le_of_ble_eq_true h2,h3⟩
theorem oU {π q:Type} {l:Nat} {R1:OP} {HB:π→List (Option Nat×bp)} {φ':π→Prop} {HX:q→List (Option Nat×bp)} {χ:Code→q→Prop} (x:q) (h1:χ .ret x) (h2:Nat.ble ((HX x).length+1) s.H.length=true) (h3:aS (s.H.take ((HX x).length+1)) (HX x++[(some l,.obj R1)])):yA l R1 HB φ' HX χ .ret s:=⟨x,h1,Nat.le_of_ble_eq_true h2,h3⟩
theorem Fj {o:Oper} {t u e:TypeId} {x:Operand} {i n N:Nat} {g:Option Nat} {L:List UInt8} (ho:o.op=.convert t u x) (hx:s.eval x=.os i g 0 n 1) (hH:Holds s i g N (ft L)) (hn:n=L.length) (hN:n≤N) (h1:P.underlying t=some (.slice e)) (h2:P.underlying e=some (.int .u8)) (h3:P.underlying u=some .string):lg P G o s (au L) :=
 Fg L ho hx hH hn jO (fun a _=>by rw [Nat.zero_add];exact cZ) h1 h2 h3
end
end
section
def ee {α:Type} (p:α→Bool):List α→Int
 | []=>-1
 | x::l=>if p x=true then 0 else if ee p l<0 then -1 else ee p l+1
theorem mf {α:Type} (p:α→Bool):∀ l:List α,-1≤ee p l∧ee p l<l.length
 | []=>by simp [ee]
 | x::l=>by
  have:=mf p l
  rw [ee]
  rw [List.length_cons]
  split
  ·omega
  split <;> omega
theorem qf {α:Type} {p:α→Bool}:∀ {l:List α},ee p l<0↔l.all (fun x=>!p x)=true
 | []=>by simp [ee]
 | x::l=>by
  have ih:=@qf α p l
  have:=mf p l
  rw [ee,List.all_cons]
  by_cases h:p x=true
  ·simp [h]
  ·rw [if_neg h]
   have hx:(!p x)=true:=by simpa using h
   rw [hx,Bool.true_and,← ih]
   split <;> omega
theorem tj {α:Type} {p:α→Bool} {l:List α} (h:∀ i (hi:i<l.length),p l[i]=false):ee p l=-1:=by
 have h1:ee p l<0:=qf.2 (List.all_eq_true.2 fun x hx=>by
  obtain ⟨i,hi,rfl⟩:=List.getElem_of_mem hx
  simp [h i hi])
 have:=mf p l
 omega
theorem sA {α:Type} {p:α→Bool}:∀ {l:List α} (i:Nat) (hi:i<l.length),p l[i]=true→(∀ j (hj:j<i),p (l[j]'jO)=false)→ee p l=(i:Nat)
 | [],i,hi,_,_=>by simp at hi
 | x::l,0,hi,h,_=>by simp at h;simp [ee,h]
 | x::l,i+1,hi,h,hb=>by
  have h0:p x=false:=by simpa using hb 0 jO
  have ih:=@sA α p l i (by simpa using hi) (by simpa using h) (fun j hj=>by simpa using hb (j+1) jO)
  rw [ee,if_neg (by simp [h0]),ih,jK]
  omega
theorem xR:∀ l:List CV,oE l l
 | []=>.nil
 | c::l=>.cons (ab.refl c) (xR l)
theorem rn {c d:CV} (h:ab c d) (l:List CV):oE ([c]++l) (d::l):=.cons h (xR l)
theorem ab.fn0 {g:FuncId} {f:Nat→CV}:ab (.c (.func (.func g) #[] #[])) (.fn g 0 f):=fun al St w v h=>⟨#[],h,rfl,fun i hi=>absurd hi (Nat.not_lt_zero i)⟩
theorem C0 {α:Type} (p:α→Bool) (l:List α):decide (0≤ee p l)=l.any p:=by
 have:=@qf _ p l
 by_cases h:ee p l<0
 ·have h2:=this.1 h
  rw [decide_eq_false jO]
  symm
  rw [List.any_eq_false]
  intro x hx h3
  have:=List.all_eq_true.1 h2 x hx
  rw [h3] at this
  exact Bool.noConfusion this
 ·have h2:=mt this.2 h
  rw [decide_eq_true jO]
  symm
  rw [List.any_eq_true]
  simpa using h2
theorem BG {α:Type} (p:α→Bool) (l:List α):(!l.any fun x=>!p x)=l.all p:=by
 induction l with
 | nil=>rfl
 | cons a l ih=>simp only [List.any_cons,List.all_cons,Bool.not_or,Bool.not_not,ih]
theorem ab.rp {n:Nat} {f g:Nat→CV} (h:∀ j,j<n→ab (f j) (g j)):ab (.rp n f) (.rp n g):=fun al St w v ⟨b,o,h1,h2,h3⟩ =>
 ⟨b,o,h1,h2,fun j hj=>by
  obtain ⟨x,hx,hr⟩:=h3 j hj
  exact ⟨x,hx,h j hj al St w x hr⟩⟩
theorem ab.fn3 {k:FuncId} {f g:Nat→CV} (h0:ab (f 0) (g 0)) (h1:ab (f 1) (g 1)) (h2:ab (f 2) (g 2)):ab (.fn k 3 f) (.fn k 3 g):=fun al St w v ⟨cs,k1,k2,k3⟩ =>
 ⟨cs,k1,k2,fun i hi=>match i,hi with
  | 0,hi=>h0 al St w _ (k3 0 hi)
  | 1,hi=>h1 al St w _ (k3 1 hi)
  | 2,hi=>h2 al St w _ (k3 2 hi)⟩
theorem ab.fn1 {k:FuncId} {f g:Nat→CV} (h:ab (f 0) (g 0)):ab (.fn k 1 f) (.fn k 1 g):=fun al St w v ⟨cs,h1,h2,h3⟩ =>
 ⟨cs,h1,h2,fun i hi=>by
  obtain rfl:i=0:=by omega
  exact h al St w _ (h3 0 hi)⟩
theorem yb.look2 {D:List Nat} {b0 b2:Nat→CV} {env2:List (Nat×CV)} (h:yb D b0 b2) (h3:(env2.all fun x=>D.any (Nat.beq x.1))=true):yb D b0 (look env2 b2):=yb.nest (D2:=[]) (env2:=env2) (b2:=b2) h rfl h3
end
section
section
variable {P:Program} {G:Gh} {ops:Array Oper} {o:Oper} {s:AS} {r:List Oper} {K:AS→Prop} {R:Exit→AS→Prop} {Y:AS→Prop} {x y:Code} {env:List (Nat×CV)} {b0:Nat→CV} {H:List (Option Nat×bp)}

def Qt:CV→Option CV
 | .top=>some .top
 | .c v=>some (.c v)
 | .err k=>some (.err k)
 | .agg n f=>some (.agg n f)
 | .tup n f=>some (.tup n f)
 | .rs k n f=>some (.rs k n f)
 | .rp n f=>some (.rp n f)
 | .os i g off n k=>some (.os i g off n k)
 | .op i g off=>some (.op i g off)
 | .fn g n f=>some (.fn g n f)
 | .pv p=>some (.pv p)
theorem pZ {c v:CV} (h:Qt c=some v):c=v:=by cases c <;> (simp only [Qt,Option.some.injEq] at h;exact h)
def og:List (Nat×CV)→Nat→Option CV
 | [],_=>none
 |(e,v)::r,d=>match Nat.beq e d with|true=>some v|false=>og r d
theorem oe {b:Nat→CV} {d:Nat} {v:CV}:∀ {env:List (Nat×CV)},og env d=some v→look env b d=v
 |(e,u)::r,h=>by
  unfold og at h;unfold look
  cases hb:Nat.beq e d with
  | true=>rw [hb] at h;exact Option.some.inj h
  | false=>rw [hb] at h;exact oe h
theorem s6 {b:Nat→CV} {d:Nat}:∀ {env:List (Nat×CV)},og env d=none→look env b d=b d
 | [],_=>rfl
 |(e,u)::r,h=>by
  unfold og at h;unfold look
  cases hb:Nat.beq e d with
  | true=>rw [hb] at h;cases h
  | false=>rw [hb] at h;exact s6 h
theorem s8 {d:Nat} {v:CV} (h:og s.env d=some v):s.eval (.tmp d)=v:=oe h
theorem s9 {D:List Nat} {e2:List (Nat×CV)} {b2:Nat→CV} {d:Nat} {v:CV} (h:og env d=none) (hD:D.any (Nat.beq d)=false) (h2:og e2 d=some v):(⟨env,s0 D e2 b2,H⟩:AS).eval (.tmp d)=v:=by
 show look env (s0 D e2 b2) d=v
 rw [s6 h]
 unfold s0
 rw [hD]
 exact oe h2
theorem tc {x:Operand} {v:CV} (h:Qt (s.eval x)=some v):s.eval x=v:=pZ h
def PD:List CV→Nat→Option CV
 | [],_=>none
 | x::_,0=>some x
 | _::r,i+1=>PD r i
theorem mU:∀ {l:List CV} {i:Nat} {v:CV},PD l i=some v→fl l i=v
 | x::_,0,v,h=>Option.some.inj h
 | _::r,i+1,v,h=>mU (l:=r) h

def AY (P:Program) (t:TypeId) (m:Nat):Bool:=match P.underlying t with|some (.slice e)=>(match (P.info? e).map (·.size) with|some k=>Nat.beq k m|none=>false)|_=>false
theorem pi {t:TypeId} {m:Nat} (h:AY P t m=true):∃ e,P.underlying t=some (.slice e)∧(P.info? e).map (·.size)=some m:=by
 unfold AY at h
 split at h
 ·rename_i e he
  refine ⟨e,he,?_⟩
  split at h
  ·rename_i k hk;rw [hk,Nat.eq_of_beq_eq_true h]
  ·cases h
 ·cases h
def Oc (P:Program) (t:TypeId):Bool:=match P.underlying t with|some (.slice _)=>true|_=>false
theorem LU {t:TypeId} (h:Oc P t=true):∃ e,P.underlying t=some (.slice e):=by
 unfold Oc at h
 split at h
 ·rename_i e he;exact ⟨e,he⟩
 ·cases h
def CR (P:Program) (t:TypeId):Bool:=match P.underlying t with|some (.slice e)=>(match P.underlying e with|some (.int .u8)=>true|_=>false)|_=>false
theorem qT {t:TypeId} (h:CR P t=true):∃ e,P.underlying t=some (.slice e)∧P.underlying e=some (.int .u8):=by
 unfold CR at h
 split at h
 ·rename_i e he
  split at h
  ·rename_i h2;exact ⟨e,he,h2⟩
  ·cases h
 ·cases h
def LW (P:Program) (t:TypeId) (i:Nat):Option (Nat×Nat×Bool):=match P.underlying t with
 | some (.struct fs)=>(match fs[i]? with|some fd=>(match (P.info? fd.type).map (·.size),P.underlying fd.type with|some m,some _=>some (fd.offset,m,jT P fd.type)|_,_=>none)|none=>none)
 | _=>none
theorem D0 {t:TypeId} {i q m:Nat} {b:Bool} (h:LW P t i=some (q,m,b)):∃ fs fd d,P.underlying t=some (.struct fs)∧fs[i]?=some fd∧P.underlying fd.type=some d∧jT P fd.type=b∧(P.info? fd.type).map (·.size)=some m∧fd.offset=q:=by
 unfold LW at h
 split at h
 ·rename_i fs h1
  split at h
  ·rename_i fd h2
   split at h
   ·rename_i k d h3 h4
    simp only [Option.some.injEq,Prod.mk.injEq] at h
    exact ⟨fs,fd,d,h1,h2,h4,h.2.2,by rw [h3,h.2.1],h.1⟩
   ·cases h
  ·cases h
 ·cases h
def IE (P:Program) (t:TypeId) (m:Nat) (b:Bool):Bool:=match (P.info? t).map (·.size),P.underlying t with|some k,some _=>Nat.beq k m && (jT P t == b)|_,_=>false
theorem yX {t:TypeId} {m:Nat} {b:Bool} (h:IE P t m b=true):∃ d,P.underlying t=some d∧jT P t=b∧(P.info? t).map (·.size)=some m:=by
 unfold IE at h
 split at h
 ·rename_i k d h1 h2
  rw [Bool.and_eq_true,beq_iff_eq] at h
  exact ⟨d,h2,h.2,by rw [h1,Nat.eq_of_beq_eq_true h.1]⟩
 ·cases h
def CQ (P:Program) (t:TypeId):Bool:=match P.underlying t with|some _=>!(jT P t)|none=>false
theorem qS {t:TypeId} (h:CQ P t=true):∃ d,P.underlying t=some d∧jT P t=false:=by
 unfold CQ at h
 split at h
 ·rename_i d hd;exact ⟨d,hd,by simpa using h⟩
 ·cases h

def MU:Op→Option Operand|.move x=>some x|.assign x=>some x|_=>none
theorem IH {x:Operand} {v:CV} (ho:MU o.op=some x:=by exact rfl) (hv:s.eval x=v:=by first|exact s8 rfl|exact s9 rfl rfl rfl|exact tc rfl):cq P G o s v:=by
 unfold MU at ho
 split at ho
 ·rename_i z hz;exact Lb hz (by rw [Option.some.inj ho];exact hv)
 ·rename_i z hz;exact Fk hz (by rw [Option.some.inj ho];exact hv)
 ·cases ho
theorem Pt {z x' y':Operand} {v:CV} (ho:o.op=.pick z x' y':=by exact rfl) (hz:s.eval z=.c (.bool true):=by exact rfl) (hx:s.eval x'=v:=by first|exact s8 rfl|exact s9 rfl rfl rfl|exact tc rfl):cq P G o s v:=Hy ho hz hx
theorem Pu {z x' y':Operand} {v:CV} (ho:o.op=.pick z x' y':=by exact rfl) (hz:s.eval z=.c (.bool false):=by exact rfl) (hy:s.eval y'=v:=by first|exact s8 rfl|exact s9 rfl rfl rfl|exact tc rfl):cq P G o s v:=Hz ho hz hy
theorem Qo {x:Operand} {i n:Nat} {f:Nat→CV} {v:CV} (ho:o.op=.extract x i:=by exact rfl) (hx:s.eval x=.tup n f:=by exact rfl) (hi:Nat.blt i n=true:=by exact rfl) (hv:f i=v:=by first|exact mU rfl|exact pZ rfl):cq P G o s v:=Cj ho hx hi hv
def MZ (op:BinOp) (a b:Int):Option Bool:=match op with
 | .eql=>some (decide (a=b))
 | .neq=>some (decide (a≠b))
 | .lss=>some (decide (a<b))
 | .leq=>some (decide (a≤b))
 | .gtr=>some (decide (b<a))
 | .geq=>some (decide (b≤a))
 | _=>none
theorem QM {op:BinOp} {t u:TypeId} {x y:Operand} {k:IntKind} {a b:Int} {z:Bool} (ho:o.op=.binOp op t x y u:=by exact rfl) (hx:s.eval x=.c (.int k a):=by exact rfl) (hy:s.eval y=.c (.int k b):=by exact rfl) (hc:MZ op a b=some z:=by exact rfl):cq P G o s (.c (.bool z)):=by
 cases op <;> simp only [MZ,Option.some.injEq,reduceCtorEq] at hc
 all_goals subst hc
 ·exact NN ho hx hy
 ·exact ND ho hx hy
 ·exact O5 ho hx hy
 ·exact O6 ho hx hy
 ·exact O7 ho hx hy
 ·exact O8 ho hx hy
def PF (op:BinOp) (a b:Int):Option Int:=match op with
 | .add=>some (a+b)
 | .sub=>some (a-b)
 | .mul=>some (a * b)
 | _=>none
theorem IJ {op:BinOp} {t u:TypeId} {x y:Operand} {k:IntKind} {a b z:Int} (ho:o.op=.binOp op t x y u:=by exact rfl) (hx:s.eval x=.c (.int k a):=by exact rfl) (hy:s.eval y=.c (.int k b):=by exact rfl) (hc:PF op a b=some z:=by exact rfl) (hS:PV k z:=by (show _∧_;(first|omega|decide|(dsimp only at *;omega)))):cq P G o s (.c (.int k z)):=by
 cases op <;> simp only [PF,Option.some.injEq,reduceCtorEq] at hc
 all_goals subst hc
 ·exact NQ ho hx hy (gx hS)
 ·exact NA ho hx hy (gx hS)
 ·exact NG ho hx hy (gx hS)
theorem Q0 {t u:TypeId} {x y:Operand} {k:IntKind} {a b:Int} (ho:o.op=.binOp .quo t x y u:=by exact rfl) (hx:s.eval x=.c (.int k a):=by exact rfl) (hy:s.eval y=.c (.int k b):=by exact rfl) (hS:0≤a:=by first|omega|decide|(dsimp only at *;omega)) (hS2:1≤b:=by first|omega|decide|(dsimp only at *;omega)) (hS3:PV k (a / b):=by (show _∧_;(first|omega|decide|(dsimp only at *;omega)))):cq P G o s (.c (.int k (a / b))):=Hx ho hx hy hS hS2 (gx hS3)
theorem QZ {t u:TypeId} {x y:Operand} {k:IntKind} {a b:Int} (ho:o.op=.binOp .rem t x y u:=by exact rfl) (hx:s.eval x=.c (.int k a):=by exact rfl) (hy:s.eval y=.c (.int k b):=by exact rfl) (hS:0≤a:=by first|omega|decide|(dsimp only at *;omega)) (hS2:1≤b:=by first|omega|decide|(dsimp only at *;omega)):cq P G o s (.c (.int k (a % b))):=Hw ho hx hy hS hS2
def MY (op:BinOp) (a b:List UInt8):Option Bool:=match op with
 | .eql=>some (decide (a=b))
 | .neq=>some (decide (a≠b))
 | .lss=>some (Op.bytesLess a b)
 | .gtr=>some (!(Op.bytesLess a b || a == b))
 | _=>none
theorem CN {op:BinOp} {t u:TypeId} {x y:Operand} {a b:List UInt8} {z:Bool} (ho:o.op=.binOp op t x y u:=by exact rfl) (hx:s.eval x=au a:=by exact rfl) (hy:s.eval y=au b:=by exact rfl) (hc:MY op a b=some z:=by exact rfl):cq P G o s (.c (.bool z)):=by
 cases op <;> simp only [MY,Option.some.injEq,reduceCtorEq] at hc
 all_goals subst hc
 ·exact NM ho hx hy
 ·exact NC ho hx hy
 ·exact NI ho hx hy
 ·exact NK ho hx hy
theorem II {t u:TypeId} {x y:Operand} {a b:List UInt8} (ho:o.op=.binOp .add t x y u:=by exact rfl) (hx:s.eval x=au a:=by exact rfl) (hy:s.eval y=au b:=by exact rfl) (hS:a.length+b.length≤9223372036854775807:=by first|omega|decide|(dsimp only at *;omega)):cq P G o s (au (a++b)):=Ll ho hx hy hS
theorem Qq {op:BinOp} {t u:TypeId} {x y:Operand} {a b z:Bool} (ho:o.op=.binOp op t x y u:=by exact rfl) (hx:s.eval x=.c (.bool a):=by exact rfl) (hy:s.eval y=.c (.bool b):=by exact rfl) (hc:(match op with|.eql=>some (a == b)|.neq=>some (!(a == b))|_=>none)=some z:=by exact rfl) (hT:P.underlying t=some .bool:=by kernel_rfl):cq P G o s (.c (.bool z)):=by
 cases op <;> simp only [Option.some.injEq,reduceCtorEq] at hc
 all_goals subst hc
 ·exact NP ho hx hy hT
 ·exact NF ho hx hy hT
def A3 (c:CV) (z:Bool):Prop:=c=.c (.bool (!z))
theorem Px {p:Prop} [Decidable p] {c:CV} (h:c=.c (.bool (decide p))):A3 c (decide ¬ p):=by unfold A3;rw [h];simp
theorem Py {p:Bool} {c:CV} (h:c=.c (.bool p)):A3 c (!p):=by unfold A3;rw [h,Bool.not_not]
theorem QK {t:TypeId} {x:Operand} {z:Bool} (ho:o.op=.unOp .not t x:=by exact rfl) (hx:A3 (s.eval x) z:=by first|exact Px rfl|exact Py rfl):cq P G o s (.c (.bool z)):=by
 have:=NB (P:=P) (G:=G) ho hx
 rwa [Bool.not_not] at this
def MV:CV→Option Int
 | .rs _ n _=>some ((n:Nat):Int)
 | .os _ _ _ n _=>some ((n:Nat):Int)
 | .c (.slice none 0 0)=>some 0
 | _=>none
theorem Oe {x:Operand} {t:TypeId} {z:Int} (ho:o.op=.call ⟨.builtin .len,#[x],#[t]⟩:=by exact rfl) (hx:MV (s.eval x)=some z:=by exact rfl) (hT:Oc P t=true:=by kernel_rfl):cq P G o s (.c (.int .i64 z)):=by
 obtain ⟨e,he⟩:=LU hT
 unfold MV at hx
 split at hx
 ·rename_i h;cases hx;exact Le ho h he
 ·rename_i h;cases hx;exact Lf ho h he
 ·rename_i h;cases hx;exact Lg ho h he
 ·cases hx
theorem Pv {x:Operand} {t:TypeId} {a:List UInt8} (ho:o.op=.call ⟨.builtin .len,#[x],#[t]⟩:=by exact rfl) (hx:s.eval x=au a:=by exact rfl) (hT:P.underlying t=some .string:=by kernel_rfl):cq P G o s (.c (.int .i64 (a.length:Nat))):=Lh ho hx hT
theorem QL (q m:Nat) {t:TypeId} {x:Operand} {i n:Nat} {f:Nat→CV} {v:CV} (ho:o.op=.field t x i:=by exact rfl) (hx:s.eval x=.agg n f:=by exact rfl) (hv:f q=v:=by first|exact mU rfl|exact pZ rfl) (hi:Nat.blt q n=true:=by exact rfl) (hT:LW P t i=some (q,m,false):=by kernel_rfl):cq P G o s v:=by
 obtain ⟨fs,fd,d,h1,h2,h3,h4,h5,h6⟩:=D0 hT
 subst h6
 exact HJ ho hx h1 h2 h3 h4 hi hv
def PE (q:Nat):CV→Option CV
 | .op j g off=>some (.op j g (off+q))
 | .rp n f=>some (.rp (n-q) fun j=>f (q+j))
 | _=>none
theorem da (q m:Nat) (b:Bool) {t:TypeId} {x:Operand} {i:Nat} {v:CV} (ho:o.op=.fieldAddr t x i:=by exact rfl) (hx:PE q (s.eval x)=some v:=by exact rfl) (hm:Nat.blt 0 m=true:=by exact rfl) (hT:LW P t i=some (q,m,b):=by kernel_rfl):cq P G o s v:=by
 obtain ⟨fs,fd,d,h1,h2,h3,h4,h5,h6⟩:=D0 hT
 subst h6
 unfold PE at hx
 split at hx
 ·rename_i h;cases hx;exact Ff ho h h1 h2 h5 hm
 ·rename_i h;cases hx;exact Fe ho h h1 h2 h5 hm
 ·cases hx
def PC (i:Nat):CV→Option (CV×Nat×Nat)
 | .rs m n f=>some (.rp m (f i),n,m)
 | .os j g off n m=>some (match Nat.beq off 0,Nat.beq m 1 with|true,true=>.op j g i|_,_=>.op j g (off+i * m),n,m)
 | _=>none
theorem fb {i:Nat} {t:TypeId} {x y:Operand} {k:IntKind} {z:Int} {v:CV} {n m:Nat} (ho:o.op=.indexAddr t x y:=by exact rfl) (hy:s.eval y=.c (.int k z):=by exact rfl) (hz:z=(i:Int):=by first|exact rfl|exact wx jO) (hx:PC i (s.eval x)=some (v,n,m):=by exact rfl) (hS:i<n:=by first|omega|decide|(dsimp only at *;omega)) (hm:Nat.blt 0 m=true:=by exact rfl) (hT:AY P t m=true:=by kernel_rfl):cq P G o s v:=by
 obtain ⟨e,h1,h5⟩:=pi hT
 unfold PC at hx
 split at hx
 ·rename_i h;cases hx;exact Fb ho h hy h1 h5 hz hS (Nat.le_of_ble_eq_true hm)
 ·rename_i j g off n' m' h
  cases hx
  cases h6:Nat.beq off 0 with
  | false=>exact rX ho h hy h1 h5 hz hS
  | true =>
   cases h7:Nat.beq m 1 with
   | false=>exact rX ho h hy h1 h5 hz hS
   | true =>
    have e1:=Nat.eq_of_beq_eq_true h6
    have e2:=Nat.eq_of_beq_eq_true h7
    subst e1 e2
    exact Ci ho h hy h1 h5 hz hS
 ·cases hx
theorem CM {i:Nat} {t:TypeId} {x y:Operand} {k:IntKind} {z:Int} {a:List UInt8} (ho:o.op=.index t x y:=by exact rfl) (hx:s.eval x=au a:=by exact rfl) (hy:s.eval y=.c (.int k z):=by exact rfl) (hz:z=(i:Int):=by first|exact rfl|exact wx jO) (hS:i<a.length:=by first|omega|decide|(dsimp only at *;omega)) (hT:P.underlying t=some .string:=by kernel_rfl):cq P G o s (ft a i):=Fa ho hx hy hT hz hS
def MT:CV→Option CV
 | .op i g off=>some (.op i g off)
 | .rp n f=>some (.rp n f)
 | .fn g n f=>some (.fn g n f)
 | _=>none
theorem IG {x:Operand} {v:CV} (ho:o.op=.nilCheck x:=by exact rfl) (hx:MT (s.eval x)=some v:=by exact rfl):cq P G o s v:=by
 unfold MT at hx
 split at hx
 ·rename_i h;cases hx;exact K7 ho h
 ·rename_i h;cases hx;exact K6 ho h
 ·rename_i h;cases hx;exact K8 ho h
 ·cases hx
theorem FN {g:FuncId} {cs:Array Operand} {n:Nat} (ho:o.op=.makeFunc (.func g) #[] cs:=by exact rfl) (hn:cs.size=n:=by exact rfl):cq P G o s (.fn g n (fl (cs.toList.map s.eval))):=Aq ho hn
theorem Ps (k':IntKind) {c:UInt8} {t u:TypeId} {x:Operand} (ho:o.op=.convert t u x:=by exact rfl) (hx:s.eval x=.c (.int .u8 ((c.toNat:Nat):Int)):=by exact rfl) (h1:P.underlying t=some (.int .u8):=by kernel_rfl) (h2:P.underlying u=some (.int k'):=by kernel_rfl) (hk:Do k'=true:=by exact rfl):cq P G o s (.c (.int k' ((c.toNat:Nat):Int))):=HN ho hx h1 h2 hk
theorem GA (k k':IntKind) {a:Int} {t u:TypeId} {x:Operand} (ho:o.op=.convert t u x:=by exact rfl) (hx:s.eval x=.c (.int k a):=by exact rfl) (hS:PV k' a:=by (show _∧_;(first|omega|decide|(dsimp only at *;omega)))) (h1:P.underlying t=some (.int k):=by kernel_rfl) (h2:P.underlying u=some (.int k'):=by kernel_rfl):cq P G o s (.c (.int k' a)):=fH ho hx h1 h2 a (gx hS)
theorem Qp (k k':IntKind) {a z:Int} {t u:TypeId} {x:Operand} (ho:o.op=.convert t u x:=by exact rfl) (hx:s.eval x=.c (.int k a):=by exact rfl) (hr:k'.wrap a=z:=by exact rfl) (h1:P.underlying t=some (.int k):=by kernel_rfl) (h2:P.underlying u=some (.int k'):=by kernel_rfl):cq P G o s (.c (.int k' z)):=fH ho hx h1 h2 z hr
theorem CO {t u:TypeId} {x:Operand} {a:List UInt8} (ho:o.op=.convert t u x:=by exact rfl) (hx:s.eval x=bu a:=by exact rfl) (hT:CR P t=true:=by kernel_rfl) (h3:P.underlying u=some .string:=by kernel_rfl):cq P G o s (au a):=by
 obtain ⟨e,h1,h2⟩:=qT hT
 exact Fi ho hx h1 h2 h3
theorem Qr {t u:TypeId} {x:Operand} (ho:o.op=.convert t u x:=by exact rfl) (hx:s.eval x=.c (.slice none 0 0):=by exact rfl) (hT:CR P t=true:=by kernel_rfl) (h3:P.underlying u=some .string:=by kernel_rfl):cq P G o s (.c (.string ⟨#[]⟩)):=by
 obtain ⟨e,h1,h2⟩:=qT hT
 exact Fh ho hx h1 h2 h3
theorem Pw {t u:TypeId} {x:Operand} {i n N:Nat} {g:Option Nat} {L:List UInt8} (ho:o.op=.convert t u x:=by exact rfl) (hx:s.eval x=.os i g 0 n 1:=by exact rfl) (hH:Holds s i g N (ft L):=by first|exact .inl rfl|exact .inr rfl) (hn:n=L.length:=by first|rfl|simp) (hN:n≤N:=by first|exact Nat.le_refl _|simp) (hT:CR P t=true:=by kernel_rfl) (h3:P.underlying u=some .string:=by kernel_rfl):lg P G o s (au L):=by
 obtain ⟨e,h1,h2⟩:=qT hT
 exact Fj ho hx hH hn hN h1 h2 h3
theorem nF {t:TypeId} {p a:Operand} {z1:Int} {k1:IntKind} {l:Nat} {bl:List UInt8} (ho:o.op=.slice t p (some a) none none:=by exact rfl) (hx:s.eval p=bu bl:=by exact rfl) (ha:s.eval a=.c (.int k1 z1):=by exact rfl) (hz1:z1=(l:Int):=by first|exact rfl|exact wx jO) (hS:l≤bl.length:=by first|omega|decide|(dsimp only at *;omega)) (hT:AY P t 1=true:=by kernel_rfl):cq P G o s (bu (bl.drop l)):=by
 obtain ⟨e,h1,h5⟩:=pi hT
 exact uT ho hx h1 h5 ha hz1 hS
theorem tH {t:TypeId} {p b:Operand} {z2:Int} {k2:IntKind} {v:Nat} {bl:List UInt8} (ho:o.op=.slice t p none (some b) none:=by exact rfl) (hx:s.eval p=bu bl:=by exact rfl) (hb:s.eval b=.c (.int k2 z2):=by exact rfl) (hz2:z2=(v:Int):=by first|exact rfl|exact wx jO) (hS:v≤bl.length:=by first|omega|decide|(dsimp only at *;omega)) (hT:AY P t 1=true:=by kernel_rfl):cq P G o s (bu (bl.take v)):=by
 obtain ⟨e,h1,h5⟩:=pi hT
 exact yG ho hx h1 h5 hb hz2 hS
theorem IF {t:TypeId} {p a b:Operand} {z1 z2:Int} {k1 k2:IntKind} {l v:Nat} {bl:List UInt8} (ho:o.op=.slice t p (some a) (some b) none:=by exact rfl) (hx:s.eval p=bu bl:=by exact rfl) (ha:s.eval a=.c (.int k1 z1):=by exact rfl) (hz1:z1=(l:Int):=by first|exact rfl|exact wx jO) (hb:s.eval b=.c (.int k2 z2):=by exact rfl) (hz2:z2=(v:Int):=by first|exact rfl|exact wx jO) (hS:l≤v:=by first|omega|decide|(dsimp only at *;omega)) (hS2:v≤bl.length:=by first|omega|decide|(dsimp only at *;omega)) (hT:AY P t 1=true:=by kernel_rfl):cq P G o s (bu ((bl.take v).drop l)):=by
 obtain ⟨e,h1,h5⟩:=pi hT
 exact E6 ho hx h1 h5 ha hz1 hb hz2 hS hS2
theorem ss {t:TypeId} {p:Operand} {m n l v:Nat} {f:Nat→Nat→CV} {lo hi:Option Operand} (ho:o.op=.slice t p lo hi none:=by exact rfl) (hx:s.eval p=.rs m n f:=by exact rfl) (hl:Bd s 0 lo l:=by first|exact dc _ _|exact bY rfl rfl|exact bY rfl (wx jO)) (hu:Bd s n hi v:=by first|exact dc _ _|exact bY rfl rfl|exact bY rfl (wx jO)) (hS:l≤v:=by first|omega|decide|(dsimp only at *;omega)) (hS2:v≤n:=by first|omega|decide|(dsimp only at *;omega)) (hT:AY P t m=true:=by kernel_rfl):cq P G o s (.rs m (v-l) fun i j=>f (l+i) j):=by
 obtain ⟨e,h1,h5⟩:=pi hT
 exact oY ho hx h1 h5 hl hu hS hS2
theorem Od {t:TypeId} {p:Operand} {i off m n l v:Nat} {g:Option Nat} {lo hi:Option Operand} (ho:o.op=.slice t p lo hi none:=by exact rfl) (hx:s.eval p=.os i g off n m:=by exact rfl) (hl:Bd s 0 lo l:=by first|exact dc _ _|exact bY rfl rfl|exact bY rfl (wx jO)) (hu:Bd s n hi v:=by first|exact dc _ _|exact bY rfl rfl|exact bY rfl (wx jO)) (hS:l≤v:=by first|omega|decide|(dsimp only at *;omega)) (hS2:v≤n:=by first|omega|decide|(dsimp only at *;omega)) (hS3:l=0∨l<n:=by first|omega|decide|(dsimp only at *;omega)) (hT:AY P t m=true:=by kernel_rfl):cq P G o s (.os i g (off+l * m) (v-l) m):=by
 obtain ⟨e,h1,h5⟩:=pi hT
 exact E4 ho hx h1 h5 hl hu hS hS2 hS3
theorem mS {t:TypeId} {x:Operand} {i off n:Nat} {g:Option Nat} {f:Nat→CV} {v:CV} (ho:o.op=.load t x:=by exact rfl) (hx:s.eval x=.op i g off:=by exact rfl) (hH:Holds s i g n f:=by first|exact .inl rfl|exact .inr rfl) (hv:f off=v:=by first|exact mU rfl|exact pZ rfl) (hn:off<n:=by first|decide|omega|(dsimp only at *;omega)) (hT:CQ P t=true:=by kernel_rfl):lg P G o s v:=by
 obtain ⟨d,h1,ha⟩:=qS hT
 exact HE ho hx hH h1 ha hn hv
theorem vl {t:TypeId} {x:Operand} {n:Nat} {f:Nat→CV} {v:CV} (ho:o.op=.load t x:=by exact rfl) (hx:s.eval x=.rp n f:=by exact rfl) (hv:f 0=v:=by first|exact mU rfl|exact pZ rfl) (hn:0<n:=by first|decide|omega|(dsimp only at *;omega)) (hT:CQ P t=true:=by kernel_rfl):cq P G o s v:=by
 obtain ⟨d,h1,ha⟩:=qS hT
 exact HD ho hx h1 ha hn hv
theorem aV (m:Nat) {t:TypeId} {x:Operand} {i off n:Nat} {g:Option Nat} {f:Nat→CV} (ho:o.op=.load t x:=by exact rfl) (hx:s.eval x=.op i g off:=by exact rfl) (hH:Holds s i g n f:=by first|exact .inl rfl|exact .inr rfl) (hn:off+m≤n:=by first|decide|omega|(dsimp only at *;omega)) (hT:IE P t m true=true:=by kernel_rfl):lg P G o s (.agg m fun j=>f (off+j)):=by
 obtain ⟨d,h1,ha,h5⟩:=yX hT
 exact E8 ho hx hH h1 ha h5 hn
theorem gq (m:Nat) {t:TypeId} {x:Operand} {n:Nat} {f:Nat→CV} (ho:o.op=.load t x:=by exact rfl) (hx:s.eval x=.rp n f:=by exact rfl) (hn:m≤n:=by first|decide|omega|(dsimp only at *;omega)) (hT:IE P t m true=true:=by kernel_rfl):cq P G o s (.agg m f):=by
 obtain ⟨d,h1,ha,h5⟩:=yX hT
 exact E7 ho hx h1 ha h5 hn
theorem dy (i:Nat) [h0:dG G.gs i] {t:TypeId} {g:Nat} (ho:o.op=.load t (.global g):=by exact rfl) (hg:gs[i]?=some g:=by exact rfl) (hT:CQ P t=true:=by kernel_rfl):cq P G o s (.err (i+1)):=by
 obtain ⟨d,h1,ha⟩:=qS hT
 exact HH i ho hg h1 ha
theorem jq {d:Nat} {v:CV} (h:cq P G o ⟨env,b0,H⟩ v) (hk:cV P G ops r ⟨(d,v)::env,b0,H⟩ K) (hd:o.dst=some d:=by exact rfl) (hN:Nat.blt d G.N=true:=by exact rfl) (hw:be G ops o ⟨env,b0,H⟩ true:=by first|exact bq rfl|exact ce rfl rfl rfl rfl true rfl):cV P G ops (o::r) ⟨env,b0,H⟩ K:=Qd hw hd hN h hk
theorem eL {d:Nat} {v:CV} (h:lg P G o ⟨env,b0,H⟩ v) (hk:cV P G ops r ⟨(d,v)::env,b0,H⟩ K) (hd:o.dst=some d:=by exact rfl) (hN:Nat.blt d G.N=true:=by exact rfl) (hw:be G ops o ⟨env,b0,H⟩ true:=by first|exact bq rfl|exact ce rfl rfl rfl rfl true rfl):cV P G ops (o::r) ⟨env,b0,H⟩ K:=O9 hw hd hN h hk
theorem Q2 {d:Nat} (hk:cV P G ops r ⟨(d,.c undef)::env,b0,H⟩ K) (hd:o.dst=some d:=by exact rfl) (hN:Nat.blt d G.N=true:=by exact rfl) (hw:be G ops o ⟨env,b0,H⟩ false:=by first|exact ce rfl rfl rfl rfl false rfl|exact kk rfl rfl rfl rfl):cV P G ops (o::r) ⟨env,b0,H⟩ K:=NT hw hd hN hk
theorem ak (h:lb P G o ⟨env,b0,H⟩ (fun s'=>cV P G ops r s' K)) (hw:be G ops o ⟨env,b0,H⟩ true:=by first|exact bq rfl|exact ce rfl rfl rfl rfl true rfl):cV P G ops (o::r) ⟨env,b0,H⟩ K:=Nw hw h
theorem ar (h:uc P G o ⟨env,b0,H⟩ (fun s'=>cV P G ops r s' K)) (hw:be G ops o ⟨env,b0,H⟩ true:=by first|exact bq rfl|exact ce rfl rfl rfl rfl true rfl):cV P G ops (o::r) ⟨env,b0,H⟩ K:=G9 hw h
def dR:List Oper→Nat→Oper
 | [],_=>default
 | a::_,0=>a
 | _::l,i+1=>dR l i
section
variable {i:Nat} {t:jV}
theorem ly (h:Nat.blt i ops.size=true):ops[i]?=some (dR ops.toList i):=by
 have hlt:i<ops.size:=Nat.le_of_ble_eq_true h
 rw [Array.getElem?_eq_getElem hlt]
 have key:∀ (l:List Oper) (i:Nat) (hi:i<l.length),l[i]=dR l i:=fun l=>by
  induction l with
  | nil=>intro i hi;simp at hi
  | cons a l ih =>
   intro i hi
   cases i with
   | zero=>rfl
   | succ i=>exact ih i (by simpa using hi)
 have:=key ops.toList i (by simpa using hlt)
 rw [← this,Array.getElem_toList]
theorem mT (hi:Nat.blt i ops.size=true):az ops (.rd i t)=.rd (dR ops.toList i) (az ops t):=by simp only [az,ly hi]
theorem gA (hi:Nat.blt i ops.size=true):az ops (.one i t)=.one (dR ops.toList i) (az ops t):=by simp only [az,ly hi]
theorem bV {d:Nat} {v:CV} (h:cq P G (dR ops.toList i) ⟨env,b0,H⟩ v) (hk:AX P G ops (az ops t) ⟨(d,v)::env,b0,H⟩ K) (hd:(dR ops.toList i).dst=some d:=by exact rfl) (hN:Nat.blt d G.N=true:=by exact rfl) (hw:be G ops (dR ops.toList i) ⟨env,b0,H⟩ true:=by first|exact bq rfl|exact ce rfl rfl rfl rfl true rfl) (hi:Nat.blt i ops.size=true:=by exact rfl):AX P G ops (az ops (.rd i t)) ⟨env,b0,H⟩ K:=by rw [mT hi];exact P7 hw hd hN h hk
theorem Ki {d:Nat} {v:CV} (h:lg P G (dR ops.toList i) ⟨env,b0,H⟩ v) (hk:AX P G ops (az ops t) ⟨(d,v)::env,b0,H⟩ K) (hd:(dR ops.toList i).dst=some d:=by exact rfl) (hN:Nat.blt d G.N=true:=by exact rfl) (hw:be G ops (dR ops.toList i) ⟨env,b0,H⟩ true:=by first|exact bq rfl|exact ce rfl rfl rfl rfl true rfl) (hi:Nat.blt i ops.size=true:=by exact rfl):AX P G ops (az ops (.rd i t)) ⟨env,b0,H⟩ K:=by rw [mT hi];exact OT hw hd hN h hk
theorem QW {d:Nat} (hk:AX P G ops (az ops t) ⟨(d,.c undef)::env,b0,H⟩ K) (hd:(dR ops.toList i).dst=some d:=by exact rfl) (hN:Nat.blt d G.N=true:=by exact rfl) (hw:be G ops (dR ops.toList i) ⟨env,b0,H⟩ false:=by first|exact ce rfl rfl rfl rfl false rfl|exact kk rfl rfl rfl rfl) (hi:Nat.blt i ops.size=true:=by exact rfl):AX P G ops (az ops (.rd i t)) ⟨env,b0,H⟩ K:=by rw [mT hi];exact Nk hw hd hN hk
theorem pY {d:Nat} (hk:AX P G ops (az ops t) ⟨(d,.c undef)::env,b0,H⟩ K) (hd:(dR ops.toList i).dst=some d:=by exact rfl) (hN:Nat.blt d G.N=true:=by exact rfl) (hw:be G ops (dR ops.toList i) ⟨env,b0,H⟩ false:=by first|exact ce rfl rfl rfl rfl false rfl|exact kk rfl rfl rfl rfl) (hi:Nat.blt i ops.size=true:=by exact rfl):AX P G ops (az ops (.one i t)) ⟨env,b0,H⟩ K:=by rw [gA hi];exact Kq hw hd hN hk
theorem kO (h:lb P G (dR ops.toList i) ⟨env,b0,H⟩ (fun s'=>AX P G ops (az ops t) s' K)) (hw:be G ops (dR ops.toList i) ⟨env,b0,H⟩ true:=by first|exact bq rfl|exact ce rfl rfl rfl rfl true rfl) (hi:Nat.blt i ops.size=true:=by exact rfl):AX P G ops (az ops (.one i t)) ⟨env,b0,H⟩ K:=by rw [gA hi];exact OV hw h
theorem ig {d:Nat} {v:CV} (h:cq P G (dR ops.toList i) ⟨env,b0,H⟩ v) (hk:AZ P G ops (az ops t) ⟨(d,v)::env,b0,H⟩ K) (hd:(dR ops.toList i).dst=some d:=by exact rfl) (hN:Nat.blt d G.N=true:=by exact rfl) (hw:be G ops (dR ops.toList i) ⟨env,b0,H⟩ true:=by first|exact bq rfl|exact ce rfl rfl rfl rfl true rfl) (hi:Nat.blt i ops.size=true:=by exact rfl):AZ P G ops (az ops (.rd i t)) ⟨env,b0,H⟩ K:=by rw [mT hi];exact OG hw hd hN h hk
theorem MS {d:Nat} {v:CV} (h:lg P G (dR ops.toList i) ⟨env,b0,H⟩ v) (hk:AZ P G ops (az ops t) ⟨(d,v)::env,b0,H⟩ K) (hd:(dR ops.toList i).dst=some d:=by exact rfl) (hN:Nat.blt d G.N=true:=by exact rfl) (hw:be G ops (dR ops.toList i) ⟨env,b0,H⟩ true:=by first|exact bq rfl|exact ce rfl rfl rfl rfl true rfl) (hb:Fn ops (dR ops.toList i)=true:=by kernel_rfl) (hi:Nat.blt i ops.size=true:=by exact rfl):AZ P G ops (az ops (.rd i t)) ⟨env,b0,H⟩ K:=by rw [mT hi];exact Nc hw hd hN hb h hk
theorem LT {d:Nat} {v:CV} (h:lg P G (dR ops.toList i) ⟨env,b0,H⟩ v) (hk:AZ P G ops (az ops t) ⟨(d,v)::env,b0,H⟩ K) (hd:(dR ops.toList i).dst=some d:=by exact rfl) (hN:Nat.blt d G.N=true:=by exact rfl) (hw:be G ops (dR ops.toList i) ⟨env,b0,H⟩ true:=by first|exact bq rfl|exact ce rfl rfl rfl rfl true rfl) (hi:Nat.blt i ops.size=true:=by exact rfl):AZ P G ops (az ops (.one i t)) ⟨env,b0,H⟩ K:=by rw [gA hi];exact GB hw hd hN h hk
theorem QU {d:Nat} (hk:AZ P G ops (az ops t) ⟨(d,.c undef)::env,b0,H⟩ K) (hd:(dR ops.toList i).dst=some d:=by exact rfl) (hN:Nat.blt d G.N=true:=by exact rfl) (hw:be G ops (dR ops.toList i) ⟨env,b0,H⟩ false:=by first|exact ce rfl rfl rfl rfl false rfl|exact kk rfl rfl rfl rfl) (hi:Nat.blt i ops.size=true:=by exact rfl):AZ P G ops (az ops (.rd i t)) ⟨env,b0,H⟩ K:=by rw [mT hi];exact Kk hw hd hN hk
theorem yW (h:lb P G (dR ops.toList i) ⟨env,b0,H⟩ (fun s'=>AZ P G ops (az ops t) s' K)) (hw:be G ops (dR ops.toList i) ⟨env,b0,H⟩ true:=by first|exact bq rfl|exact ce rfl rfl rfl rfl true rfl) (hi:Nat.blt i ops.size=true:=by exact rfl):AZ P G ops (az ops (.one i t)) ⟨env,b0,H⟩ K:=by rw [gA hi];exact OS hw h
theorem iL (h:uc P G (dR ops.toList i) ⟨env,b0,H⟩ (fun s'=>AZ P G ops (az ops t) s' K)) (hw:be G ops (dR ops.toList i) ⟨env,b0,H⟩ true:=by first|exact bq rfl|exact ce rfl rfl rfl rfl true rfl) (hm:td (dR ops.toList i)=true:=by exact rfl) (hi:Nat.blt i ops.size=true:=by exact rfl):AZ P G ops (az ops (.one i t)) ⟨env,b0,H⟩ K:=by rw [gA hi];exact P6 hw hm h
theorem BO (h:K s):AX P G ops (az ops .done) s K:=Nm h
theorem QV (h:K s):AZ P G ops (az ops .done) s K:=Nj h
theorem DZ {j:Nat} {u:jV} (h1:AX P G ops (az ops (.one i t)) s K) (h2:AX P G ops (az ops (.one j u)) s K) (hi:Nat.blt i ops.size=true:=by exact rfl) (hj:Nat.blt j ops.size=true:=by exact rfl):AX P G ops (az ops (.two i t j u)) s K:=by
 rw [gA hi] at h1
 rw [gA hj] at h2
 simp only [az,ly hi,ly hj]
 exact OU h1 h2
theorem vj {j:Nat} {u:jV} (h1:AZ P G ops (az ops (.one i t)) s K) (h2:AZ P G ops (az ops (.one j u)) s K) (hi:Nat.blt i ops.size=true:=by exact rfl) (hj:Nat.blt j ops.size=true:=by exact rfl):AZ P G ops (az ops (.two i t j u)) s K:=by
 rw [gA hi] at h1
 rw [gA hj] at h2
 simp only [az,ly hi,ly hj]
 exact OQ h1 h2
end
theorem QN {id:Nat} (h:cV P G ops ops.toList s (R .normal)) (hd:BM G.rd ops=true:=by rfl):bj P G (.region id ops false) s R:=tu h hd
theorem ff {id:Nat} (t:jV) (h:AX P G ops (az ops t) s (R .normal)) (hm:P.follows .mixedOrders=true:=by kernel_rfl) (hs:Region.noSelect ops=true:=by kernel_rfl) (hl:t.len=ops.size:=by exact rfl) (hin:t.within ops.size=true:=by kernel_rfl) (hB:du .any ops t (Array.replicate ops.size false)=true:=by kernel_rfl) (hd:BM G.rd ops=true:=by rfl):bj P G (.region id ops true) s R:=Gn t hm hs hl hin hB h hd
theorem py {id:Nat} (m:Nat) (t:jV) (h:AX P G ops (az ops t) s (fun s'=>cV P G ops (ops.toList.drop m) s' (R .normal))) (hmix:P.follows .mixedOrders=true:=by kernel_rfl) (hs:Region.noSelect ops=true:=by kernel_rfl) (hm:Nat.ble m ops.size=true:=by exact rfl) (hl:t.len=m:=by exact rfl) (hin:t.within ops.size=true:=by kernel_rfl) (hc:mZ .any ops m=true:=by kernel_rfl)
  (hB:fB .any ops m t (Array.replicate ops.size false)=true:=by kernel_rfl) (ht:uo .any ops (ops.size-m) m (wB m ops.size)=true:=by kernel_rfl) (hd:BM G.rd ops=true:=by rfl) (hy:G.yl=false:=by rfl):bj P G (.region id ops true) s R:=C6 m t hmix hs hm hl hin hc hB ht h hd hy
theorem jI {id:Nat} (u:jV) (h:AZ P G ops (az ops u) s (R .normal)) (hmix:P.follows .mixedOrders=true:=by kernel_rfl) (hs:Region.noSelect ops=true:=by kernel_rfl) (hul:u.len=ops.size:=by exact rfl) (huin:u.within ops.size=true:=by kernel_rfl) (hu:du .any ops u (Array.replicate ops.size false)=true:=by kernel_rfl) (hd:BM G.rd ops=true:=by rfl):bj P G (.region id ops true) s R:=C4 u hmix hs hul huin hu h hd
theorem iy (h:bj P G x s (qp (fun s'=>bj P G y s' R) R)):bj P G (.seq x y) s R:=vS h
theorem cy {id:Nat} (h:cV P G ops ops.toList s (fun s'=>bj P G y s' R)) (hd:BM G.rd ops=true:=by rfl):bj P G (.seq (.region id ops false) y) s R:=vS (tu h hd)
theorem QX (h:Y s):qp Y R .normal s:=h
theorem QY {i:Nat} (h:R (.exit i) s):qp Y R (.exit i) s:=h
theorem ii (h:R .ret s):qp Y R .ret s:=h
theorem Q6 {i:Nat} (h:R .normal s):nb i R .normal s:=h
theorem yY {i:Nat} (h:R .ret s):nb i R .ret s:=h
theorem Q5 {i j:Nat} (h:R .normal s) (he:Nat.beq j i=true:=by exact rfl):nb i R (.exit j) s:=Dd he h
theorem Qv {i j:Nat} (h:R (.exit j) s) (he:Nat.beq j i=false:=by exact rfl):nb i R (.exit j) s:=BB he h
def qV (c:CV) (p n:Prop):Prop:=∃ t:Bool,c=.c (.bool t)∧(t=true→p)∧(t=false→n)
theorem Of {p:Prop} [Decidable p] {c:CV} (h:c=.c (.bool (decide p))):qV c p (¬ p):=⟨_,h,of_decide_eq_true,of_decide_eq_false⟩
theorem Og {t:Bool} {c:CV} (h:c=.c (.bool t)):qV c (t=true) (t=false):=⟨_,h,id,id⟩
theorem aq {d:Nat} {p n:Prop} (ht:p→bj P G x ⟨(d,.c (.bool true))::env,b0,H⟩ R) (hf:n→bj P G y ⟨(d,.c (.bool false))::env,b0,H⟩ R) (hl:qV (look env b0 d) p n:=by first|exact Of rfl|exact Og rfl) (hN:Nat.blt d G.N=true:=by exact rfl):bj P G (.cond (.tmp d) x y) ⟨env,b0,H⟩ R:=by
 obtain ⟨t,h1,h2,h3⟩:=hl
 exact C8 hN h1 (fun e=>ht (h2 e)) (fun e=>hf (h3 e))
theorem Q3 {d:Operand} (h:bj P G x s R) (hl:s.eval d=.c (.bool true):=by exact rfl):bj P G (.cond d x y) s R:=C7 hl h
theorem Q4 {d:Operand} (h:bj P G y s R) (hl:s.eval d=.c (.bool false):=by exact rfl):bj P G (.cond d x y) s R:=C9 hl h
theorem ay (d:Nat) {p n:Prop} (ht:p→cV P G ops r ⟨(d,.c (.bool true))::env,b0,H⟩ K) (hf:n→cV P G ops r ⟨(d,.c (.bool false))::env,b0,H⟩ K) (hl:qV (look env b0 d) p n:=by first|exact Of rfl|exact Og rfl) (hN:Nat.blt d G.N=true:=by exact rfl):cV P G ops r ⟨env,b0,H⟩ K:=by
 obtain ⟨t,h1,h2,h3⟩:=hl
 exact ED hN h1 (fun e=>ht (h2 e)) (fun e=>hf (h3 e))
theorem gG {tr:dO} (d:Nat) {p n:Prop} (ht:p→AX P G ops tr ⟨(d,.c (.bool true))::env,b0,H⟩ K) (hf:n→AX P G ops tr ⟨(d,.c (.bool false))::env,b0,H⟩ K) (hl:qV (look env b0 d) p n:=by first|exact Of rfl|exact Og rfl) (hN:Nat.blt d G.N=true:=by exact rfl):AX P G ops tr ⟨env,b0,H⟩ K:=by
 obtain ⟨t,h1,h2,h3⟩:=hl
 exact Kt hN h1 (fun e=>ht (h2 e)) (fun e=>hf (h3 e))
theorem bD {n:Nat} {t:TypeId} {z:Value} {d:Nat} (hz:(P.info? t).map (·.zero)=some (some z)) (hn:z.cells.size=n) (hK:∀ g,K ⟨(d,.op H.length g 0)::env,b0,H++[(g,.blk n fun j=>.c (z.cells.getD j undef))]⟩) (ho:o.op=.alloc t:=by exact rfl) (hd:o.dst=some d:=by exact rfl) (hN:Nat.blt d G.N=true:=by exact rfl):lb P G o ⟨env,b0,H⟩ K:=Mn ho hz hn hd hN hK
theorem cE (n:Nat) {t:TypeId} {p:Operand} {c:CV} {l:List CV} {d:Nat} (hK:∀ g,K ⟨(d,.op H.length g 0)::env,b0,H++[(g,.blk n (fl l))]⟩) (ho:o.op=.box t p:=by exact rfl) (hx:(⟨env,b0,H⟩:AS).eval p=c:=by first|exact s8 rfl|exact s9 rfl rfl rfl|exact tc rfl) (hl:ek c=some l:=by exact rfl) (hn:l.length=n:=by exact rfl) (hd:o.dst=some d:=by exact rfl) (hN:Nat.blt d G.N=true:=by exact rfl):lb P G o ⟨env,b0,H⟩ K:=PJ ho hx hl hn hd hN hK
theorem aU (n m:Nat) {e t:TypeId} {z:Value} {len:Nat} {parts:Array (Nat×Operand)} {l:List CV} {d:Nat} (hz:(P.info? e).map (·.zero)=some (some z)) (hK:∀ g,K ⟨(d,.os H.length g 0 len m)::env,b0,H++[(g,.blk n (fl l))]⟩) (ho:o.op=.buildSlice t len parts:=by exact rfl) (h1:P.underlying t=some (.slice e):=by kernel_rfl) (h5:(P.info? e).map (·.size)=some m:=by kernel_rfl) (hm:Nat.ble (len * m) 16777216=true:=by exact rfl) (hlen:Nat.ble len 16777216=true:=by exact rfl)
  (hf:tn (fun i=>some (i * m,m)) ((List.range (len * m)).map fun i=>.c (z.cells[i % z.cells.size]!)) (parts.toList.map fun p=>(p.1,(⟨env,b0,H⟩:AS).eval p.2))=some l:=by exact rfl) (hn:l.length=n:=by exact rfl) (hle:n=len * m:=by exact rfl) (hd:o.dst=some d:=by exact rfl) (hN:Nat.blt d G.N=true:=by exact rfl):lb P G o ⟨env,b0,H⟩ K:=ze ho h1 h5 hz hm hlen hf hn hle hd hN hK
theorem IK {t u:TypeId} {x:Operand} {a:List UInt8} {d:Nat} (hK:K ⟨(d,bu a)::env,b0,H⟩) (ho:o.op=.convert t u x:=by exact rfl) (hx:(⟨env,b0,H⟩:AS).eval x=au a:=by exact rfl) (h1:P.underlying t=some .string:=by kernel_rfl) (hT:CR P u=true:=by kernel_rfl) (hS:a.length≤9223372036854775807:=by first|omega|decide|(dsimp only at *;omega)) (hd:o.dst=some d:=by exact rfl) (hN:Nat.blt d G.N=true:=by exact rfl):lb P G o ⟨env,b0,H⟩ K:=by
 obtain ⟨e,h2,h3⟩:=qT hT
 exact Jw ho hx h1 h2 h3 hS hd hN hK
theorem ap {f:FuncId} {xs:Array Operand} {ats:Array TypeId} {args:List CV} {m:CV} {d:Nat} (hA:bM G.gs P f args m) (hK:K ⟨(d,m)::env,b0,H⟩) (ho:o.op=.call ⟨.value (.func f),xs,ats⟩:=by exact rfl) (hc:br P f=true:=by kernel_rfl) (he:ya G ⟨env,b0,H⟩ xs.toList args:=by (repeat (first|exact .nil|refine .cons (by first|exact se rfl cZ|exact se rfl ab.nil|exact se rfl cN|exact se rfl (cO rfl)|exact se rfl cP|exact mz rfl|exact se rfl (ab.agg2 cZ cZ)|exact se rfl (ab.agg3 cZ cZ cZ)|exact se rfl (ab.agg4 cZ cZ cZ cZ)|exact se rfl (ab.agg5 cZ cZ cZ cZ cZ)|exact se rfl (ab.agg6 cZ cZ cZ cZ cZ cZ)|exact oQ _ rfl rfl rfl (by simp) (fun _ _=>cZ)) ?_))) (hd:o.dst=some d:=by exact rfl) (hN:Nat.blt d G.N=true:=by exact rfl):lb P G o ⟨env,b0,H⟩ K:=Ml ho hc hA he hd hN hK
theorem su {f:FuncId} {xs:Array Operand} {ats:Array TypeId} {args:List CV} {Q:CV→List (Option Nat×bp)→Prop} {d:Nat} (hA:AC G.gs P f [] args Q) (hK:∀ r H',Q r H'→K ⟨(d,r)::env,b0,H++H'⟩) (ho:o.op=.call ⟨.value (.func f),xs,ats⟩:=by exact rfl) (hc:br P f=true:=by kernel_rfl) (he:ya G ⟨env,b0,H⟩ xs.toList args:=by (repeat (first|exact .nil|refine .cons (by first|exact se rfl cZ|exact se rfl ab.nil|exact se rfl cN|exact se rfl (cO rfl)|exact se rfl cP|exact mz rfl|exact se rfl (ab.agg2 cZ cZ)|exact se rfl (ab.agg3 cZ cZ cZ)|exact se rfl (ab.agg4 cZ cZ cZ cZ)|exact se rfl (ab.agg5 cZ cZ cZ cZ cZ)|exact se rfl (ab.agg6 cZ cZ cZ cZ cZ cZ)|exact oQ _ rfl rfl rfl (by simp) (fun _ _=>cZ)) ?_))) (hd:o.dst=some d:=by exact rfl) (hN:Nat.blt d G.N=true:=by exact rfl):lb P G o ⟨env,b0,H⟩ K:=Ed ho hc hA he hd hN hK
theorem FP {f:FuncId} {xs:Array Operand} {ats:Array TypeId} {args:List CV} {n m N:Nat} {F:Nat→CV} {d:Nat} (hA:AC G.gs P f [] args (we n m N F)) (hK:∀ g,K ⟨(d,.os H.length g 0 n m)::env,b0,H++[(g,.blk N F)]⟩) (ho:o.op=.call ⟨.value (.func f),xs,ats⟩:=by exact rfl) (hc:br P f=true:=by kernel_rfl) (he:ya G ⟨env,b0,H⟩ xs.toList args:=by (repeat (first|exact .nil|refine .cons (by first|exact se rfl cZ|exact se rfl ab.nil|exact se rfl cN|exact se rfl (cO rfl)|exact se rfl cP|exact mz rfl|exact se rfl (ab.agg2 cZ cZ)|exact se rfl (ab.agg3 cZ cZ cZ)|exact se rfl (ab.agg4 cZ cZ cZ cZ)|exact se rfl (ab.agg5 cZ cZ cZ cZ cZ)|exact se rfl (ab.agg6 cZ cZ cZ cZ cZ cZ)|exact oQ _ rfl rfl rfl (by simp) (fun _ _=>cZ)) ?_))) (hd:o.dst=some d:=by exact rfl) (hN:Nat.blt d G.N=true:=by exact rfl):lb P G o ⟨env,b0,H⟩ K:=Mm ho hc hA he hd hN hK
theorem Qs (i:Nat) {f:FuncId} {xs:Array Operand} {ats:Array TypeId} {args:List CV} {Q:CV→List (Option Nat×bp)→Prop} {d:Nat} {x0:Option Nat×bp} (hA:AC G.gs P f [x0] args Q) (hK:∀ r H',Q r H'→∃ x r',H'=[x]∧ab r r'∧K ⟨(d,r')::env,b0,H.set i x⟩) (hi:H[i]?=some x0:=by exact rfl) (ho:o.op=.call ⟨.value (.func f),xs,ats⟩:=by exact rfl) (hc:br P f=true:=by kernel_rfl) (he:ya G ⟨env,b0,H⟩ xs.toList args:=by (repeat (first|exact .nil|refine .cons (by first|exact se rfl cZ|exact se rfl ab.nil|exact se rfl cN|exact se rfl (cO rfl)|exact se rfl cP|exact mz rfl|exact se rfl (ab.agg2 cZ cZ)|exact se rfl (ab.agg3 cZ cZ cZ)|exact se rfl (ab.agg4 cZ cZ cZ cZ)|exact se rfl (ab.agg5 cZ cZ cZ cZ cZ)|exact se rfl (ab.agg6 cZ cZ cZ cZ cZ cZ)|exact oQ _ rfl rfl rfl (by simp) (fun _ _=>cZ)) ?_))) (hd:o.dst=some d:=by exact rfl) (hN:Nat.blt d G.N=true:=by exact rfl):uc P G o ⟨env,b0,H⟩ K:=DT ho hc hi hA he hd hN hK
theorem aJ (i:Nat) {f:FuncId} {xs:Array Operand} {ats:Array TypeId} {args:List CV} {m:CV} {d:Nat} {x0 x:Option Nat×bp} (hA:AC G.gs P f [x0] args fun r H'=>r=m∧H'=[x]) (hK:K ⟨(d,m)::env,b0,H.set i x⟩) (hi:H[i]?=some x0:=by exact rfl) (ho:o.op=.call ⟨.value (.func f),xs,ats⟩:=by exact rfl) (hc:br P f=true:=by kernel_rfl) (he:ya G ⟨env,b0,H⟩ xs.toList args:=by (repeat (first|exact .nil|refine .cons (by first|exact se rfl cZ|exact se rfl ab.nil|exact se rfl cN|exact se rfl (cO rfl)|exact se rfl cP|exact mz rfl|exact se rfl (ab.agg2 cZ cZ)|exact se rfl (ab.agg3 cZ cZ cZ)|exact se rfl (ab.agg4 cZ cZ cZ cZ)|exact se rfl (ab.agg5 cZ cZ cZ cZ cZ)|exact se rfl (ab.agg6 cZ cZ cZ cZ cZ cZ)|exact oQ _ rfl rfl rfl (by simp) (fun _ _=>cZ)) ?_))) (hd:o.dst=some d:=by exact rfl) (hN:Nat.blt d G.N=true:=by exact rfl):uc P G o ⟨env,b0,H⟩ K :=
 Qs i hA (fun _ _ ⟨e1,e2⟩=>⟨x,m,e2,e1 ▸ cZ,hK⟩) hi ho hc he hd hN
theorem PA (i:Nat) {f:FuncId} {xs:Array Operand} {ats:Array TypeId} {args:List CV} {n m N:Nat} {F:Nat→CV} {d:Nat} {x0:Option Nat×bp} (hA:AC G.gs P f [x0] args (we n m N F)) (hK:∀ g,K ⟨(d,.os i g 0 n m)::env,b0,H.set i (g,.blk N F)⟩) (hi:H[i]?=some x0:=by exact rfl) (ho:o.op=.call ⟨.value (.func f),xs,ats⟩:=by exact rfl) (hc:br P f=true:=by kernel_rfl) (he:ya G ⟨env,b0,H⟩ xs.toList args:=by (repeat (first|exact .nil|refine .cons (by first|exact se rfl cZ|exact se rfl ab.nil|exact se rfl cN|exact se rfl (cO rfl)|exact se rfl cP|exact mz rfl|exact se rfl (ab.agg2 cZ cZ)|exact se rfl (ab.agg3 cZ cZ cZ)|exact se rfl (ab.agg4 cZ cZ cZ cZ)|exact se rfl (ab.agg5 cZ cZ cZ cZ cZ)|exact se rfl (ab.agg6 cZ cZ cZ cZ cZ cZ)|exact oQ _ rfl rfl rfl (by simp) (fun _ _=>cZ)) ?_))) (hd:o.dst=some d:=by exact rfl) (hN:Nat.blt d G.N=true:=by exact rfl):uc P G o ⟨env,b0,H⟩ K:=LL ho hc hi hA he hd hN hK
theorem ax (m:Nat) {t:TypeId} {p q:Operand} {i off n:Nat} {g:Option Nat} {f:Nat→CV} {c:CV} {l:List CV} (hK:K ⟨env,b0,H.set i (g,.blk n (mo f off l))⟩) (ho:o.op=.store t p q:=by exact rfl) (hx:(⟨env,b0,H⟩:AS).eval p=.op i g off:=by exact rfl) (hH:H[i]?=some (g,.blk n f):=by exact rfl) (hy:(⟨env,b0,H⟩:AS).eval q=c:=by first|exact s8 rfl|exact s9 rfl rfl rfl|exact tc rfl) (hl:ek c=some l:=by exact rfl) (hm:l.length=m:=by exact rfl) (h5:(P.info? t).map (·.size)=some m:=by kernel_rfl) (hleaf:l.all fo=true:=by exact rfl) (hn:off+m≤n:=by first|decide|omega|(dsimp only at *;omega)) (hd:o.dst=none:=by exact rfl):uc P G o ⟨env,b0,H⟩ K :=
 DS ho hx hH hy hl h5 hm hleaf hn _ (fun _ _=>cZ) hd hK
theorem bh (m:Nat) (F:Nat→CV) {t:TypeId} {p q:Operand} {i off n:Nat} {g:Option Nat} {f:Nat→CV} {c:CV} {l:List CV} (hF:∀ j,j<n→ab (mo f off l j) (F j)) (hK:K ⟨env,b0,H.set i (g,.blk n F)⟩) (ho:o.op=.store t p q:=by exact rfl) (hx:(⟨env,b0,H⟩:AS).eval p=.op i g off:=by exact rfl) (hH:H[i]?=some (g,.blk n f):=by exact rfl) (hy:(⟨env,b0,H⟩:AS).eval q=c:=by first|exact s8 rfl|exact s9 rfl rfl rfl|exact tc rfl) (hl:ek c=some l:=by exact rfl) (hm:l.length=m:=by exact rfl) (h5:(P.info? t).map (·.size)=some m:=by kernel_rfl) (hleaf:l.all fo=true:=by exact rfl) (hn:off+m≤n:=by first|decide|omega|(dsimp only at *;omega)) (hd:o.dst=none:=by exact rfl):uc P G o ⟨env,b0,H⟩ K :=
 DS ho hx hH hy hl h5 hm hleaf hn F hF hd hK
theorem tI {d:Nat} {t:TypeId} {i off n:Nat} {g:Option Nat} {f:Nat→CV} {c:CV} (h:look s.env s.b d=.op i g off:=by exact rfl) (hH:Holds s i g n f:=by first|exact .inl rfl|exact .inr rfl) (hc:f off=c:=by first|exact mU rfl|exact pZ rfl) (hn:off<n:=by first|decide|omega|(dsimp only at *;omega)) (hT:CQ P t=true:=by kernel_rfl):BQ P G s (.cell d t) c:=by
 obtain ⟨ds,h1,ha⟩:=qS hT
 exact J8 h hH h1 ha hn hc
theorem bz (m:Nat) {d:Nat} {t:TypeId} {i off n:Nat} {g:Option Nat} {f:Nat→CV} (h:look s.env s.b d=.op i g off:=by exact rfl) (hH:Holds s i g n f:=by first|exact .inl rfl|exact .inr rfl) (hn:off+m≤n:=by first|decide|omega|(dsimp only at *;omega)) (hT:IE P t m true=true:=by kernel_rfl):BQ P G s (.cell d t) (.agg m fun j=>f (off+j)):=by
 obtain ⟨ds,h1,ha,h5⟩:=yX hT
 exact Gv h hH h1 ha h5 hn
theorem aG {t:Nat} {c:CV} (h:s.eval (.tmp t)=c:=by first|exact s8 rfl|exact s9 rfl rfl rfl|exact tc rfl):BQ P G s (.tmp t) c:=aP h
theorem cX {fn:Func} {e:Exit} {v m:CV} (hres:kt P G fn s v:=by first|exact aA rfl aG|exact bH rfl aG aG|exact er rfl aG aG aG|exact O3 rfl aG aG aG aG|exact bN rfl) (hv:ab v m:=by first|exact cZ|exact ab.nil) (he:e=.ret∨e=.normal:=by first|exact .inl rfl|exact .inr rfl):k7 P G fn (fun r H=>r=m∧H=[]) e s:=Mh he hres hv
theorem aw {α:Type} {k:Nat} {φ:α→Prop} {μ:α→Nat} {D:List Nat} {M:α→List (Nat×CV)} {Hp:α→List (Option Nat×bp)} {b1:Nat→CV} (p':α) (h1:φ p') (h2:μ p'<k) (h5:bZ s.env s.b (M p'):=by (repeat (first|exact bZ.nil|refine bZ.cons cZ ?_|refine bZ.cons (cI jO) ?_))) (h7:aS (s.H.take (Hp p').length) (Hp p'):=by (repeat (first|exact aS.nil|refine aS.same ?_|refine aS.blk rfl (fun j hj=>by rcases j with _|_|_|_|_|_|_|_|j <;> first|exact cZ|exact cI jO|omega) ?_)))
  (h3:yb D b1 s.b:=by first|exact .refl|exact .nest .refl rfl rfl|exact .nest (.nest .refl rfl rfl) rfl rfl|exact .nest (.nest (.nest .refl rfl rfl) rfl rfl) rfl rfl|(repeat (first|exact .refl|refine .nest ?_ rfl rfl|refine yb.look2 ?_ rfl))) (h4:(s.env.all fun x=>D.any (Nat.beq x.1))=true:=by exact rfl) (h6:(Hp p').length≤s.H.length:=by exact Nat.le_of_ble_eq_true rfl) :
  ∃ p',φ p'∧μ p'<k∧yb D b1 s.b∧(s.env.all fun x=>D.any (Nat.beq x.1))=true∧bZ s.env s.b (M p')∧(Hp p').length≤s.H.length∧aS (s.H.take (Hp p').length) (Hp p'):=⟨p',h1,h2,h3,h4,h5,h6,h7⟩
theorem dh {α:Type} {φ:α→Prop} {D:List Nat} {M:α→List (Nat×CV)} {Hp:α→List (Option Nat×bp)} {b1:Nat→CV} (p':α) (h1:φ p') (h5:bZ s.env s.b (M p'):=by (repeat (first|exact bZ.nil|refine bZ.cons cZ ?_|refine bZ.cons (cI jO) ?_))) (h7:aS (s.H.take (Hp p').length) (Hp p'):=by (repeat (first|exact aS.nil|refine aS.same ?_|refine aS.blk rfl (fun j hj=>by rcases j with _|_|_|_|_|_|_|_|j <;> first|exact cZ|exact cI jO|omega) ?_)))
  (h3:yb D b1 s.b:=by first|exact .refl|exact .nest .refl rfl rfl|exact .nest (.nest .refl rfl rfl) rfl rfl|exact .nest (.nest (.nest .refl rfl rfl) rfl rfl) rfl rfl|(repeat (first|exact .refl|refine .nest ?_ rfl rfl|refine yb.look2 ?_ rfl))) (h4:(s.env.all fun x=>D.any (Nat.beq x.1))=true:=by exact rfl) (h6:(Hp p').length≤s.H.length:=by exact Nat.le_of_ble_eq_true rfl) :
  ∃ p',φ p'∧yb D b1 s.b∧(s.env.all fun x=>D.any (Nat.beq x.1))=true∧bZ s.env s.b (M p')∧(Hp p').length≤s.H.length∧aS (s.H.take (Hp p').length) (Hp p'):=⟨p',h1,h3,h4,h5,h6,h7⟩
end
section
variable {G:Gh} {o:Oper} {s:AS}
def MX:CV→Option Nat
 | .err k=>some k
 | .c .nilIface=>some 0
 | _=>none
def MW (op:BinOp) (n:Nat):Option Bool:=match op with|.eql=>some (decide (n=0))|.neq=>some (decide (n≠0))|_=>none
theorem Q1 {op:BinOp} {x:Operand} {u:TypeId} {n:Nat} {z:Bool} (ho:o.op=.binOp op 25 x (.const .nilIface) u:=by exact rfl) (hx:MX (s.eval x)=some n:=by exact rfl) (hz:MW op n=some z:=by exact rfl):cq Tryz.prog G o s (.c (.bool z)):=by
 unfold MX at hx
 cases op <;> simp only [MW,Option.some.injEq,reduceCtorEq] at hz
 all_goals subst hz
 ·split at hx
  ·rename_i h;cases hx;exact NO ho h
  ·rename_i h;cases hx;exact Lj ho h
  ·cases hx
 ·split at hx
  ·rename_i h;cases hx;exact NE ho h
  ·rename_i h;cases hx;exact K9 ho h
  ·cases hx
end
end
end Am
end Go.Proofs.YthlpfjnkieaeeaaGreatDoor
