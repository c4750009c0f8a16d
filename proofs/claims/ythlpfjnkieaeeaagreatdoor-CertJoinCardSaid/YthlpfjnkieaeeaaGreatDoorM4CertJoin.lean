/- What the law leans on, part 4: AmG, AmH, AmI, AmJ, AmM, AmR, SlB, P03, Err, Num, NumC -/
import Derived.Test.YthlpfjnkieaeeaaGreatDoorM3CertJoin
import Derived.Shelf.Abstract
import Derived.Stop.Asserts
import Derived.RowKitTokens

set_option maxRecDepth 100000
namespace Go.Proofs.YthlpfjnkieaeeaaGreatDoor
set_option linter.unusedVariables false
namespace Am
open Go.RowKit
section
def recOP (r:Loop):OP where
 p al St w g F:=(∀ b,F b↔b=g)∧w.heap[g]?=some (.loop r)
 st:=fun he hs hF ⟨h1,h2⟩=>⟨h1,(hF _ ((h1 _).2 rfl)).trans h2⟩
structure RdC where
 N:Nat
 env:List (Nat×CV)
 b:Nat→CV
 ps:Array Tmp
 assign:Code
 body:Code
def mkRec (fn:FuncId) (tmps:Array Value) (L:RdC) (D:Nat) (sp:LoopState×Option Code):Loop:={ state:=sp.1,pending:=sp.2,fn,tmps,params:=L.ps,assign:=L.assign,body:=L.body,defers:=D }
def rndOP {π:Type} (L:RdC) (sp:π→LoopState×Option Code) (HB:π→List (Option Nat×Res)) (φ:π→Prop):OP where
 p al St w g F:=∃ (x:π) (fn:FuncId) (tmps:Array Value) (D:Nat),φ x∧tmps.size=L.N∧(∀ d,RepC al St w (look L.env L.b d) (tmps.getD d undef))∧∃ fp,Foot al St w F (HB x++[(some g,.obj (recOP (mkRec fn tmps L D (sp x))))]) fp
 st:=fun he hs hF ⟨x,fn,tmps,D,h1,h2,h3,fp,h⟩=>⟨x,fn,tmps,D,h1,h2,fun d=>RepC.evo he hs _ _ (h3 d),fp,fun i g r hi=>Res.rep_evo he hs (fun b hb=>hF b ((h.all b).2 ⟨i,hb⟩)) (h.rep i g r hi),h.dis,h.out,h.all⟩

def ACY (gs:List Nat) (P:Program) (l:Nat) (H:List (Option Nat×Res)) (args:List CV) (Q:CV→List (Option Nat×Res)→Prop):Prop :=
 ∀ al w St F0 (vals:Array Value),Entry gs al St F0 H w→vals.size=args.length→(∀ i,RepC al St w (fl args i) (vals.getD i undef)) →
  YieldAt (frd none) 0 P l vals w fun e w'=>∃ v r H' St',e=.returned v∧Q r H'∧RepC al St' w' r v∧Under F0 w w'∧(∀ b,St b→St' b)∧(∀ b,St' b→St b∨w.heap.size≤b∨F0 b)∧(∀ b,St' b→b<w'.heap.size)∧HRel al St' w' w.heap.size F0 H'
def YQ (l:Nat) (J' Jx:OP):CV→List (Option Nat×Res)→Prop:=fun r H'=>(r=.c (.bool true)∧H'=[(some l,.obj J')])∨(r=.c (.bool false)∧H'=[(some l,.obj Jx)])

section
variable {P:Program} {G:Gh} {ops:Array Oper} {o:Oper} {s:AS} {K:AS→Prop} {env:List (Nat×CV)} {b0:Nat→CV} {H:List (Option Nat×Res)} {R:Exit→AS→Prop}

def AMdI (P:Program) (G:Gh) (o:Oper) (s:AS) (K:AS→Prop):Prop:=∀ a w,Rel G s a w→∀ Q,o.wpIn (frd G.rd) 0 P a w (fun a' w'=>∃ s',K s'∧Rel G s' a' w') Q
theorem seq_mdI {r:List Oper} (hw:Wanted G ops o s true) (hy:G.yl=true) (h:AMdI P G o s (fun s'=>ASeq P G ops r s' K)):ASeq P G ops (o::r) s K:=fun a w hr Q hQ=>by
 unfold wpSeq
 obtain ⟨St,hs⟩:=id hr
 rw [if_pos (hw St a w hs)]
 exact .inr ⟨hy,Oper.wpIn_mono (fun a' w' ⟨s',h1,h2⟩=>h1 a' w' h2 Q hQ) (h a w hr Q)⟩

theorem exec_yield {v:Operand} {l:Nat} {xs:Array Operand} {ats:Array TypeId} (ho:o.op=.call ⟨.value v,xs,ats⟩) (a:Act) (hv:a.eval v=.func (.yield l) #[] #[]) {w:World} {x:Next} (h:(Instr.yield l (xs.map a.eval)).run P w=.ok x w) :
  (execOp a.eval o).run P w=.ok x w:=by
 simp [execOp,ho,resolve,hv,Deferred.ofValue,invoke,h]

theorem m_callY {v:Operand} {l:Nat} {xs:Array Operand} {ats:Array TypeId} {args:List CV} {Q:CV→List (Option Nat×Res)→Prop} {i d:Nat} {x0:Option Nat×Res} (ho:o.op=.call ⟨.value v,xs,ats⟩) (hv:(⟨env,b0,H⟩:AS).eval v=.c (.func (.yield l) #[] #[])) (hi:H[i]?=some x0) (hA:ACY G.gs P l [x0] args Q) (he:SEL G ⟨env,b0,H⟩ xs.toList args) (hd:o.dst=some d) (hN:Nat.blt d G.N=true)
  (hK:∀ r H',Q r H'→∃ x r',H'=[x]∧CEnt r r'∧K ⟨(d,r')::env,b0,H.set i x⟩):AMdI P G o ⟨env,b0,H⟩ K:=fun a w ⟨St,hr⟩ Q'=>by
 obtain ⟨h1,h2⟩:=args_se he hr
 obtain ⟨fp,hp⟩:=hr.hp
 have hlt:i<H.length:=(List.getElem?_eq_some_iff.1 hi).1
 obtain ⟨g0,r0⟩:=x0
 have hent:Entry G.gs G.al St (fp i) [(g0,r0)] w:=by
  refine ⟨hr.s3,hr.sn,hr.sg,⟨fun j b=>j=0∧fp i b,fun j g r hj=>?_,fun j l b hj hl=>by omega,fun j b hj=>⟨(hp.own i b hj.2).1,(hp.own i b hj.2).2.1,.inr hj.2⟩,fun j hj b hb=>by simp at hj;omega⟩,fun b hb=>(hp.own i b hb).2.1⟩
  match j,hj with
  | 0,hj =>
   simp at hj
   obtain ⟨rfl,rfl⟩:=hj
   have e:(fun b=>(0:Nat)=0∧fp i b)=fp i:=funext fun b=>by simp
   show r0.rep G.al St w (fun b=>(0:Nat)=0∧fp i b) g0
   rw [e]
   exact hp.rep i g0 r0 hi
  | j+1,hj=>simp at hj
 obtain ⟨fn,tmps,assign,body,hy,hR⟩:=hA G.al w St _ _ hent h1 h2
 refine ⟨fun f _=>trivial,?_⟩
 rw [Oper.semAt_eq _ _ _ (by rw [ho];intro c e;cases e),exec_yield ho a (evC hr hv) hy]
 refine ⟨fun e=>(by cases e),?_⟩
 refine RoundIn.mono (F:=frd none) (n:=0) hR ?_
 rintro e w' ⟨v,r,H',St',rfl,hq,hv,hu,h3,h4,h5,h6⟩
 obtain ⟨x,r',rfl,hce,hk⟩:=hK r H' hq
 refine ⟨_,hk,St',?_⟩
 have h7:=(hr.afterH hp hlt hu h3 h4 h5 h6).put (dst:=o.dst) (v:=r') (x:=v) (by intro d' hd';rw [hd] at hd';cases hd';exact Nat.le_of_ble_eq_true hN) (hce _ _ _ _ hv)
 rw [hd] at h7 ⊢
 exact h7

def penv:List Tmp→List CV→List (Nat×CV)→List (Nat×CV)
 | p::ps,c::cs,env=>penv ps cs ((p,c)::env)
 | _,_,env=>env
theorem penv_rep {al:List Addr} {St:Nat→Prop} {w:World} {b:Nat→CV} {N:Nat}:∀ (ps:List Tmp) (cs:List CV) (vs:List Value) (env:List (Nat×CV)) (tmps:Array Value),tmps.size=N→(∀ d,RepC al St w (look env b d) (tmps.getD d undef))→ps.length=cs.length→vs.length=cs.length→(∀ p ∈ ps,p<N)→(∀ i,i<cs.length→RepC al St w (fl cs i) (vs.getD i undef)) →
  ((ps.zip vs).foldl (fun t (p,v)=>t.setIfInBounds p v) tmps).size=N∧∀ d,RepC al St w (look (penv ps cs env) b d) (((ps.zip vs).foldl (fun t (p,v)=>t.setIfInBounds p v) tmps).getD d undef)
 | [],cs,vs,env,tmps,h1,h2,_,_,_,_=>⟨by simpa using h1,by simpa [penv] using h2⟩
 | p::ps,[],vs,env,tmps,_,_,h3,_,_,_=>by simp at h3
 | p::ps,c::cs,[],env,tmps,_,_,_,h4,_,_=>by simp at h4
 | p::ps,c::cs,v::vs,env,tmps,h1,h2,h3,h4,h5,h6=>by
  simp only [List.zip_cons_cons,List.foldl_cons,penv]
  refine penv_rep ps cs vs _ _ (by simpa using h1) (fun d=>?_) (by simpa using h3) (by simpa using h4) (fun q hq=>h5 q (List.mem_cons_of_mem _ hq)) (fun i hi=>?_)
  ·by_cases hpd:p=d
   ·subst hpd
    rw [look_same]
    have h0:=h6 0 (by simp)
    have hlt:p<tmps.size:=by rw [h1];exact h5 p (List.mem_cons_self ..)
    simpa [hlt,fl] using h0
   ·rw [look_other _ _ _ hpd]
    have:=h2 d
    simpa [Array.getElem?_setIfInBounds_ne hpd] using this
  ·have:=h6 (i+1) (by simp;omega)
   simpa [fl] using this

theorem set_last {α:Type} (l:List α) (x y:α):(l++[x]).set l.length y=l++[y]:=by
 rw [List.set_append_right _ _ (Nat.le_refl _)];simp
theorem get_last {α:Type} (l:List α) (x:α):(l++[x])[l.length]?=some x:=by simp

theorem HRel.packR {al:List Addr} {St:Nat→Prop} {w:World} {base:Nat} {F0:Nat→Prop} {π:Type} {L:RdC} {sp:π→LoopState×Option Code} {HB:π→List (Option Nat×Res)} {φ:π→Prop} {l:Nat} {x:π} {fn:FuncId} {tmps:Array Value} {D:Nat} (hx:φ x) (hs:tmps.size=L.N) (he:∀ d,RepC al St w (look L.env L.b d) (tmps.getD d undef))
  (h:HRel al St w base F0 (HB x++[(some l,.obj (recOP (mkRec fn tmps L D (sp x))))])):HRel al St w base F0 [(some l,.obj (rndOP L sp HB φ))]:=by
 obtain ⟨fp,hp⟩:=h
 refine ⟨fun j b=>j=0∧∃ i,fp i b,fun j g r hj=>?_,fun i j b hi hj=>by omega,fun i b hi=>?_,fun i hi b hb=>by simp at hi;omega⟩
 ·match j,hj with
  | 0,hj =>
   simp at hj
   obtain ⟨rfl,rfl⟩:=hj
   exact ⟨x,fn,tmps,D,hx,hs,he,fp,fun i g r hi=>hp.rep i g r hi,hp.dis,hp.out,fun b=>by simp⟩
  | j+1,hj=>simp at hj
 ·obtain ⟨_,k,hk⟩:=hi
  exact hp.own k b hk

def roundR {π q:Type} (l:Nat) (R1:OP) (HB:π→List (Option Nat×Res)) (φ':π→Prop) (HX:q→List (Option Nat×Res)) (χ:Code→q→Prop):Exit→AS→Prop
 | .normal,s=>∃ x,φ' x∧(HB x).length+1≤s.H.length∧HEnt (s.H.take ((HB x).length+1)) (HB x++[(some l,.obj R1)])
 | .ret,s=>∃ x,χ .ret x∧(HX x).length+1≤s.H.length∧HEnt (s.H.take ((HX x).length+1)) (HX x++[(some l,.obj R1)])
 | .exit id,s=>∃ x,χ (.exit id) x∧(HX x).length+1≤s.H.length∧HEnt (s.H.take ((HX x).length+1)) (HX x++[(some l,.obj R1)])
 | _,_=>False
def assignR (P:Program) (G:Gh) (body:Code) (B:List (Option Nat×Res)) (l:Nat) (R0 R1:OP) (RE:Exit→AS→Prop):Exit→AS→Prop
 | .normal,s=>∃ env b,s=⟨env,b,B++[(some l,.obj R0)]⟩∧ACode P G body ⟨env,b,B++[(some l,.obj R1)]⟩ RE
 | _,_=>False

theorem RelSt.take_h {St:Nat→Prop} {a:Act} {w:World} {B:List (Option Nat×Res)} (h:RelSt G St s a w) (hl:B.length≤s.H.length) (he:HEnt (s.H.take B.length) B):RelSt G St ⟨s.env,s.b,B⟩ a w:=by
 have h1:=h.hp.pick (List.range B.length) (range_nodup _) (pickL_range _ _ hl)
 exact ⟨h.df,h.sz,h.env,h.un,h.s1,h.s2,h.s3,h1.hent he,h.sn,h.sg⟩

theorem RelSt.turnRec {St:Nat→Prop} {a:Act} {w:World} {B:List (Option Nat×Res)} {l:Nat} {r r':Loop} (h:RelSt G St ⟨env,b0,B++[(some l,.obj (recOP r))]⟩ a w) :
  w.heap[l]?=some (.loop r)∧RelSt G St ⟨env,b0,B++[(some l,.obj (recOP r'))]⟩ a (w.putObj l (.loop r')):=by
 obtain ⟨fp,hp⟩:=id h.hp
 obtain ⟨hF,hg⟩:=hp.rep B.length (some l) _ (get_last _ _)
 have hlt:l<w.heap.size:=(Array.getElem?_eq_some_iff.1 hg).1
 refine ⟨hg,?_⟩
 have:=h.turnObj (i:=B.length) (g:=l) (p:=recOP r) (p':=recOP r') (w':=w.putObj l (.loop r')) (get_last _ _) (fun F h=>h.1) (fun cur t z he=>by rw [hg] at he;cases he) rfl rfl rfl (by simp) (fun b hb=>World.putObj_heap_other hb) ⟨fun b=>Iff.rfl,World.putObj_heap_same hlt⟩
 rw [set_last] at this
 exact this

theorem round_post {π:Type} {gs:List Nat} {al:List Addr} {l:Nat} {w W:World} {F0 St0 St:Nat→Prop} {N:Nat} {L:RdC} {sp:π→LoopState×Option Code} {HB:π→List (Option Nat×Res)} {φ:π→Prop} {env0:List (Nat×CV)} {b:Nat→CV} {x:π} {a:Act} {fn:FuncId} {tmps:Array Value} {D:Nat} {jump:Option Code} {Q:CV→List (Option Nat×Res)→Prop}
  (hent:∀ b,F0 b→¬ St0 b) (h3:∀ b,St0 b→b<w.heap.size) (hx:φ x) (hs:tmps.size=L.N) (henv:∀ d,RepC al St0 w (look L.env L.b d) (tmps.getD d undef))
  (hsp:sp x=(if jump.isNone then .ready else .done,jump))
  (hr:RelSt ⟨gs,al,w,F0,St0,N,some l,false⟩ St ⟨env0,b,HB x++[(some l,.obj (recOP { mkRec fn tmps L D (.ready,none) with state:=.busy }))]⟩ a W) (hQ:Q (.c (.bool jump.isNone)) [(some l,.obj (rndOP L sp HB φ))]) :
  ∃ v w',(Instr.endRound l jump).run P W=.ok v w'∧∃ v' r H' St',Ending.returned v=.returned v'∧Q r H'∧RepC al St' w' r v'∧Under F0 w w'∧(∀ b,St0 b→St' b)∧(∀ b,St' b→St0 b∨w.heap.size≤b∨F0 b)∧(∀ b,St' b→b<w'.heap.size)∧HRel al St' w' w.heap.size F0 H':=by
 obtain ⟨hg,hr2⟩:=hr.turnRec (r':=mkRec fn tmps L D (sp x))
 refine ⟨_,_,run_endRound jump hg,.bool jump.isNone,_,_,St,rfl,hQ,rfl,?_⟩
 have e:({ { mkRec fn tmps L D (.ready,none) with state:=LoopState.busy } with state:=if jump.isNone then LoopState.ready else LoopState.done,pending:=jump }:Loop)=mkRec fn tmps L D (sp x):=by rw [hsp];rfl
 rw [e]
 have hev:Evo St0 w (W.putObj l (.loop (mkRec fn tmps L D (sp x)))):=⟨fun b cur t z hb hc=>(hr2.un.block b (h3 b hb) (fun hf=>hent b hf hb)).trans hc,hr2.un.sh⟩
 exact ⟨hr2.un,hr2.s1,hr2.s2,hr2.s3,HRel.packR hx hs (fun d=>RepC.evo hev hr2.s1 _ _ (henv d)) hr2.hp⟩

theorem acy_round {gs:List Nat} {π q:Type} {l:Nat} {L:RdC} {HB:π→List (Option Nat×Res)} {φ φ':π→Prop} {HX:q→List (Option Nat×Res)} {χ:Code→q→Prop} {args:List CV} (hn:L.ps.toList.length=args.length) (hps:∀ p ∈ L.ps.toList,p<L.N)
  (hb:∀ (al:List Addr) (w0:World) (F0 St0:Nat→Prop) (R0 R1:OP) (x:π),φ x→ACode P ⟨gs,al,w0,F0,St0,L.N,some l,false⟩ L.assign ⟨penv L.ps.toList args L.env,L.b,HB x++[(some l,.obj R0)]⟩ (assignR P ⟨gs,al,w0,F0,St0,L.N,some l,false⟩ L.body (HB x) l R0 R1 (roundR l R1 HB φ' HX χ))) :
  ACY gs P l [(some l,.obj (rndOP L (fun _=>(.ready,none)) HB φ))] args (YQ l (rndOP L (fun _=>(.ready,none)) HB φ') (rndOP L (fun x:Code×q=>(.done,some x.1)) (fun x=>HX x.2) (fun x=>χ x.1 x.2))):=by
 intro al w St F0 vals he hvs hv
 obtain ⟨fp,hp⟩:=he.hp
 obtain ⟨x,fn,tmps,D,hx,hsz,henv,fq,hf⟩:=hp.rep 0 (some l) _ rfl
 obtain ⟨hFl,hg⟩:=hf.rep (HB x).length (some l) _ (get_last _ _)
 have hlen:L.ps.size=args.length:=by simpa using hn
 have hy:=run_yield (P:=P) (args:=vals) hg (by rw [hvs];exact hlen.symm)
 refine ⟨_,_,_,_,hy,roundIn_of_wpIn trivial ?_⟩
 have hpe:=penv_rep (al:=al) (St:=St) (w:=w) (b:=L.b) (N:=L.N) L.ps.toList args vals.toList L.env tmps hsz henv hn (by simpa using hvs) hps (fun i hi=>by
  have:=hv i
  simpa using this)
 have hfold:(L.ps.toList.zip vals.toList).foldl (fun t (p,v)=>t.setIfInBounds p v) tmps=((mkRec fn tmps L D (.ready,none)).params.zip vals).foldl (fun tmps (t,a)=>tmps.setIfInBounds t a) (mkRec fn tmps L D (.ready,none)).tmps:=by
  rw [← Array.foldl_toList,Array.toList_zip]
  rfl
 rw [hfold] at hpe
 have hrel:RelSt ⟨gs,al,w,F0,St,L.N,some l,false⟩ St ⟨penv L.ps.toList args L.env,L.b,HB x++[(some l,.obj (recOP (mkRec fn tmps L D (.ready,none))))]⟩ { tmps:=((mkRec fn tmps L D (.ready,none)).params.zip vals).foldl (fun tmps (t,a)=>tmps.setIfInBounds t a) (mkRec fn tmps L D (.ready,none)).tmps,defers:=[] } w :=
  ⟨DefOk.none _ _ _,hpe.1,hpe.2,Under.refl _ _,fun _ h=>h,fun _ h=>.inl h,he.s3,⟨fq,fun i g r hi=>hf.rep i g r hi,hf.dis,fun i b hi=>hp.own 0 b ((hf.all b).2 ⟨i,hi⟩),hf.out⟩,he.sn,he.sg⟩
 refine (hb al w F0 St (recOP (mkRec fn tmps L D (.ready,none))) (recOP { mkRec fn tmps L D (.ready,none) with state:=.busy }) x hx) _ _ ⟨St,hrel⟩ _ ?_
 intro e s1 a1 w1 h1 h2
 cases e with
 | normal =>
  obtain ⟨env1,b1,rfl,hbody⟩:=h1
  obtain ⟨St1,hr1⟩:=h2
  obtain ⟨hg1,hr2⟩:=hr1.turnRec (r':={ mkRec fn tmps L D (.ready,none) with state:=.busy })
  refine ⟨_,run_beginRound hg1 rfl,hbody a1 _ ⟨St1,hr2⟩ _ ?_⟩
  intro e s2 a2 w2 h3 ⟨St2,hr3⟩
  cases e with
  | normal =>
   obtain ⟨x',hx',hl',hh'⟩:=h3
   have hr4:=hr3.take_h (B:=HB x'++[(some l,.obj (recOP { mkRec fn tmps L D (.ready,none) with state:=.busy }))]) (by simpa using hl') (by simpa using hh')
   exact round_post (jump:=none) he.f0 he.s3 hx' hsz henv rfl hr4 (.inl ⟨rfl,rfl⟩)
  | ret =>
   obtain ⟨x',hx',hl',hh'⟩:=h3
   have hr4:=hr3.take_h (B:=HX x'++[(some l,.obj (recOP { mkRec fn tmps L D (.ready,none) with state:=.busy }))]) (by simpa using hl') (by simpa using hh')
   exact round_post (x:=(Code.ret,x')) (HB:=fun x:Code×q=>HX x.2) (φ:=fun x=>χ x.1 x.2) (sp:=fun x:Code×q=>(.done,some x.1)) (jump:=some .ret) he.f0 he.s3 hx' hsz henv rfl hr4 (.inr ⟨rfl,rfl⟩)
  | exit id =>
   obtain ⟨x',hx',hl',hh'⟩:=h3
   have hr4:=hr3.take_h (B:=HX x'++[(some l,.obj (recOP { mkRec fn tmps L D (.ready,none) with state:=.busy }))]) (by simpa using hl') (by simpa using hh')
   exact round_post (x:=(Code.exit id,x')) (HB:=fun x:Code×q=>HX x.2) (φ:=fun x=>χ x.1 x.2) (sp:=fun x:Code×q=>(.done,some x.1)) (jump:=some (.exit id)) he.f0 he.s3 hx' hsz henv rfl hr4 (.inr ⟨rfl,rfl⟩)
  | _=>exact h3.elim
 | _=>exact h1.elim
end
end
section
section
variable {P:Program} {G:Gh} {s:AS} {R:Exit→AS→Prop}

def IterC (gs:List Nat) (P:Program) (f:FuncId) (HI:List (Option Nat×Res)) (capt:List CV) (m:Nat) (E:Nat→List CV):Prop :=
 ∀ (l:Nat) (J:Nat→OP) (Jx:OP),(∀ k,k<m→ACY gs P l [(some l,.obj (J k))] (E k) (YQ l (J (k+1)) Jx)) →
  AC gs P f (HI++[(some l,.obj (J 0))]) (.c (.func (.yield l) #[] #[])::capt) fun _ H'=>H'=[(some l,.obj (J m))]∨H'=[(some l,.obj Jx)]

theorem code_range {fi n:Nat} {fv:Nat→CV} {g:Operand} {ps:Array Tmp} {assign body:Code} {π q:Type} (m:Nat) (E:Nat→List CV) (HI:List (Option Nat×Res)) (HB:π→List (Option Nat×Res)) (φ:Nat→π→Prop) (HX:q→List (Option Nat×Res)) (χ:Code→q→Prop) (p0:π) (li:List Nat)
  (hrd:G.rd=none) (hg:s.eval g=.fn fi n fv) (hc:calleeB P fi=true) (hit:IterC G.gs P fi HI ((List.range n).map fv) m E) (h0:φ 0 p0) (hnd:li.Nodup) (hpick:pickL s.H li=HI++HB p0)
  (hps:∀ k,k<m→ps.toList.length=(E k).length) (hpN:(ps.toList.all fun p=>Nat.blt p G.N)=true)
  (hround:∀ k,k<m→∀ (l:Nat) (al:List Addr) (w0:World) (F0 St0:Nat→Prop) (R0 R1:OP) (x:π),φ k x→ACode P ⟨G.gs,al,w0,F0,St0,G.N,some l,false⟩ assign ⟨penv ps.toList (E k) s.env,s.b,HB x++[(some l,.obj R0)]⟩ (assignR P ⟨G.gs,al,w0,F0,St0,G.N,some l,false⟩ body (HB x) l R0 R1 (roundR l R1 HB (φ (k+1)) HX χ)))
  (hdone:∀ x,φ m x→R .normal ⟨s.env,s.b,HB x⟩) (hjump:∀ c x,χ c x→(c=.ret∧R .ret ⟨s.env,s.b,HX x⟩)∨∃ id,c=.exit id∧R (.exit id) ⟨s.env,s.b,HX x⟩):ACode P G (.rangeFunc g ps assign body) s R:=fun a w ⟨St,hr⟩ Q hQ=>by
 obtain ⟨cs,hcs,hcn,hfv⟩:=evR hr hg
 rw [hrd]
 refine wpIn_rangeFunc fun fn _=>?_
 obtain ⟨L,hL⟩:∃ L:RdC,L=⟨G.N,s.env,s.b,ps,assign,body⟩:=⟨_,rfl⟩
 obtain ⟨w1,hw1⟩:∃ w1,w1=(w.alloc (.deferred (some []))).alloc (.loop (mkRec fn a.tmps L w.heap.size (.ready,none))):=⟨_,rfl⟩
 have hb1:Below w.heap.size w w1:=by rw [hw1];exact ((Below.refl _ w).alloc (Nat.le_refl _) _).alloc (by simp) _
 have hsz1:w1.heap.size=w.heap.size+2:=by rw [hw1];simp
 have hL1:w1.heap[w.heap.size+1]?=some (.loop (mkRec fn a.tmps L w.heap.size (.ready,none))):=by
  rw [hw1];have:=World.alloc_heap_new (w.alloc (.deferred (some []))) (.loop (mkRec fn a.tmps L w.heap.size (.ready,none)));rwa [World.size_alloc] at this
 have hD1:w1.heap[w.heap.size]?=some (.deferred (some [])):=by
  rw [hw1];exact (Below.heap_alloc _ _ _ (by simp)).trans (World.alloc_heap_new w _)
 -- the blocks that are handed over
 obtain ⟨fp,hp⟩:=hr.hp.pick li hnd hpick
 have hev1:Evo St w w1:=Evo.of_below hb1 hr.s3
 let l:=w.heap.size+1
 let D:=w.heap.size
 let St1:Nat→Prop:=fun b=>St b∨b=D
 let F1:Nat→Prop:=fun b=>(∃ i,fp i b)∨b=l
 have hfl:∀ i b,fp i b→b<D:=fun i b hi=>(hp.own i b hi).1
 have hst1:∀ b,St b→St1 b:=fun _ h=>.inl h
 have hrep:∀ (i:Nat) (g:Option Nat) (r:Res),(HI++HB p0)[i]?=some (g,r)→r.rep G.al St1 w1 (fp i) g:=fun i g r hi=>Res.rep_evo hev1 hst1 (fun b hF=>hb1.block b (hp.own i b hF).1) (hp.rep i g r hi)
 have hrec:Res.rep G.al St1 w1 (fun b=>b=l) (some l) (.obj (recOP (mkRec fn a.tmps L D (.ready,none)))):=⟨fun b=>Iff.rfl,hL1⟩
 have henv1:∀ d,RepC G.al St1 w1 (look s.env s.b d) (a.tmps.getD d undef):=fun d=>RepC.evo hev1 hst1 _ _ (hr.env d)
 have hent:Entry G.gs G.al St1 F1 (HI++[(some l,.obj (rndOP L (fun _=>(.ready,none)) HB (φ 0)))]) w1:=by
  refine ⟨fun b hb=>?_,(hr.ext hb1).sn,⟨fun g hg=>.inl (hr.sg.1 g hg),fun x hx=>.inl (hr.sg.2 x hx)⟩,⟨fun i b=>(i<HI.length∧fp i b)∨(i=HI.length∧(b=l∨∃ j,HI.length≤j∧fp j b)),fun i g r hi=>?_,fun i j b hi hj=>?_,fun i b hi=>?_,fun i hi b hb=>?_⟩,fun b hb=>?_⟩
  ·rcases hb with hb|rfl
   ·exact Nat.lt_of_lt_of_le (hr.s3 b hb) hb1.size
   ·show w.heap.size<_;omega
  ·by_cases h1:i<HI.length
   ·rw [List.getElem?_append_left h1] at hi
    have e:(fun b=>(i<HI.length∧fp i b)∨(i=HI.length∧(b=l∨∃ j,HI.length≤j∧fp j b)))=fp i:=funext fun b=>propext ⟨fun h=>h.elim (fun h=>h.2) (fun h=>by omega),fun h=>.inl ⟨h1,h⟩⟩
    show r.rep G.al St1 w1 (fun b=>(i<HI.length∧fp i b)∨(i=HI.length∧(b=l∨∃ j,HI.length≤j∧fp j b))) g
    rw [e]
    exact hrep i g r (by rw [List.getElem?_append_left h1];exact hi)
   ·have h2:i=HI.length:=by
     have:=(List.getElem?_eq_some_iff.1 hi).1
     simp at this
     omega
    subst h2
    simp at hi
    obtain ⟨rfl,rfl⟩:=hi
    refine ⟨p0,fn,a.tmps,D,h0,by rw [hL];exact hr.sz,by rw [hL];exact henv1,fun j b=>if j<(HB p0).length then fp (HI.length+j) b else j=(HB p0).length∧b=l,fun j g r hj=>?_,fun i j b hi hj=>?_,fun j hj b hb=>?_,fun b=>⟨fun hb=>?_,fun ⟨j,hj⟩=>?_⟩⟩
    ·by_cases h3:j<(HB p0).length
     ·rw [List.getElem?_append_left h3] at hj
      simp only [h3,if_true]
      exact hrep _ g r (by rw [List.getElem?_append_right (by omega),Nat.add_sub_cancel_left];exact hj)
     ·have h4:j=(HB p0).length:=by
       have:=(List.getElem?_eq_some_iff.1 hj).1
       simp at this
       omega
      subst h4
      simp at hj
      obtain ⟨rfl,rfl⟩:=hj
      have e:(fun b=>if (HB p0).length<(HB p0).length then fp (HI.length+(HB p0).length) b else (HB p0).length=(HB p0).length∧b=l)=fun b=>b=l:=funext fun b=>by simp
      show Res.rep G.al St1 w1 (fun b=>if (HB p0).length<(HB p0).length then fp (HI.length+(HB p0).length) b else (HB p0).length=(HB p0).length∧b=l) _ _
      rw [e]
      exact hrec
    ·by_cases h3:i<(HB p0).length <;> by_cases h4:j<(HB p0).length <;> simp only [h3,h4,if_true,if_false] at hi hj
     ·have:=hp.dis _ _ b hi hj;omega
     ·have:=hfl _ b hi;obtain ⟨_,rfl⟩:=hj;simp only [l,D] at this;omega
     ·have:=hfl _ b hj;obtain ⟨_,rfl⟩:=hi;simp only [l,D] at this;omega
     ·omega
    ·have h3:¬ j<(HB p0).length:=by simp at hj;omega
     simp only [h3,if_false] at hb
     simp at hj;omega
    ·rcases hb with ⟨h5,_⟩|⟨_,rfl|⟨j,hj,hF⟩⟩
     ·omega
     ·exact ⟨(HB p0).length,by simp⟩
     ·refine ⟨j-HI.length,?_⟩
      have h5:j<(HI++HB p0).length:=hp.len hF
      rw [if_pos (by simp at h5;omega),show HI.length+(j-HI.length)=j by omega]
      exact hF
    ·by_cases h3:j<(HB p0).length
     ·simp only [h3,if_true] at hj
      exact .inr ⟨rfl,.inr ⟨_,by omega,hj⟩⟩
     ·simp only [h3,if_false] at hj
      exact .inr ⟨rfl,.inl hj.2⟩
  ·rcases hi with ⟨h1,h2⟩|⟨h1,h2⟩ <;> rcases hj with ⟨h3,h4⟩|⟨h3,h4⟩
   ·exact hp.dis i j b h2 h4
   ·rcases h4 with rfl|⟨k,hk,h4⟩
    ·have:=hfl _ _ h2;simp only [l,D] at this;omega
    ·have:=hp.dis _ _ b h2 h4;omega
   ·rcases h2 with rfl|⟨k,hk,h2⟩
    ·have:=hfl _ _ h4;simp only [l,D] at this;omega
    ·have:=hp.dis _ _ b h2 h4;omega
   ·omega
  ·have hb:b=l∨∃ j,fp j b:=by
    rcases hi with ⟨_,h2⟩|⟨_,h2|⟨j,_,h2⟩⟩
    ·exact .inr ⟨_,h2⟩
    ·exact .inl h2
    ·exact .inr ⟨j,h2⟩
   rcases hb with rfl|⟨j,hj⟩
   ·refine ⟨by simp only [l];omega,fun hs=>?_,.inr (.inr rfl)⟩
    rcases hs with hs|hs
    ·have:=hr.s3 _ hs;simp only [l] at this;omega
    ·simp only [l,D] at hs;omega
   ·obtain ⟨k1,k2,k3⟩:=hp.own j b hj
    refine ⟨by omega,fun hs=>?_,.inr (.inl ⟨j,hj⟩)⟩
    rcases hs with hs|hs
    ·exact k2 hs
    ·simp only [D] at hs;omega
  ·simp at hi
   rcases hb with ⟨h1,_⟩|⟨h1,_⟩ <;> omega
  ·intro hs
   rcases hb with ⟨j,hj⟩|rfl
   ·obtain ⟨k1,k2,k3⟩:=hp.own j b hj
    rcases hs with hs|hs
    ·exact k2 hs
    ·simp only [D] at hs;omega
   ·rcases hs with hs|hs
    ·have:=hr.s3 _ hs;simp only [l] at this;omega
    ·simp only [l,D] at hs;omega
 have hround':∀ k,k<m→ACY G.gs P l [(some l,.obj (rndOP L (fun _=>(.ready,none)) HB (φ k)))] (E k) (YQ l (rndOP L (fun _=>(.ready,none)) HB (φ (k+1))) (rndOP L (fun x:Code×q=>(.done,some x.1)) (fun x=>HX x.2) (fun x=>χ x.1 x.2))):=fun k hk=>by
  refine acy_round (by rw [hL];exact hps k hk) (fun p hp=>?_) (fun al w0 F0 St0 R0 R1 x hx=>?_)
  ·rw [hL] at hp ⊢
   exact Nat.le_of_ble_eq_true (List.all_eq_true.1 hpN p hp)
  ·rw [hL]
   exact hround k hk l al w0 F0 St0 R0 R1 x hx
 have hA:=hit l (fun k=>rndOP L (fun _=>(.ready,none)) HB (φ k)) _ hround'
 have hvals:(#[.func (.yield l) #[] #[]]++cs:Array Value).size=(.c (.func (.yield l) #[] #[])::(List.range n).map fv:List CV).length:=by simp [hcn];omega
 have hcall:=hA G.al w1 St1 F1 (#[.func (.yield l) #[] #[]]++cs) hent hvals (fun i=>by
  cases i with
  | zero =>
   show (#[Value.func (.yield l) #[] #[]]++cs).getD 0 undef=_
   rw [Array.getD_eq_getD_getElem?,Array.getElem?_append_left (by simp)]
   rfl
  | succ i =>
   rw [fl,fl_get]
   by_cases hi:i<n
   ·have:=RepC.evo hev1 hst1 _ _ (hfv i hi)
    simp only [List.getD,List.getElem?_map,List.getElem?_range hi,Option.map_some,Option.getD_some,Array.getD_eq_getD_getElem?]
    rw [Array.getElem?_append_right (by simp)]
    simpa [Array.getD_eq_getD_getElem?] using this
   ·simp only [List.getD,List.getElem?_eq_none (show ((List.range n).map fv).length≤i by simp;omega),Option.getD_none]
    trivial)
 have e0:[({ target:=.collected w.heap.size,args:=#[] }:Deferred)]++a.defers=markD D::a.defers:=rfl
 refine ⟨l,[{ target:=.collected w.heap.size,args:=#[] }],w1,{ target:=.fn (.func fi) cs,args:=#[.func (.yield l) #[] #[]] },w1,fi,#[.func (.yield l) #[] #[]]++cs,w1,?_,?_,fun _ _=>trivial,?_,fun h=>(by cases h),?_⟩
 ·rw [hw1]
  have:=run_enterLoop_outer (P:=P) (w:=w) fn a.tmps ps assign body
  rw [hL]
  exact this
 ·simp only [resolve,hcs]
  simp [go_sem]
 ·have:=run_enter hc (#[.func (.yield l) #[] #[]]++cs) w1
  simp [invoke,go_sem,this]
 ·refine CallsIn.mono (callsIn_frd.2 hcall) ?_
  rintro e w3 ⟨v,r',H',St',rfl,hq,_,hu,h3,h4,h5,h6⟩
  -- the loop's end,whichever
  have key:∀ {γ:Type} {sp:γ→LoopState×Option Code} {HC:γ→List (Option Nat×Res)} {ψ:γ→Prop},H'=[(some l,.obj (rndOP L sp HC ψ))]→(∀ x,(sp x).1≠.busy)→∃ x:γ,ψ x∧∃ w4,(Instr.endLoop l).run P w3=.ok (sp x).2 w4∧Rel G ⟨s.env,s.b,HC x⟩ { a with defers:=[{ target:=.collected w.heap.size,args:=#[] }]++a.defers } w4:=by
   intro γ sp HC ψ hH hbusy
   subst hH
   obtain ⟨fz,hz⟩:=h6
   obtain ⟨x,fn',tmps',D',hx,_,_,fq,hf⟩:=hz.rep 0 (some l) _ rfl
   obtain ⟨hFl,hgl⟩:=hf.rep (HC x).length (some l) _ (get_last _ _)
   have hlt:l<w3.heap.size:=(Array.getElem?_eq_some_iff.1 hgl).1
   refine ⟨x,hx,_,run_endLoop hgl (hbusy x),St',?_⟩
   obtain ⟨w4,hw4⟩:∃ w4,w4=w3.putObj l (.loop { mkRec fn' tmps' L D' (sp x) with state:=.exhausted }):=⟨_,rfl⟩
   rw [← hw4]
   have hold:∀ b,b≠l→w4.heap[b]?=w3.heap[b]?:=fun b hb=>by rw [hw4];exact World.putObj_heap_other hb
   have hs4:w4.heap.size=w3.heap.size:=by rw [hw4];simp
   have hf0:∀ b,F1 b→¬ St1 b:=hent.f0
   have hnl:∀ b,St1 b→b≠l:=fun b hb e=>hf0 b (.inr e) hb
   have hkeep:∀ b,St1 b→w4.heap[b]?=w1.heap[b]?:=fun b hb=>(hold b (hnl b hb)).trans (hu.block b (hent.s3 b hb) (fun hF=>hf0 b hF hb))
   have hkeep0:∀ b,St b→w4.heap[b]?=w.heap[b]?:=fun b hb=>(hkeep b (.inl hb)).trans (hb1.block b (hr.s3 b hb))
   have hnc:∀ cur t z,w3.heap[l]?≠some (.cells cur t z):=fun cur t z e=>by rw [hgl] at e;cases e
   have hev:Evo St w w4:=⟨fun b cur t z hb hc=>(hkeep0 b hb).trans hc,fun b cur t z hc=>by
    obtain ⟨c1,z1,k1,k2⟩:=hev1.sh b cur t z hc
    obtain ⟨c2,z2,k3,k4⟩:=hu.sh b c1 t z1 k1
    refine ⟨c2,z2,(hold b (fun e=>?_)).trans k3,k4.trans k2⟩
    rw [e] at k3
    exact hnc _ _ _ k3⟩
   have hev3:Evo St' w3 w4:=⟨fun b cur t z hb hc=>(hold b (fun e=>by rw [e] at hc;exact hnc _ _ _ hc)).trans hc,fun b cur t z hc=>⟨cur,z,(hold b (fun e=>by rw [e] at hc;exact hnc _ _ _ hc)).trans hc,rfl⟩⟩
   refine ⟨?_,hr.sz,fun d=>RepC.evo hev (fun b hb=>h3 b (.inl hb)) _ _ (hr.env d),⟨?_,?_,?_,?_,fun k hk hF=>?_,fun b cur t z hc=>?_⟩,fun b hb=>h3 b (.inl (hr.s1 b hb)),fun b hb=>?_,fun b hb=>by rw [hs4];exact h5 b hb,⟨fun j b=>j<(HC x).length∧fq j b,fun j g r hj=>?_,fun i j b hi hj=>hf.dis i j b hi.2 hj.2,fun j b hj=>?_,fun j hj b hb=>?_⟩,?_,⟨fun g hg=>h3 g (.inl (hr.sg.1 g hg)),fun y hy=>h3 _ (.inl (hr.sg.2 y hy))⟩⟩
   ·obtain ⟨Ds,k1,k2,k3⟩:=hr.df
    refine ⟨D::Ds,by rw [e0,k1];rfl,List.nodup_cons.2 ⟨fun hm=>?_,k2⟩,fun E hE=>?_⟩
    ·have:=(Array.getElem?_eq_some_iff.1 (k3 D hm).1.2).1
     simp only [D] at this
     omega
    ·rcases List.mem_cons.1 hE with rfl|hE
     ·refine ⟨⟨h3 _ (.inr rfl),(hkeep _ (.inr rfl)).trans hD1⟩,hr.un.size,fun hm=>?_,fun y hy e=>?_⟩
      ·have:=hr.sn.lt _ hm;simp only [D] at this;omega
      ·have:=hr.s3 _ (hr.sg.2 y hy);simp only [e,D] at this;omega
     ·obtain ⟨⟨k4,k5⟩,k6⟩:=k3 E hE
      exact ⟨⟨h3 _ (.inl k4),(hkeep0 E k4).trans k5⟩,k6⟩
   ·rw [hw4];exact (hu.os.trans hb1.os).trans hr.un.os
   ·rw [hw4];exact (hu.tape.trans hb1.tape).trans hr.un.tape
   ·rw [hw4];exact (hu.output.trans hb1.output).trans hr.un.output
   ·rw [hs4];exact Nat.le_trans hr.un.size (Nat.le_trans hb1.size hu.size)
   ·have hkw:k<w.heap.size:=Nat.lt_of_lt_of_le hk hr.un.size
    refine (hold k (by simp only [l];omega)).trans ((hu.block k (by omega) (fun hF1=>?_)).trans ((hb1.block k hkw).trans (hr.un.block k hk hF)))
    rcases hF1 with ⟨i,hi⟩|e
    ·rcases (hp.own i k hi).2.2 with k1|k1
     ·omega
     ·exact hF k1
    ·simp only [l] at e;omega
   ·obtain ⟨c1,z1,k1,k2⟩:=hr.un.sh b cur t z hc
    obtain ⟨c2,z2,k3,k4⟩:=hev.sh b c1 t z1 k1
    exact ⟨c2,z2,k3,k4.trans k2⟩
   ·rcases h4 b hb with (hb|hb)|hb|hb
    ·exact hr.s2 b hb
    ·exact .inr (.inl (by simp only [D] at hb;have:=hr.un.size;omega))
    ·exact .inr (.inl (Nat.le_trans hr.un.size (by omega)))
    ·rcases hb with ⟨i,hi⟩|hb
     ·exact .inr (hp.own i b hi).2.2
     ·exact .inr (.inl (by simp only [l] at hb;have:=hr.un.size;omega))
   ·have hlt2:j<(HC x).length:=(List.getElem?_eq_some_iff.1 hj).1
    have e:(fun b=>j<(HC x).length∧fq j b)=fq j:=funext fun b=>propext ⟨fun h=>h.2,fun h=>⟨hlt2,h⟩⟩
    show r.rep G.al St' w4 (fun b=>j<(HC x).length∧fq j b) g
    rw [e]
    refine Res.rep_evo hev3 (fun _ h=>h) (fun b hF=>hold b (fun eb=>?_)) (hf.rep j g r (by rw [List.getElem?_append_left hlt2];exact hj))
    have:=hf.dis j (HC x).length b hF ((hFl b).2 eb)
    omega
   ·obtain ⟨k1,k2,k3⟩:=hz.own 0 b ((hf.all b).2 ⟨j,hj.2⟩)
    refine ⟨by omega,k2,?_⟩
    rcases k3 with k3|⟨i,hi⟩|k3
    ·exact .inl (Nat.le_trans hr.un.size (by omega))
    ·exact (hp.own i b hi).2.2
    ·exact .inl (by simp only [l] at k3;have:=hr.un.size;omega)
   ·have hj:(HC x).length≤j:=hj
    exact absurd hb.1 (by omega)
   ·exact SentL.keep hr.sn (fun g hg=>hkeep0 g (hr.sg.1 g hg)) (fun y hy=>hkeep0 _ (hr.sg.2 y hy))
  rcases hq with hq|hq
  ·obtain ⟨x,hx,w4,hend,hrel⟩:=key hq (fun _=>by simp)
   exact ⟨none,w4,hend,hQ .normal _ _ _ (hdone x hx) hrel⟩
  ·obtain ⟨x,hx,w4,hend,hrel⟩:=key hq (fun _=>by simp)
   refine ⟨some x.1,w4,hend,?_⟩
   rcases hjump _ _ hx with ⟨hc1,hR⟩|⟨id,hc1,hR⟩
   ·show Code.wpIn _ _ _ x.1 _ _ _
    rw [hc1]
    exact wpIn_ret (hQ .ret _ _ _ hR hrel)
   ·show Code.wpIn _ _ _ x.1 _ _ _
    rw [hc1]
    exact wpIn_exit (hQ (.exit id) _ _ _ hR hrel)
theorem assign_norm {body:Code} {B:List (Option Nat×Res)} {l:Nat} {R0 R1:OP} {RE:Exit→AS→Prop} {env:List (Nat×CV)} {b:Nat→CV} (h:ACode P G body ⟨env,b,B++[(some l,.obj R1)]⟩ RE):assignR P G body B l R0 R1 RE .normal ⟨env,b,B++[(some l,.obj R0)]⟩:=⟨_,_,rfl,h⟩
theorem round_norm {π q:Type} {l:Nat} {R1:OP} {HB:π→List (Option Nat×Res)} {φ':π→Prop} {HX:q→List (Option Nat×Res)} {χ:Code→q→Prop} (x:π) (h1:φ' x) (h2:Nat.ble ((HB x).length+1) s.H.length=true) (h3:HEnt (s.H.take ((HB x).length+1)) (HB x++[(some l,.obj R1)])):roundR l R1 HB φ' HX χ .normal s:=⟨x,h1,Nat.le_of_ble_eq_true h2,h3⟩
theorem round_ret {π q:Type} {l:Nat} {R1:OP} {HB:π→List (Option Nat×Res)} {φ':π→Prop} {HX:q→List (Option Nat×Res)} {χ:Code→q→Prop} (x:q) (h1:χ .ret x) (h2:Nat.ble ((HX x).length+1) s.H.length=true) (h3:HEnt (s.H.take ((HX x).length+1)) (HX x++[(some l,.obj R1)])):roundR l R1 HB φ' HX χ .ret s:=⟨x,h1,Nat.le_of_ble_eq_true h2,h3⟩
end
end
section
def firstI {α:Type} (p:α→Bool):List α→Int
 | []=>-1
 | x::l=>if p x=true then 0 else if firstI p l<0 then -1 else firstI p l+1
theorem firstI_bd {α:Type} (p:α→Bool):∀ l:List α,-1≤firstI p l∧firstI p l<l.length
 | []=>by simp [firstI]
 | x::l=>by
  have:=firstI_bd p l
  rw [firstI]
  rw [List.length_cons]
  split
  ·omega
  split <;> omega
theorem firstI_neg {α:Type} {p:α→Bool}:∀ {l:List α},firstI p l<0↔l.all (fun x=>!p x)=true
 | []=>by simp [firstI]
 | x::l=>by
  have ih:=@firstI_neg α p l
  have:=firstI_bd p l
  rw [firstI,List.all_cons]
  by_cases h:p x=true
  ·simp [h]
  ·rw [if_neg h]
   have hx:(!p x)=true:=by simpa using h
   rw [hx,Bool.true_and,← ih]
   split <;> omega
theorem firstI_none {α:Type} {p:α→Bool} {l:List α} (h:∀ i (hi:i<l.length),p l[i]=false):firstI p l=-1:=by
 have h1:firstI p l<0:=firstI_neg.2 (List.all_eq_true.2 fun x hx=>by
  obtain ⟨i,hi,rfl⟩:=List.getElem_of_mem hx
  simp [h i hi])
 have:=firstI_bd p l
 omega
theorem firstI_at {α:Type} {p:α→Bool}:∀ {l:List α} (i:Nat) (hi:i<l.length),p l[i]=true→(∀ j (hj:j<i),p (l[j]'(by omega))=false)→firstI p l=(i:Nat)
 | [],i,hi,_,_=>by simp at hi
 | x::l,0,hi,h,_=>by simp at h;simp [firstI,h]
 | x::l,i+1,hi,h,hb=>by
  have h0:p x=false:=by simpa using hb 0 (by omega)
  have ih:=@firstI_at α p l i (by simpa using hi) (by simpa using h) (fun j hj=>by simpa using hb (j+1) (by omega))
  rw [firstI,if_neg (by simp [h0]),ih,if_neg (by omega)]
  omega
theorem entL_refl:∀ l:List CV,EntL l l
 | []=>.nil
 | c::l=>.cons (CEnt.refl c) (entL_refl l)
theorem entL_fn {c d:CV} (h:CEnt c d) (l:List CV):EntL ([c]++l) (d::l):=.cons h (entL_refl l)
theorem CEnt.fn0 {g:FuncId} {f:Nat→CV}:CEnt (.c (.func (.func g) #[] #[])) (.fn g 0 f):=fun al St w v h=>⟨#[],h,rfl,fun i hi=>absurd hi (Nat.not_lt_zero i)⟩
theorem firstI_any {α:Type} (p:α→Bool) (l:List α):decide (0≤firstI p l)=l.any p:=by
 have:=@firstI_neg _ p l
 by_cases h:firstI p l<0
 ·have h2:=this.1 h
  rw [decide_eq_false (by omega)]
  symm
  rw [List.any_eq_false]
  intro x hx h3
  have:=List.all_eq_true.1 h2 x hx
  rw [h3] at this
  exact Bool.noConfusion this
 ·have h2:=mt this.2 h
  rw [decide_eq_true (by omega)]
  symm
  rw [List.any_eq_true]
  simpa using h2
theorem all_not_any {α:Type} (p:α→Bool) (l:List α):(!l.any fun x=>!p x)=l.all p:=by
 induction l with
 | nil=>rfl
 | cons a l ih=>simp only [List.any_cons,List.all_cons,Bool.not_or,Bool.not_not,ih]
theorem CEnt.rp {n:Nat} {f g:Nat→CV} (h:∀ j,j<n→CEnt (f j) (g j)):CEnt (.rp n f) (.rp n g):=fun al St w v ⟨b,o,h1,h2,h3⟩ =>
 ⟨b,o,h1,h2,fun j hj=>by
  obtain ⟨x,hx,hr⟩:=h3 j hj
  exact ⟨x,hx,h j hj al St w x hr⟩⟩
theorem CEnt.fn3 {k:FuncId} {f g:Nat→CV} (h0:CEnt (f 0) (g 0)) (h1:CEnt (f 1) (g 1)) (h2:CEnt (f 2) (g 2)):CEnt (.fn k 3 f) (.fn k 3 g):=fun al St w v ⟨cs,k1,k2,k3⟩ =>
 ⟨cs,k1,k2,fun i hi=>match i,hi with
  | 0,hi=>h0 al St w _ (k3 0 hi)
  | 1,hi=>h1 al St w _ (k3 1 hi)
  | 2,hi=>h2 al St w _ (k3 2 hi)⟩
theorem BLe.look2 {D:List Nat} {b0 b2:Nat→CV} {env2:List (Nat×CV)} (h:BLe D b0 b2) (h3:(env2.all fun x=>D.any (Nat.beq x.1))=true):BLe D b0 (look env2 b2):=BLe.nest (D2:=[]) (env2:=env2) (b2:=b2) h rfl h3
end
section
section
variable {P:Program} {G:Gh} {ops:Array Oper} {o:Oper} {s:AS} {r:List Oper} {K:AS→Prop} {R:Exit→AS→Prop} {Y:AS→Prop} {x y:Code} {env:List (Nat×CV)} {b0:Nat→CV} {H:List (Option Nat×Res)}

def jfz:CV→Option CV
 | .top=>some .top
 | .c v=>some (.c v)
 | .err k=>some (.err k)
 | .agg n f=>some (.agg n f)
 | .tup n f=>some (.tup n f)
 | .rs k n f=>some (.rs k n f)
 | .rp n f=>some (.rp n f)
 | .os i g off n k=>some (.os i g off n k)
 | .op i g off=>some (.op i g off)
 | .fn g n f=>some (.fn g n f)
 | .pv p=>some (.pv p)
theorem jfz_eq {c v:CV} (h:jfz c=some v):c=v:=by cases c <;> (simp only [jfz,Option.some.injEq] at h;exact h)
def jlookO:List (Nat×CV)→Nat→Option CV
 | [],_=>none
 |(e,v)::r,d=>match Nat.beq e d with|true=>some v|false=>jlookO r d
theorem jlookO_some {b:Nat→CV} {d:Nat} {v:CV}:∀ {env:List (Nat×CV)},jlookO env d=some v→look env b d=v
 |(e,u)::r,h=>by
  unfold jlookO at h;unfold look
  cases hb:Nat.beq e d with
  | true=>rw [hb] at h;exact Option.some.inj h
  | false=>rw [hb] at h;exact jlookO_some h
theorem jlookO_none {b:Nat→CV} {d:Nat}:∀ {env:List (Nat×CV)},jlookO env d=none→look env b d=b d
 | [],_=>rfl
 |(e,u)::r,h=>by
  unfold jlookO at h;unfold look
  cases hb:Nat.beq e d with
  | true=>rw [hb] at h;cases h
  | false=>rw [hb] at h;exact jlookO_none h
theorem jev_t {d:Nat} {v:CV} (h:jlookO s.env d=some v):s.eval (.tmp d)=v:=jlookO_some h
theorem jev_l {D:List Nat} {e2:List (Nat×CV)} {b2:Nat→CV} {d:Nat} {v:CV} (h:jlookO env d=none) (hD:D.any (Nat.beq d)=false) (h2:jlookO e2 d=some v):(⟨env,lay D e2 b2,H⟩:AS).eval (.tmp d)=v:=by
 show look env (lay D e2 b2) d=v
 rw [jlookO_none h]
 unfold lay
 rw [hD]
 exact jlookO_some h2
theorem jev_f {x:Operand} {v:CV} (h:jfz (s.eval x)=some v):s.eval x=v:=jfz_eq h
def jflO:List CV→Nat→Option CV
 | [],_=>none
 | x::_,0=>some x
 | _::r,i+1=>jflO r i
theorem jflO_eq:∀ {l:List CV} {i:Nat} {v:CV},jflO l i=some v→fl l i=v
 | x::_,0,v,h=>Option.some.inj h
 | _::r,i+1,v,h=>jflO_eq (l:=r) h

def jslQ (P:Program) (t:TypeId) (m:Nat):Bool:=match P.underlying t with|some (.slice e)=>(match (P.info? e).map (·.size) with|some k=>Nat.beq k m|none=>false)|_=>false
theorem jslQ_ok {t:TypeId} {m:Nat} (h:jslQ P t m=true):∃ e,P.underlying t=some (.slice e)∧(P.info? e).map (·.size)=some m:=by
 unfold jslQ at h
 split at h
 ·rename_i e he
  refine ⟨e,he,?_⟩
  split at h
  ·rename_i k hk;rw [hk,Nat.eq_of_beq_eq_true h]
  ·cases h
 ·cases h
def jslT (P:Program) (t:TypeId):Bool:=match P.underlying t with|some (.slice _)=>true|_=>false
theorem jslT_ok {t:TypeId} (h:jslT P t=true):∃ e,P.underlying t=some (.slice e):=by
 unfold jslT at h
 split at h
 ·rename_i e he;exact ⟨e,he⟩
 ·cases h
def jarQ (P:Program) (t:TypeId) (n m:Nat):Bool:=match P.underlying t with|some (.array k e)=>(match (P.info? e).map (·.size) with|some q=>Nat.beq q m && Nat.beq k n|none=>false)|_=>false
def jptT (P:Program) (t:TypeId):Bool:=match P.underlying t with|some (.pointer _)=>true|_=>false
def jbyT (P:Program) (t:TypeId):Bool:=match P.underlying t with|some (.slice e)=>(match P.underlying e with|some (.int .u8)=>true|_=>false)|_=>false
theorem jbyT_ok {t:TypeId} (h:jbyT P t=true):∃ e,P.underlying t=some (.slice e)∧P.underlying e=some (.int .u8):=by
 unfold jbyT at h
 split at h
 ·rename_i e he
  split at h
  ·rename_i h2;exact ⟨e,he,h2⟩
  ·cases h
 ·cases h
def jfdQ (P:Program) (t:TypeId) (i:Nat):Option (Nat×Nat×Bool):=match P.underlying t with
 | some (.struct fs)=>(match fs[i]? with|some fd=>(match (P.info? fd.type).map (·.size),P.underlying fd.type with|some m,some _=>some (fd.offset,m,aggB P fd.type)|_,_=>none)|none=>none)
 | _=>none
theorem jfdQ_ok {t:TypeId} {i q m:Nat} {b:Bool} (h:jfdQ P t i=some (q,m,b)):∃ fs fd d,P.underlying t=some (.struct fs)∧fs[i]?=some fd∧P.underlying fd.type=some d∧aggB P fd.type=b∧(P.info? fd.type).map (·.size)=some m∧fd.offset=q:=by
 unfold jfdQ at h
 split at h
 ·rename_i fs h1
  split at h
  ·rename_i fd h2
   split at h
   ·rename_i k d h3 h4
    simp only [Option.some.injEq,Prod.mk.injEq] at h
    exact ⟨fs,fd,d,h1,h2,h4,h.2.2,by rw [h3,h.2.1],h.1⟩
   ·cases h
  ·cases h
 ·cases h
def jtyQ (P:Program) (t:TypeId) (m:Nat) (b:Bool):Bool:=match (P.info? t).map (·.size),P.underlying t with|some k,some _=>Nat.beq k m && (aggB P t == b)|_,_=>false
theorem jtyQ_ok {t:TypeId} {m:Nat} {b:Bool} (h:jtyQ P t m b=true):∃ d,P.underlying t=some d∧aggB P t=b∧(P.info? t).map (·.size)=some m:=by
 unfold jtyQ at h
 split at h
 ·rename_i k d h1 h2
  rw [Bool.and_eq_true,beq_iff_eq] at h
  exact ⟨d,h2,h.2,by rw [h1,Nat.eq_of_beq_eq_true h.1]⟩
 ·cases h
def jldQ (P:Program) (t:TypeId):Bool:=match P.underlying t with|some _=>!(aggB P t)|none=>false
theorem jldQ_ok {t:TypeId} (h:jldQ P t=true):∃ d,P.underlying t=some d∧aggB P t=false:=by
 unfold jldQ at h
 split at h
 ·rename_i d hd;exact ⟨d,hd,by simpa using h⟩
 ·cases h

def jmovO:Op→Option Operand|.move x=>some x|.assign x=>some x|_=>none
theorem jrm {x:Operand} {v:CV} (ho:jmovO o.op=some x:=by exact rfl) (hv:s.eval x=v:=by first|exact jev_t rfl|exact jev_l rfl rfl rfl|exact jev_f rfl):ARd P G o s v:=by
 unfold jmovO at ho
 split at ho
 ·rename_i z hz;exact rd_move hz (by rw [Option.some.inj ho];exact hv)
 ·rename_i z hz;exact rd_assign hz (by rw [Option.some.inj ho];exact hv)
 ·cases ho
theorem jrpT {z x' y':Operand} {v:CV} (ho:o.op=.pick z x' y':=by exact rfl) (hz:s.eval z=.c (.bool true):=by exact rfl) (hx:s.eval x'=v:=by first|exact jev_t rfl|exact jev_l rfl rfl rfl|exact jev_f rfl):ARd P G o s v:=rd_pickT ho hz hx
theorem jrpF {z x' y':Operand} {v:CV} (ho:o.op=.pick z x' y':=by exact rfl) (hz:s.eval z=.c (.bool false):=by exact rfl) (hy:s.eval y'=v:=by first|exact jev_t rfl|exact jev_l rfl rfl rfl|exact jev_f rfl):ARd P G o s v:=rd_pickF ho hz hy
theorem jrx {x:Operand} {i n:Nat} {f:Nat→CV} {v:CV} (ho:o.op=.extract x i:=by exact rfl) (hx:s.eval x=.tup n f:=by exact rfl) (hi:Nat.blt i n=true:=by exact rfl) (hv:f i=v:=by first|exact jflO_eq rfl|exact jfz_eq rfl):ARd P G o s v:=rd_extract ho hx hi hv
def jcmpI (op:BinOp) (a b:Int):Option Bool:=match op with
 | .eql=>some (decide (a=b))
 | .neq=>some (decide (a≠b))
 | .lss=>some (decide (a<b))
 | .leq=>some (decide (a≤b))
 | .gtr=>some (decide (b<a))
 | .geq=>some (decide (b≤a))
 | _=>none
theorem jrc {op:BinOp} {t u:TypeId} {x y:Operand} {k:IntKind} {a b:Int} {z:Bool} (ho:o.op=.binOp op t x y u:=by exact rfl) (hx:s.eval x=.c (.int k a):=by exact rfl) (hy:s.eval y=.c (.int k b):=by exact rfl) (hc:jcmpI op a b=some z:=by exact rfl):ARd P G o s (.c (.bool z)):=by
 cases op <;> simp only [jcmpI,Option.some.injEq,reduceCtorEq] at hc
 all_goals subst hc
 ·exact rd_eqI ho hx hy
 ·exact rd_neI ho hx hy
 ·exact rd_lt ho hx hy
 ·exact rd_le ho hx hy
 ·exact rd_gt ho hx hy
 ·exact rd_ge ho hx hy
def jarI (op:BinOp) (a b:Int):Option Int:=match op with
 | .add=>some (a+b)
 | .sub=>some (a-b)
 | .mul=>some (a * b)
 | _=>none
theorem jra {op:BinOp} {t u:TypeId} {x y:Operand} {k:IntKind} {a b z:Int} (ho:o.op=.binOp op t x y u:=by exact rfl) (hx:s.eval x=.c (.int k a):=by exact rfl) (hy:s.eval y=.c (.int k b):=by exact rfl) (hc:jarI op a b=some z:=by exact rfl) (hS:InR k z:=by (show _∧_;(first|omega|decide|(dsimp only at *;omega)))):ARd P G o s (.c (.int k z)):=by
 cases op <;> simp only [jarI,Option.some.injEq,reduceCtorEq] at hc
 all_goals subst hc
 ·exact rd_add ho hx hy (wrap_id hS)
 ·exact rd_sub ho hx hy (wrap_id hS)
 ·exact rd_mul ho hx hy (wrap_id hS)
theorem jrq {t u:TypeId} {x y:Operand} {k:IntKind} {a b:Int} (ho:o.op=.binOp .quo t x y u:=by exact rfl) (hx:s.eval x=.c (.int k a):=by exact rfl) (hy:s.eval y=.c (.int k b):=by exact rfl) (hS:0≤a:=by first|omega|decide|(dsimp only at *;omega)) (hS2:1≤b:=by first|omega|decide|(dsimp only at *;omega)) (hS3:InR k (a / b):=by (show _∧_;(first|omega|decide|(dsimp only at *;omega)))):ARd P G o s (.c (.int k (a / b))):=rd_quo ho hx hy hS hS2 (wrap_id hS3)
theorem jrr {t u:TypeId} {x y:Operand} {k:IntKind} {a b:Int} (ho:o.op=.binOp .rem t x y u:=by exact rfl) (hx:s.eval x=.c (.int k a):=by exact rfl) (hy:s.eval y=.c (.int k b):=by exact rfl) (hS:0≤a:=by first|omega|decide|(dsimp only at *;omega)) (hS2:1≤b:=by first|omega|decide|(dsimp only at *;omega)):ARd P G o s (.c (.int k (a % b))):=rd_rem ho hx hy hS hS2
def jcmpS (op:BinOp) (a b:List UInt8):Option Bool:=match op with
 | .eql=>some (decide (a=b))
 | .neq=>some (decide (a≠b))
 | .lss=>some (Op.bytesLess a b)
 | .gtr=>some (!(Op.bytesLess a b || a == b))
 | _=>none
theorem jrcs {op:BinOp} {t u:TypeId} {x y:Operand} {a b:List UInt8} {z:Bool} (ho:o.op=.binOp op t x y u:=by exact rfl) (hx:s.eval x=strC a:=by exact rfl) (hy:s.eval y=strC b:=by exact rfl) (hc:jcmpS op a b=some z:=by exact rfl):ARd P G o s (.c (.bool z)):=by
 cases op <;> simp only [jcmpS,Option.some.injEq,reduceCtorEq] at hc
 all_goals subst hc
 ·exact rd_eqL ho hx hy
 ·exact rd_neL ho hx hy
 ·exact rd_ltL ho hx hy
 ·exact rd_gtL ho hx hy
theorem jrcb {op:BinOp} {t u:TypeId} {x y:Operand} {a b z:Bool} (ho:o.op=.binOp op t x y u:=by exact rfl) (hx:s.eval x=.c (.bool a):=by exact rfl) (hy:s.eval y=.c (.bool b):=by exact rfl) (hc:(match op with|.eql=>some (a == b)|.neq=>some (!(a == b))|_=>none)=some z:=by exact rfl) (hT:P.underlying t=some .bool:=by kernel_rfl):ARd P G o s (.c (.bool z)):=by
 cases op <;> simp only [Option.some.injEq,reduceCtorEq] at hc
 all_goals subst hc
 ·exact rd_eqB ho hx hy hT
 ·exact rd_neB ho hx hy hT
def jNotV (c:CV) (z:Bool):Prop:=c=.c (.bool (!z))
theorem jnotD {p:Prop} [Decidable p] {c:CV} (h:c=.c (.bool (decide p))):jNotV c (decide ¬ p):=by unfold jNotV;rw [h];simp
theorem jnotB {p:Bool} {c:CV} (h:c=.c (.bool p)):jNotV c (!p):=by unfold jNotV;rw [h,Bool.not_not]
theorem jrn {t:TypeId} {x:Operand} {z:Bool} (ho:o.op=.unOp .not t x:=by exact rfl) (hx:jNotV (s.eval x) z:=by first|exact jnotD rfl|exact jnotB rfl):ARd P G o s (.c (.bool z)):=by
 have:=rd_not (P:=P) (G:=G) ho hx
 rwa [Bool.not_not] at this
def jlenV:CV→Option Int
 | .rs _ n _=>some ((n:Nat):Int)
 | .os _ _ _ n _=>some ((n:Nat):Int)
 | .c (.slice none 0 0)=>some 0
 | _=>none
theorem jrl {x:Operand} {t:TypeId} {z:Int} (ho:o.op=.call ⟨.builtin .len,#[x],#[t]⟩:=by exact rfl) (hx:jlenV (s.eval x)=some z:=by exact rfl) (hT:jslT P t=true:=by kernel_rfl):ARd P G o s (.c (.int .i64 z)):=by
 obtain ⟨e,he⟩:=jslT_ok hT
 unfold jlenV at hx
 split at hx
 ·rename_i h;cases hx;exact rd_lenR ho h he
 ·rename_i h;cases hx;exact rd_lenO ho h he
 ·rename_i h;cases hx;exact rd_lenN ho h he
 ·cases hx
theorem jrls {x:Operand} {t:TypeId} {a:List UInt8} (ho:o.op=.call ⟨.builtin .len,#[x],#[t]⟩:=by exact rfl) (hx:s.eval x=strC a:=by exact rfl) (hT:P.underlying t=some .string:=by kernel_rfl):ARd P G o s (.c (.int .i64 (a.length:Nat))):=rd_lenL ho hx hT
def jfaV (q:Nat):CV→Option CV
 | .op j g off=>some (.op j g (off+q))
 | .rp n f=>some (.rp (n-q) fun j=>f (q+j))
 | _=>none
theorem jrfa (q m:Nat) (b:Bool) {t:TypeId} {x:Operand} {i:Nat} {v:CV} (ho:o.op=.fieldAddr t x i:=by exact rfl) (hx:jfaV q (s.eval x)=some v:=by exact rfl) (hm:Nat.blt 0 m=true:=by exact rfl) (hT:jfdQ P t i=some (q,m,b):=by kernel_rfl):ARd P G o s v:=by
 obtain ⟨fs,fd,d,h1,h2,h3,h4,h5,h6⟩:=jfdQ_ok hT
 subst h6
 unfold jfaV at hx
 split at hx
 ·rename_i h;cases hx;exact rd_faddrO ho h h1 h2 h5 hm
 ·rename_i h;cases hx;exact rd_faddrR ho h h1 h2 h5 hm
 ·cases hx
def jixV (i:Nat):CV→Option (CV×Nat×Nat)
 | .rs m n f=>some (.rp m (f i),n,m)
 | .os j g off n m=>some (match Nat.beq off 0,Nat.beq m 1 with|true,true=>.op j g i|_,_=>.op j g (off+i * m),n,m)
 | _=>none
theorem jri {i:Nat} {t:TypeId} {x y:Operand} {k:IntKind} {z:Int} {v:CV} {n m:Nat} (ho:o.op=.indexAddr t x y:=by exact rfl) (hy:s.eval y=.c (.int k z):=by exact rfl) (hz:z=(i:Int):=by first|exact rfl|exact natI (by omega)) (hx:jixV i (s.eval x)=some (v,n,m):=by exact rfl) (hS:i<n:=by first|omega|decide|(dsimp only at *;omega)) (hm:Nat.blt 0 m=true:=by exact rfl) (hT:jslQ P t m=true:=by kernel_rfl):ARd P G o s v:=by
 obtain ⟨e,h1,h5⟩:=jslQ_ok hT
 unfold jixV at hx
 split at hx
 ·rename_i h;cases hx;exact rd_iaddrR ho h hy h1 h5 hz hS (Nat.le_of_ble_eq_true hm)
 ·rename_i j g off n' m' h
  cases hx
  cases h6:Nat.beq off 0 with
  | false=>exact rd_iaddrO ho h hy h1 h5 hz hS
  | true =>
   cases h7:Nat.beq m 1 with
   | false=>exact rd_iaddrO ho h hy h1 h5 hz hS
   | true =>
    have e1:=Nat.eq_of_beq_eq_true h6
    have e2:=Nat.eq_of_beq_eq_true h7
    subst e1 e2
    exact rd_iaddrO1 ho h hy h1 h5 hz hS
 ·cases hx
theorem jrix {i:Nat} {t:TypeId} {x y:Operand} {k:IntKind} {z:Int} {a:List UInt8} (ho:o.op=.index t x y:=by exact rfl) (hx:s.eval x=strC a:=by exact rfl) (hy:s.eval y=.c (.int k z):=by exact rfl) (hz:z=(i:Int):=by first|exact rfl|exact natI (by omega)) (hS:i<a.length:=by first|omega|decide|(dsimp only at *;omega)) (hT:P.underlying t=some .string:=by kernel_rfl):ARd P G o s (byF a i):=rd_indexL ho hx hy hT hz hS
def jnilV:CV→Option CV
 | .op i g off=>some (.op i g off)
 | .rp n f=>some (.rp n f)
 | .fn g n f=>some (.fn g n f)
 | _=>none
theorem jrnc {x:Operand} {v:CV} (ho:o.op=.nilCheck x:=by exact rfl) (hx:jnilV (s.eval x)=some v:=by exact rfl):ARd P G o s v:=by
 unfold jnilV at hx
 split at hx
 ·rename_i h;cases hx;exact rd_nilO ho h
 ·rename_i h;cases hx;exact rd_nilR ho h
 ·rename_i h;cases hx;exact rd_nilF ho h
 ·cases hx
theorem jrmf {g:FuncId} {cs:Array Operand} {n:Nat} (ho:o.op=.makeFunc (.func g) #[] cs:=by exact rfl) (hn:cs.size=n:=by exact rfl):ARd P G o s (.fn g n (fl (cs.toList.map s.eval))):=rd_makeFunc ho hn
theorem jrv8 (k':IntKind) {c:UInt8} {t u:TypeId} {x:Operand} (ho:o.op=.convert t u x:=by exact rfl) (hx:s.eval x=.c (.int .u8 ((c.toNat:Nat):Int)):=by exact rfl) (h1:P.underlying t=some (.int .u8):=by kernel_rfl) (h2:P.underlying u=some (.int k'):=by kernel_rfl) (hk:wide8 k'=true:=by exact rfl):ARd P G o s (.c (.int k' ((c.toNat:Nat):Int))):=rd_conv8 ho hx h1 h2 hk
theorem jrv (k k':IntKind) {a:Int} {t u:TypeId} {x:Operand} (ho:o.op=.convert t u x:=by exact rfl) (hx:s.eval x=.c (.int k a):=by exact rfl) (hS:InR k' a:=by (show _∧_;(first|omega|decide|(dsimp only at *;omega)))) (h1:P.underlying t=some (.int k):=by kernel_rfl) (h2:P.underlying u=some (.int k'):=by kernel_rfl):ARd P G o s (.c (.int k' a)):=rd_convI ho hx h1 h2 a (wrap_id hS)
theorem jrvW (k k':IntKind) {a z:Int} {t u:TypeId} {x:Operand} (ho:o.op=.convert t u x:=by exact rfl) (hx:s.eval x=.c (.int k a):=by exact rfl) (hr:k'.wrap a=z:=by exact rfl) (h1:P.underlying t=some (.int k):=by kernel_rfl) (h2:P.underlying u=some (.int k'):=by kernel_rfl):ARd P G o s (.c (.int k' z)):=rd_convI ho hx h1 h2 z hr
theorem jrbs {t u:TypeId} {x:Operand} {a:List UInt8} (ho:o.op=.convert t u x:=by exact rfl) (hx:s.eval x=bsC a:=by exact rfl) (hT:jbyT P t=true:=by kernel_rfl) (h3:P.underlying u=some .string:=by kernel_rfl):ARd P G o s (strC a):=by
 obtain ⟨e,h1,h2⟩:=jbyT_ok hT
 exact rd_convBL ho hx h1 h2 h3
theorem jrsf {t:TypeId} {p a:Operand} {z1:Int} {k1:IntKind} {l:Nat} {bl:List UInt8} (ho:o.op=.slice t p (some a) none none:=by exact rfl) (hx:s.eval p=bsC bl:=by exact rfl) (ha:s.eval a=.c (.int k1 z1):=by exact rfl) (hz1:z1=(l:Int):=by first|exact rfl|exact natI (by omega)) (hS:l≤bl.length:=by first|omega|decide|(dsimp only at *;omega)) (hT:jslQ P t 1=true:=by kernel_rfl):ARd P G o s (bsC (bl.drop l)):=by
 obtain ⟨e,h1,h5⟩:=jslQ_ok hT
 exact rd_sliceB_from ho hx h1 h5 ha hz1 hS
theorem jrst {t:TypeId} {p b:Operand} {z2:Int} {k2:IntKind} {v:Nat} {bl:List UInt8} (ho:o.op=.slice t p none (some b) none:=by exact rfl) (hx:s.eval p=bsC bl:=by exact rfl) (hb:s.eval b=.c (.int k2 z2):=by exact rfl) (hz2:z2=(v:Int):=by first|exact rfl|exact natI (by omega)) (hS:v≤bl.length:=by first|omega|decide|(dsimp only at *;omega)) (hT:jslQ P t 1=true:=by kernel_rfl):ARd P G o s (bsC (bl.take v)):=by
 obtain ⟨e,h1,h5⟩:=jslQ_ok hT
 exact rd_sliceB_to ho hx h1 h5 hb hz2 hS
theorem jrsb {t:TypeId} {p a b:Operand} {z1 z2:Int} {k1 k2:IntKind} {l v:Nat} {bl:List UInt8} (ho:o.op=.slice t p (some a) (some b) none:=by exact rfl) (hx:s.eval p=bsC bl:=by exact rfl) (ha:s.eval a=.c (.int k1 z1):=by exact rfl) (hz1:z1=(l:Int):=by first|exact rfl|exact natI (by omega)) (hb:s.eval b=.c (.int k2 z2):=by exact rfl) (hz2:z2=(v:Int):=by first|exact rfl|exact natI (by omega)) (hS:l≤v:=by first|omega|decide|(dsimp only at *;omega)) (hS2:v≤bl.length:=by first|omega|decide|(dsimp only at *;omega)) (hT:jslQ P t 1=true:=by kernel_rfl):ARd P G o s (bsC ((bl.take v).drop l)):=by
 obtain ⟨e,h1,h5⟩:=jslQ_ok hT
 exact rd_sliceB ho hx h1 h5 ha hz1 hb hz2 hS hS2
theorem jrsr {t:TypeId} {p:Operand} {m n l v:Nat} {f:Nat→Nat→CV} {lo hi:Option Operand} (ho:o.op=.slice t p lo hi none:=by exact rfl) (hx:s.eval p=.rs m n f:=by exact rfl) (hl:Bd s 0 lo l:=by first|exact bd_none _ _|exact bd_some rfl rfl|exact bd_some rfl (natI (by omega))) (hu:Bd s n hi v:=by first|exact bd_none _ _|exact bd_some rfl rfl|exact bd_some rfl (natI (by omega))) (hS:l≤v:=by first|omega|decide|(dsimp only at *;omega)) (hS2:v≤n:=by first|omega|decide|(dsimp only at *;omega)) (hT:jslQ P t m=true:=by kernel_rfl):ARd P G o s (.rs m (v-l) fun i j=>f (l+i) j):=by
 obtain ⟨e,h1,h5⟩:=jslQ_ok hT
 exact rd_sliceR ho hx h1 h5 hl hu hS hS2
theorem jrso {t:TypeId} {p:Operand} {i off m n l v:Nat} {g:Option Nat} {lo hi:Option Operand} (ho:o.op=.slice t p lo hi none:=by exact rfl) (hx:s.eval p=.os i g off n m:=by exact rfl) (hl:Bd s 0 lo l:=by first|exact bd_none _ _|exact bd_some rfl rfl|exact bd_some rfl (natI (by omega))) (hu:Bd s n hi v:=by first|exact bd_none _ _|exact bd_some rfl rfl|exact bd_some rfl (natI (by omega))) (hS:l≤v:=by first|omega|decide|(dsimp only at *;omega)) (hS2:v≤n:=by first|omega|decide|(dsimp only at *;omega)) (hS3:l=0∨l<n:=by first|omega|decide|(dsimp only at *;omega)) (hT:jslQ P t m=true:=by kernel_rfl):ARd P G o s (.os i g (off+l * m) (v-l) m):=by
 obtain ⟨e,h1,h5⟩:=jslQ_ok hT
 exact rd_sliceO ho hx h1 h5 hl hu hS hS2 hS3
theorem jrdo {t:TypeId} {x:Operand} {i off n:Nat} {g:Option Nat} {f:Nat→CV} {v:CV} (ho:o.op=.load t x:=by exact rfl) (hx:s.eval x=.op i g off:=by exact rfl) (hH:Holds s i g n f:=by first|exact .inl rfl|exact .inr rfl) (hv:f off=v:=by first|exact jflO_eq rfl|exact jfz_eq rfl) (hn:off<n:=by first|decide|omega|(dsimp only at *;omega)) (hT:jldQ P t=true:=by kernel_rfl):ARdO P G o s v:=by
 obtain ⟨d,h1,ha⟩:=jldQ_ok hT
 exact rd_loadO ho hx hH h1 ha hn hv
theorem jrdr {t:TypeId} {x:Operand} {n:Nat} {f:Nat→CV} {v:CV} (ho:o.op=.load t x:=by exact rfl) (hx:s.eval x=.rp n f:=by exact rfl) (hv:f 0=v:=by first|exact jflO_eq rfl|exact jfz_eq rfl) (hn:0<n:=by first|decide|omega|(dsimp only at *;omega)) (hT:jldQ P t=true:=by kernel_rfl):ARd P G o s v:=by
 obtain ⟨d,h1,ha⟩:=jldQ_ok hT
 exact rd_loadR ho hx h1 ha hn hv
theorem jrdoA (m:Nat) {t:TypeId} {x:Operand} {i off n:Nat} {g:Option Nat} {f:Nat→CV} (ho:o.op=.load t x:=by exact rfl) (hx:s.eval x=.op i g off:=by exact rfl) (hH:Holds s i g n f:=by first|exact .inl rfl|exact .inr rfl) (hn:off+m≤n:=by first|decide|omega|(dsimp only at *;omega)) (hT:jtyQ P t m true=true:=by kernel_rfl):ARdO P G o s (.agg m fun j=>f (off+j)):=by
 obtain ⟨d,h1,ha,h5⟩:=jtyQ_ok hT
 exact rd_loadOA ho hx hH h1 ha h5 hn
theorem jrdrA (m:Nat) {t:TypeId} {x:Operand} {n:Nat} {f:Nat→CV} (ho:o.op=.load t x:=by exact rfl) (hx:s.eval x=.rp n f:=by exact rfl) (hn:m≤n:=by first|decide|omega|(dsimp only at *;omega)) (hT:jtyQ P t m true=true:=by kernel_rfl):ARd P G o s (.agg m f):=by
 obtain ⟨d,h1,ha,h5⟩:=jtyQ_ok hT
 exact rd_loadRA ho hx h1 ha h5 hn
theorem jrde (i:Nat) [h0:HasE G.gs i] {t:TypeId} {g:Nat} (ho:o.op=.load t (.global g):=by exact rfl) (hg:gs[i]?=some g:=by exact rfl) (hT:jldQ P t=true:=by kernel_rfl):ARd P G o s (.err (i+1)):=by
 obtain ⟨d,h1,ha⟩:=jldQ_ok hT
 exact rd_loadE i ho hg h1 ha
theorem jq {d:Nat} {v:CV} (h:ARd P G o ⟨env,b0,H⟩ v) (hk:ASeq P G ops r ⟨(d,v)::env,b0,H⟩ K) (hd:o.dst=some d:=by exact rfl) (hN:Nat.blt d G.N=true:=by exact rfl) (hw:Wanted G ops o ⟨env,b0,H⟩ true:=by first|exact wanted_none rfl|exact wanted_is rfl rfl rfl rfl true rfl):ASeq P G ops (o::r) ⟨env,b0,H⟩ K:=q_rd hw hd hN h hk
theorem jqo {d:Nat} {v:CV} (h:ARdO P G o ⟨env,b0,H⟩ v) (hk:ASeq P G ops r ⟨(d,v)::env,b0,H⟩ K) (hd:o.dst=some d:=by exact rfl) (hN:Nat.blt d G.N=true:=by exact rfl) (hw:Wanted G ops o ⟨env,b0,H⟩ true:=by first|exact wanted_none rfl|exact wanted_is rfl rfl rfl rfl true rfl):ASeq P G ops (o::r) ⟨env,b0,H⟩ K:=q_rdO hw hd hN h hk
theorem jqs {d:Nat} (hk:ASeq P G ops r ⟨(d,.c undef)::env,b0,H⟩ K) (hd:o.dst=some d:=by exact rfl) (hN:Nat.blt d G.N=true:=by exact rfl) (hw:Wanted G ops o ⟨env,b0,H⟩ false:=by first|exact wanted_is rfl rfl rfl rfl false rfl|exact wanted_undef rfl rfl rfl rfl):ASeq P G ops (o::r) ⟨env,b0,H⟩ K:=q_skip hw hd hN hk
theorem jqe (h:AEx P G o ⟨env,b0,H⟩ (fun s'=>ASeq P G ops r s' K)) (hw:Wanted G ops o ⟨env,b0,H⟩ true:=by first|exact wanted_none rfl|exact wanted_is rfl rfl rfl rfl true rfl):ASeq P G ops (o::r) ⟨env,b0,H⟩ K:=seq_ex hw h
theorem jqm (h:AMd P G o ⟨env,b0,H⟩ (fun s'=>ASeq P G ops r s' K)) (hw:Wanted G ops o ⟨env,b0,H⟩ true:=by first|exact wanted_none rfl|exact wanted_is rfl rfl rfl rfl true rfl):ASeq P G ops (o::r) ⟨env,b0,H⟩ K:=seq_md hw h
def jopG:List Oper→Nat→Oper
 | [],_=>default
 | a::_,0=>a
 | _::l,i+1=>jopG l i
section
variable {i:Nat} {t:Ord}
theorem jopG_at (h:Nat.blt i ops.size=true):ops[i]?=some (jopG ops.toList i):=by
 have hlt:i<ops.size:=Nat.le_of_ble_eq_true h
 rw [Array.getElem?_eq_getElem hlt]
 have key:∀ (l:List Oper) (i:Nat) (hi:i<l.length),l[i]=jopG l i:=fun l=>by
  induction l with
  | nil=>intro i hi;simp at hi
  | cons a l ih =>
   intro i hi
   cases i with
   | zero=>rfl
   | succ i=>exact ih i (by simpa using hi)
 have:=key ops.toList i (by simpa using hlt)
 rw [← this,Array.getElem_toList]
theorem joT_rd (hi:Nat.blt i ops.size=true):opsOfT ops (.rd i t)=.rd (jopG ops.toList i) (opsOfT ops t):=by simp only [opsOfT,jopG_at hi]
theorem joT_one (hi:Nat.blt i ops.size=true):opsOfT ops (.one i t)=.one (jopG ops.toList i) (opsOfT ops t):=by simp only [opsOfT,jopG_at hi]
theorem jyq {d:Nat} {v:CV} (h:ARd P G (jopG ops.toList i) ⟨env,b0,H⟩ v) (hk:AX P G ops (opsOfT ops t) ⟨(d,v)::env,b0,H⟩ K) (hd:(jopG ops.toList i).dst=some d:=by exact rfl) (hN:Nat.blt d G.N=true:=by exact rfl) (hw:Wanted G ops (jopG ops.toList i) ⟨env,b0,H⟩ true:=by first|exact wanted_none rfl|exact wanted_is rfl rfl rfl rfl true rfl) (hi:Nat.blt i ops.size=true:=by exact rfl):AX P G ops (opsOfT ops (.rd i t)) ⟨env,b0,H⟩ K:=by rw [joT_rd hi];exact y_rd hw hd hN h hk
theorem jyo {d:Nat} {v:CV} (h:ARdO P G (jopG ops.toList i) ⟨env,b0,H⟩ v) (hk:AX P G ops (opsOfT ops t) ⟨(d,v)::env,b0,H⟩ K) (hd:(jopG ops.toList i).dst=some d:=by exact rfl) (hN:Nat.blt d G.N=true:=by exact rfl) (hw:Wanted G ops (jopG ops.toList i) ⟨env,b0,H⟩ true:=by first|exact wanted_none rfl|exact wanted_is rfl rfl rfl rfl true rfl) (hi:Nat.blt i ops.size=true:=by exact rfl):AX P G ops (opsOfT ops (.rd i t)) ⟨env,b0,H⟩ K:=by rw [joT_rd hi];exact y_rdO hw hd hN h hk
theorem jys {d:Nat} (hk:AX P G ops (opsOfT ops t) ⟨(d,.c undef)::env,b0,H⟩ K) (hd:(jopG ops.toList i).dst=some d:=by exact rfl) (hN:Nat.blt d G.N=true:=by exact rfl) (hw:Wanted G ops (jopG ops.toList i) ⟨env,b0,H⟩ false:=by first|exact wanted_is rfl rfl rfl rfl false rfl|exact wanted_undef rfl rfl rfl rfl) (hi:Nat.blt i ops.size=true:=by exact rfl):AX P G ops (opsOfT ops (.rd i t)) ⟨env,b0,H⟩ K:=by rw [joT_rd hi];exact y_skip hw hd hN hk
theorem jys1 {d:Nat} (hk:AX P G ops (opsOfT ops t) ⟨(d,.c undef)::env,b0,H⟩ K) (hd:(jopG ops.toList i).dst=some d:=by exact rfl) (hN:Nat.blt d G.N=true:=by exact rfl) (hw:Wanted G ops (jopG ops.toList i) ⟨env,b0,H⟩ false:=by first|exact wanted_is rfl rfl rfl rfl false rfl|exact wanted_undef rfl rfl rfl rfl) (hi:Nat.blt i ops.size=true:=by exact rfl):AX P G ops (opsOfT ops (.one i t)) ⟨env,b0,H⟩ K:=by rw [joT_one hi];exact y_noone hw hd hN hk
theorem jye (h:AEx P G (jopG ops.toList i) ⟨env,b0,H⟩ (fun s'=>AX P G ops (opsOfT ops t) s' K)) (hw:Wanted G ops (jopG ops.toList i) ⟨env,b0,H⟩ true:=by first|exact wanted_none rfl|exact wanted_is rfl rfl rfl rfl true rfl) (hi:Nat.blt i ops.size=true:=by exact rfl):AX P G ops (opsOfT ops (.one i t)) ⟨env,b0,H⟩ K:=by rw [joT_one hi];exact x_one hw h
theorem jzq {d:Nat} {v:CV} (h:ARd P G (jopG ops.toList i) ⟨env,b0,H⟩ v) (hk:AZ P G ops (opsOfT ops t) ⟨(d,v)::env,b0,H⟩ K) (hd:(jopG ops.toList i).dst=some d:=by exact rfl) (hN:Nat.blt d G.N=true:=by exact rfl) (hw:Wanted G ops (jopG ops.toList i) ⟨env,b0,H⟩ true:=by first|exact wanted_none rfl|exact wanted_is rfl rfl rfl rfl true rfl) (hi:Nat.blt i ops.size=true:=by exact rfl):AZ P G ops (opsOfT ops (.rd i t)) ⟨env,b0,H⟩ K:=by rw [joT_rd hi];exact zz_rd hw hd hN h hk
theorem jzo {d:Nat} {v:CV} (h:ARdO P G (jopG ops.toList i) ⟨env,b0,H⟩ v) (hk:AZ P G ops (opsOfT ops t) ⟨(d,v)::env,b0,H⟩ K) (hd:(jopG ops.toList i).dst=some d:=by exact rfl) (hN:Nat.blt d G.N=true:=by exact rfl) (hw:Wanted G ops (jopG ops.toList i) ⟨env,b0,H⟩ true:=by first|exact wanted_none rfl|exact wanted_is rfl rfl rfl rfl true rfl) (hb:ownB ops (jopG ops.toList i)=true:=by kernel_rfl) (hi:Nat.blt i ops.size=true:=by exact rfl):AZ P G ops (opsOfT ops (.rd i t)) ⟨env,b0,H⟩ K:=by rw [joT_rd hi];exact zz_rdO hw hd hN hb h hk
theorem jz1o {d:Nat} {v:CV} (h:ARdO P G (jopG ops.toList i) ⟨env,b0,H⟩ v) (hk:AZ P G ops (opsOfT ops t) ⟨(d,v)::env,b0,H⟩ K) (hd:(jopG ops.toList i).dst=some d:=by exact rfl) (hN:Nat.blt d G.N=true:=by exact rfl) (hw:Wanted G ops (jopG ops.toList i) ⟨env,b0,H⟩ true:=by first|exact wanted_none rfl|exact wanted_is rfl rfl rfl rfl true rfl) (hi:Nat.blt i ops.size=true:=by exact rfl):AZ P G ops (opsOfT ops (.one i t)) ⟨env,b0,H⟩ K:=by rw [joT_one hi];exact zz_one1O hw hd hN h hk
theorem jzs {d:Nat} (hk:AZ P G ops (opsOfT ops t) ⟨(d,.c undef)::env,b0,H⟩ K) (hd:(jopG ops.toList i).dst=some d:=by exact rfl) (hN:Nat.blt d G.N=true:=by exact rfl) (hw:Wanted G ops (jopG ops.toList i) ⟨env,b0,H⟩ false:=by first|exact wanted_is rfl rfl rfl rfl false rfl|exact wanted_undef rfl rfl rfl rfl) (hi:Nat.blt i ops.size=true:=by exact rfl):AZ P G ops (opsOfT ops (.rd i t)) ⟨env,b0,H⟩ K:=by rw [joT_rd hi];exact zz_skip hw hd hN hk
theorem jze (h:AEx P G (jopG ops.toList i) ⟨env,b0,H⟩ (fun s'=>AZ P G ops (opsOfT ops t) s' K)) (hw:Wanted G ops (jopG ops.toList i) ⟨env,b0,H⟩ true:=by first|exact wanted_none rfl|exact wanted_is rfl rfl rfl rfl true rfl) (hi:Nat.blt i ops.size=true:=by exact rfl):AZ P G ops (opsOfT ops (.one i t)) ⟨env,b0,H⟩ K:=by rw [joT_one hi];exact z_ex hw h
theorem jzm (h:AMd P G (jopG ops.toList i) ⟨env,b0,H⟩ (fun s'=>AZ P G ops (opsOfT ops t) s' K)) (hw:Wanted G ops (jopG ops.toList i) ⟨env,b0,H⟩ true:=by first|exact wanted_none rfl|exact wanted_is rfl rfl rfl rfl true rfl) (hm:isMod (jopG ops.toList i)=true:=by exact rfl) (hi:Nat.blt i ops.size=true:=by exact rfl):AZ P G ops (opsOfT ops (.one i t)) ⟨env,b0,H⟩ K:=by rw [joT_one hi];exact z_md hw hm h
theorem jyd (h:K s):AX P G ops (opsOfT ops .done) s K:=x_done h
theorem jzd (h:K s):AZ P G ops (opsOfT ops .done) s K:=z_done h
theorem jytwo {j:Nat} {u:Ord} (h1:AX P G ops (opsOfT ops (.one i t)) s K) (h2:AX P G ops (opsOfT ops (.one j u)) s K) (hi:Nat.blt i ops.size=true:=by exact rfl) (hj:Nat.blt j ops.size=true:=by exact rfl):AX P G ops (opsOfT ops (.two i t j u)) s K:=by
 rw [joT_one hi] at h1
 rw [joT_one hj] at h2
 simp only [opsOfT,jopG_at hi,jopG_at hj]
 exact x_two h1 h2
theorem jztwo {j:Nat} {u:Ord} (h1:AZ P G ops (opsOfT ops (.one i t)) s K) (h2:AZ P G ops (opsOfT ops (.one j u)) s K) (hi:Nat.blt i ops.size=true:=by exact rfl) (hj:Nat.blt j ops.size=true:=by exact rfl):AZ P G ops (opsOfT ops (.two i t j u)) s K:=by
 rw [joT_one hi] at h1
 rw [joT_one hj] at h2
 simp only [opsOfT,jopG_at hi,jopG_at hj]
 exact z_two h1 h2
end
theorem jcg {id:Nat} (h:ASeq P G ops ops.toList s (R .normal)) (hd:rdB G.rd ops=true:=by rfl):ACode P G (.region id ops false) s R:=code_region h hd
theorem jcd {id:Nat} (t:Ord) (h:AX P G ops (opsOfT ops t) s (R .normal)) (hm:P.follows .mixedOrders=true:=by kernel_rfl) (hs:Region.noSelect ops=true:=by kernel_rfl) (hl:t.len=ops.size:=by exact rfl) (hin:t.within ops.size=true:=by kernel_rfl) (hB:orderT .any ops t (Array.replicate ops.size false)=true:=by kernel_rfl) (hd:rdB G.rd ops=true:=by rfl):ACode P G (.region id ops true) s R:=code_draw t hm hs hl hin hB h hd
theorem jcdB {id:Nat} (m:Nat) (t:Ord) (h:AX P G ops (opsOfT ops t) s (fun s'=>ASeq P G ops (ops.toList.drop m) s' (R .normal))) (hmix:P.follows .mixedOrders=true:=by kernel_rfl) (hs:Region.noSelect ops=true:=by kernel_rfl) (hm:Nat.ble m ops.size=true:=by exact rfl) (hl:t.len=m:=by exact rfl) (hin:t.within ops.size=true:=by kernel_rfl) (hc:coverB .any ops m=true:=by kernel_rfl)
  (hB:orderB2 .any ops m t (Array.replicate ops.size false)=true:=by kernel_rfl) (ht:tailB .any ops (ops.size-m) m (barL m ops.size)=true:=by kernel_rfl) (hd:rdB G.rd ops=true:=by rfl) (hy:G.yl=false:=by rfl):ACode P G (.region id ops true) s R:=code_drawB m t hmix hs hm hl hin hc hB ht h hd hy
theorem jcdZ {id:Nat} (u:Ord) (h:AZ P G ops (opsOfT ops u) s (R .normal)) (hmix:P.follows .mixedOrders=true:=by kernel_rfl) (hs:Region.noSelect ops=true:=by kernel_rfl) (hul:u.len=ops.size:=by exact rfl) (huin:u.within ops.size=true:=by kernel_rfl) (hu:orderT .any ops u (Array.replicate ops.size false)=true:=by kernel_rfl) (hd:rdB G.rd ops=true:=by rfl):ACode P G (.region id ops true) s R:=code_drawZ u hmix hs hul huin hu h hd
theorem jcs (h:ACode P G x s (thenR (fun s'=>ACode P G y s' R) R)):ACode P G (.seq x y) s R:=code_seq h
theorem jcr {id:Nat} (h:ASeq P G ops ops.toList s (fun s'=>ACode P G y s' R)) (hd:rdB G.rd ops=true:=by rfl):ACode P G (.seq (.region id ops false) y) s R:=code_seq (code_region h hd)
theorem jtn (h:Y s):thenR Y R .normal s:=h
theorem jte {i:Nat} (h:R (.exit i) s):thenR Y R (.exit i) s:=h
theorem jtr (h:R .ret s):thenR Y R .ret s:=h
theorem jbn {i:Nat} (h:R .normal s):blockR i R .normal s:=h
theorem jbr {i:Nat} (h:R .ret s):blockR i R .ret s:=h
theorem jbx {i j:Nat} (h:R .normal s) (he:Nat.beq j i=true:=by exact rfl):blockR i R (.exit j) s:=block_exit he h
theorem jbx2 {i j:Nat} (h:R (.exit j) s) (he:Nat.beq j i=false:=by exact rfl):blockR i R (.exit j) s:=block_exit2 he h
def jCondPN (c:CV) (p n:Prop):Prop:=∃ t:Bool,c=.c (.bool t)∧(t=true→p)∧(t=false→n)
theorem jcpD {p:Prop} [Decidable p] {c:CV} (h:c=.c (.bool (decide p))):jCondPN c p (¬ p):=⟨_,h,of_decide_eq_true,of_decide_eq_false⟩
theorem jcpB {t:Bool} {c:CV} (h:c=.c (.bool t)):jCondPN c (t=true) (t=false):=⟨_,h,id,id⟩
theorem jcc {d:Nat} {p n:Prop} (ht:p→ACode P G x ⟨(d,.c (.bool true))::env,b0,H⟩ R) (hf:n→ACode P G y ⟨(d,.c (.bool false))::env,b0,H⟩ R) (hl:jCondPN (look env b0 d) p n:=by first|exact jcpD rfl|exact jcpB rfl) (hN:Nat.blt d G.N=true:=by exact rfl):ACode P G (.cond (.tmp d) x y) ⟨env,b0,H⟩ R:=by
 obtain ⟨t,h1,h2,h3⟩:=hl
 exact code_condS hN h1 (fun e=>ht (h2 e)) (fun e=>hf (h3 e))
theorem jcT {d:Operand} (h:ACode P G x s R) (hl:s.eval d=.c (.bool true):=by exact rfl):ACode P G (.cond d x y) s R:=code_condT hl h
theorem jcF {d:Operand} (h:ACode P G y s R) (hl:s.eval d=.c (.bool false):=by exact rfl):ACode P G (.cond d x y) s R:=code_condF hl h
theorem jqsp (d:Nat) {p n:Prop} (ht:p→ASeq P G ops r ⟨(d,.c (.bool true))::env,b0,H⟩ K) (hf:n→ASeq P G ops r ⟨(d,.c (.bool false))::env,b0,H⟩ K) (hl:jCondPN (look env b0 d) p n:=by first|exact jcpD rfl|exact jcpB rfl) (hN:Nat.blt d G.N=true:=by exact rfl):ASeq P G ops r ⟨env,b0,H⟩ K:=by
 obtain ⟨t,h1,h2,h3⟩:=hl
 exact seq_split hN h1 (fun e=>ht (h2 e)) (fun e=>hf (h3 e))
theorem jysp {tr:OrdO} (d:Nat) {p n:Prop} (ht:p→AX P G ops tr ⟨(d,.c (.bool true))::env,b0,H⟩ K) (hf:n→AX P G ops tr ⟨(d,.c (.bool false))::env,b0,H⟩ K) (hl:jCondPN (look env b0 d) p n:=by first|exact jcpD rfl|exact jcpB rfl) (hN:Nat.blt d G.N=true:=by exact rfl):AX P G ops tr ⟨env,b0,H⟩ K:=by
 obtain ⟨t,h1,h2,h3⟩:=hl
 exact x_split hN h1 (fun e=>ht (h2 e)) (fun e=>hf (h3 e))
theorem jeal {n:Nat} {t:TypeId} {z:Value} {d:Nat} (hz:(P.info? t).map (·.zero)=some (some z)) (hn:z.cells.size=n) (hK:∀ g,K ⟨(d,.op H.length g 0)::env,b0,H++[(g,.blk n fun j=>.c (z.cells.getD j undef))]⟩) (ho:o.op=.alloc t:=by exact rfl) (hd:o.dst=some d:=by exact rfl) (hN:Nat.blt d G.N=true:=by exact rfl):AEx P G o ⟨env,b0,H⟩ K:=e_alloc ho hz hn hd hN hK
theorem jebx (n:Nat) {t:TypeId} {p:Operand} {c:CV} {l:List CV} {d:Nat} (hK:∀ g,K ⟨(d,.op H.length g 0)::env,b0,H++[(g,.blk n (fl l))]⟩) (ho:o.op=.box t p:=by exact rfl) (hx:(⟨env,b0,H⟩:AS).eval p=c:=by first|exact jev_t rfl|exact jev_l rfl rfl rfl|exact jev_f rfl) (hl:cellsC c=some l:=by exact rfl) (hn:l.length=n:=by exact rfl) (hd:o.dst=some d:=by exact rfl) (hN:Nat.blt d G.N=true:=by exact rfl):AEx P G o ⟨env,b0,H⟩ K:=e_box ho hx hl hn hd hN hK
theorem jebl (n m:Nat) {e t:TypeId} {z:Value} {len:Nat} {parts:Array (Nat×Operand)} {l:List CV} {d:Nat} (hz:(P.info? e).map (·.zero)=some (some z)) (hK:∀ g,K ⟨(d,.os H.length g 0 len m)::env,b0,H++[(g,.blk n (fl l))]⟩) (ho:o.op=.buildSlice t len parts:=by exact rfl) (h1:P.underlying t=some (.slice e):=by kernel_rfl) (h5:(P.info? e).map (·.size)=some m:=by kernel_rfl) (hm:Nat.ble (len * m) 16777216=true:=by exact rfl) (hlen:Nat.ble len 16777216=true:=by exact rfl)
  (hf:fillC (fun i=>some (i * m,m)) ((List.range (len * m)).map fun i=>.c (z.cells[i % z.cells.size]!)) (parts.toList.map fun p=>(p.1,(⟨env,b0,H⟩:AS).eval p.2))=some l:=by exact rfl) (hn:l.length=n:=by exact rfl) (hle:n=len * m:=by exact rfl) (hd:o.dst=some d:=by exact rfl) (hN:Nat.blt d G.N=true:=by exact rfl):AEx P G o ⟨env,b0,H⟩ K:=e_buildSlice ho h1 h5 hz hm hlen hf hn hle hd hN hK
theorem jecv {t u:TypeId} {x:Operand} {a:List UInt8} {d:Nat} (hK:K ⟨(d,bsC a)::env,b0,H⟩) (ho:o.op=.convert t u x:=by exact rfl) (hx:(⟨env,b0,H⟩:AS).eval x=strC a:=by exact rfl) (h1:P.underlying t=some .string:=by kernel_rfl) (hT:jbyT P u=true:=by kernel_rfl) (hS:a.length≤9223372036854775807:=by first|omega|decide|(dsimp only at *;omega)) (hd:o.dst=some d:=by exact rfl) (hN:Nat.blt d G.N=true:=by exact rfl):AEx P G o ⟨env,b0,H⟩ K:=by
 obtain ⟨e,h2,h3⟩:=jbyT_ok hT
 exact e_convLB ho hx h1 h2 h3 hS hd hN hK
theorem jecP {f:FuncId} {xs:Array Operand} {ats:Array TypeId} {args:List CV} {m:CV} {d:Nat} (hA:ACp G.gs P f args m) (hK:K ⟨(d,m)::env,b0,H⟩) (ho:o.op=.call ⟨.value (.func f),xs,ats⟩:=by exact rfl) (hc:calleeB P f=true:=by kernel_rfl) (he:SEL G ⟨env,b0,H⟩ xs.toList args:=by (repeat (first|exact .nil|refine .cons (by first|exact se rfl cZ|exact se rfl CEnt.nil|exact se rfl cN|exact se rfl (cO rfl)|exact se rfl cP|exact se_nilO rfl|exact se rfl (CEnt.agg2 cZ cZ)|exact se rfl (CEnt.agg3 cZ cZ cZ)|exact se rfl (CEnt.agg4 cZ cZ cZ cZ)|exact se rfl (CEnt.agg5 cZ cZ cZ cZ cZ)|exact se rfl (CEnt.agg6 cZ cZ cZ cZ cZ cZ)|exact se_frzB _ rfl rfl rfl (by simp) (fun _ _=>cZ)) ?_))) (hd:o.dst=some d:=by exact rfl) (hN:Nat.blt d G.N=true:=by exact rfl):AEx P G o ⟨env,b0,H⟩ K:=e_callP ho hc hA he hd hN hK
theorem jecS {f:FuncId} {xs:Array Operand} {ats:Array TypeId} {args:List CV} {Q:CV→List (Option Nat×Res)→Prop} {d:Nat} (hA:AC G.gs P f [] args Q) (hK:∀ r H',Q r H'→K ⟨(d,r)::env,b0,H++H'⟩) (ho:o.op=.call ⟨.value (.func f),xs,ats⟩:=by exact rfl) (hc:calleeB P f=true:=by kernel_rfl) (he:SEL G ⟨env,b0,H⟩ xs.toList args:=by (repeat (first|exact .nil|refine .cons (by first|exact se rfl cZ|exact se rfl CEnt.nil|exact se rfl cN|exact se rfl (cO rfl)|exact se rfl cP|exact se_nilO rfl|exact se rfl (CEnt.agg2 cZ cZ)|exact se rfl (CEnt.agg3 cZ cZ cZ)|exact se rfl (CEnt.agg4 cZ cZ cZ cZ)|exact se rfl (CEnt.agg5 cZ cZ cZ cZ cZ)|exact se rfl (CEnt.agg6 cZ cZ cZ cZ cZ cZ)|exact se_frzB _ rfl rfl rfl (by simp) (fun _ _=>cZ)) ?_))) (hd:o.dst=some d:=by exact rfl) (hN:Nat.blt d G.N=true:=by exact rfl):AEx P G o ⟨env,b0,H⟩ K:=e_callS ho hc hA he hd hN hK
theorem jecO {f:FuncId} {xs:Array Operand} {ats:Array TypeId} {args:List CV} {n m N:Nat} {F:Nat→CV} {d:Nat} (hA:AC G.gs P f [] args (OwnQ n m N F)) (hK:∀ g,K ⟨(d,.os H.length g 0 n m)::env,b0,H++[(g,.blk N F)]⟩) (ho:o.op=.call ⟨.value (.func f),xs,ats⟩:=by exact rfl) (hc:calleeB P f=true:=by kernel_rfl) (he:SEL G ⟨env,b0,H⟩ xs.toList args:=by (repeat (first|exact .nil|refine .cons (by first|exact se rfl cZ|exact se rfl CEnt.nil|exact se rfl cN|exact se rfl (cO rfl)|exact se rfl cP|exact se_nilO rfl|exact se rfl (CEnt.agg2 cZ cZ)|exact se rfl (CEnt.agg3 cZ cZ cZ)|exact se rfl (CEnt.agg4 cZ cZ cZ cZ)|exact se rfl (CEnt.agg5 cZ cZ cZ cZ cZ)|exact se rfl (CEnt.agg6 cZ cZ cZ cZ cZ cZ)|exact se_frzB _ rfl rfl rfl (by simp) (fun _ _=>cZ)) ?_))) (hd:o.dst=some d:=by exact rfl) (hN:Nat.blt d G.N=true:=by exact rfl):AEx P G o ⟨env,b0,H⟩ K:=e_callO ho hc hA he hd hN hK
theorem jmcH (i:Nat) {f:FuncId} {xs:Array Operand} {ats:Array TypeId} {args:List CV} {Q:CV→List (Option Nat×Res)→Prop} {d:Nat} {x0:Option Nat×Res} (hA:AC G.gs P f [x0] args Q) (hK:∀ r H',Q r H'→∃ x r',H'=[x]∧CEnt r r'∧K ⟨(d,r')::env,b0,H.set i x⟩) (hi:H[i]?=some x0:=by exact rfl) (ho:o.op=.call ⟨.value (.func f),xs,ats⟩:=by exact rfl) (hc:calleeB P f=true:=by kernel_rfl) (he:SEL G ⟨env,b0,H⟩ xs.toList args:=by (repeat (first|exact .nil|refine .cons (by first|exact se rfl cZ|exact se rfl CEnt.nil|exact se rfl cN|exact se rfl (cO rfl)|exact se rfl cP|exact se_nilO rfl|exact se rfl (CEnt.agg2 cZ cZ)|exact se rfl (CEnt.agg3 cZ cZ cZ)|exact se rfl (CEnt.agg4 cZ cZ cZ cZ)|exact se rfl (CEnt.agg5 cZ cZ cZ cZ cZ)|exact se rfl (CEnt.agg6 cZ cZ cZ cZ cZ cZ)|exact se_frzB _ rfl rfl rfl (by simp) (fun _ _=>cZ)) ?_))) (hd:o.dst=some d:=by exact rfl) (hN:Nat.blt d G.N=true:=by exact rfl):AMd P G o ⟨env,b0,H⟩ K:=m_callH ho hc hi hA he hd hN hK
theorem jmcO (i:Nat) {f:FuncId} {xs:Array Operand} {ats:Array TypeId} {args:List CV} {n m N:Nat} {F:Nat→CV} {d:Nat} {x0:Option Nat×Res} (hA:AC G.gs P f [x0] args (OwnQ n m N F)) (hK:∀ g,K ⟨(d,.os i g 0 n m)::env,b0,H.set i (g,.blk N F)⟩) (hi:H[i]?=some x0:=by exact rfl) (ho:o.op=.call ⟨.value (.func f),xs,ats⟩:=by exact rfl) (hc:calleeB P f=true:=by kernel_rfl) (he:SEL G ⟨env,b0,H⟩ xs.toList args:=by (repeat (first|exact .nil|refine .cons (by first|exact se rfl cZ|exact se rfl CEnt.nil|exact se rfl cN|exact se rfl (cO rfl)|exact se rfl cP|exact se_nilO rfl|exact se rfl (CEnt.agg2 cZ cZ)|exact se rfl (CEnt.agg3 cZ cZ cZ)|exact se rfl (CEnt.agg4 cZ cZ cZ cZ)|exact se rfl (CEnt.agg5 cZ cZ cZ cZ cZ)|exact se rfl (CEnt.agg6 cZ cZ cZ cZ cZ cZ)|exact se_frzB _ rfl rfl rfl (by simp) (fun _ _=>cZ)) ?_))) (hd:o.dst=some d:=by exact rfl) (hN:Nat.blt d G.N=true:=by exact rfl):AMd P G o ⟨env,b0,H⟩ K:=m_callO ho hc hi hA he hd hN hK
theorem jmst (m:Nat) {t:TypeId} {p q:Operand} {i off n:Nat} {g:Option Nat} {f:Nat→CV} {c:CV} {l:List CV} (hK:K ⟨env,b0,H.set i (g,.blk n (updF f off l))⟩) (ho:o.op=.store t p q:=by exact rfl) (hx:(⟨env,b0,H⟩:AS).eval p=.op i g off:=by exact rfl) (hH:H[i]?=some (g,.blk n f):=by exact rfl) (hy:(⟨env,b0,H⟩:AS).eval q=c:=by first|exact jev_t rfl|exact jev_l rfl rfl rfl|exact jev_f rfl) (hl:cellsC c=some l:=by exact rfl) (hm:l.length=m:=by exact rfl) (h5:(P.info? t).map (·.size)=some m:=by kernel_rfl) (hleaf:l.all leafC=true:=by exact rfl) (hn:off+m≤n:=by first|decide|omega|(dsimp only at *;omega)) (hd:o.dst=none:=by exact rfl):AMd P G o ⟨env,b0,H⟩ K :=
 m_store ho hx hH hy hl h5 hm hleaf hn _ (fun _ _=>cZ) hd hK
theorem jmstF (m:Nat) (F:Nat→CV) {t:TypeId} {p q:Operand} {i off n:Nat} {g:Option Nat} {f:Nat→CV} {c:CV} {l:List CV} (hF:∀ j,j<n→CEnt (updF f off l j) (F j)) (hK:K ⟨env,b0,H.set i (g,.blk n F)⟩) (ho:o.op=.store t p q:=by exact rfl) (hx:(⟨env,b0,H⟩:AS).eval p=.op i g off:=by exact rfl) (hH:H[i]?=some (g,.blk n f):=by exact rfl) (hy:(⟨env,b0,H⟩:AS).eval q=c:=by first|exact jev_t rfl|exact jev_l rfl rfl rfl|exact jev_f rfl) (hl:cellsC c=some l:=by exact rfl) (hm:l.length=m:=by exact rfl) (h5:(P.info? t).map (·.size)=some m:=by kernel_rfl) (hleaf:l.all leafC=true:=by exact rfl) (hn:off+m≤n:=by first|decide|omega|(dsimp only at *;omega)) (hd:o.dst=none:=by exact rfl):AMd P G o ⟨env,b0,H⟩ K :=
 m_store ho hx hH hy hl h5 hm hleaf hn F hF hd hK
theorem javc {d:Nat} {t:TypeId} {i off n:Nat} {g:Option Nat} {f:Nat→CV} {c:CV} (h:look s.env s.b d=.op i g off:=by exact rfl) (hH:Holds s i g n f:=by first|exact .inl rfl|exact .inr rfl) (hc:f off=c:=by first|exact jflO_eq rfl|exact jfz_eq rfl) (hn:off<n:=by first|decide|omega|(dsimp only at *;omega)) (hT:jldQ P t=true:=by kernel_rfl):ARV P G s (.cell d t) c:=by
 obtain ⟨ds,h1,ha⟩:=jldQ_ok hT
 exact arv_cell h hH h1 ha hn hc
theorem javA (m:Nat) {d:Nat} {t:TypeId} {i off n:Nat} {g:Option Nat} {f:Nat→CV} (h:look s.env s.b d=.op i g off:=by exact rfl) (hH:Holds s i g n f:=by first|exact .inl rfl|exact .inr rfl) (hn:off+m≤n:=by first|decide|omega|(dsimp only at *;omega)) (hT:jtyQ P t m true=true:=by kernel_rfl):ARV P G s (.cell d t) (.agg m fun j=>f (off+j)):=by
 obtain ⟨ds,h1,ha,h5⟩:=jtyQ_ok hT
 exact arv_cellA h hH h1 ha h5 hn
theorem javt {t:Nat} {c:CV} (h:s.eval (.tmp t)=c:=by first|exact jev_t rfl|exact jev_l rfl rfl rfl|exact jev_f rfl):ARV P G s (.tmp t) c:=arv_tmp h
theorem jrt {fn:Func} {e:Exit} {v m:CV} (hres:ARes P G fn s v:=by first|exact res_1 rfl javt|exact res_2 rfl javt javt|exact res_3 rfl javt javt javt|exact res_4 rfl javt javt javt javt|exact res_0 rfl) (hv:CEnt v m:=by first|exact cZ|exact CEnt.nil) (he:e=.ret∨e=.normal:=by first|exact .inl rfl|exact .inr rfl):bodyR P G fn (fun r H=>r=m∧H=[]) e s:=end_val he hres hv
theorem jlend {α:Type} {k:Nat} {φ:α→Prop} {μ:α→Nat} {D:List Nat} {M:α→List (Nat×CV)} {Hp:α→List (Option Nat×Res)} {b1:Nat→CV} (p':α) (h1:φ p') (h2:μ p'<k) (h5:EntE s.env s.b (M p'):=by (repeat (first|exact EntE.nil|refine EntE.cons cZ ?_|refine EntE.cons (cI (by omega)) ?_))) (h7:HEnt (s.H.take (Hp p').length) (Hp p'):=by (repeat (first|exact HEnt.nil|refine HEnt.same ?_|refine HEnt.blk rfl (fun j hj=>by rcases j with _|_|_|_|_|_|_|_|j <;> first|exact cZ|exact cI (by omega)|omega) ?_)))
  (h3:BLe D b1 s.b:=by first|exact .refl|exact .nest .refl rfl rfl|exact .nest (.nest .refl rfl rfl) rfl rfl|exact .nest (.nest (.nest .refl rfl rfl) rfl rfl) rfl rfl|(repeat (first|exact .refl|refine .nest ?_ rfl rfl|refine BLe.look2 ?_ rfl))) (h4:(s.env.all fun x=>D.any (Nat.beq x.1))=true:=by exact rfl) (h6:(Hp p').length≤s.H.length:=by exact Nat.le_of_ble_eq_true rfl) :
  ∃ p',φ p'∧μ p'<k∧BLe D b1 s.b∧(s.env.all fun x=>D.any (Nat.beq x.1))=true∧EntE s.env s.b (M p')∧(Hp p').length≤s.H.length∧HEnt (s.H.take (Hp p').length) (Hp p'):=⟨p',h1,h2,h3,h4,h5,h6,h7⟩
end
section
variable {G:Gh} {o:Oper} {s:AS}
def jerrN:CV→Option Nat
 | .err k=>some k
 | .c .nilIface=>some 0
 | _=>none
def jerrZ (op:BinOp) (n:Nat):Option Bool:=match op with|.eql=>some (decide (n=0))|.neq=>some (decide (n≠0))|_=>none
theorem jre {op:BinOp} {x:Operand} {u:TypeId} {n:Nat} {z:Bool} (ho:o.op=.binOp op 25 x (.const .nilIface) u:=by exact rfl) (hx:jerrN (s.eval x)=some n:=by exact rfl) (hz:jerrZ op n=some z:=by exact rfl):ARd Tryz.prog G o s (.c (.bool z)):=by
 unfold jerrN at hx
 cases op <;> simp only [jerrZ,Option.some.injEq,reduceCtorEq] at hz
 all_goals subst hz
 ·split at hx
  ·rename_i h;cases hx;exact rd_eqE ho h
  ·rename_i h;cases hx;exact rd_eqE0 ho h
  ·cases hx
 ·split at hx
  ·rename_i h;cases hx;exact rd_neE ho h
  ·rename_i h;cases hx;exact rd_neE0 ho h
  ·cases hx
end
end
section
set_option maxHeartbeats 1000000
section
variable {P:Program} {G:Gh} {ops:Array Oper} {o:Oper} {s:AS} {K:AS→Prop} {t u:TypeId} {x y:Operand} {k:IntKind}
def AMx (P:Program) (G:Gh) (g:Option Nat) (o:Oper) (s:AS) (K:AS→Prop):Prop:=∀ St a w,RelSt G St s a w→∀ Q,o.wp P a w (fun a' w'=>(∀ q,q<w.heap.size→g≠some q→w'.heap[q]?=w.heap[q]?)∧∃ St',(∀ b,St b→St' b)∧∃ s',K s'∧RelSt G St' s' a' w') Q
end
section
variable {P:Program} {G:Gh} {ops:Array Oper} {o:Oper} {env:List (Nat×CV)} {b0:Nat→CV} {H:List (Option Nat×Res)} {K:AS→Prop} {t u:TypeId} {p q:Operand}
end
section
variable {P:Program} {G:Gh} {ops:Array Oper} {o:Oper} {s:AS} {K:AS→Prop} {n:Nat} {R:Exit→AS→Prop}
def AZL (P:Program) (G:Gh) (ops:Array Oper) (n:Nat) (t:OrdO) (s:AS) (K:AS→Prop):Prop :=
 ∀ St a w,RelSt G St s a w→∀ Q:Exit→Act→World→Prop,(∀ s' a' w',K s'→Rel G s' a' w'→Q .normal a' w')→∃ St':Nat→Prop,(∀ b,St b→St' b)∧wpXS P ops Q (fun b=>St' b∨b=n) t a w
def ARdL (P:Program) (G:Gh) (n:Nat) (o:Oper) (s:AS) (v:CV):Prop:=∀ St a w,RelSt G St s a w→∃ x,(∀ W:World,W.heap[n]?=w.heap[n]?→(execOp a.eval o).run P W=.ok (.value x) W)∧RepC G.al St w v x
end
section
variable {P:Program} {G:Gh} {ops:Array Oper} {o:Oper} {s:AS} {env:List (Nat×CV)} {b0:Nat→CV} {H:List (Option Nat×Res)} {K:AS→Prop} {i n:Nat} {t:Ord} {R:Exit→AS→Prop}
end
end
section
def JV (_:Nat):Prop:=True
theorem jv (k:Nat) {n:Nat} (_:JV n) (_:Nat.beq (Nat.mod n 10) k=true:=by exact rfl):JV (Nat.div n 10):=trivial
structure JB (B:Prop):Prop where v:B
theorem jU (n:Nat) {A B:Prop} (b:B) (h:JV n→JB B→A:=by
 intro c b
 repeat (first|(replace c:=jv 1 c;refine jq jrm ?_)|(replace c:=jv 2 c;refine jq jrc ?_)|(replace c:=jv 3 c;refine jq jrl ?_)|(replace c:=jv 4 c;refine jqs ?_)|(replace c:=jv 5 c;refine jN ?_)|(replace c:=jv 6 c;refine jcr ?_)|(replace c:=jv 7 c;refine jcs ?_)|(replace c:=jv 8 c;refine jtn ?_)|(replace c:=jv 9 c;refine jq jra ?_)|(replace c:=jv 0 c;first|(replace c:=jv 1 c;refine jS ?_)|(replace c:=jv 2 c;refine jB ?_)|(replace c:=jv 3 c;refine jq jrn ?_)|(replace c:=jv 4 c;refine jq jrnc ?_)|(replace c:=jv 5 c;refine jqo jrdo ?_)|(replace c:=jv 6 c;refine jq jrdr ?_)|(replace c:=jv 7 c;refine jyq jrm ?_)|(replace c:=jv 8 c;refine jyd ?_)|(replace c:=jv 9 c;refine jq (jrfa 0 1 false) ?_)|(replace c:=jv 0 c;first|(replace c:=jv 1 c;refine jq (jrfa 1 1 false) ?_)|(replace c:=jv 2 c;refine jcg ?_)|(replace c:=jv 3 c;refine jcF ?_)|(replace c:=jv 4 c;refine jbn ?_)|(replace c:=jv 5 c;refine jq jrpF ?_)|(replace c:=jv 6 c;refine jys ?_)|(replace c:=jv 7 c;refine jq jri ?_)|(replace c:=jv 8 c;refine jyq jrc ?_)|(replace c:=jv 9 c;refine jq jrx ?_)|(replace c:=jv 0 c;first|(replace c:=jv 1 c;refine jq (jrfa 2 1 false) ?_)|(replace c:=jv 2 c;refine jte ?_)|(replace c:=jv 3 c;refine jtr ?_)|(replace c:=jv 4 c;refine jbx ?_)|(replace c:=jv 5 c;refine jbr ?_)|(replace c:=jv 6 c;refine jX ?_)|(replace c:=jv 7 c;refine jR ?_)|(replace c:=jv 8 c;refine jq jrpT ?_)|(replace c:=jv 9 c;refine jcT ?_)|(replace c:=jv 0 c;first|(replace c:=jv 1 c;refine jyo jrdo ?_)|(replace c:=jv 2 c;refine jyq jrl ?_)|(replace c:=jv 3 c;refine jyq jra ?_)|(replace c:=jv 4 c;refine jq jrls ?_)|(replace c:=jv 5 c;refine jyq jrnc ?_)|(replace c:=jv 6 c;refine jq jrcs ?_)|(replace c:=jv 7 c;refine jyq jrdr ?_)|(replace c:=jv 8 c;refine jbx2 ?_)|(replace c:=jv 9 c;refine jyq jri ?_)|(replace c:=jv 0 c;first|(replace c:=jv 1 c;refine jyq jrn ?_)|(replace c:=jv 2 c;refine jq jrcb ?_)|(replace c:=jv 3 c;refine jyq jrpF ?_)|(replace c:=jv 4 c;refine jzq jrm ?_)|(replace c:=jv 5 c;refine jq jre ?_)|(replace c:=jv 6 c;refine jq jrq ?_)|(replace c:=jv 7 c;refine jzd ?_)|(replace c:=jv 8 c;refine jq (jrv .i64 .u8) ?_)|(replace c:=jv 9 c;refine jyq (jrfa 0 1 false) ?_)|(replace c:=jv 0 c;first|(replace c:=jv 1 c;refine jq jrr ?_)|(replace c:=jv 2 c;refine jq (jri (i:=0)) ?_)|(replace c:=jv 3 c;refine jyq jrpT ?_)|(replace c:=jv 4 c;refine jyq (jrde 3) ?_)|(replace c:=jv 5 c;refine jq (jrfa 3 1 false) ?_)|(replace c:=jv 6 c;refine jq (jrfa 5 1 false) ?_)|(replace c:=jv 7 c;refine jq (jrfa 4 1 false) ?_)|(replace c:=jv 8 c;refine jyq (jrfa 1 1 false) ?_)|(replace c:=jv 9 c;refine jzq jrnc ?_)|(replace c:=jv 0 c;first|(replace c:=jv 1 c;refine jzq (jrfa 0 1 false) ?_)|(replace c:=jv 2 c;refine jq (jrfa 6 1 false) ?_)|(replace c:=jv 3 c;refine jyq jrbs ?_)|(replace c:=jv 4 c;refine jzs ?_)|(replace c:=jv 5 c;refine jzo jrdo ?_)|(replace c:=jv 6 c;refine jzq (jrfa 1 1 false) ?_)|(replace c:=jv 7 c;refine jq (jrv8 .i64) ?_)|(replace c:=jv 8 c;refine jq jrix ?_)|(replace c:=jv 9 c;refine jq jrst ?_)))))))))
 exact b.v):A:=h trivial ⟨b⟩
end
section
variable {gs:List Nat} [Ok9 gs]

theorem clone8_ac {gs:List Nat} (l:List UInt8) (hl:l.length≤100000000000):ACp gs Tryz.prog 131 [bsC l] (bsC l):=by
 refine ac_of 8 Tryz.func131 rfl rfl rfl (fun al w0 F0 St0=>?_)
 refine jU 167516 ?_;refine seq_eqNil (wanted_none rfl) rfl rfl rfl Tryz.underlying22 rfl rfl (fun h357=>?_) ?_
 ·refine jU 51690005 ?_
  refine jR (jtr (jrt (hv:=CEnt.nilS' h357)))
 ·refine jU 68103005 ?_
  refine jqe (jebl 0 1 zr5 fun p1=>?_)
  refine jU 1 ?_
  refine jqm (m_appendB (l:=[]) rfl rfl rfl (Nat.zero_le _) (fun j hj=>absurd hj (Nat.not_lt_zero j)) (src_rs rfl) rfl (fun j hj=>by simp only [Nat.div_one];exact cZ) Tryz.underlying22 nu22 sz5 zr5 by5 rfl (by (simp;omega)) (fun j hj=>rfl) rfl rfl (fun p2=>?_))
  refine jU 51 ?_;refine jE (freeze 0 rfl) ?_;refine jE (thawB 2 ([]++l) rfl rfl (by rfl) rfl) ?_
  refine jR (jrt (hv:=CEnt.bs (List.nil_append l)))
theorem isNaN8_ac {gs:List Nat} (c:UInt8):ACp gs Tryz.prog 276 [.c (.int .u8 (c.toNat:Nat))] (.c (.bool false)):=by
 refine ac_of 6 Tryz.func276 rfl rfl rfl (fun al w0 F0 St0=>?_)
 refine jU 512116516 ?_
 refine jR (jrt (hv:=cB (by simp)))
def cmp8 (a b:UInt8):Int:=if a.toNat<b.toNat then -1 else if b.toNat<a.toNat then 1 else 0
theorem cmp8_ac {gs:List Nat} (a b:UInt8):ACp gs Tryz.prog 264 [.c (.int .u8 (a.toNat:Nat)),.c (.int .u8 (b.toNat:Nat))] (.c (.int .i64 (cmp8 a b))):=by
 refine ac_of 20 Tryz.func264 rfl rfl rfl (fun al w0 F0 St0=>?_)
 refine jU 16516 ?_
 refine jqe (jecP (isNaN8_ac a) ?_)
 refine jU 1651 ?_
 refine jqe (jecP (isNaN8_ac b) ?_)
 refine jU 516751 ?_;refine jcc (fun h43=>?_) fun h43=>?_
 ·refine jU 5167 ?_;refine jcc (fun h44=>?_) fun h44=>?_
  ·refine jU 516 ?_
   refine jR (jtr (jtr (jrt (hv:=?_))))
   (exfalso;simp at *;done)
  refine jU 516810 ?_
  refine jR (jtr (jrt (hv:=?_)))
  (exfalso;simp at *;done)
 refine jU 5167810 ?_;refine jcc (fun h49=>?_) fun h49=>?_
 ·refine jU 516 ?_
  refine jR (jtr (jrt (hv:=?_)))
  (exfalso;simp at *;done)
 refine jU 521167810 ?_;refine jcc (fun h52=>?_) fun h52=>?_
 ·refine jU 516 ?_
  refine jR (jtr (jrt (hv:=?_)))
  (refine cI ?_;unfold cmp8;split <;> omega)
 refine jU 521167810 ?_;refine jcc (fun h55=>?_) fun h55=>?_
 ·refine jU 516 ?_
  refine jR (jtr (jrt (hv:=?_)))
  (refine cI ?_;unfold cmp8;split <;> omega)
 refine jU 516810 ?_
 refine jR (jrt (hv:=?_))
 (refine cI ?_;unfold cmp8;split <;> omega)
def cmpL:List UInt8→List UInt8→Int
 | [],[]=>0
 | [],_::_=>-1
 | _::_,[]=>1
 | a::l,b::r=>if cmp8 a b≠0 then cmp8 a b else cmpL l r
theorem cmpL_lt:∀ l r:List UInt8,decide (cmpL l r<0)=Op.bytesLess l r
 | [],[]=>by simp [cmpL,Op.bytesLess]
 | [],_::_=>by simp [cmpL,Op.bytesLess]
 | _::_,[]=>by simp [cmpL,Op.bytesLess]
 | a::l,b::r=>by
  have ih:=cmpL_lt l r
  rw [cmpL,Op.bytesLess,← ih]
  have h1:(a<b)↔a.toNat<b.toNat:=UInt8.lt_iff_toNat_lt
  have h2:(a=b)↔a.toNat=b.toNat:=UInt8.toNat_inj.symm
  rw [Bool.eq_iff_iff]
  simp only [decide_eq_true_eq,Bool.or_eq_true,Bool.and_eq_true,beq_iff_eq,h1,h2]
  by_cases h3:a.toNat<b.toNat
  ·simp [cmp8,h3]
  ·by_cases h4:b.toNat<a.toNat
   ·simp [cmp8,h3,h4]
    omega
   ·have h5:a.toNat=b.toNat:=by omega
    simp [cmp8,h5]
theorem cmpL_drop {l r:List UInt8} {i:Nat} (h1:i<l.length) (h2:i<r.length):cmpL (l.drop i) (r.drop i)=if cmp8 (l.getD i 0) (r.getD i 0)≠0 then cmp8 (l.getD i 0) (r.getD i 0) else cmpL (l.drop (i+1)) (r.drop (i+1)):=by
 rw [List.drop_eq_getElem_cons h1,List.drop_eq_getElem_cons h2,cmpL]
 simp [List.getD,h1,h2]
theorem compare8_ac {gs:List Nat} (l r:List UInt8):ACp gs Tryz.prog 238 [bsC l,bsC r] (.c (.int .i64 (cmpL l r))):=by
 refine ac_len 0 rfl fun hlen=>?_
 refine ac_of 36 Tryz.func238 rfl rfl rfl (fun al w0 F0 St0=>?_)
 refine jU 20513167516 ?_;refine l_loop (α:=Nat) [4,5,6,7,8,11,12,13,14,15,16,17,18,19,20,21,22,23,24,25,26,27,28,29,30] (fun i=>[(11,.c (.int .i64 (i:Nat)))]) (fun _=>[]) (fun i=>i≤l.length∧i≤r.length∧cmpL (l.drop i) (r.drop i)=cmpL l r) (fun i=>l.length-i) (0) ?_ (fun _=>rfl) ?_ ?_ ?_
 ·exact ⟨by omega,by omega,rfl⟩
 ·(repeat (first|exact EntE.nil|refine EntE.cons cZ ?_))
 ·(repeat (exact HEnt.nil))
 ·rintro i ⟨hi,hj,he⟩
  refine jU 7526 ?_;refine jcc (fun h58=>?_) fun h58=>?_
  rotate_left
  ·refine jU 5231316784000200020006000 ?_;refine jcc (fun h67=>?_) fun h67=>?_
   ·refine jU 516 ?_
    refine jR (jtr (jrt (hv:=?_)))
    refine cI ?_
    have h1:l.drop i=[]:=List.drop_eq_nil_of_le (by omega)
    rw [← he,h1]
    (rw [List.drop_eq_getElem_cons (show i<r.length by omega)];rfl)
   refine jU 516810 ?_
   refine jR (jrt (hv:=?_))
   refine cI ?_
   have h1:l.drop i=[]:=List.drop_eq_nil_of_le (by omega)
   rw [← he,h1]
   (rw [List.drop_eq_nil_of_le (show r.length≤i by omega)];rfl)
  refine jU 52311675116070016207810 ?_;refine jcc (fun h59=>?_) fun h59=>?_
  ·refine jU 516 ?_
   refine jR (jtr (jbr (jtr (jtr (jbr (jtr (jrt (hv:=?_))))))))
   refine cI ?_
   have:r.drop i=[]:=List.drop_eq_nil_of_le (by omega)
   rw [← he,this,List.drop_eq_getElem_cons (by omega)]
   rfl
  refine jU 1165160700116810 ?_
  refine jqe (jecP (cmp8_ac (l.getD i 0) (r.getD i 0)) ?_)
  refine jU 521651 ?_;refine jcc (fun h63=>?_) fun h63=>?_
  ·refine jU 5116 ?_
   refine jR (jbr (jtr (jtr (jbr (jtr (jrt (hv:=?_)))))))
   refine cI ?_
   rw [← he,cmpL_drop (l:=l) (r:=r) (i:=i) (by omega) (by omega),if_pos h63]
  refine jU 8519200840010 ?_;refine jlend (i+1) ?_ ?_
  ·exact ⟨by omega,by omega,by rw [← he,cmpL_drop (l:=l) (r:=r) (i:=i) (by omega) (by omega),if_neg h63]⟩
  ·omega

def idxI (l:List Int) (x:Int):Int:=if x ∈ l then (l.idxOf x:Nat) else -1
theorem index64_ac {gs:List Nat} (l:List Int) (x:Int):ACp gs Tryz.prog 275 [isC l,.c (.int .i64 x)] (.c (.int .i64 (idxI l x))):=by
 refine ac_len 0 rfl fun hlen=>?_
 refine ac_of 19 Tryz.func275 rfl rfl rfl (fun al w0 F0 St0=>?_)
 refine jU 20513167516 ?_;refine l_loop (α:=Nat) [4,5,8,9,10,11,12,13,14,15,16,17,18] (fun i=>[(8,.c (.int .i64 (i:Nat)))]) (fun _=>[]) (fun i=>i≤l.length∧x ∉ l.take i) (fun i=>l.length-i) (0) ?_ (fun _=>rfl) ?_ ?_ ?_
 ·exact ⟨by omega,by simp⟩
 ·(repeat (first|exact EntE.nil|refine EntE.cons cZ ?_))
 ·(repeat (exact HEnt.nil))
 ·rintro i ⟨hi,he⟩
  refine jU 7526 ?_;refine jcc (fun h97=>?_) fun h97=>?_
  rotate_left
  ·refine jU 51684000200020006000 ?_
   refine jR (jrt (hv:=?_))
   refine cI ?_
   have:l.take i=l:=List.take_of_length_le (by omega)
   rw [this] at he
   unfold idxI
   rw [if_neg he]
  refine jU 526070011165116207810 ?_;refine jcc (fun h98=>?_) fun h98=>?_
  ·refine jU 5116 ?_
   refine jR (jbr (jtr (jtr (jbr (jtr (jrt (hv:=?_)))))))
   refine cI ?_
   have hlt:i<l.length:=by omega
   have e:l.getD i 0=l[i]:=by simp [List.getD,hlt]
   have hm:x ∈ l:=by rw [h98,e];exact List.getElem_mem hlt
   have hx:l.idxOf x=i:=by
    have e2:l=l.take i++l[i]::l.drop (i+1):=by rw [← List.drop_eq_getElem_cons hlt,List.take_append_drop]
    rw [e2,List.idxOf_append,if_neg he,h98,e]
    rw [← List.drop_eq_getElem_cons hlt,List.drop_eq_getElem_cons hlt,List.idxOf_cons_self,List.length_take]
    omega
   unfold idxI
   rw [if_pos hm,hx]
  refine jU 8519200840010 ?_;refine jlend (i+1) ?_ ?_
  ·exact ⟨by omega,fun hm=>by
    rw [List.take_succ_eq_append_getElem (by omega)] at hm
    rcases List.mem_append.1 hm with h|h
    ·exact he h
    ·have e:l.getD i 0=l[i]:=by simp [List.getD,show i<l.length by omega]
     simp at h
     rw [e] at h98
     exact h98 h⟩
  ·omega
theorem contains64_ac {gs:List Nat} (l:List Int) (x:Int):ACp gs Tryz.prog 262 [isC l,.c (.int .i64 x)] (.c (.bool (decide (x ∈ l)))):=by
 refine ac_of 9 Tryz.func262 rfl rfl rfl (fun al w0 F0 St0=>?_)
 refine jU 116516 ?_
 refine jqe (jecP (index64_ac l x) ?_)
 refine jU 512 ?_
 refine jR (jrt (hv:=?_))
 refine cB ?_
 unfold idxI
 split <;> simp_all <;> omega

def revJ (l:List UInt8) (i:Nat):List UInt8:=(List.range l.length).map fun j=>if j<i∨l.length≤j+i then l.reverse.getD j 0 else l.getD j 0
theorem revJ_get {l:List UInt8} {i j:Nat} (h:j<l.length):(revJ l i).getD j 0=if j<i∨l.length≤j+i then l.reverse.getD j 0 else l.getD j 0:=by simp [revJ,List.getD,h]
theorem rev_get {l:List UInt8} {j:Nat} (h:j<l.length):l.reverse.getD j 0=l.getD (l.length-1-j) 0:=by
 simp [List.getD,List.getElem?_reverse h,show l.length-1-j<l.length by omega]
theorem revJ_all {l:List UInt8} {i:Nat} (h:l.length≤2 * i+1):revJ l i=l.reverse:=by
 apply List.ext_getElem
 ·simp [revJ]
 ·intro j h1 h2
  have hj:j<l.length:=by simpa using h2
  have e:=revJ_get (i:=i) hj
  simp only [List.getD_eq_getElem?_getD,List.getElem?_eq_getElem h1,List.getElem?_eq_getElem h2,List.getElem?_eq_getElem hj,Option.getD_some] at e
  rw [e]
  split
  ·rfl
  ·have:j=l.length-1-j:=by omega
   rw [List.getElem_reverse]
   congr 1
theorem revJ_zero (l:List UInt8):revJ l 0=l:=by
 apply List.ext_getElem
 ·simp [revJ]
 ·intro j h1 h2
  have e:=revJ_get (i:=0) h2
  simp only [List.getD_eq_getElem?_getD,List.getElem?_eq_getElem h1,List.getElem?_eq_getElem h2,Option.getD_some] at e
  rw [e,if_neg (by omega)]
def OwnL (g:Option Nat) (l:List UInt8):CV→List (Option Nat×Res)→Prop:=fun r H'=>r=.c (.tuple #[])∧H'=[(g,.blk l.length (byF l))]
theorem reverse8_ac {gs:List Nat} (g:Option Nat) (l:List UInt8) (hl:l.length≤100000000000):AC gs Tryz.prog 218 [(g,.blk l.length (byF l))] [.os 0 g 0 l.length 1] (OwnL g l.reverse):=by
 refine ac_of 28 Tryz.func218 rfl rfl rfl (fun al w0 F0 St0=>?_)
 refine jU 205119316 ?_;refine l_loop (α:=Nat) [2,3,7,8,9,10,11,12,13,14,15,16,17,18,19,20,21,22,23,24,25,26,27] (fun i=>[(2,.c (.int .i64 (i:Nat))),(3,.c (.int .i64 ((l.length:Int)-1-i)))]) (fun i=>[(g,.blk l.length (byF (revJ l i)))]) (fun i=>2 * i≤l.length+1) (fun i=>l.length-i) (0) ?_ (fun _=>rfl) ?_ ?_ ?_
 ·show 2 * 0≤l.length+1;omega
 ·exact .cons cZ (.cons (cI (by omega)) .nil)
 ·exact .blk rfl (fun j hj=>by rw [revJ_zero];exact cZ) .nil
 ·rintro i (hi:2 * i≤l.length+1)
  refine jU 521167 ?_;refine jcc (fun h484=>?_) fun h484=>?_
  rotate_left
  ·refine jU 4000200020006000 ?_
   exact end_own (.inr rfl) _ _ [0] (by decide) rfl (res_0 rfl) ⟨rfl,by show [(g,Res.blk l.length (byF (revJ l i)))]=_;rw [revJ_all (by omega),List.length_reverse]⟩
  refine jU 207810 ?_;refine jcdZ (.rd 0 (.rd 1 (.rd 2 (.rd 3 (.rd 4 (.rd 5 (.rd 6 (.rd 7 (.rd 8 (.rd 9 (.rd 10 (.rd 11 (.rd 12 (.one 13 (.rd 14 (.one 15 .done)))))))))))))))) ?_;refine jU 400000400000400000400000400000400000 ?_;refine jzq (jri (i:=(l.length-1-i)) (hz:=by omega)) ?_;refine jU 40000040000050000000 ?_;refine jzq (jri (i:=i) (hz:=by omega)) ?_;refine jzo jrdo ?_;refine jzq (jri (i:=i) (hz:=by omega)) ?_
  refine jzm (jmst 1 ?_)
  refine jzq (jri (i:=(l.length-1-i)) (hz:=by omega)) ?_
  refine jzm (jmst 1 ?_)
  refine jU 851191912008400700000 ?_
  refine jlend (i+1) ?_ ?_ (h7:=?_)
  ·show 2 * (i+1)≤l.length+1;omega
  ·omega
  ·exact .blk rfl (fun j hj=>by
    refine (CEnt.of_eq (updF_one _ _ _ j)).trans ?_
    have hj:j<l.length:=hj
    have e3:=revJ_get (i:=i+1) hj
    have ri:=@rev_get l i (by omega)
    have rj:=@rev_get l (l.length-1-i) (by omega)
    have ei:=@revJ_get l i i (by omega)
    have ej:=@revJ_get l i (l.length-1-i) (by omega)
    rw [if_neg (by omega)] at ei ej
    rw [show l.length-1-(l.length-1-i)=i by omega] at rj
    show CEnt (if j=_ then _ else updF (byF (revJ l i)) i [_] j) _
    rw [updF_one]
    unfold byF
    by_cases h1:j=l.length-1-i
    ·rw [if_pos h1]
     subst h1
     exact cI (by rw [ei,e3,if_pos (.inr (by omega)),rj])
    ·rw [if_neg h1]
     by_cases h2:j=i
     ·rw [if_pos h2]
      subst h2
      exact cI (by rw [ej,e3,if_pos (.inl (by omega)),ri])
     ·rw [if_neg h2]
      have e0:=revJ_get (i:=i) hj
      refine cI ?_
      rw [e0,e3]
      by_cases h3:j<i∨l.length≤j+i
      ·rw [if_pos h3,if_pos (by omega)]
      ·rw [if_neg h3,if_neg (by omega)]) .nil
end
section
def madeM (t:Int):Bool:=decide (t=48∨t=49∨(160≤t∧t<176))
def plainT:List Int:=[1,2,3,4,5,6,10,12,24]
def knownM (t:Int):Bool:=madeM t || decide ((1≤t∧t≤6)∨t=10∨t=12∨t=24)
theorem plain_known (t:Int):decide (t ∈ plainT)=decide ((1≤t∧t≤6)∨t=10∨t=12∨t=24):=by
 refine decide_eq_decide.2 ?_
 simp only [plainT,List.mem_cons,List.not_mem_nil,or_false]
 omega
def b8 (n:Nat):UInt8:=UInt8.ofNat n
theorem b8_toNat {n:Nat} (h:n<256):(b8 n).toNat=n:=by
 unfold b8
 rw [UInt8.toNat_ofNat']
 omega
theorem b8_mod (n:Nat):(b8 n).toNat=n % 256:=by
 unfold b8
 rw [UInt8.toNat_ofNat']
def lenL (n:Nat):List UInt8 :=
 if n<128 then [b8 n] else if n<256 then [129,b8 n] else if n<65536 then [130,b8 (n / 256),b8 n]
 else if n<16777216 then [131,b8 (n / 65536),b8 (n / 256),b8 n] else [132,b8 (n / 16777216),b8 (n / 65536),b8 (n / 256),b8 n]
theorem lenL_bd (n:Nat):1≤(lenL n).length∧(lenL n).length≤5:=by
 unfold lenL
 split
 ·simp
 ·split
  ·simp
  ·split
   ·simp
   ·split <;> simp
def putL (tag:Int) (body:List UInt8):List UInt8:=UInt8.ofNat tag.toNat::(lenL body.length++body)
def beN (l:List UInt8):Nat:=l.foldl (fun n c=>n * 256+c.toNat) 0
theorem beN_snoc (l:List UInt8) (c:UInt8):beN (l++[c])=beN l * 256+c.toNat:=by simp [beN]
theorem beN_take {l:List UInt8} {i:Nat} (h:i<l.length):beN (l.take (i+1))=beN (l.take i) * 256+(l.getD i 0).toNat:=by
 rw [List.take_succ_eq_append_getElem h,beN_snoc]
 simp [List.getD,h]
theorem beN_lt (l:List UInt8):beN l<256 ^ l.length:=by
 have key:∀ (r:List UInt8) (n k:Nat),n<256 ^ k→r.foldl (fun n c=>n * 256+c.toNat) n<256 ^ (k+r.length):=by
  intro r
  induction r with
  | nil=>intro n k h;simpa using h
  | cons c r ih =>
   intro n k h
   have:=ih (n * 256+c.toNat) (k+1) (by have:=c.toNat_lt;rw [Nat.pow_succ];omega)
   simpa [Nat.add_assoc,Nat.add_comm 1] using this
 have:=key l 0 0 (by decide)
 simpa [beN] using this

structure Ms where
 e:Nat
 n:Nat
 rest:List UInt8
def measM (b:List UInt8):Ms :=
 if b.length=0 then ⟨2,0,[]⟩ else
 let c:=(b.getD 0 0).toNat
 let r:=b.drop 1
 if c≤127 then ⟨0,c,r⟩ else
 if c=128∨132<c then ⟨4,0,[]⟩ else
 if r.length<c-128 then ⟨2,0,[]⟩ else
 if beN (r.take (c-128))≤127∨(r.getD 0 0).toNat=0 then ⟨4,0,[]⟩ else ⟨0,beN (r.take (c-128)),r.drop (c-128)⟩
theorem measM_ne {b r:List UInt8} {c:Nat} (h:b.length≠0) (hc:c=(b.getD 0 0).toNat) (hr:r=b.drop 1):measM b=if c≤127 then ⟨0,c,r⟩ else
 if c=128∨132<c then ⟨4,0,[]⟩ else
 if r.length<c-128 then ⟨2,0,[]⟩ else
 if beN (r.take (c-128))≤127∨(r.getD 0 0).toNat=0 then ⟨4,0,[]⟩ else ⟨0,beN (r.take (c-128)),r.drop (c-128)⟩:=by
 subst hc hr
 unfold measM
 rw [if_neg h]
theorem measM_rest (b:List UInt8):(measM b).rest.length≤b.length-1∧((measM b).e≠0→(measM b).rest=[]∧(measM b).n=0)∧(measM b).e≤4:=by
 unfold measM
 split
 ·simp
 ·dsimp only
  split
  ·simp
  ·split
   ·simp
   ·split
    ·simp
    ·split
     ·simp
     ·refine ⟨?_,by simp,by simp⟩
      simp
      omega

structure Nx where
 e:Nat
 tag:Nat
 body:List UInt8
 rest:List UInt8
def nextM (b:List UInt8):Nx :=
 if b.length=0 then ⟨2,0,[],[]⟩ else
 if knownM ((b.getD 0 0).toNat:Nat)=false then ⟨5,0,[],[]⟩ else
 let m:=measM (b.drop 1)
 if m.e≠0 then ⟨m.e,0,[],[]⟩ else
 if 65530<m.n then ⟨3,0,[],[]⟩ else
 if m.rest.length<m.n then ⟨2,0,[],[]⟩ else ⟨0,(b.getD 0 0).toNat,m.rest.take m.n,m.rest.drop m.n⟩
theorem nextM_ne {b:List UInt8} {t:Nat} {m:Ms} (h:b.length≠0) (ht:t=(b.getD 0 0).toNat) (hk:knownM (t:Nat)=true) (hm:m=measM (b.drop 1)):nextM b=if m.e≠0 then ⟨m.e,0,[],[]⟩ else
 if 65530<m.n then ⟨3,0,[],[]⟩ else
 if m.rest.length<m.n then ⟨2,0,[],[]⟩ else ⟨0,t,m.rest.take m.n,m.rest.drop m.n⟩:=by
 subst ht hm
 unfold nextM
 rw [if_neg h,if_neg (by rw [hk];exact Bool.noConfusion)]
theorem nextM_bd (b:List UInt8):(nextM b).e≤5∧(nextM b).tag≤255∧(nextM b).body.length≤65530∧(nextM b).body.length≤b.length∧(nextM b).rest.length≤b.length∧((nextM b).e=0→(nextM b).rest.length<b.length):=by
 unfold nextM
 split
 ·simp
 ·split
  ·simp
  ·dsimp only
   have hm:=measM_rest (b.drop 1)
   split
   ·refine ⟨by dsimp only;omega,by simp,by simp,by simp,by simp,fun h=>by dsimp only at h;omega⟩
   ·split
    ·simp
    ·split
     ·simp
     ·have h8:=(b.getD 0 0).toNat_lt
      have hm1:=hm.1
      rw [List.length_drop] at hm1
      refine ⟨by simp,by dsimp only;omega,by rw [List.length_take];omega,by rw [List.length_take];omega,by rw [List.length_drop];omega,fun _=>by rw [List.length_drop];omega⟩

def loopW (rec:Nat→List UInt8→Nat×Nat) (set:Bool) (lv:Nat):Nat→List UInt8→List UInt8→Nat→Nat×Nat
 | 0,_,_,dp=>(dp,0)
 | fuel+1,b,last,dp =>
  if b.length=0 then (dp,0) else
  if (nextM b).e≠0 then (0,(nextM b).e) else
  if lv≤1 then (0,6) else
  if (rec (nextM b).tag (nextM b).body).2≠0 then (0,(rec (nextM b).tag (nextM b).body).2) else
  if set=true∧Op.bytesLess (b.take (b.length-(nextM b).rest.length)) last=true then (0,7) else
  loopW rec set lv fuel (nextM b).rest (b.take (b.length-(nextM b).rest.length)) (max dp ((rec (nextM b).tag (nextM b).body).1+1))
def wholeM:Nat→Nat→List UInt8→Nat×Nat
 | 0,_,_=>(1,0)
 | lv+1,tag,body=>if madeM tag=false then (1,0) else loopW (wholeM lv) (decide (tag=49)) (lv+1) body.length body [] 1
theorem loopW_bd (rec:Nat→List UInt8→Nat×Nat) (set:Bool) (lv B:Nat) (hr:∀ t b,(rec t b).1≤B∧(rec t b).2≤7):∀ (fuel:Nat) (b last:List UInt8) (dp:Nat),dp≤B+1→(loopW rec set lv fuel b last dp).1≤B+1∧(loopW rec set lv fuel b last dp).2≤7
 | 0,_,_,dp,h=>⟨h,by simp [loopW]⟩
 | fuel+1,b,last,dp,h=>by
  have h1:=nextM_bd b
  have h2:=hr (nextM b).tag (nextM b).body
  unfold loopW
  split
  ·exact ⟨h,by simp⟩
  ·split
   ·exact ⟨by simp,by simp;omega⟩
   ·split
    ·exact ⟨by simp,by simp⟩
    ·split
     ·exact ⟨by simp,by simp;omega⟩
     ·split
      ·exact ⟨by simp,by simp⟩
      ·exact loopW_bd rec set lv B hr fuel _ _ _ (by omega)
theorem wholeM_bd:∀ (lv tag:Nat) (body:List UInt8),(wholeM lv tag body).1≤lv+1∧(wholeM lv tag body).2≤7
 | 0,_,_=>by simp [wholeM]
 | lv+1,tag,body=>by
  unfold wholeM
  split
  ·exact ⟨by simp,by simp⟩
  ·exact loopW_bd _ _ _ _ (fun t b=>wholeM_bd lv t b) _ _ _ _ (by omega)
def depthM (b:List UInt8):Nat×Nat :=
 if 65536<b.length then (0,3) else
 if (nextM b).e≠0 then (0,(nextM b).e) else
 if 0<(nextM b).rest.length then (0,4) else wholeM 16 (nextM b).tag (nextM b).body
theorem depthM_bd (b:List UInt8):(depthM b).1≤17∧(depthM b).2≤7:=by
 have h1:=nextM_bd b
 have h2:=wholeM_bd 16 (nextM b).tag (nextM b).body
 unfold depthM
 split
 ·simp
 ·split
  ·exact ⟨by simp,by simp;omega⟩
  ·split
   ·simp
   ·exact h2

theorem meas_put {n:Nat} (r:List UInt8) (h:n<4294967296):measM (lenL n++r)=⟨0,n,r⟩:=by
 unfold lenL
 split
 ·rename_i h1
  simp [measM,b8_toNat (show n<256 by omega)]
  omega
 ·split
  ·rename_i h1 h2
   simp [measM,b8_toNat h2,beN]
   omega
  ·split
   ·rename_i h1 h2 h3
    simp [measM,b8_mod,beN]
    rw [if_neg (by omega),if_neg (by omega)];congr 1;omega
   ·split
    ·rename_i h1 h2 h3 h4
     simp [measM,b8_mod,beN]
     rw [if_neg (by omega),if_neg (by omega)];congr 1;omega
    ·rename_i h1 h2 h3 h4
     simp [measM,b8_mod,beN]
     rw [if_neg (by omega),if_neg (by omega)];congr 1;omega
theorem next_put {tag:Int} {body r:List UInt8} (hk:knownM tag=true) (hb:body.length≤65530):nextM (putL tag body++r)=⟨0,tag.toNat,body,r⟩:=by
 have ht:0≤tag∧tag<256:=by
  unfold knownM madeM at hk
  simp at hk
  omega
 have e0:(UInt8.ofNat tag.toNat).toNat=tag.toNat:=b8_toNat (n:=tag.toNat) (by omega)
 have hm:=meas_put (n:=body.length) (body++r) (by omega)
 have e1:((tag.toNat:Nat):Int)=tag:=by omega
 unfold nextM putL
 simp only [List.cons_append,List.length_cons,List.getD_cons_zero,e0,e1,hk,List.drop_succ_cons,List.drop_zero,List.append_assoc,hm]
 rw [if_neg (by omega),if_neg (by simp),if_neg (by simp),if_neg (by omega),if_neg (by simp)]
 simp
end
end Am
end Go.Proofs.YthlpfjnkieaeeaaGreatDoor
namespace Go.Proofs.YthlpfjnkieaeeaaGreatDoor
set_option linter.unusedVariables false
open Go.RowKit Go.Extern.Stop Go.Stop Go.Extern

theorem isTypeOf (v:Value) (w:World):(callFunc 135 #[.iface 356 v]).run Tryz.prog w=.ok (.value (.iface 249 (.agg #[.pointer (some ⟨31,356,none⟩)]))) w:=by kernel_rfl
theorem isComparable (w:World):(callFunc 336 #[.agg #[.pointer (some ⟨31,356,none⟩)]]).run Tryz.prog w=.ok (.value (.bool true)) w:=by kernel_rfl
theorem isMethodComparable (v : Value) (w : World) : (Go.method 488 249 v "Comparable").run Tryz.prog w = .ok (336, v) w := by kernel_rfl
theorem isComp:(Tryz.prog.info? 356).map (·.comparable)=some true:=by kernel_rfl
theorem isSize:(Tryz.prog.info? 378).map (·.size)=some 1:=by kernel_rfl
theorem noIsE (v:Value) (xT:TypeId) (w:World):(Instr.typeAssert (.iface 356 v) xT 251 true).run Tryz.prog w=.ok (.tuple #[.nilIface,.bool false]) w:=run_typeAssert_lacksB Tryz.underlying251 (by kernel_rfl) (by kernel_rfl) v xT w
theorem noUnwrapE (v:Value) (xT:TypeId) (w:World):(Instr.typeAssert (.iface 356 v) xT 254 true).run Tryz.prog w=.ok (.tuple #[.nilIface,.bool false]) w:=run_typeAssert_lacksB Tryz.underlying254 (by kernel_rfl) (by kernel_rfl) v xT w
theorem noUnwrapsE (v:Value) (xT:TypeId) (w:World):(Instr.typeAssert (.iface 356 v) xT 255 true).run Tryz.prog w=.ok (.tuple #[.nilIface,.bool false]) w:=run_typeAssert_lacksB Tryz.underlying255 (by kernel_rfl) (by kernel_rfl) v xT w

set_option maxHeartbeats 400000 in
theorem is_same (a:Addr) (w:World) :
  Calls Tryz.prog 61 #[.iface 356 (.pointer (some a)),.iface 356 (.pointer (some a))] w fun e w'=>e=.returned (.bool true)∧w=w':=by
 obtain ⟨i,hi,hcmp⟩:=Option.map_eq_some_iff.1 isComp
 obtain ⟨j,hj,hjs⟩:=Option.map_eq_some_iff.1 isSize
 have tT:=isTypeOf
 have cT:=isComparable
 have mR:=isMethodComparable
 have heq:=run_eql_iface_ptr_same (P:=Tryz.prog) w a Tryz.underlying25 Tryz.underlying356 hi hcmp hj
 go_enter Tryz.func61,Tryz.ntmps61
 go_wp2
 refine wp_loop_rounds 1 ?_
 rw [rounds_succ]
 go_wp2
 go_ret
 exact ⟨rfl,rfl⟩

set_option maxHeartbeats 400000 in
theorem is_other (a b:Addr) (ca cb:Array Value) (ta tb:TypeId) (w:World) (hne:a≠b) (ha:w.heap[a.block]?=some (.cells ca ta (0,0))) (hb:w.heap[b.block]?=some (.cells cb tb (0,0))) :
  Calls Tryz.prog 61 #[.iface 356 (.pointer (some a)),.iface 356 (.pointer (some b))] w fun e w'=>e=.returned (.bool false)∧w=w':=by
 obtain ⟨i,hi,hcmp⟩:=Option.map_eq_some_iff.1 isComp
 obtain ⟨j,hj,hjs⟩:=Option.map_eq_some_iff.1 isSize
 have tT:=isTypeOf
 have cT:=isComparable
 have mR:=isMethodComparable
 have nE:=noIsE
 have uE:=noUnwrapE
 have vE:=noUnwrapsE
 have heq:=run_eql_iface_ptr_other (P:=Tryz.prog) w Tryz.underlying25 Tryz.underlying356 hi hcmp hj (by rw [hjs];decide) hne ha hb
 go_enter Tryz.func61,Tryz.ntmps61
 go_wp2
 refine wp_loop_rounds 1 ?_
 rw [rounds_succ]
 go_wp2
 go_ret
 exact ⟨rfl,rfl⟩

theorem is_ev {w:World} {al:List Addr} (h:Sent w al) (m k:Nat) (hm0:m≠0) (hm:m≤28) (hk:k<28) :
  Calls Tryz.prog 61 #[ev al m,ev al (k+1)] w fun e w'=>e=.returned (.bool (decide (m=k+1)))∧w=w':=by
 have hl:al.length=28:=h.len.trans (by rw [OkG.eq];rfl)
 obtain ⟨a,ha⟩:∃ a,al[m-1]?=some a:=⟨al[m-1],List.getElem?_eq_getElem (by omega)⟩
 obtain ⟨b,hb⟩:∃ b,al[k]?=some b:=⟨al[k],List.getElem?_eq_getElem (by omega)⟩
 have e1:ev al m=.iface 356 (.pointer (some a)):=by simp [ev,hm0,ha]
 have e2:ev al (k+1)=.iface 356 (.pointer (some b)):=by simp [ev,hb]
 rw [e1,e2]
 by_cases hmk:m=k+1
 ·subst hmk
  simp only [Nat.add_sub_cancel] at ha
  obtain rfl:=Option.some.inj (ha.symm.trans hb)
  simp only [decide_true]
  exact is_same a w
 ·have hne:a≠b:=by
   intro e
   subst e
   have all:∀ i,i<28→((errG gs)[i]?).any (fun g=>(lst gs).contains g)=true:=by decide
   have get:∀ i,i<28→∃ g,(errG gs)[i]?=some g∧g ∈ lst gs:=fun i hi=>by
    have h1:=all i hi
    cases h2:(errG gs)[i]? with
    | none=>rw [h2] at h1;cases h1
    | some g=>rw [h2] at h1;exact ⟨g,rfl,List.contains_iff_mem.1 h1⟩
   obtain ⟨g1,k1,k2⟩:=get (m-1) (by omega)
   obtain ⟨g2,k3,k4⟩:=get k hk
   have:=h.nd (m-1) k g1 g2 k1 k2 k3 k4 (ha.trans hb.symm)
   omega
  simp only [hmk,decide_false]
  obtain ⟨ca,ta,h1⟩:=h.row a (List.mem_of_getElem? ha)
  obtain ⟨cb,tb,h2⟩:=h.row b (List.mem_of_getElem? hb)
  exact is_other a b ca cb ta tb w hne h1 h2
end Go.Proofs.YthlpfjnkieaeeaaGreatDoor
namespace Go.Proofs.YthlpfjnkieaeeaaGreatDoor
set_option linter.unusedVariables false
open Go.RowKit

def evs (al:List Addr):Array Value:=#[ev al 1,ev al 2,ev al 3,ev al 4,ev al 5,ev al 6,ev al 7,ev al 8,ev al 9,ev al 10,ev al 11,ev al 12,ev al 13,ev al 14,ev al 15,ev al 16,ev al 17,ev al 18,ev al 19,ev al 20,ev al 21,ev al 22,ev al 23,ev al 24,ev al 25,ev al 26,ev al 27,ev al 28]
theorem evs_get (al:List Addr) (k:Nat) (hk:k<28):(evs al)[k]?=some (ev al (k+1)):=by
 have:∀ k,k<28→(evs al)[k]?=some (ev al (k+1)):=by
  intro k hk
  match k,hk with
  | 0,_=>rfl
  | 1,_=>rfl
  | 2,_=>rfl
  | 3,_=>rfl
  | 4,_=>rfl
  | 5,_=>rfl
  | 6,_=>rfl
  | 7,_=>rfl
  | 8,_=>rfl
  | 9,_=>rfl
  | 10,_=>rfl
  | 11,_=>rfl
  | 12,_=>rfl
  | 13,_=>rfl
  | 14,_=>rfl
  | 15,_=>rfl
  | 16,_=>rfl
  | 17,_=>rfl
  | 18,_=>rfl
  | 19,_=>rfl
  | 20,_=>rfl
  | 21,_=>rfl
  | 22,_=>rfl
  | 23,_=>rfl
  | 24,_=>rfl
  | 25,_=>rfl
  | 26,_=>rfl
  | 27,_=>rfl
  | k+28,h=>omega
 exact this k hk

set_option maxRecDepth 100000 in
set_option maxHeartbeats 400000 in
theorem num_any {w:World} {al:List Addr} (h:Sent w al) (m:Nat) (hm:m≤28) :
  Calls Tryz.prog 12 #[ev al m] w fun e w'=>e=.returned (.int .i64 m)∧Below w.heap.size w w':=by
 by_cases h0:m=0
 ·subst h0
  have e0:decide ((0:Nat)=0)=true:=rfl
  go_enter Tryz.func12,Tryz.ntmps12
  go_wp2
  go_ret
  exact ⟨rfl,Below.refl _ _⟩
 ·have hd:decide (m=0)=false:=by simpa using h0
  have g0:w.cell? ⟨1,0,none⟩=some (ev al 1):=h.var 0 _ rfl (by decide)
  have g1:w.cell? ⟨2,0,none⟩=some (ev al 2):=h.var 1 _ rfl (by decide)
  have g2:w.cell? ⟨3,0,none⟩=some (ev al 3):=h.var 2 _ rfl (by decide)
  have g3:w.cell? ⟨0,0,none⟩=some (ev al 4):=h.var 3 _ rfl (by decide)
  have g4:w.cell? ⟨4,0,none⟩=some (ev al 5):=h.var 4 _ rfl (by decide)
  have g5:w.cell? ⟨5,0,none⟩=some (ev al 6):=h.var 5 _ rfl (by decide)
  have g6:w.cell? ⟨6,0,none⟩=some (ev al 7):=h.var 6 _ rfl (by decide)
  have g7:w.cell? ⟨7,0,none⟩=some (ev al 8):=h.var 7 _ rfl (by decide)
  have g8:w.cell? ⟨8,0,none⟩=some (ev al 9):=h.var 8 _ rfl (by decide)
  have g9:w.cell? ⟨9,0,none⟩=some (ev al 10):=h.var 9 _ rfl (by decide)
  have g10:w.cell? ⟨10,0,none⟩=some (ev al 11):=h.var 10 _ rfl (by decide)
  have g11:w.cell? ⟨11,0,none⟩=some (ev al 12):=h.var 11 _ rfl (by decide)
  have g12:w.cell? ⟨12,0,none⟩=some (ev al 13):=h.var 12 _ rfl (by decide)
  have g13:w.cell? ⟨13,0,none⟩=some (ev al 14):=h.var 13 _ rfl (by decide)
  have g14:w.cell? ⟨14,0,none⟩=some (ev al 15):=h.var 14 _ rfl (by decide)
  have g15:w.cell? ⟨15,0,none⟩=some (ev al 16):=h.var 15 _ rfl (by decide)
  have g16:w.cell? ⟨16,0,none⟩=some (ev al 17):=h.var 16 _ rfl (by decide)
  have g17:w.cell? ⟨17,0,none⟩=some (ev al 18):=h.var 17 _ rfl (by decide)
  have g18:w.cell? ⟨18,0,none⟩=some (ev al 19):=h.var 18 _ rfl (by decide)
  have g19:w.cell? ⟨19,0,none⟩=some (ev al 20):=h.var 19 _ rfl (by decide)
  have g20:w.cell? ⟨20,0,none⟩=some (ev al 21):=h.var 20 _ rfl (by decide)
  have g21:w.cell? ⟨21,0,none⟩=some (ev al 22):=h.var 21 _ rfl (by decide)
  have g22:w.cell? ⟨22,0,none⟩=some (ev al 23):=h.var 22 _ rfl (by decide)
  have g23:w.cell? ⟨23,0,none⟩=some (ev al 24):=h.var 23 _ rfl (by decide)
  have g24:w.cell? ⟨24,0,none⟩=some (ev al 25):=h.var 24 _ rfl (by decide)
  have g25:w.cell? ⟨25,0,none⟩=some (ev al 26):=h.var 25 _ rfl (by decide)
  have g26:w.cell? ⟨26,0,none⟩=some (ev al 27):=h.var 26 _ rfl (by decide)
  have g27:w.cell? ⟨27,0,none⟩=some (ev al 28):=h.var 27 _ rfl (by decide)
  have HB:Hid (Below w.heap.size w (w.alloc (.cells (evs al) 25))):=(Below.refl _ _).alloc (Nat.le_refl _) _
  have HS:Hid (Sent (w.alloc (.cells (evs al) 25)) al):=h.below HB.out
  have HC:Hid (∀ k,k<28→(w.alloc (.cells (evs al) 25)).cell? ⟨w.heap.size,k,none⟩=some (ev al (k+1))):=fun k hk=>by
   rw [World.cell?_alloc_mark]
   exact evs_get al k hk
  clear h
  go_enter Tryz.func12,Tryz.ntmps12
  go_wp2_with (refine wpList_value (o:=⟨some 36,_,_,_,_,_⟩) (.slice (some ⟨w.heap.size,0,none⟩) 28 28) (w.alloc (.cells (evs al) 25)) rfl (by kernel_rfl) ?_)
  clear g0 g1 g2 g3 g4 g5 g6 g7 g8 g9 g10 g11 g12 g13 g14 g15 g16 g17 g18 g19 g20 g21 g22 g23 g24 g25 g26 g27
  show Code.wp _ _ _ _ (w.alloc (.cells (evs al) 25))
  generalize hW:w.alloc (.cells (evs al) 25)=W at HB HS HC ⊢
  have HW:=Lib.hid hW
  clear hW
  go_loop [39] (fun i=>∃ k:Nat,k<m∧i=.int .i64 k) (fun i=>28-(intOf i).toNat)
  case atStart=>exact ⟨0,by omega,rfl⟩
  case round =>
   obtain ⟨k,hk,rfl⟩:=hrel
   have hc:=HC.out k (by omega)
   by_cases hlast:m=k+1
   ·subst hlast
    have C:=Lib.hid (is_ev HS.out (k+1) k h0 hm (by omega))
    go_wp2_with (go_at_call 61;refine (C.out).mono ?_;rintro e w' ⟨rfl,rfl⟩)
    go_ret
    exact ⟨by simp,HB.out⟩
   ·have hdd:decide (m=k+1)=false:=by simpa using hlast
    have C:=Lib.hid (is_ev HS.out m k h0 hm (by omega))
    go_wp2_with (go_at_call 61;refine (C.out).mono ?_;rintro e w' ⟨rfl,rfl⟩)
    go_round
    case rel=>exact ⟨k+1,by omega,by go_num⟩
    case measure=>simp [intOf];omega
end Go.Proofs.YthlpfjnkieaeeaaGreatDoor
namespace Go.Proofs.YthlpfjnkieaeeaaGreatDoor
set_option linter.unusedVariables false
namespace Am
open Go.RowKit
section
variable {gs:List Nat} [OkG gs]
theorem num_ac (m:Nat) (hm:m≤28):ACp gs Tryz.prog 12 [.err m] (.c (.int .i64 m)) :=
 ac_old fun al w St vals hs hv hr=>by
  have h0:vals.getD 0 undef=ev al m:=hr 0
  rw [vals1 hv,h0]
  exact num_any hs.std m hm
end
end Am
end Go.Proofs.YthlpfjnkieaeeaaGreatDoor
