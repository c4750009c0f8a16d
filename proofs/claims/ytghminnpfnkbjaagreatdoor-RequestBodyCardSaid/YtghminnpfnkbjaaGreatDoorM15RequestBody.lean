/- What the law leans on, part 15 -/
import Derived.Test.YtghminnpfnkbjaaGreatDoorM14RequestBody
import Derived.MapKept
import Derived.WideKeyRuns
import Derived.Lib.LaidTab
import Derived.ChangeArms
import Derived.ChangeOld
import Derived.OpenShut
set_option maxRecDepth 100000
set_option maxHeartbeats 8000000
set_option linter.unusedVariables false
variable {gs:List Nat}
open Go.Proofs.Tryz
namespace Go.Proofs.YtghminnpfnkbjaaGreatDoor
namespace Am
open Go.RowKit
section
variable {κ β:Type}
def eV [DecidableEq κ] (l:List (κ×β)) (k:κ):Option β:=match l with|[]=>none|x::r=>if x.1=k then some x.2 else eV r k
def oY [DecidableEq κ]:List (κ×β)→κ→β→List (κ×β)
 | [],k,v=>[(k,v)]
 | x::r,k,v=>if x.1=k then (k,v)::r else x::oY r k v
def jT [DecidableEq κ] (k:κ):List κ→List MapEntry→Nat→Option (Nat×Value)
 | x::ks,e::es,i=>if x=k then some (i,e.val) else jT k ks es (i+1)
 | _,_,_=>none
structure Fa [DecidableEq κ] (P:Program) (kt:TypeId) (kv:κ→Value):Prop where
 check:∀ (w:World) (em:Bool) (k:κ),(Instr.checkKey em 10000 kt (kv k)).run P w=.ok () w
 find:∀ (w:World) (k:κ) (es:List MapEntry) (ks:List κ),es.map (·.key)=ks.map kv→(Instr.findKey kt (kv k) es).run P w=.ok (jT k ks es 0) w
 stays:∀ (w:World) (k:κ),(Instr.keyThatStays (kv k) (kv k)).run P w=.ok (kv k) w
def iP (al:List Addr) (St:Nat→Prop) (w:World) (kv:κ→Value) (vC:β→CV):List MapEntry→List (κ×β)→Prop
 | [],[]=>True
 | e::es,x::l=>e.key=kv x.1∧aP al St w (vC x.2) e.val∧iP al St w kv vC es l
 | _,_=>False
theorem iP.evo {al:List Addr} {St St':Nat→Prop} {w w':World} (he:rc St w w') (hs:∀ b,St b→St' b) {kv:κ→Value} {vC:β→CV}:∀ {es:List MapEntry} {l:List (κ×β)},iP al St w kv vC es l→iP al St' w' kv vC es l
 | [],[],_=>trivial
 | e::es,x::l,h=>⟨h.1,aP.evo he hs _ _ h.2.1,iP.evo he hs h.2.2⟩
 | [],_::_,h=>h.elim
 | _::_,[],h=>h.elim
theorem iP.keys {al:List Addr} {St:Nat→Prop} {w:World} {kv:κ→Value} {vC:β→CV}:∀ {es:List MapEntry} {l:List (κ×β)},iP al St w kv vC es l→es.map (·.key)=(l.map (·.1)).map kv
 | [],[],_=>rfl
 | e::es,x::l,h=>by rw [Z6,Z6,Z6,h.1,iP.keys h.2.2]
 | [],_::_,h=>h.elim
 | _::_,[],h=>h.elim
def oZ (kv:κ→Value) (vC:β→CV) (l:List (κ×β)):OP where
 p al St w g F:=(∀ b,F b↔b=g)∧∃ es clock,w.heap[g]?=some (.map es clock)∧iP al St w kv vC es.toList l
 st:=fun he hs hF ⟨h0,es,clock,h1,h2⟩=>⟨h0,es,clock,(hF _ ((h0 _).2 rfl)).trans h1,h2.evo he hs⟩
theorem Cg [DecidableEq κ] {al:List Addr} {St:Nat→Prop} {w:World} {kv:κ→Value} {vC:β→CV} (k:κ):∀ {es:List MapEntry} {l:List (κ×β)} (i:Nat),iP al St w kv vC es l →
  match eV l k with
  | some v=>∃ j x,jT k (l.map (·.1)) es i=some (i+j,x)∧aP al St w (vC v) x∧∃ e,es[j]?=some e∧e.key=kv k∧e.val=x
  | none=>jT k (l.map (·.1)) es i=none
 | [],[],i,_=>rfl
 | e::es,x::l,i,h=>by
  have ih:=Cg k (es:=es) (l:=l) (i+1) h.2.2
  rw [Z6]
  unfold eV jT
  by_cases hk:x.1=k
  ·rw [Zz hk,Zz hk]
   exact ⟨0,e.val,rfl,h.2.1,e,rfl,by rw [h.1,hk],rfl⟩
  ·rw [Zy hk,Zy hk]
   split
   ·rename_i v hv
    rw [hv] at ih
    have ⟨j,y,h1,h2,e',h3,h4,h5⟩:=ih
    exact ⟨j+1,y,by rw [h1,show i+1+j=i+(j+1) by omega],h2,e',by simpa using h3,h4,h5⟩
   ·rename_i hv
    rw [hv] at ih
    exact ih
 | [],_::_,_,h=>h.elim
 | _::_,[],_,h=>h.elim
end
def fJ (k:I):Value:=.string ⟨k.toArray⟩
theorem yD {a b:I}:((⟨a.toArray⟩:ByteArray) == ⟨b.toArray⟩)=decide (a=b):=by
 have e:((⟨a.toArray⟩:ByteArray) == ⟨b.toArray⟩)=(a.toArray == b.toArray):=rfl
 rw [e]
 by_cases h:a=b
 ·subst h
  rw [beq_self_eq_true,abx rfl]
 ·rw [aex h,beq_eq_false_iff_ne.2 fun e=>h (cPx e)]
theorem Vk {a b:I}:Instr.sameNow .string (fJ a) (fJ b)=some (decide (b=a)):=by
 show some ((⟨a.toArray⟩:ByteArray) == ⟨b.toArray⟩)=_
 rw [yD]
 congr 1
 exact decide_eq_decide.2 ⟨Eq.symm,Eq.symm⟩
theorem Es (k:I):∀ (es:List MapEntry) (ks:Zx) (i:Nat),es.map (·.key)=ks.map fJ→Instr.findNow .string (fJ k) es i=some (jT k ks es i)
 | [],[],_,_=>rfl
 | [],_::_,_,h=>by simp at h
 | _::_,[],_,h=>by simp at h
 | e::es,x::ks,i,h=>by
  simp only [Z6,b8x] at h
  unfold Instr.findNow jT
  rw [h.1,Vk]
  by_cases hx:x=k
  ·rw [abx hx,Zz hx]
  ·rw [aex hx,Zy hx]
   exact Es k es ks (i+1) h.2
theorem Ob {P:Program} {kt:TypeId} (h:P.underlying kt=some .string):Fa P kt fJ where
 check w em k:=Go.MapKept.run_checkKey h (by simp [Go.MapKept.IsKey,fJ]) em 9999
 find w k es ks he:=Go.MapKept.run_findKey h (Es k es ks 0 he)
 stays w k:=by
  have h:Instr.sameBits 10000 (fJ k) (fJ k)=true:=by
   show ((⟨k.toArray⟩:ByteArray) == ⟨k.toArray⟩)=true
   rw [yD,abx rfl]
  simp [Instr.keyThatStays,h]
def iV (k:I×I):Value:=.agg #[fJ k.1,fJ k.2]
theorem VI {P : Program} {kt : TypeId} {fa fb : Field} (h : P.underlying kt = some (.struct #[fa, fb])) (hp : P.stoodInHeld kt = false) (ha : P.underlying fa.type = some .string) (hb : P.underlying fb.type = some .string) (oa : fa.offset = 0) (ob : fb.offset = 1) (na : fa.name ≠ "_") (nb : fb.name ≠ "_") (w : World) (k x : I × I) :
  (Op.equal kt (iV k) (iV x)).run P w=.ok (decide (x=k)) w:=by
 have hfs:P.fieldsOf kt=#[fa,fb]:=by simp [Program.fieldsOf,h]
 have hE:PZ P (fl [ap k.1,ap k.2]) (fl [ap x.1,ap x.2]) [fa,fb] ((⟨k.1.toArray⟩:ByteArray)=⟨x.1.toArray⟩∧(⟨k.2.toArray⟩:ByteArray)=⟨x.2.toArray⟩∧True) :=
  .str ha na (by rw [oa];rfl) (by rw [oa];rfl) (.str hb nb (by rw [ob];rfl) (by rw [ob];rfl) .nil)
 have cell:∀ (q:I×I) (i:Nat),i<2→aP [] (fun _=>False) w (fl [ap q.1,ap q.2] i) ((#[fJ q.1,fJ q.2]:Array Value).getD i undef):=fun q i hi=>by
  rcases i with _|_|i
  rfl
  rfl
  omega
 obtain ⟨r,hr,hiff⟩:=nQ hE (al:=[]) (St:=fun _=>False) (w:=w) (xs:=#[fJ k.1,fJ k.2]) (ys:=#[fJ x.1,fJ x.2]) (n:=2) rfl rfl (cell k) (cell x) (by simp [oa,ob]) 9998 w
 show (Op.equalIn (9999+1) kt (iV k) (iV x)).run P w=_
 unfold iV
 rw [run_equalIn_agg w 9999 kt _ _ (by rw [hfs];exact h) hp,hfs]
 have e:r=decide (x=k):=by
  rw [bmx,hiff,decide_eq_true_iff]
  constructor
  ·rintro ⟨h1,h2,_⟩
   exact czx (cPx (cMx h1)).symm (cPx (cMx h2)).symm
  ·rintro rfl
   exact ⟨rfl,rfl,trivial⟩
 rw [← e]
 exact hr
theorem Er {P:Program} {kt:TypeId} {w:World} (heq:∀ k x:I×I,(Op.equal kt (iV k) (iV x)).run P w=.ok (decide (x=k)) w) (k:I×I):∀ (es:List MapEntry) (ks:List (I×I)) (i:Nat),es.map (·.key)=ks.map iV→(Instr.findAsking kt (iV k) es i).run P w=.ok (jT k ks es i) w
 | [],[],_,_=>by simp [Instr.findAsking,jT]
 | [],_::_,_,h=>by simp at h
 | _::_,[],_,h=>by simp at h
 | e::es,x::ks,i,h=>by
  simp only [Z6,b8x] at h
  unfold Instr.findAsking jT
  rw [h.1]
  have ih:=Er heq k es ks (i+1) h.2
  by_cases hx:x=k
  ·simp [heq,hx]
  ·simp [heq,hx,ih]
theorem Oa {P : Program} {kt : TypeId} {fa fb : Field} (h : P.underlying kt = some (.struct #[fa, fb])) (hp : P.stoodInHeld kt = false) (ha : P.underlying fa.type = some .string) (hb : P.underlying fb.type = some .string) (oa : fa.offset = 0) (ob : fb.offset = 1) (na : fa.name ≠ "_") (nb : fb.name ≠ "_") : Fa P kt iV where
 check w em k:=by
  have ag:∀ f:Field,P.underlying f.type=some .string→iB P f.type=false:=fun f h=>by unfold iB;rw [h]
  have e1:=kx ha (ag fa ha) (cs:=#[fJ k.1,fJ k.2]) (i:=fa.offset) (v:=fJ k.1) (by rw [oa];rfl) w
  have e2:=kx hb (ag fb hb) (cs:=#[fJ k.1,fJ k.2]) (i:=fb.offset) (v:=fJ k.2) (by rw [ob];rfl) w
  have c1:=Go.MapKept.run_checkKey (P:=P) (w:=w) ha (k:=fJ k.1) (by simp [Go.MapKept.IsKey,fJ]) em 9998
  have c2:=Go.MapKept.run_checkKey (P:=P) (w:=w) hb (k:=fJ k.2) (by simp [Go.MapKept.IsKey,fJ]) em 9998
  show (Instr.checkKey em (9999+1) kt (iV k)).run P w=_
  unfold Instr.checkKey iV
  simp [run_underlying h,na,nb,e1,e2,c1,c2]
 find w k es ks he:=by
  rw [run_findKey_eq w (by rw [h])]
  exact Er (fun k x=>VI h hp ha hb oa ob na nb w k x) k es ks 0 he
 stays w k:=by
  have hb:∀ l:I,Instr.sameBits 9999 (fJ l) (fJ l)=true:=fun l=>by
   show ((⟨l.toArray⟩:ByteArray) == ⟨l.toArray⟩)=true
   rw [yD,abx rfl]
  have h:Instr.sameBits 10000 (iV k) (iV k)=true:=by
   show Instr.sameBits (9999+1) (.agg #[fJ k.1,fJ k.2]) (.agg #[fJ k.1,fJ k.2])=true
   simp [Instr.sameBits,hb]
  simp [Instr.keyThatStays,h]
section
variable {κ β:Type} {kv:κ→Value} {kw:Value} {P:Program} {G:Gh} {o:Oper} {s:AS} {K:AS→Prop} {t kt et:TypeId} {x y z:Operand} {vC:β→CV} {l:List (κ×β)} {k:κ} {i g:Nat}
theorem NN {St:Nat→Prop} {a:Act} {w:World} (h:ax G St s a w) (hH:s.H[i]?=some (some g,.obj (oZ kv vC l))):g<w.heap.size∧∃ es clock,w.heap[g]?=some (.map es clock)∧iP G.al St w kv vC es.toList l:=by
 have ⟨fp,hp⟩:=h.hp
 obtain ⟨h0,es,clock,h1,h2⟩:=hp.rep i (some g) _ hH
 exact ⟨(hp.own i g ((h0 g).2 rfl)).1,es,clock,h1,h2⟩
def Lo (c:CV) (v:Value):Prop:=∀ al St w x,aP al St w c x→x=v
theorem D3 {c:CV} {k:I} (h:c=ap k):Lo c (fJ k):=fun al St w x hx=>by rw [h] at hx;exact hx
theorem D0 {c:CV} {f:Nat→CV} {a b:I} (h:c=.agg 2 f) (h0:f 0=ap a) (h1:f 1=ap b):Lo c (iV (a,b)):=fun al St w x hx=>by
 rw [h] at hx
 obtain ⟨cs,rfl,hs,hf⟩:=hx
 have e0:=hf 0 jD
 have e1:=hf 1 jD
 rw [h0] at e0
 rw [h1] at e1
 refine ZV Value.agg (Array.ext hs fun i _ _=>?_)
 have hi:i<2:=by omega
 rcases i with _|_|i
 ·have:cs.getD 0 undef=fJ a:=e0
  simpa [hs] using this
 ·have:cs.getD 1 undef=fJ b:=e1
  simpa [hs] using this
 omega
theorem Rj [DecidableEq κ] {zv:Value} {v:CV} (ho:o.op=.lookup t x y false) (hx:s.eval x=.c (.map (some g))) (hH:s.H[i]?=some (some g,.obj (oZ kv vC l))) (hy:Lo (s.eval y) (kv k)) (h1:P.underlying t=some (.map kt et)) (h2:Fa P kt kv) (hz:(P.info? et).map (·.zero)=some (some zv))
  (hv:∀ u,eV l k=some u→aa (vC u) v) (hv0:eV l k=none→aa (.c zv) v):kf P G o s v:=fun St a w h=>by
 have ⟨hlt,es,clock,hb,he⟩:=NN h hH
 have ⟨info,hi,hzz⟩:=ZG.1 hz
 have hf:=Cg k 0 he
 have hkv:a.eval y=kv k:=hy _ _ _ _ (h.eval y)
 have hff:=fun W:World=>h2.find W k es.toList _ he.keys
 cases hm:eV l k with
 | none =>
  simp only [hm] at hf
  simp only [hf] at hff
  refine ⟨zv,fun W hW=>?_,hv0 hm _ _ _ _ rfl⟩
  have hbW:W.heap[g]?=some (.map es clock):=(hW.block g hlt).trans hb
  simp only [execOp,ho,kZ h hx,hkv]
  refine ma ?_
  simp [Instr.lookup,underlying,h1,Go.MapKept.run_getObj_map hbW,h2.check,hff,zeroValue,typeInfo,hi,hzz]
 | some u =>
  simp only [hm] at hf
  have ⟨j,xv,hf,hr,_⟩:=hf
  simp only [hf] at hff
  refine ⟨xv,fun W hW=>?_,hv u hm _ _ _ _ hr⟩
  have hbW:W.heap[g]?=some (.map es clock):=(hW.block g hlt).trans hb
  simp only [execOp,ho,kZ h hx,hkv]
  refine ma ?_
  simp [Instr.lookup,underlying,h1,Go.MapKept.run_getObj_map hbW,h2.check,hff]
theorem Jt [DecidableEq κ] {zv:Value} {v:CV} (ho:o.op=.lookup t x y true) (hx:s.eval x=.c (.map (some g))) (hH:s.H[i]?=some (some g,.obj (oZ kv vC l))) (hy:Lo (s.eval y) (kv k)) (h1:P.underlying t=some (.map kt et)) (h2:Fa P kt kv) (hz:(P.info? et).map (·.zero)=some (some zv))
  (hv:∀ u,eV l k=some u→aa (vC u) v) (hv0:eV l k=none→aa (.c zv) v):kf P G o s (.tup 2 (fl [v,.c (.bool (eV l k).isSome)])):=fun St a w h=>by
 have ⟨hlt,es,clock,hb,he⟩:=NN h hH
 have ⟨info,hi,hzz⟩:=ZG.1 hz
 have hf:=Cg k 0 he
 have hkv:a.eval y=kv k:=hy _ _ _ _ (h.eval y)
 have hff:=fun W:World=>h2.find W k es.toList _ he.keys
 cases hm:eV l k with
 | none =>
  simp only [hm] at hf
  simp only [hf] at hff
  refine ⟨.tuple #[zv,.bool false],fun W hW=>?_,?_⟩
  ·have hbW:W.heap[g]?=some (.map es clock):=(hW.block g hlt).trans hb
   simp only [execOp,ho,kZ h hx,hkv]
   refine ma ?_
   simp [Instr.lookup,underlying,h1,Go.MapKept.run_getObj_map hbW,h2.check,hff,zeroValue,typeInfo,hi,hzz]
  ·refine ⟨#[zv,.bool false],rfl,rfl,fun j hj=>?_⟩
   rcases j with _|_|j
   exact hv0 hm _ _ _ _ rfl
   rfl
   omega
 | some u =>
  simp only [hm] at hf
  have ⟨j,xv,hf,hr,_⟩:=hf
  simp only [hf] at hff
  refine ⟨.tuple #[xv,.bool true],fun W hW=>?_,?_⟩
  ·have hbW:W.heap[g]?=some (.map es clock):=(hW.block g hlt).trans hb
   simp only [execOp,ho,kZ h hx,hkv]
   refine ma ?_
   simp [Instr.lookup,underlying,h1,Go.MapKept.run_getObj_map hbW,h2.check,hff]
  ·refine ⟨#[xv,.bool true],rfl,rfl,fun j hj=>?_⟩
   rcases j with _|_|j
   exact hv u hm _ _ _ _ hr
   rfl
   omega
theorem ax.setMap {St:Nat→Prop} {a:Act} {w:World} (h:ax G St s a w) {l':List (κ×β)} (hH:s.H[i]?=some (some g,.obj (oZ kv vC l))) {es es':Array MapEntry} {clock clock':Nat} (hb:w.heap[g]?=some (.map es clock)) (he':iP G.al St w kv vC es'.toList l') :
  ax G St ⟨s.env,s.b,s.H.set i (some g,.obj (oZ kv vC l'))⟩ a { w with heap:=w.heap.setIfInBounds g (.map es' clock') }∧ff St w { w with heap:=w.heap.setIfInBounds g (.map es' clock') }:=by
 have ⟨fp,hp⟩:=h.hp
 have hlt:i<s.H.length:=(ZC.1 hH).1
 have hrep:=hp.rep i (some g) _ hH
 have hg:fp i g:=(hrep.1 g).2 rfl
 have ⟨hg1,hg2,hg3⟩:=hp.own i g hg
 obtain ⟨hnew,hold⟩:=Go.MapKept.heap_set (o':=.map es' clock') hb
 have hold:∀ b,b≠g→(w.heap.setIfInBounds g (.map es' clock'))[b]?=w.heap[b]?:=hold
 have hsz:(w.heap.setIfInBounds g (.map es' clock')).size=w.heap.size:=by simp
 have he:rc St w { w with heap:=w.heap.setIfInBounds g (.map es' clock') }:=⟨fun b cu ct cz CF hcu=>(hold b (fun e=>hg2 (e ▸ CF))).trans hcu,fun b cu t z CF=>by
  by_cases e:b=g
  ·subst e
   rw [hb] at CF
   cases CF
  exact ⟨cu,z,(hold b e).trans CF,rfl⟩⟩
 refine ⟨⟨h.df.keep (fun _ h=>h) (fun b hb=>hold b (fun e=>hg2 (e ▸ hb))),h.sz,fun d=>aP.evo he (fun _ x=>x) _ _ (h.env d),⟨h.un.os,h.un.tape,h.un.output,Z7 h.un.size (aqx hsz.symm),fun k hk hF=>?_,fun b cu t z CF=>?_⟩,h.s1,h.s2,fun b hb=>bhx (h.s3 b hb) hsz.symm,?_,?_,h.sg⟩,fun q hq=>hold q (fun e=>hg2 (e ▸ hq))⟩
 ·refine (hold k (fun e=>?_)).trans (h.un.block k hk hF)
  subst e
  rcases hg3 with h1|h1
  omega
  exact hF h1
 ·have ⟨cur',z',h1,h2⟩:=h.un.sh b cu t z CF
  have ⟨cur2,z2,h3,h4⟩:=he.sh b cur' t z' h1
  exact ⟨cur2,z2,h3,h4.trans h2⟩
 ·refine ⟨fp,fun j q r hj=>?_,hp.dis,fun j b hb=>⟨bhx (hp.own j b hb).1 hsz.symm,(hp.own j b hb).2⟩,fun j hj=>hp.out j (by simpa using hj)⟩
  by_cases e:j=i
  ·subst e
   simp [hlt] at hj
   obtain ⟨rfl,rfl⟩:=hj
   exact ⟨hrep.1,es',clock',hnew,he'.evo he (fun _ x=>x)⟩
  ·rw [ZQ (Ne.symm e)] at hj
   exact aW.rep_evo he (fun _ x=>x) (fun b hF=>hold b (fun e2=>e (hp.dis j i b hF (e2 ▸ hg)))) (hp.rep j q r hj)
 exact gc.keep h.sn (fun q hq=>hold q (fun e=>hg2 (e ▸ h.sg.1 q hq))) (fun q hq=>hold _ (fun e=>hg2 (e ▸ h.sg.2 q hq)))
end
section
variable {κ β:Type} {kv:κ→Value} {P:Program} {G:Gh} {o:Oper} {s:AS} {K:AS→Prop} {t kt et:TypeId} {x y z:Operand} {vC:β→CV} {l:List (κ×β)} {k:κ} {i g:Nat}
theorem EA [DecidableEq κ] {al:List Addr} {St:Nat→Prop} {w:World} (u:β) {xv:Value} (hx:aP al St w (vC u) xv):∀ {es:List MapEntry} {l:List (κ×β)} (i:Nat),iP al St w kv vC es l →
  (∃ j y,jT k (l.map (·.1)) es i=some (i+j,y)∧(∃ e,es[j]?=some e∧e.key=kv k)∧iP al St w kv vC (es.modify j fun e=>{ e with key:=kv k,val:=xv }) (oY l k u)) ∨
  (jT k (l.map (·.1)) es i=none∧∀ b,iP al St w kv vC (es++[⟨kv k,xv,b⟩]) (oY l k u))
 | [],[],i,_=>.inr ⟨rfl,fun b=>⟨rfl,hx,trivial⟩⟩
 | e::es,q::l,i,h=>by
  rw [Z6]
  unfold jT oY
  by_cases hk:q.1=k
  ·rw [Zz hk,Zz hk]
   exact .inl ⟨0,e.val,rfl,⟨e,rfl,by rw [h.1,hk]⟩,rfl,hx,h.2.2⟩
  ·rw [Zy hk,Zy hk]
   rcases EA u hx (es:=es) (l:=l) (i+1) h.2.2 with ⟨j,y,h1,⟨e',h2,h3⟩,h4⟩|⟨h1,h2⟩
   exact .inl ⟨j+1,y,by rw [h1,show i+1+j=i+(j+1) by omega],⟨e',by simpa using h2,h3⟩,h.1,h.2.1,h4⟩
   exact .inr ⟨h1,fun b=>⟨h.1,h.2.1,h2 b⟩⟩
 | [],_::_,_,h=>h.elim
 | _::_,[],_,h=>h.elim
theorem RX [DecidableEq κ] {u:β} {c:CV} (ho:o.op=.mapUpdate t x y z∨o.op=.insert t x y z) (hx:s.eval x=.c (.map (some g))) (hH:s.H[i]?=some (some g,.obj (oZ kv vC l))) (hy:Lo (s.eval y) (kv k)) (hz:s.eval z=c) (hc:aa c (vC u)) (h1:P.underlying t=some (.map kt et)) (h2:Fa P kt kv)
  (hd:bY G o=true) (hK:K (s.with o.dst (.c undef) (s.H.set i (some g,.obj (oZ kv vC (oY l k u)))))):vn P G o s K:=fun St a w hr Q=>by
 have ⟨hlt,es,clock,hb,he⟩:=NN hr hH
 have hkv:a.eval y=kv k:=hy _ _ _ _ (hr.eval y)
 have hff:=h2.find w k es.toList _ he.keys
 have hzv:aP G.al St w (vC u) (a.eval z):=hc _ _ _ _ (iY hr hz)
 have put:∀ {w':World} {H:List (Option Nat×aW)},ax G St ⟨s.env,s.b,H⟩ a w'→ax G St (s.with o.dst (.c undef) H) (a.put o.dst undef) w':=fun {w' H} h1=>by
  have:=h1.put (dst:=o.dst) (v:=.c undef) (x:=undef) (dB hd) rfl
  cases ho:o.dst with
  | none=>rw [ho] at this;exact this
  | some d=>rw [ho] at this;exact this
 rcases EA (k:=k) u hzv 0 he with ⟨j,yv,hf,⟨e,h3,h4⟩,h5⟩|⟨hf,h5⟩
 ·rw [hf,Nat.zero_add] at hff
  have hrun:(execOp a.eval o).run P w=.ok .skip { w with heap:=w.heap.setIfInBounds g (.map (es.modify j fun e=>{ e with key:=kv k,val:=a.eval z }) clock) }:=by
   have h3':es[j]?=some e:=by simpa using h3
   rcases ho with ho|ho<;>(simp only [execOp,ho,kZ hr hx,hkv];simp [Instr.mapUpdate,underlying,h1,Go.MapKept.run_getObj_map hb,h2.check,hff,h3',h4,h2.stays,Go.MapKept.run_setObj_map _ hb])
  have hm:=ax.setMap hr hH (l':=oY l k u) (clock':=clock) hb (es':=es.modify j fun e=>{ e with key:=kv k,val:=a.eval z }) (by simpa using h5)
  unfold Oper.wp
  rw [hrun]
  exact ⟨hm.2,St,fun _ h=>h,_,hK,put hm.1⟩
 ·rw [hf] at hff
  have hrun:(execOp a.eval o).run P w=.ok .skip { w with heap:=w.heap.setIfInBounds g (.map (es.push ⟨kv k,a.eval z,clock⟩) (clock+1)) }:=by
   rcases ho with ho|ho<;>(simp only [execOp,ho,kZ hr hx,hkv];simp [Instr.mapUpdate,underlying,h1,Go.MapKept.run_getObj_map hb,h2.check,hff,Go.MapKept.run_setObj_map _ hb])
  have hm:=ax.setMap hr hH (l':=oY l k u) (clock':=clock+1) hb (es':=es.push ⟨kv k,a.eval z,clock⟩) (by simpa using h5 clock)
  unfold Oper.wp
  rw [hrun]
  exact ⟨hm.2,St,fun _ h=>h,_,hK,put hm.1⟩
theorem Gy (kv:κ→Value) (vC:β→CV) (ho:o.op=.makeMap t none) (hd:bY G o=true) (hK:∀ g:Nat,K (s.with o.dst (.c (.map (some g))) (s.H++[(some g,.obj (oZ kv vC []))]))):kP P G o s K:=fun St a w hr Q=>by
 have hrun:(execOp a.eval o).run P w=.ok (.value (.map (some w.heap.size))) (w.alloc (.map #[] 0)):=by
  simp only [execOp,ho]
  refine ma ?_
  simp [Instr.makeMap]
 have hn:=heap_alloc_new w (.map #[] 0)
 unfold Oper.wp
 rw [hrun]
 refine ⟨ew w _,St,fun _ h=>h,_,hK w.heap.size,?_⟩
 have:=(hr.freshObj (ew w (.map #[] 0)) (ZA _) (p:=oZ kv vC ([]:List (κ×β))) (ZX.1 hn).1 ⟨fun b=>Iff.rfl,#[],0,hn,trivial⟩).put (dst:=o.dst) (v:=.c (.map (some w.heap.size))) (x:=.map (some w.heap.size)) (dB hd) rfl
 cases ho:o.dst with
 | none=>rw [ho] at this;exact this
 | some d=>rw [ho] at this;exact this
end
section
variable {κ β:Type} [DecidableEq κ] {kv:κ→Value} {P:Program} {G:Gh} {o:Oper} {K:AS→Prop} {t kt et:TypeId} {x y z:Operand} {vC:β→CV} {l:List (κ×β)} {k:κ} {g:Nat} {env:List (Nat×CV)} {b0:Nat→CV} {H:List (Option Nat×aW)}
theorem Xn {cy cz:CV} (i:Nat) (u:β) (h1:P.underlying t=some (.map kt et)) (h2:Fa P kt kv) (hy:Lo cy (kv k)) (hc:aa cz (vC u)) (hK:K ⟨env,b0,H.set i (some g,.obj (oZ kv vC (oY l k u)))⟩) (ho:o.op=.mapUpdate t x y z:=by exact rfl) (hx:(⟨env,b0,H⟩:AS).eval x=.c (.map (some g)):=by exact rfl) (hy':(⟨env,b0,H⟩:AS).eval y=cy:=by exact rfl) (hz:(⟨env,b0,H⟩:AS).eval z=cz:=by exact rfl) (hH:H[i]?=some (some g,.obj (oZ kv vC l)):=by exact rfl) (hd:o.dst=none:=by exact rfl):vn P G o ⟨env,b0,H⟩ K :=
 RX (.inl ho) hx hH (by rw [hy'];exact hy) hz hc h1 h2 (Pi hd) (by rw [ug hd];exact hK)
end
section
variable {κ β:Type} {P:Program} {G:Gh} {o:Oper} {K:AS→Prop} {t:TypeId} {env:List (Nat×CV)} {b0:Nat→CV} {H:List (Option Nat×aW)}
theorem Xs (kv:κ→Value) (vC:β→CV) {d:Nat} (hK:∀ g:Nat,K ⟨(d,.c (.map (some g)))::env,b0,H++[(some g,.obj (oZ kv vC []))]⟩) (ho:o.op=.makeMap t none:=by exact rfl) (hd:o.dst=some d:=by exact rfl) (hN:Nat.blt d G.N=true:=by exact rfl):kP P G o ⟨env,b0,H⟩ K :=
 Gy kv vC ho (kK hd hN) (fun g=>by rw [dv hd];exact hK g)
end
theorem UC {P:Program} {G:Gh} {o:Oper} {s:AS} {t e:TypeId} {x:Operand} {m n:Nat} {f:Nat→Nat→CV} (ho:o.op=.sliceToArrayPointer t x) (hx:s.eval x=.rs 1 m f) (h1:P.underlying t=some (.array n e)) (hn:n≤m) (h0:0<n):cj P G o s (.rp n fun j=>f j 0):=fun St a w h=>by
 have ⟨ao,cap,hv,h2,h3,h4,h5⟩:=iY h hx
 cases ao with
 | none=>have:=h4 rfl;omega
 | some ad =>
  have ⟨h6,h7,h8⟩:=h5 ad rfl O
  have ⟨b,q,sp⟩:=ad
  simp only at h6
  subst h6
  refine ⟨.pointer (some ⟨b,q,none⟩),fun W _=>?_,b,q,rfl,h7,fun j hj=>?_⟩
  ·simp only [execOp,ho,hv]
   refine ma ?_
   simp [Instr.arrayAt,underlying,h1,show ¬ m<n by omega]
  ·obtain ⟨v,hc,hr⟩:=h8 j 0 O O
   rw [show q+(j * 1+0)=q+j by omega] at hc
   exact ⟨v,hc,hr⟩
abbrev cH:=I×I×I
abbrev gf:=List (I×I)
def eW (l:cH):I×I:=(l.1,bN l.2.1 [l.2.2])
def k7 (B:List cH):List ((I×I)×Bool):=B.map fun l=>(eW l,true)
def rk (B:List cH) (l:cH):List cH:=if l ∈ B then B else B++[l]
def l8 (B:List cH):Prop:=∀ l ∈ B,bS l.2.1 [l.2.2]=0
def pY (K:gf):Prop:=∀ x ∈ K,x.2.length=32
def i7 (K:gf) (id d m:I):Nat:=if (eV K id).isSome=true then bS d [m] else 10
def y6 (K:gf) (id d m:I):I:=lL ((eV K id).getD []) (bN d [m])
theorem l8.add {B:List cH} {l:cH} (h:l8 B) (hl:bS l.2.1 [l.2.2]=0):l8 (rk B l):=by
 unfold rk
 split
 exact h
 ·intro x hx
  rcases bcx.1 hx with hx|hx
  exact h x hx
  ·rw [agx.1 hx];exact hl
theorem At {l k:cH} (hl:bS l.2.1 [l.2.2]=0) (hk:bS k.2.1 [k.2.2]=0) (h:eW l=eW k):l=k:=by
 have ⟨a,b,c⟩:=l
 have ⟨x,y,z⟩:=k
 simp only [eW,c6x] at h
 have ⟨h1,h2⟩:=h
 have ⟨h3,h4⟩:=KF hl hk h2
 simp only at h3 h4
 rw [h1,h3,h4]
theorem EX:∀ {B:List cH} {l:cH},l8 B→bS l.2.1 [l.2.2]=0→(eV (k7 B) (eW l)).getD false=decide (l ∈ B)
 | [],l,_,_=>by
  rw [aex (ahx)]
  rfl
 | b::B,l,h,hl=>by
  show (if eW b=eW l then some true else eV (k7 B) (eW l)).getD false=_
  by_cases e:eW b=eW l
  ·have:=At (h b ZU) hl e
   rw [Zz e,abx (by rw [← this];exact ZU)]
   rfl
  ·have hne:l≠b:=fun e2=>e (by rw [e2])
   rw [Zy e,EX (fun x hx=>h x (Z2 _ hx)) hl]
   exact decide_eq_decide.2 (by simp [hne])
theorem Ak:∀ {B:List cH} {l:cH},l8 B→bS l.2.1 [l.2.2]=0→l ∈ B→oY (k7 B) (eW l) true=k7 B
 | [],l,_,_,hm=>absurd hm ahx
 | b::B,l,h,hl,hm=>by
  show (if eW b=eW l then (eW l,true)::k7 B else (eW b,true)::oY (k7 B) (eW l) true)=_
  by_cases e:eW b=eW l
  ·rw [Zz e,← e];rfl
  ·have hne:l≠b:=fun e2=>e (by rw [e2])
   have hm2:l ∈ B:=by rcases Z9.1 hm with h|h;exact absurd h hne;exact h
   rw [Zy e,Ak (fun x hx=>h x (Z2 _ hx)) hl hm2]
   rfl
theorem DP:∀ {B:List cH} {l:cH},l8 B→bS l.2.1 [l.2.2]=0→l ∉ B→oY (k7 B) (eW l) true=k7 (B++[l])
 | [],l,_,_,_=>rfl
 | b::B,l,h,hl,hm=>by
  show (if eW b=eW l then (eW l,true)::k7 B else (eW b,true)::oY (k7 B) (eW l) true)=_
  have e:¬ eW b=eW l:=fun e=>hm (by rw [← At (h b ZU) hl e];exact ZU)
  rw [Zy e,DP (fun x hx=>h x (Z2 _ hx)) hl (fun h=>hm (Z2 _ h))]
  rfl
theorem PD {B:List cH} {l:cH} (h:l8 B) (hl:bS l.2.1 [l.2.2]=0):oY (k7 B) (eW l) true=k7 (rk B l):=by
 unfold rk
 split
 ·rename_i hm;exact Ak h hl hm
 ·rename_i hm;exact DP h hl hm
theorem DQ {κ β:Type} [DecidableEq κ]:∀ {l:List (κ×β)} {k:κ} {v:β},eV l k=none→oY l k v=l++[(k,v)]
 | [],_,_,_=>rfl
 | x::r,k,v,h=>by
  unfold eV at h
  by_cases e:x.1=k
  ·rw [Zz e] at h;cases h
  ·rw [Zy e] at h
   unfold oY
   rw [Zy e,DQ h]
   rfl
theorem DS {κ β:Type} [DecidableEq κ]:∀ {l:List (κ×β)} {k:κ} {v:β},eV l k=some v→(k,v) ∈ l
 | [],_,_,h=>by cases h
 | x::r,k,v,h=>by
  unfold eV at h
  by_cases e:x.1=k
  ·rw [Zz e] at h
   cases h
   rw [← e]
   exact ZU
  ·rw [Zy e] at h
   exact Z2 _ (DS h)
def uS (k:I):CV:=.agg 32 (aV k)
def yF (b:Bool):CV:=.c (.bool b)
def Dm (K:gf) (B:List cH) (x:Nat×Nat×Nat):List (Option Nat×aW):=[(some x.1,.blk 2 (fl [.c (.map (some x.2.1)),.c (.map (some x.2.2))])),(some x.2.1,.obj (oZ fJ uS K)),(some x.2.2,.obj (oZ iV yF (k7 B)))]
def dl (n:Nat) (K:gf) (B:List cH):Option Nat×aW:=lK n (fun x:Nat×Nat×Nat=>x.1) (Dm K B)
theorem Oc:Fa prog 9 fJ:=Ob underlying9
theorem NG:AC gs prog 26 [] [] (fun r H'=>∃ n,r=.op 0 (some n) 0∧H'=[dl n [] []]):=by
 refine ae 5 func26 fun _ _ _ _=>?_;refine U 6516 ?_
 refine aq (Xs fJ uS (fun g1=>?_))
 refine aq (Xs iV yF (fun g2=>?_))
 refine jq (au (n:=2) rfl Wl W1 rfl rfl) ?_
 refine aq (ee 2 fun p1=>?_)
 refine U 51 ?_;refine cL (ig 0 rfl) fun ⟨n,hn⟩=>?_
 subst hn
 refine jE (cE 2 2 (fl [.c (.map (some g1)),.c (.map (some g2))]) rfl (ZA _) sb) ?_;refine jE (Ni (gd:=fun x:Nat×Nat×Nat=>x.1) (E:=Dm [] []) (n,g1,g2) [2,0,1] jD rfl) ?_;refine U 7000 ?_
 exact bL (.inl rfl) [0] jD rfl (aK rfl (ai rfl)) (cP (j:=0)) ⟨n,rfl,rfl⟩
theorem oD {P:Program} {G:Gh} {c:Code} {env:List (Nat×CV)} {b0:Nat→CV} {H:List (Option Nat×aW)} {R:Exit→AS→Prop} {n:Nat} {K:gf} {B:List cH} (i:Nat) (hH:H[i]?=some (dl n K B)) (h:∀ g1 g2:Nat,aY P G c ⟨env,b0,H.set i (some n,.blk 2 (fl [.c (.map (some g1)),.c (.map (some g2))]))++[(some g1,.obj (oZ fJ uS K)),(some g2,.obj (oZ iV yF (k7 B)))]⟩ R):aY P G c ⟨env,b0,H⟩ R :=
 kM (e0:=fun x:Nat×Nat×Nat=>(some x.1,.blk 2 (fl [.c (.map (some x.2.1)),.c (.map (some x.2.2))]))) (tl:=fun x=>[(some x.2.1,.obj (oZ fJ uS K)),(some x.2.2,.obj (oZ iV yF (k7 B)))]) i hH (fun ⟨a,g1,g2⟩ hx=>by
  subst hx
  exact h g1 g2)
theorem lx {G:Gh} {env:List (Nat×CV)} {b0:Nat→CV} {H:List (Option Nat×aW)} (n g1 g2:Nat) (K:gf) (B:List cH) (i j k:Nat) (hnd:(i::[j,k]).Nodup) (hlt:∀ q ∈ i::[j,k],q<H.length) (hE:il H [i,j,k]=Dm K B (n,g1,g2)):cJ G ⟨env,b0,H⟩ ⟨env,b0,kX (H.set i (dl n K B)) [j,k]⟩ :=
 closeN (gd:=fun x:Nat×Nat×Nat=>x.1) (E:=Dm K B) (n,g1,g2) i [j,k] hnd hlt hE
theorem PS [dO gs] [ud gs] (n:Nat) (K:gf) (B:List cH) (k:I) (hk:k.length≤1000000):AC gs prog 27 [dl n K B] [.op 0 (some n) 0,bc k] (fun r H'=>r=.tup 2 (fl [ap (if k.length=32 then vL k else []),.err (if k.length=32 then 0 else 4)])∧H'=[dl n (if k.length=32 then oY K (vL k) k else K) B]):=by
 refine ae 22 func27 fun _ _ _ _=>?_;refine U 5231675116 ?_;refine an (fun h51=>?_) fun h51=>?_
 ·refine ia ?_;refine dQ (.rd 0 (.rd 1 (.rd 2 .done))) ?_;refine U 3000700088070704000000 ?_
  have e:¬ k.length=32:=by omega
  simp only [Zy e]
  exact bR (.inl rfl) rfl (di rfl (ai rfl) (ai rfl)) (cT Z (aa.errN rfl))
 refine U 16810 ?_
 refine aq (ak (Sr k hk) ?_)
 refine U 751 ?_
 have h32:k.length=32:=by omega
 refine oD 0 rfl fun g1 g2=>?_;refine mT 8 (.rd 0 (.rd 1 (.rd 2 (.rd 3 (.rd 4 (.rd 5 (.rd 6 (.rd 7 .done)))))))) ?_;refine U 7070100009000005000070 ?_;refine aJ (UC rfl rfl underlying129 O jD) ?_;refine aJ (pJ 32) ?_;refine Az ?_
 show cQ _ _ _ _ _ _
 refine aw (Xn (vC:=uS) 1 k underlying125 Oc (D3 (k:=vL k) rfl) (cz:=.agg 32 fun j=>aV k j) Z ?_)
 refine U 85 ?_;refine jE (lx n g1 g2 (oY K (vL k) k) B 0 1 2 jD (by simp) rfl) ?_;refine U 700051116 ?_
 simp only [Zz h32]
 exact bR (.inl rfl) rfl (di rfl (ai rfl) (ai rfl)) (cT Z (aa.nilE rfl))
theorem Ws:aa (.c (.agg #[.int .u8 0,.int .u8 0,.int .u8 0,.int .u8 0,.int .u8 0,.int .u8 0,.int .u8 0,.int .u8 0,.int .u8 0,.int .u8 0,.int .u8 0,.int .u8 0,.int .u8 0,.int .u8 0,.int .u8 0,.int .u8 0,.int .u8 0,.int .u8 0,.int .u8 0,.int .u8 0,.int .u8 0,.int .u8 0,.int .u8 0,.int .u8 0,.int .u8 0,.int .u8 0,.int .u8 0,.int .u8 0,.int .u8 0,.int .u8 0,.int .u8 0,.int .u8 0])) (.agg 32 (aV [])):=fun al St w x hx=>⟨_,hx,rfl,fun i hi=>Dt 32 i hi (.int .u8 0) undef⟩
def SJ (e:Nat) (id d m:I):CV:=.agg 2 (fl [ap (if e=0 then id else []),ap (if e=0 then bN d [m] else [])])
def WJ (K:gf) (id d m:I):CV:=.tup 3 (fl [bc (if i7 K id d m=0 then y6 K id d m else []),SJ (i7 K id d m) id d m,.err (i7 K id d m)])
theorem AY {e:Nat} (he:e≠0) (id d m:I) {f:Nat→CV} (h:∀ j,j<2→aa (f j) (ap [])):aa (.agg 2 f) (SJ e id d m):=by
 unfold SJ
 rw [Zy he,Zy he]
 exact aa.agg rfl fun j hj=>by
  rcases j with _|_|j
  exact h 0 O
  exact h 1 O
  omega
theorem zT [dO gs] [ud gs] (n:Nat) (K:gf) (B:List cH) (id d m:I) (hK:pY K) (hd:d.length≤1000000) (hm:m.length≤1000000):AC gs prog 146 [dl n K B] [.op 0 (some n) 0,ap id,ap d,bc m] (fun r H'=>r=WJ K id d m∧H'=[dl n K B]):=by
 refine ae 49 func146 fun _ _ _ _=>?_;refine U 16 ?_
 refine aq (dh (n:=2) zu rfl fun p1=>?_)
 refine U 51 ?_;refine oD 0 rfl fun g1 g2=>?_;refine U 150904016 ?_;refine kj (Jt (i:=2) (k:=id) (vC:=uS) (l:=K) (v:=.agg 32 (aV ((eV K id).getD []))) rfl rfl rfl (D3 rfl) underlying125 Oc iQ (fun u hu=>by rw [hu];exact Z) (fun h=>by rw [h];exact Ws)) ?_;refine U 9009001 ?_
 refine aq (dh (n:=32) iQ rfl fun p2=>?_)
 refine aw (bg 32 (aV ((eV K id).getD [])) ?_ ?_)
 exact (fun j hj=>gX ((eV K id).getD []) _ j hj)
 refine U 751 ?_;refine jE (lx n g1 g2 K B 0 2 3 jD (by simp) rfl) ?_;refine jE (ce (H':=[dl n K B,(p1,.blk 2 _),(p2,.blk 32 (aV ((eV K id).getD [])))]) [0,1,4] jD rfl) ?_;refine jE (bj 11 (.op 2 p2 0) cP) ?_;refine U 53016 ?_;refine an (fun h68=>?_) fun h68=>?_
 ·refine ia ?_;refine lQ (.rd 0 (.rd 1 (.rd 2 (.one 3 (.rd 4 .done))))) ?_;refine jy (au (n:=2) rfl zu Na rfl rfl) ?_;refine jy (cK 9) ?_;refine jy Lt ?_
  refine lP (bn 2 ?_)
  refine U 300070008700000400000 ?_
  have e:i7 K id d m=10:=by unfold i7;rw [Zy (by simpa using h68)]
  exact bR (.inl rfl) rfl (eP rfl (ai rfl) (f5 2) (ai rfl)) (aa.tup3 (aa.nilS' (by rw [e];rfl)) (AY (by rw [e];decide) _ _ _ sb) (aa.errN e))
 refine U 810 ?_
 obtain ⟨key,hkey⟩:=cJx.1 (show (eV K id).isSome=true by simpa using h68)
 have h32:key.length=32:=hK _ (DS hkey)
 have hae:i7 K id d m=bS d [m]:=by unfold i7;rw [hkey];rfl
 have hfl:[bN d [m]].flatten=bN d [m]:=by simp
 have hsg:y6 K id d m=lL key (bN d [m]):=by unfold y6;rw [hkey];rfl
 simp only [hkey,asx]
 refine U 116 ?_
 refine aq (aM 1 1 eC fun p3=>?_)
 refine aA (freeze 3 rfl) ?_;refine aA (rI 32 [m] rfl rfl rfl jD (.cons Z .nil)) ?_
 refine aq (ak (Ep d [m] hd (by show 1≤1000000;decide)) ?_)
 refine U 55000001675119009001 ?_;refine an (fun h72=>?_) fun h72=>?_
 ·refine eA ?_;refine jq (au (n:=2) rfl zu Na rfl rfl) ?_;refine U 11 ?_
  refine aw (bn 2 ?_)
  refine U 3000700051 ?_
  exact bR (.inl rfl) rfl (eP rfl (ai rfl) (f5 2) (ai rfl)) (aa.tup3 (aa.nilS' (by rw [hae,jK];rfl)) (AY (by rw [hae];omega) _ _ _ sb) (aa.errN hae))
 refine U 810 ?_
 have he0:bS d [m]=0:=by omega
 have hlm:=u5 he0
 simp only [he0,if_true]
 refine eA ?_;refine jq (iT rfl rfl (.inl rfl) jD underlying129 fR (bv _ _) (bv _ _) (by omega) (by omega) (by omega) rfl) ?_;refine aA (freeze 2 rfl) ?_;refine aA (er 40 key rfl rfl h32.symm (by rw [h32])) ?_;refine U 1 ?_
 refine aq (aM 1 1 eC fun p4=>?_)
 refine aA (freeze 4 rfl) ?_;refine aA (rI 42 [bN d [m]] rfl rfl rfl jD (.cons Z .nil)) ?_
 refine aq (ak (NO key [bN d [m]] O (by show 1≤1000000;decide) (by rw [hfl];omega)) ?_)
 refine aq (dh (n:=32) iQ rfl fun p5=>?_)
 refine aw (bg 32 (aV (lL key (bN d [m]))) ?_ ?_)
 exact (fun j hj=>by rw [hfl];exact gX (lL key (bN d [m])) _ j hj)
 refine U 75 ?_;refine mT 6 (.rd 0 (.rd 1 (.rd 2 (.rd 3 (.rd 4 (.rd 5 .done)))))) ?_;refine aJ (iT rfl rfl (.inl rfl) jD underlying129 fR (bv _ _) (bv _ _) (by omega) (by omega) (by omega) rfl) ?_;refine U 300000007070 ?_;refine aJ (au (n:=2) rfl zu Na rfl rfl) ?_;refine ij (freeze 5 rfl) ?_;refine ij (er 44 (lL key (bN d [m])) rfl rfl (nl _ _).symm (by rw [nl])) ?_;refine U 8070 ?_
 show cQ _ _ _ _ _ _
 refine aw (bn 2 ?_)
 refine U 7000851 ?_
 exact bR (.inl rfl) rfl (eP rfl (ai rfl) (f5 2) (ai rfl)) (aa.tup3 (aa.bs (by rw [hae,he0,Zz rfl,hsg])) (by unfold SJ;rw [hae,he0,Zz rfl,Zz rfl];exact aa.agg rfl fun j hj=>by rcases j with _|_|j<;>first|exact Z|omega) (aa.nilE (by rw [hae,he0])))
def Xa (x:I×I):Nat→CV:=fl [ap x.1,bc x.2]
def Za (x:cH):Nat→CV:=fl [ap x.1,ap x.2.1,ap x.2.2]
def P1:I×I:=([],[])
def Zb:cH:=([],[],[])
def HN (K:gf):CV:=.rs 2 K.length fun i=>Xa (K.getD i P1)
def BY (B:List cH):CV:=.rs 3 B.length fun i=>Za (B.getD i Zb)
def ng (n:Nat) (K:gf) (B:List cH):Option Nat×aW:=(some n,.blk 2 (fl [HN K,BY B]))
theorem R5 (x:I×I) {j:Nat} (h:j<2):fO (Xa x j)=true:=by
 rcases j with _|_|j
 rfl
 rfl
 omega
theorem Kb {K:gf} {id:I} {i:Nat} (hi:i<K.length) (h:(K.getD i P1).1≠id):eV (K.drop (i+1)) id=eV (K.drop i) id:=by
 rw [show K.drop i=K.getD i P1::K.drop (i+1) by rw [ZZ hi];simp [List.getD,hi]]
 conv=>rhs;unfold eV
 rw [Zy h]
theorem NK {K:gf} {id:I} {i:Nat} (hi:i<K.length) (h:(K.getD i P1).1=id):eV (K.drop i) id=some (K.getD i P1).2:=by
 rw [show K.drop i=K.getD i P1::K.drop (i+1) by rw [ZZ hi];simp [List.getD,hi]]
 unfold eV
 rw [Zz h]
theorem KK (n:Nat) (K:gf) (B:List cH) (id:I) (hKl:K.length≤1000000):AC gs prog 81 [ng n K B] [.op 0 (some n) 0,ap id] (fun r H'=>r=.tup 2 (fl [bc ((eV K id).getD []),.c (.bool (eV K id).isSome)])∧H'=[ng n K B]):=by
 refine ae 24 func81 fun _ _ _ _=>?_;refine U 205135090401675116 ?_;refine ar (α:=Nat) [4,5,7,13,14,15,16,17,18,19,20,21,22,23] (fun i=>[(13,.c (.int .i64 (i:Nat)))]) (fun i=>[ng n K B]) (fun i=>i≤K.length∧eV (K.drop i) id=eV K id) (fun i=>K.length-i) (0) ?_ (fun _=>rfl) ?_ ?_ ?_
 exact ⟨ZL _,rfl⟩
 ·(repeat (first|exact bh.nil|refine bh.cons Z ?_))
 exact aD.refl _
 ·rintro i ⟨(hi:i≤K.length),he⟩
  refine U 7526 ?_;refine aaa (fun h47=>?_) fun h47=>?_
  ·refine U 7000511684000200020006000 ?_
   obtain rfl:i=K.length:=by omega
   rw [bHx] at he
   exact bR (.inl rfl) rfl (di rfl (ai rfl) (ai rfl)) (by rw [← he];exact cT (aa.nilS' rfl) Z)
  refine U 7006207810 ?_;refine jq (pJ 2) ?_
  refine aq (dh (n:=2) zw rfl fun p1=>?_)
  refine aw (bn 2 ?_)
  refine U 5600001509065 ?_;refine an (fun h48=>?_) fun h48=>?_
  ·refine U 300050003000300050007000511501006 ?_
   have hm:eV K id=some (K.getD i P1).2:=by rw [← he];exact NK O (by simpa using h48)
   exact bR (.inl rfl) rfl (di rfl (ai rfl) (ai rfl)) (by rw [hm];exact cT Z Z)
  refine U 8519200840010 ?_
  refine am (i+1) ?_ ?_ (h7:=?_)
  exact ⟨by omega,by rw [Kb O (by simpa using h48)];exact he⟩
  show K.length-(i+1)<K.length-i;omega
  exact .same .nil
theorem Od:Fa prog 204 iV:=Oa underlying204 (by kernel_rfl) underlying9 underlying9 rfl rfl jD jD
def vZ (K:gf) (B:List cH) (id d m s:I):Nat:=if i7 K id d m=0 then (if y6 K id d m=s∧(id,d,m) ∈ B then 0 else 12) else i7 K id d m
theorem IS [dO gs] [ud gs] (n:Nat) (K:gf) (B:List cH) (id d m:I) (hK:pY K) (hB:l8 B) (hd:d.length≤1000000) (hm:m.length≤1000000):AC gs prog 82 [dl n K B] [.op 0 (some n) 0,ap id,ap d,bc m] (fun r H'=>r=.tup 2 (fl [bc (if i7 K id d m=0 then y6 K id d m else []),.err (i7 K id d m)])∧H'=[dl n K (if i7 K id d m=0 then rk B (id,d,m) else B)]):=by
 have hfe:i7 K id d m=0→bS d [m]=0:=fun h=>by
  unfold i7 at h
  split at h
  exact h
  ·cases h
 refine ae 31 func82 fun _ _ _ _=>?_;refine U 111165116 ?_
 refine aw (aN 0 (zT n K B id d m hK hd hm) ?_)
 refine U 9009009001 ?_
 refine aq (dh (n:=2) zu rfl fun p2=>?_)
 refine U 1 ?_
 refine aw (bn 2 ?_)
 refine U 550000016751 ?_;refine an (fun h82=>?_) fun h82=>?_
 ·refine U 3000700051116 ?_
  simp only [Zy (show ¬ i7 K id d m=0 by omega)]
  exact bR (.inl rfl) rfl (di rfl (ai rfl) (ai rfl)) (cT (aa.nilS' rfl) Z)
 refine U 7810 ?_
 have he0:i7 K id d m=0:=by omega
 have hbs:=PD (l:=(id,d,m)) hB (hfe he0)
 simp only [he0,if_true]
 refine oD 0 rfl fun g1 g2=>?_;refine mT 5 (.rd 0 (.rd 1 (.rd 2 (.rd 3 (.rd 4 .done))))) ?_;refine U 1000080000005000070 ?_;refine qF (bD 2) ?_;refine Az ?_
 show cQ _ _ _ _ _ _
 refine aA (bj 29 (.agg 2 (fl [ap id,ap (bN d [m])])) Ko) ?_
 refine aw (Xn (vC:=yF) (k:=(id,bN d [m])) 3 true underlying126 Od (cy:=.agg 2 (fl [ap id,ap (bN d [m])])) (D0 rfl rfl rfl) (cz:=.c (.bool true)) Z ?_)
 refine U 85 ?_;refine jE (lx n g1 g2 K (rk B (id,d,m)) 0 2 3 jD (by simp) (by unfold Dm;rw [← hbs];rfl)) ?_;refine U 700051116 ?_
 exact bR (.inl rfl) rfl (di rfl (ai rfl) (ai rfl)) (cT Z (aa.nilE rfl))
theorem CR [dO gs] [ud gs] (n:Nat) (K:gf) (B:List cH) (id d m s:I) (hK:pY K) (hB:l8 B) (hd:d.length≤1000000) (hm:m.length≤1000000):AC gs prog 92 [dl n K B] [.op 0 (some n) 0,ap id,ap d,bc m,bc s] (fun r H'=>r=.err (vZ K B id d m s)∧H'=[dl n K B]):=by
 have hfe:i7 K id d m=0→bS d [m]=0:=fun h=>by
  unfold i7 at h
  split at h
  exact h
  ·cases h
 refine ae 42 func92 fun _ _ _ _=>?_;refine U 11116516 ?_
 refine aw (aN 0 (zT n K B id d m hK hd hm) ?_)
 refine U 9009009001 ?_
 refine aq (dh (n:=2) zu rfl fun p2=>?_)
 refine U 1 ?_
 refine aw (bn 2 ?_)
 refine U 515000001620751 ?_;refine an (fun h93=>?_) fun h93=>?_
 ·refine U 3000500070005116 ?_
  exact bR (.inl rfl) rfl (aK rfl (ai rfl)) (aa.errN (by unfold vZ;rw [jK]))
 refine ia ?_
 have he0:i7 K id d m=0:=by omega
 have hbg:=EX (l:=(id,d,m)) hB (hfe he0)
 have hv:vZ K B id d m s=if y6 K id d m=s∧(id,d,m) ∈ B then 0 else 12:=by unfold vZ;rw [Zz he0]
 simp only [he0,if_true]
 refine oD 0 rfl fun g1 g2=>?_;refine dQ (.rd 0 (.rd 1 (.one 2 (.rd 3 (.rd 4 (.rd 5 (.rd 6 (.rd 7 (.rd 8 (.rd 9 (.rd 10 (.rd 11 (.rd 12 (.rd 13 .done)))))))))))))) ?_;refine U 7070 ?_
 refine gp (ak (I4 (y6 K id d m) s) ?_)
 refine U 70100000 ?_;refine ze 32 (fun g95=>?_) fun g95=>?_
 ·refine U 9000880703000000600600600600600600600 ?_;refine jE (lx n g1 g2 K B 0 2 3 jD (by simp) rfl) ?_;refine eA ?_;refine jq (cK 11) ?_;refine U 30005000700051 ?_
  exact bR (.inl rfl) rfl (aK rfl (ai rfl)) (aa.errN (by rw [hv,Zy (by rintro ⟨k1,k2⟩;simp_all)]))
 refine U 1000080000005000070 ?_;refine qF (bD 2) ?_;refine qF (Rj (i:=3) (k:=(id,bN d [m])) (vC:=yF) (l:=k7 B) (v:=yF (decide ((id,d,m) ∈ B))) rfl rfl rfl (D0 rfl rfl rfl) underlying126 Od Y6 (fun u hu=>by rw [← hbg];unfold eW;simp only [hu];exact Z) (fun h=>by rw [← hbg];unfold eW;simp only [h];exact Z)) ?_;refine U 88070300000100000 ?_;refine an (fun h95=>?_) fun h95=>?_
 ·refine jE (lx n g1 g2 K B 0 2 3 jD (by simp) rfl) ?_;refine eA ?_;refine jq (cK 11) ?_;refine U 30005000700051 ?_
  exact bR (.inl rfl) rfl (aK rfl (ai rfl)) (aa.errN (by rw [hv,Zy (by rintro ⟨k1,k2⟩;simp_all)]))
 refine U 840010 ?_;refine jE (lx n g1 g2 K B 0 2 3 jD (by simp) rfl) ?_;refine U 7000516 ?_
 exact bR (.inl rfl) rfl (aK rfl (ai rfl)) (aa.nilE (by rw [hv,Zz (by simp_all)]))
def Cx (K:gf) (k:I):gf:=if (eV K (vL k)).isSome=true then K else K++[(vL k,k)]
theorem JO (n:Nat) (K:gf) (B:List cH) (k:I) (hKl:K.length≤1000000) (hk:k.length≤1000000):AC gs prog 28 [ng n K B] [.op 0 (some n) 0,bc k] (fun r H'=>r=ap (vL k)∧H'=[ng n (Cx K k) B]):=by
 refine ae 35 func28 fun _ _ _ _=>?_;refine U 16516 ?_
 refine aq (ak (MH k hk) ?_)
 refine U 116751 ?_
 refine aw (aN 0 (KK n K B (vL k) hKl) ?_)
 refine U 530165119009001 ?_;refine aaa (fun h40=>?_) fun h40=>?_
 ·refine U 810 ?_
  have e:Cx K k=if (eV K (vL k)).isSome=true then K else []++K++[(vL k,k)]:=rfl
  refine jE (cE 0 2 (fl [HN (Cx K k),BY B]) rfl (ZA _) (fun j hj=>by
   rcases j with _|_|j
   ·first
     |(rw [e,Zz (by simpa using h40)];exact Z)
     |(rw [e,Zy (by simpa using h40)];exact Z)
   exact Z
   ·omega)) ?_
  refine U 70005116 ?_
  exact bR (x:=ng n (Cx K k) B) (.inl rfl) rfl (aK rfl (ai rfl)) Z
 refine U 1200 ?_
 refine aq (aM 0 2 zw fun p2=>?_)
 refine U 5090401 ?_
 refine aw (aB (l:=[]) ( gO 2 Xa P1) rfl rfl rfl rfl (aqx (aKx _)) (fun j hj=>absurd hj (by simp)) (cX rfl) rfl (fun j hj=>by exact Z) underlying57 W3 Tz zw T1 rfl (by (simp;omega)) (by (simp;omega)) (fun j hj=>R5 _ (aNx _ jD)) rfl rfl rfl (fun p3=>?_))
 refine U 1 ?_
 refine aq (aM 0 1 da fun p4=>?_)
 refine U 1 ?_
 refine aw (ay (l:=[]) rfl rfl rfl (ZL _) (fun j hj=>absurd hj (ZO j)) (cX rfl) rfl (fun j hj=>by simp only [anx];exact Z) underlying23 dV fR da jt rfl (by (simp;omega)) (fun j hj=>rfl) rfl rfl (fun p5=>?_))
 refine aA (freeze 2 rfl) ?_;refine aA (er 28 k rfl rfl rfl rfl) ?_;refine jq (au (n:=2) rfl zw W0 rfl rfl) ?_
 refine aq (aM 2 2 zw fun p6=>?_)
 refine aw (aB (gO 2 Xa P1) (l2:=[(vL k,k)]) rfl rfl rfl rfl (by exact ZA _) (fun _ _=>Z) (aI rfl (.inl rfl) jD) rfl (fun j hj=>by rcases j with _|_|j<;>first|exact Z|(exfalso;simp at hj<;>omega)) underlying57 W3 Tz zw T1 rfl (by (simp;omega)) (by (simp;omega)) (bw rfl rfl) rfl rfl rfl (fun p7=>?_))
 refine U 9040 ?_;refine aA (freeze 1 rfl) ?_;refine aA (iG 31 (fun i=>Xa (([]++K++[(vL k,k)]).getD i P1)) rfl rfl (by simp) (fun a b ha hb=>aa.of_eq (by rw [Nat.zero_add,kh hb]))) ?_
 refine aw (bn 1 ?_)
 refine U 85 ?_
 have e:Cx K k=if (eV K (vL k)).isSome=true then K else []++K++[(vL k,k)]:=rfl
 refine jE (cE 0 2 (fl [HN (Cx K k),BY B]) rfl (ZA _) (fun j hj=>by
  rcases j with _|_|j
  ·first
    |(rw [e,Zz (by simpa using h40)];exact Z)
    |(rw [e,Zy (by simpa using h40)];exact Z)
  exact Z
  ·omega)) ?_
 refine U 70005116 ?_
 exact bR (x:=ng n (Cx K k) B) (.inl rfl) rfl (aK rfl (ai rfl)) Z
theorem VX {K:gf} {id d m:I} (h:i7 K id d m=0):bS d [m]=0∧∃ key,eV K id=some key:=by
 unfold i7 at h
 by_cases e:(eV K id).isSome=true
 ·rw [Zz e] at h
  exact ⟨h,cJx.1 e⟩
 ·rw [Zy e] at h;cases h
section
open Go.RowKit Cal
def rh:I:=[114,101,113,117,101,115,116]
def My (d:I) (q:Q5):Nat→CV:=fl [ap d,.c (.int .i64 q.1.1),ap q.1.2.1,ap q.1.2.2,ap q.2.1,.c (.int .i64 q.2.2.1),.c (.int .i64 q.2.2.2.1),ua q.2.2.2.2]
section
variable {gs:List Nat} [dO gs] [rz gs] [ud gs]
theorem IW {gs:List Nat} [dO gs] [ud gs] {f:FuncId} (hc:bA prog f=true) (n:Nat) (K:gf) (B:List cH) (id d m:I) (q:Q5) (hf:cd gs prog f [lg q] (.tup 2 (fl [bc m,.err 0]))) (hK:pY K) (hB:l8 B) (hd:d.length≤1000000) (hm:m.length≤1000000):AC gs prog 29 [dl n K B] [.op 0 (some n) 0,ap id,.agg 8 (My d q),.fn f 0 fun _=>.top] (fun r H'=>r=.tup 2 (fl [bc (if i7 K id d m=0 then y6 K id d m else []),.err (i7 K id d m)])∧H'=[dl n K (if i7 K id d m=0 then rk B (id,d,m) else B)]):=by
 refine ae 30 func29 fun _ _ _ _=>?_;refine eA ?_
 refine aq (ee 8 fun p1=>?_)
 refine U 16511 ?_;refine jq (en 1 7 true) ?_;refine kj (bD 7) ?_
 refine aq (ln rfl rfl (by assumption) (hf) (.cons Ko .nil) rfl rfl ?_)
 rintro _ _ ⟨rfl,rfl⟩
 refine U 55000001675119009001 ?_;refine an (fun h110=>?_) fun h110=>?_
 ·exfalso;exact absurd h110 jD
 refine U 15090116810 ?_
 refine aw (aN 0 (IS n K B id d m hK hB hd hm) ?_)
 refine U 7000511900900 ?_
 exact bR (x:=dl n K (if i7 K id d m=0 then rk B (id,d,m) else B)) (.inl rfl) rfl (di rfl (ai rfl) (ai rfl)) (cT Z Z)
theorem JR {gs:List Nat} [dO gs] [ud gs] {f:FuncId} (hc:bA prog f=true) (n:Nat) (K:gf) (B:List cH) (id d m s:I) (q:Q5) (hf:cd gs prog f [lg q] (.tup 2 (fl [bc m,.err 0]))) (hK:pY K) (hB:l8 B) (hd:d.length≤1000000) (hm:m.length≤1000000):AC gs prog 35 [dl n K B] [.op 0 (some n) 0,ap id,.agg 8 (My d q),bc s,.fn f 0 fun _=>.top] (fun r H'=>r=.err (vZ K B id d m s)∧H'=[dl n K B]):=by
 refine ae 30 func35 fun _ _ _ _=>?_;refine eA ?_
 refine aq (ee 8 fun p1=>?_)
 refine U 1651 ?_;refine jq (en 1 7 true) ?_;refine kj (bD 7) ?_
 refine aq (ln rfl rfl (by assumption) (hf) (.cons Ko .nil) rfl rfl ?_)
 rintro _ _ ⟨rfl,rfl⟩
 refine U 55000001675119009001 ?_;refine an (fun h119=>?_) fun h119=>?_
 ·exfalso;exact absurd h119 jD
 refine U 115090116810 ?_
 refine aw (aN 0 (CR n K B id d m s hK hB hd hm) ?_)
 refine U 700051 ?_
 exact bR (x:=dl n K B) (.inl rfl) rfl (aK rfl (ai rfl)) Z
def Te (K:gf) (q:Q5):Nat:=i7 K q.2.1 rh (dA q)
def xf (K:gf) (q:Q5):I:=y6 K q.2.1 rh (dA q)
def xV (q:Q5):cH:=(q.2.1,rh,dA q)
theorem sN (K:gf) (q:Q5):(xf K q).length=32:=nl _ _
end
end
end Am
end Go.Proofs.YtghminnpfnkbjaaGreatDoor
namespace Go.Proofs.YtghminnpfnkbjaaGreatDoor
open Go.RowKit Go.Extern.Stop Go.Stop Go.Extern
set_option maxRecDepth 100000 in
theorem Vq (v:Value) (a:Addr) (hv:v=.iface 338 (.pointer (some a))) (w:World) :
  Calls prog 33 #[.nilIface,v] w fun e w'=>e=.returned (.bool false)∧w=w':=by
 subst hv
 have hn:=run_eql_iface_nil_left (P:=prog) w 338 (.pointer (some a)) underlying37
 go_enter func33,ntmps33
 go_wp2
 go_ret
 exact ⟨rfl,rfl⟩
namespace Am
variable {gs:List Nat} [dO gs]
theorem O9 (m k:Nat) (hm:m≤28) (hk:k<28):cd gs prog 33 [.err m,.err (k+1)] (.c (.bool (decide (m=k+1)))) :=
 pX fun al w St vals hs hv hr=>by
  have h0:vals.getD 0 undef=ev al m:=hr 0
  have h1:vals.getD 1 undef=ev al (k+1):=hr 1
  rw [wW hv,h0,h1]
  have hst:=hs.std
  by_cases hz:m=0
  ·subst hz
   have hl:al.length=28:=hst.len.trans (by rw [dO.eq];rfl)
   obtain ⟨b,hb⟩:∃ b,al[k]?=some b:=⟨al[k],ZM O⟩
   have e2:ev al (k+1)=.iface 338 (.pointer (some b)):=by simp [ev,hb]
   rw [aex O]
   exact (Vq _ b e2 w).mono fun e w' ⟨h1,h2⟩=>⟨h1,by rw [h2];exact Below.refl _ _⟩
  exact (Ol hst m k hz hm hk).mono fun e w' ⟨h1,h2⟩=>⟨h1,by rw [h2];exact Below.refl _ _⟩
end Am
end Go.Proofs.YtghminnpfnkbjaaGreatDoor
namespace Go.Proofs.YtghminnpfnkbjaaGreatDoor
namespace Am
open Go.RowKit
section
open Go.RowKit Cal
def tD (E0 E1 V:Nat) (q:Q5):Q5×Nat:=if E0=0 then (if E1=0 then (if V=0 then (q,0) else (Dy,if V=12 then 11 else V)) else (Dy,E1)) else (Dy,E0)
theorem BJ {f:Nat→CV} (h:∀ j,j<7→aa (f j) (BI Dy j)):aa (.agg 7 f) (lg Dy):=aa.agg rfl h
section
variable {gs:List Nat} [dO gs] [rz gs] [ud gs]
theorem Le {gs:List Nat} [dO gs] [ud gs] (n:Nat) (K:gf) (B:List cH) (b body sig:I) (E0 E1 V:Nat) (q:Q5) (hV:V≤28) (hS:cd gs prog 34 [bc b] (.tup 3 (fl [bc body,bc sig,.err E0]))) (hR:cd gs prog 19 [bc body] (.tup 2 (fl [lg q,.err E1])))
  (hO:E1=0→AC gs prog 35 [dl n K B] [.op 0 (some n) 0,ap q.2.1,.agg 8 (My rh q),bc sig,.fn 15 0 fun _=>.top] (fun r H'=>r=.err V∧H'=[dl n K B])) :
  AC gs prog 12 [dl n K B] [.op 0 (some n) 0,bc b] (fun r H'=>r=.tup 2 (fl [lg (tD E0 E1 V q).1,.err (tD E0 E1 V q).2])∧H'=[dl n K B]):=by
 have hIs:=O9 (gs:=gs) V 11 hV jD
 refine ae 48 func12 fun _ _ _ _=>?_;refine eA ?_
 refine aq (dh (n:=7) ue rfl fun p1=>?_)
 refine U 1651 ?_
 refine aq (ak hS ?_)
 refine U 550000016751119009009001 ?_;refine an (fun h98=>?_) fun h98=>?_
 ·refine eA ?_;refine jq (au (n:=7) rfl ue Dz rfl rfl) ?_;refine U 1 ?_
  refine aw (bn 7 ?_)
  refine U 3000700051 ?_
  rw [show tD E0 E1 V q=(Dy,E0) by unfold tD;rw [jK]]
  exact bR (x:=dl n K B) (.inl rfl) rfl (di rfl (f5 7) (ai rfl)) (cT (BJ fun j hj=>by rcases j with _|_|_|_|_|_|_|j<;>first|exact Z|exact aa.nilS' rfl|omega) Z)
 refine U 16810 ?_
 refine aq (ak hR ?_)
 refine U 9009001 ?_
 refine aq (dh (n:=7) ue rfl fun p2=>?_)
 refine aw (bn 7 ?_)
 refine U 550000016751 ?_;refine an (fun h102=>?_) fun h102=>?_
 ·refine eA ?_;refine jq (au (n:=7) rfl ue Dz rfl rfl) ?_;refine U 1 ?_
  refine aw (bn 7 ?_)
  refine U 3000700051 ?_
  rw [show tD E0 E1 V q=(Dy,E1) by unfold tD;rw [jP,jK]]
  exact bR (x:=dl n K B) (.inl rfl) rfl (di rfl (f5 7) (ai rfl)) (cT (BJ fun j hj=>by rcases j with _|_|_|_|_|_|_|j<;>first|exact Z|exact aa.nilS' rfl|omega) Z)
 refine U 50500000016810 ?_;refine kj (bD 7) ?_;refine jq (au (n:=8) rfl Wi WW rfl rfl) ?_;refine U 1 ?_
 refine aw (aN 0 (hO O) ?_)
 refine U 1620751 ?_;refine jq (cK 11) ?_
 refine aq (ak hIs ?_)
 refine U 51 ?_;refine an (fun h107=>?_) fun h107=>?_
 ·refine ia ?_;refine lQ (.rd 0 (.rd 1 (.one 2 (.rd 3 .done)))) ?_;refine jy (au (n:=7) rfl ue Dz rfl rfl) ?_;refine jy (cK 10) ?_
  refine lP (bn 7 ?_)
  refine U 3000500070008700000400000 ?_
  rw [show tD E0 E1 V q=(Dy,11) by unfold tD;rw [jP,jP,Zy (by simp_all),Zz (by simp_all)]]
  exact bR (x:=dl n K B) (.inl rfl) rfl (di rfl (f5 7) (ai rfl)) (cT (BJ fun j hj=>by rcases j with _|_|_|_|_|_|_|j<;>first|exact Z|exact aa.nilS' rfl|omega) (aa.errN rfl))
 refine U 5150000016 ?_;refine an (fun h109=>?_) fun h109=>?_
 ·refine eA ?_;refine jq (au (n:=7) rfl ue Dz rfl rfl) ?_;refine U 1 ?_
  refine aw (bn 7 ?_)
  refine U 30005000700051 ?_
  rw [show tD E0 E1 V q=(Dy,V) by unfold tD;rw [jP,jP,Zy (by simp_all),Zy (by simp_all)]]
  exact bR (x:=dl n K B) (.inl rfl) rfl (di rfl (f5 7) (ai rfl)) (cT (BJ fun j hj=>by rcases j with _|_|_|_|_|_|_|j<;>first|exact Z|exact aa.nilS' rfl|omega) Z)
 refine U 6840010 ?_;refine kj (bD 7) ?_
 refine aw (bn 7 ?_)
 refine U 700051 ?_
 rw [show tD E0 E1 V q=(q,0) by unfold tD;rw [jP,jP,Zz (by simp_all)]]
 exact bR (x:=dl n K B) (.inl rfl) rfl (di rfl (f5 7) (ai rfl)) (cT Ko (aa.nilE rfl))
end
end
section
open Go.RowKit Cal
section
variable {gs:List Nat}
end
end
section
open Go.RowKit Cal
def LK (K:gf) (B:List cH) (b:I):Nat:=vZ K B (iS (eF b).1).1.2.1 rh (eF b).1 (eF b).2.1
def Ld (K:gf) (B:List cH) (b:I):Q5×Nat:=tD (eF b).2.2 (iS (eF b).1).2 (LK K B b) (iS (eF b).1).1
theorem UW (l:Zx) (k:Nat):(aj 0 l k).raw.length≤(cc l).length:=by
 unfold aj
 repeat' split
 all_goals first
  |(simp only [List.length_nil];omega)
  |(show (List.take _ (cc l)).length≤_;rw [ZK];omega)
theorem Nt {l:Zx} {k:Nat} {a z:Int} (h:(cc l).length≤100000):(ac ⟨6,0,a,z⟩ l k).v.b.length≤100000:=by
 have hbd:=gT (cc l)
 have hbb:(aj 4 l k).body.length≤100000:=by
  unfold aj
  repeat' split
  all_goals (simp only [List.length_nil];omega)
 unfold ac
 rw [Zy (by show ¬ (6:Int)=1;decide),Zy (by show ¬ (6:Int)=2;decide),Zy (by show ¬ (6:Int)=11;decide)]
 unfold vt
 split
 ·show (saidM ⟨6,0,a,z⟩ (aj 4 l k).body).1.b.length≤_
  show (lJ a z (aj 4 l k).body).1.length≤_
  unfold lJ
  repeat' split
  all_goals (simp only [List.length_nil];omega)
 ·simp [VV.none]
theorem Mh {b:I} (hb:b.length≤60000):(eF b).1.length≤80000∧(eF b).2.1.length≤100000:=by
 have B:=XN (b:=b) O
 have n2:=kS B.m2
 have m0:eB [b] (aR b).2≤60001:=by
  have:cw [b]=b.length:=by simp [cw]
  unfold eB
  split<;>omega
 have he:=f7 (t:=48) (l:=[b]) (k:=(aR b).2) (by simp)
 have m1:eB (oQ b) (ub b)≤60001:=Z7 he.2.1 m0
 have n1:=kS m1
 have h2:(vX b).v.b.length≤80000:=by
  have e:vX b=⟨(aj 0 (oQ b) (ub b)).l,(aj 0 (oQ b) (ub b)).k,vB (aj 0 (oQ b) (ub b)).raw⟩:=by unfold vX ac;rw [Zy jD,Zy jD,Zz jD]
  rw [e]
  show (aj 0 (oQ b) (ub b)).raw.length≤_
  exact Z7 (UW _ _) O
 have h3:(oU b).2.b.length≤100000:=by
  have e:(oU b).2.b=(ac ⟨6,0,32,32⟩ (vX b).l (vX b).k).v.b:=by unfold oU dy;rw [Zy jD];rfl
  rw [e]
  exact Nt n2
 unfold eF zj
 split
 exact ⟨h2,h3⟩
 exact ⟨by simp,by simp⟩
theorem Uk (K:gf) (B:List cH) (id d m s:I):vZ K B id d m s≤28:=by
 unfold vZ i7 bS
 repeat' split
 all_goals omega
section
variable {gs:List Nat}
theorem GI [dO gs] [rz gs] [ud gs] (n:Nat) (K:gf) (B:List cH) (b:I) (hb:b.length≤60000) (hK:pY K) (hB:l8 B):AC gs prog 12 [dl n K B] [.op 0 (some n) 0,bc b] (fun r H'=>r=.tup 2 (fl [lg (Ld K B b).1,.err (Ld K B b).2])∧H'=[dl n K B]):=by
 have hl:=Mh hb
 refine Le n K B b (eF b).1 (eF b).2.1 (eF b).2.2 (iS (eF b).1).2 (LK K B b) (iS (eF b).1).1 (Uk _ _ _ _ _ _) (Fr b O) (zU (eF b).1 O) (fun h0=>?_)
 have hr:=MM h0
 have hw:=FE O h0
 unfold LK
 generalize (eF b).1=body at *
 generalize (eF b).2.1=sig at *
 generalize (iS body).1=q at *
 have hg:=mU hr
 have hbd:=qY (gs:=gs) q (by have:=hg.n8;omega)
 rw [Zz hr,Zz hr,hw] at hbd
 exact JR (by kernel_rfl) n K B q.2.1 rh body sig q hbd hK hB (by simp [rh]) O
end
end
section
open Go.RowKit Cal
section
variable {q:Q5} {s:I}
theorem Q7 (h:fG q):GS 5 (48,y9 q):=by
 have ⟨l1,l3⟩:=ki h
 have hflat:([Lu mW (CS q.1),Lu wH (wo (eY q.2.1)),(3,cn q.2.2.1.toNat),Lu Ia (yZ q.2.2.2.1),(48,GO q.2.2.2.2)].map nG).flatten=y9 q:=by
  unfold y9 M4 Rv TD TC P4
  simp only [Z6,bqx,arx,bJx]
  rfl
 rw [← hflat]
 refine np (d:=4) jD jD jD (fun x hx=>?_) (by rw [hflat];omega)
 simp only [Z9,ahx,or_false] at hx
 rcases hx with rfl|rfl|rfl|rfl|rfl
 exact ((lm nZ h.who).2.2).mono jD
 exact ((lm s8 h.ky).2.2).mono jD
 exact (O0 h.us).mono jD
 exact ((lm pB h.du).2.2).mono jD
 exact (LS h.n8 h.al).mono jD
theorem B9 {x:I} (hx:GS 5 (48,x)) (hl:(bB 48 x).length≤60000) (hs:s.length=32):(aR (cM (bB 48 x) s)).2=0:=by
 have hp:=eG 4 s
 have hj:=uU hl hs
 have e:([((48:Int),x),(4,s)].map nG).flatten=bB 48 x++bB 4 s:=by
  simp only [Z6,bqx,arx,bJx,aMx]
  rfl
 have hL:GS 6 (48,bB 48 x++bB 4 s):=by
  rw [← e]
  refine np (d:=5) jD jD jD (fun y hy=>?_) (by rw [e];omega)
  simp only [Z9,ahx,or_false] at hy
  rcases hy with rfl|rfl
  exact hx
  exact (lC (t:=4) (b:=s) jD jD O).mono jD
 exact Au hL jD (by show (cM (bB 48 x) s).length≤_;omega)
theorem Gc (h:fG q) (hs:s.length=32):(aR (cM (dA q) s)).2=0:=B9 (Q7 h) (by have:=(ki h).2;unfold dA at this;omega) hs
theorem vr (h:fG q) (hs:s.length=32):eF (cM (dA q) s)=(dA q,s,0):=by
 have hl:=(ki h).2
 have hj:=uU (b:=dA q) O hs
 have hd:=uv h
 have hdj:=Gc h hs
 obtain ⟨e1,e2,_⟩:=qP [] (t:=48) (b:=dA q++bB 4 s) [] jD O
 rw [aMx] at e1 e2
 generalize dA q=b at *
 have s1:oQ (cM b s)=[[]]++[b++bB 4 s]:=by unfold oQ;rw [hdj];exact e1
 have k1:ub (cM b s)=0:=by unfold ub;rw [hdj];exact e2
 obtain ⟨n1,n2,n3⟩:=NF hd [[]] (bB 4 s)
 have s2:vX (cM b s)=⟨[[]]++[bB 4 s],0,vB b⟩:=by
  unfold vX
  rw [s1,k1]
  unfold ac
  rw [Zy jD,Zy jD,Zz jD,n1,n2,n3]
 have hg:gh XC (wo s):=.inr (.inr (.inl ⟨rfl,rfl,by show (32:Int)≤(s.length:Nat);omega,by show (s.length:Nat)≤(32:Int);omega⟩))
 have s3:oU (cM b s)=(([[]]++[[]],0),wo s):=by
  unfold oU
  rw [s2]
  have:=qL TG hg [[]] []
  rw [aMx] at this
  exact this
 have lv:=qE (ls:=[[]]) jD
 generalize cM b s=J at *
 have s4:Uh J=0:=by
  unfold Uh
  rw [s3]
  dsimp only
  rw [lv.1,lv.2]
  rfl
 unfold eF zj
 rw [Zz s4,s2,s3]
 rfl
theorem IA (K:gf) (B:List cH) (hr:cl q=true) (hs:s.length=32):LK K B (cM (dA q) s)=vZ K B q.2.1 rh (dA q) s:=by
 unfold LK
 rw [vr (mU hr) hs]
 dsimp only
 rw [ux hr]
theorem Lc (K:gf) (B:List cH) (hr:cl q=true) (hs:s.length=32):Ld K B (cM (dA q) s)=tD 0 0 (vZ K B q.2.1 rh (dA q) s) q:=by
 unfold Ld
 rw [IA K B hr hs,vr (mU hr) hs]
 dsimp only
 rw [ux hr]
attribute [local irreducible] eF iS dA in
end
end
section
open Go.RowKit Cal
def kB (i:Nat):I:=UInt8.ofNat i::List.replicate 31 0
def kI (i:Nat):I:=vL (kB (i+1))
def K3 (n:Nat):gf:=(List.range n).map fun i=>(kI i,kB (i+1))
def HY (n:Nat):Zx:=(List.range n).map kI
theorem x9 (i:Nat):(kB i).length=32:=rfl
theorem Xe:kI 0≠kI 1∧kI 0≠kI 2∧kI 1≠kI 2:=by decide +kernel
theorem V5 (n:Nat):(K3 n).length=n:=by simp [K3]
theorem HV (n:Nat):(HY n).length=n:=by simp [HY]
theorem Eg (n:Nat):HY (n+1)=HY n++[kI n]:=by simp [HY,bSx]
theorem In (n:Nat):K3 (n+1)=K3 n++[(kI n,kB (n+1))]:=by simp [K3,bSx]
attribute [local irreducible] kI in
theorem PX {n:Nat} (h:n<3):eV (K3 n) (kI n)=none:=by
 have ⟨h1,h2,h3⟩:=Xe
 rcases n with _|_|_|n
 rfl
 ·rw [show K3 (0+1)=[(kI 0,kB 1)] from rfl]
  simp only [eV]
  rw [Zy h1]
 ·rw [show K3 (0+1+1)=[(kI 0,kB 1),(kI 1,kB 2)] from rfl]
  simp only [eV]
  rw [Zy h2,Zy h3]
 omega
theorem V3 {n:Nat} (h:n<3):oY (K3 n) (kI n) (kB (n+1))=K3 (n+1):=by rw [DQ (PX h),In]
theorem V6 {n:Nat} (h:n<3):Cx (K3 n) (kB (n+1))=K3 (n+1):=by
 unfold Cx
 rw [show vL (kB (n+1))=kI n from rfl,PX h,Zy (by simp),In]
theorem Io (n:Nat):pY (K3 n):=fun x hx=>by
 obtain ⟨i,_,rfl⟩:=bBx.1 hx
 rfl
def sm:Q5:=((1,[],[97]),kI 0,1,5,[])
theorem vc:cl sm=true:=by decide +kernel
theorem GQ {K:gf} {q:Q5} (hr:cl q=true) (hk:(eV K q.2.1).isSome=true):Te K q=0:=by
 have hl:=(ki (mU hr)).2
 unfold Te i7
 rw [Zz hk,yh,Zz jD,jK]
attribute [local irreducible] kI in
theorem Ci:(eV (K3 3) sm.2.1).isSome=true:=by
 rw [show K3 3=[(kI 0,kB 1),(kI 1,kB 2),(kI 2,kB 3)] from rfl,show sm.2.1=kI 0 from rfl]
 simp only [eV]
 rw [Zz True.intro]
 rfl
section
variable {b s:I}
def RB (b:I):I:=48::(ie (b.length+34)++b++[4,32])
theorem uT (hs:s.length=32):cM b s=RB b++s:=by
 have e:bB 4 s=[4,32]++s:=by
  unfold bB
  rw [hs]
  rfl
 unfold cM
 rw [e]
 unfold bB RB
 have:(b++([4,32]++s)).length=b.length+34:=by simp [hs]
 rw [this]
 simp
def rx (s:I):I:=s.set 31 (s.getD 31 0 ^^^ 1)
theorem AN:(rx s).length=s.length:=by simp [rx]
theorem OW (hs:s.length=32):s≠rx s:=fun h=>by
 have h31:=ZV (fun l=>l.getD 31 0) h
 simp only [rx] at h31
 rw [ZB (l:=s.set 31 _),List.getElem?_set_self O] at h31
 simp only [asx] at h31
 generalize s.getD 31 0=x at h31
 have h2:x ^^^ x=x ^^^ (x ^^^ 1):=ZV (x ^^^ ·) h31
 rw [← UInt8.xor_assoc,UInt8.xor_self,UInt8.zero_xor] at h2
 exact absurd h2 jD
theorem Gd (hs:s.length=32):(cM b s).set ((cM b s).length-1) ((cM b s).getD ((cM b s).length-1) 0 ^^^ 1)=cM b (rx s):=by
 have e1:=uT (b:=b) hs
 have e2:=uT (b:=b) (s:=rx s) (by rw [AN];exact hs)
 have hl:(cM b s).length-1=(RB b).length+31:=by rw [e1,ZD,hs];omega
 rw [hl,e1,e2,List.set_append,jK,aWx]
 unfold rx
 rw [ZB,ZR O,aWx,← ZB]
end
theorem OV {K:gf} {B:List cH} {q:Q5} (hr:cl q=true) (hk:Te K q=0):Ld K B (cM (dA q) (rx (xf K q)))=(Dy,11):=by
 have hs:=sN K q
 rw [Lc K B hr (by rw [AN];exact hs)]
 have hv:vZ K B q.2.1 rh (dA q) (rx (xf K q))=12:=by
  unfold vZ
  rw [Zz (show i7 K q.2.1 rh (dA q)=0 from hk),Zy (fun h=>OW hs h.1)]
 rw [hv]
 rfl
theorem RS {G:Gh} {env:List (Nat×CV)} {b0:Nat→CV} {H:List (Option Nat×aW)} (n i:Nat) {f:Nat→CV} (hi:H[i]?=some (some n,.blk 2 f)) (h0:aa (f 0) (.c (.slice none 0 0))) (h1:aa (f 1) (.c (.slice none 0 0))):cJ G ⟨env,b0,H⟩ ⟨env,b0,H.set i (ng n [] [])⟩ :=
 cE i 2 (fl [HN [],BY []]) hi (ZA _) (fun j hj=>by
  rcases j with _|_|j
  exact h0.trans (aa.nilS' rfl)
  exact h1.trans (aa.nilS' rfl)
  ·omega)
theorem R9 (i:Nat) (hi:i<256) (j:Nat) (hj:j<32):aa (fX (fun _=>.c (.int .u8 0)) 0 [.c (.int .u8 ((i:Nat):Int))] j) (aV (kB i) j):=by
 refine aa.of_eq ?_
 rw [db]
 unfold aV kB
 rcases j with _|j
 ·rw [Zz (by simp)]
  show CV.c (.int .u8 ((i:Nat):Int))=.c (.int .u8 (((UInt8.ofNat i).toNat:Nat):Int))
  rw [ZT,aQx O]
 ·rw [Zy (by simp)]
  rw [aTx,ZB,aHx]
  split<;>rfl
section
variable {gs:List Nat} [dO gs] [rz gs] [ud gs]
theorem Ti {gs:List Nat} [dO gs] [ud gs] (n i:Nat) (hi:i<3):AC gs prog 27 [dl n (K3 i) []] [.op 0 (some n) 0,bc (kB (i+1))] (fun r H'=>r=.tup 2 (fl [ap (kI i),.err 0])∧H'=[dl n (K3 (i+1)) []]):=by
 have h:=PS (gs:=gs) n (K3 i) [] (kB (i+1)) (by rw [x9];decide)
 rw [Zz (x9 _),Zz (x9 _),Zz (x9 _),show vL (kB (i+1))=kI i from rfl,V3 hi] at h
 exact h
theorem M3 {gs:List Nat} (n i:Nat) (hi:i<3):AC gs prog 28 [ng n (K3 i) []] [.op 0 (some n) 0,bc (kB (i+1))] (fun r H'=>r=ap (kI i)∧H'=[ng n (K3 (i+1)) []]):=by
 have h:=JO (gs:=gs) n (K3 i) [] (kB (i+1)) (by rw [V5];omega) (by rw [x9];decide)
 rw [show vL (kB (i+1))=kI i from rfl,V6 hi] at h
 exact h
theorem Jm {gs:List Nat} [dO gs] [ud gs]:AC gs prog 7 [] [] (fun r H'=>∃ n m,r=.tup 3 (fl [.op 0 (some n) 0,.op 1 (some m) 0,ua (HY 3)])∧H'=[dl n (K3 3) [],ng m (K3 3) []]):=by
 refine ae 42 func7 fun _ _ _ _=>?_;refine U 651116 ?_
 refine aq (yc NG ?_)
 rintro _ _ ⟨n,rfl,rfl⟩
 refine jq (au (n:=2) rfl X4 Yr rfl rfl) ?_
 refine aq (ee 2 fun p1=>?_)
 refine U 511 ?_;refine cL (ig 4 rfl) fun hn=>?_
 obtain ⟨m,rfl⟩:=hn
 refine jE (RS m 1 rfl Z Z) ?_
 dsimp only [List.set_cons_zero,List.set_cons_succ,List.cons_append,List.nil_append,List.length_cons,List.length_nil,Nat.zero_add,Nat.reduceAdd]
 refine eA ?_
 refine aq (aM 0 1 CC fun p2=>?_)
 refine U 20516751 ?_;refine ar (α:=Nat×Option Nat) [0,1,2,5,6,7,8,9,14,15,16,17,18,19,20,21,22,23,24,25,26,27,28,29,30,31,32,33,34,35,36,37,38] (fun (i,g)=>[(5,.os 2 g 0 (HY i).length 1),(6,.c (.int .i64 ((i+1:Nat))))]) (fun (i,g)=>[dl n (K3 i) [],ng m (K3 i) [],(g,.blk ((HY i).length * 1) (F8 (HY i)))]) (fun p=>p.1≤3) (fun p=>3-p.1) ((0,p2)) ?_ (fun _=>rfl) ?_ ?_ ?_
 exact ZL _
 exact .cons (cO rfl) (.cons Z .nil)
 exact .same (.same (.blk rfl (fun j hj=>absurd hj (ZO j)) .nil))
 ·rintro ⟨i,g⟩ (hi:i≤3)
  have hil:=HV i
  refine U 52167 ?_;refine aaa (fun h17=>?_) fun h17=>?_
  ·refine U 84000200020006000 ?_
   have h3:i=3:=by omega
   subst h3
   refine jE (freeze 2 rfl) ?_;refine jE (iG 5 (fun a b=>ap ((HY 3).getD a [])) rfl rfl O (fun a b ha hb=>aa.of_eq (by unfold F8;rw [show 0+(a * 1+b)=a by omega]))) ?_;refine U 700051111116 ?_
   exact bL (.inl rfl) [0,1] jD rfl (eP rfl (ai rfl) (ai rfl) (ai rfl)) (m:=.tup 3 (fl [.op 0 (some n) 0,.op 1 (some m) 0,ua (HY 3)])) (aa.tup3 (cP) (cP) Z) ⟨n,m,rfl,rfl⟩
  refine U 6207810 ?_
  refine aq (yu (F:=(fun _=>.c (.int .u8 0))) rfl rfl rfl (show (32:Int)=((32:Nat):Int) from rfl) (show (32:Int)=((32:Nat):Int) from rfl) (by omega) underlying23 fR da jt (by omega) (by omega) (fun j hj=>by show aa (.c ((#[Value.int .u8 0])[j % 1]!)) _;rw [clx];exact Z) rfl rfl (fun p3=>?_))
  refine U 200000080000011651 ?_
  refine aw (bg 1 (aV (kB (i+1))) ?_ ?_)
  exact (fun j hj=>R9 (i+1) O j hj)
  refine U 75 ?_;refine jE (freeze 3 rfl) ?_;refine jE (er 7 (kB (i+1)) rfl rfl rfl rfl) ?_;refine U 16 ?_;refine jq (MY rfl rfl rfl underlying25) ?_;refine U 5 ?_;refine an (fun h20=>?_) fun h20=>?_
  ·exfalso;exact absurd h20 jD
  refine U 1167810 ?_
  refine aw (aN 0 (Ti n i O) ?_)
  refine U 5500000165119009001 ?_;refine an (fun h23=>?_) fun h23=>?_
  ·exfalso;exact absurd h23 jD
  refine U 111200810 ?_
  refine aw (aN 1 (M3 m i O) ?_)
  refine aq (aM 1 1 CC fun p6=>?_)
  refine aw (aB (Hg) (l2:=[kI i]) rfl rfl rfl rfl (by exact ZA _) (fun _ _=>Z) (aI rfl (.inl rfl) jD) rfl (fun j hj=>by rcases j with _|j<;>first|exact Z|(exfalso;simp at hj<;>omega)) underlying27 JX P0 CC Wd rfl (by (simp;omega)) (by (simp;omega)) (bw rfl rfl) rfl rfl rfl (fun p7=>?_))
  refine U 85191200840051 ?_
  refine am ((i+1,p7)) ?_ ?_ (h5:=?_) (h7:=?_)
  show i+1≤3;omega
  show 3-(i+1)<3-i;omega
  exact .cons (cO (by rw [Eg])) (.cons Z .nil)
  ·show aD _ [dl n (K3 (i+1)) [],ng m (K3 (i+1)) [],(p7,.blk ((HY (i+1)).length * 1) (F8 (HY (i+1))))]
   rw [Eg]
   exact aD.refl _
end
end
section
variable {gs:List Nat} [dO gs]
open Go.RowKit Cal
def ownB (g:Option Nat) (l:I):Option Nat×aW:=(g,.blk l.length (aV l))
theorem Pk {gs:List Nat} (n:Nat) (s:W8) (hs:vV s) (hz:ip s=0):AC gs prog 49 [iu n s] [.op 0 (some n) 0] (fun r H'=>∃ g,r=.tup 2 (fl [.os 1 g 0 s.d.length 1,.err 0])∧H'=[ka [iu n s,ownB g s.d]]):=by
 have hsd:=hs.d
 have hz1:s.k=0∧s.fr=[]∧s.d.length≤65536:=by
  unfold ip at hz
  by_cases h1:s.k≠0
  ·rw [Zz h1] at hz;exact absurd hz h1
  ·rw [Zy h1] at hz
   by_cases h2:s.fr≠[]
   ·rw [Zz h2] at hz;cases hz
   ·rw [Zy h2] at hz
    by_cases h3:65536<s.d.length
    ·rw [Zz h3] at hz;cases hz
    exact ⟨a3x.1 h1,a3x.1 h2,by omega⟩
 have ⟨k0,f0,l0⟩:=hz1
 have fl0:s.fr.length=0:=by rw [f0];rfl
 refine ae 35 func49 fun _ _ _ _=>?_;refine U 2075116 ?_;refine gY 0 rfl fun go gd zs hzs=>?_;refine U 515000005010004016 ?_;refine an (fun h140=>?_) fun h140=>?_
 ·exfalso;omega
 refine U 512350904016 ?_;refine an (fun h142=>?_) fun h142=>?_
 ·exfalso;omega
 refine U 5123501004016 ?_;refine an (fun h144=>?_) fun h144=>?_
 ·exfalso;omega
 refine U 501004016840010 ?_;refine aA (cE 2 (0+s.d.length) (de 0 (aV s.d)) rfl (by simp) (fun j hj=>by unfold de;rw [jK,aJx];exact Z)) ?_
 refine aw (Kl 2 (La s.d gd 0 O) ?_)
 rintro _ _ ⟨g2,rfl,rfl⟩;refine ⟨_,_,rfl,cO (j:=5) rfl,?_⟩
 refine U 511 ?_;refine jE (bag_pop 2 rfl) ?_;refine jE (bag_pop 2 rfl) ?_;refine jE (cE 4 s.d.length (aV s.d) rfl (by simp) (fun j hj=>by unfold de;rw [jK,aJx];exact Z)) ?_;refine jE (cE 5 s.d.length (aV s.d) rfl (by simp) (fun j hj=>by unfold de;rw [jK,aJx];exact Z)) ?_;refine jE (closeN (gd:=fun z:CH s.fr=>z.1.1) (E:=CD s) ⟨(n,go,gd,zs),hzs⟩ 0 [1,4,3] jD (by simp) rfl) ?_;refine U 7000 ?_
 exact bK (gd:=fun _:Unit=>0) (E:=fun _=>[iu n s,ownB g2 s.d]) (.inl rfl) (.tup 2 (fl [.os 1 g2 0 s.d.length 1,.err 0])) () [0,5] jD rfl ((di rfl (ai (c:=.os 5 g2 0 s.d.length 1) rfl) (ai (c:=.c .nilIface) rfl)).ent (cT (show aa (.os 5 g2 0 s.d.length 1) (.os 1 g2 0 s.d.length 1) from cO rfl) aa.nil)) ⟨g2,rfl,rfl⟩
end
section
open Go.RowKit Cal
section
variable {gs:List Nat} [dO gs] [rz gs] [ud gs]
theorem Og {gs:List Nat} [dO gs] (b s:I) (hb:b.length≤60000) (h32:s.length=32) (hd:(aR b).2=0):AC gs prog 30 [] [bc b,bc s] (fun r H'=>∃ g,r=.tup 2 (fl [.os 0 g 0 (cM b s).length 1,.err 0])∧H'=[ownB g (cM b s)]):=by
 have hD:=fun n=>Pk (gs:=gs) n ⟨[],cM b s,0⟩ ⟨by simp,by simp,by have:=(uU hb h32).2;show (cM b s).length≤_;omega⟩ (Sc hb h32).1
 have hD:∀ n,AC gs prog 49 [iu n ⟨[],cM b s,0⟩] [.op 0 (some n) 0] (fun r H'=>∃ g,r=.tup 2 (fl [.os 1 g 0 (cM b s).length 1,.err 0])∧H'=[ka [iu n ⟨[],cM b s,0⟩,ownB g (cM b s)]]):=hD
 refine ae 33 func30 fun _ _ _ _=>?_;refine U 1675116 ?_
 refine aq (ak (yC b O) ?_)
 refine U 55000001651 ?_;refine an (fun h104=>?_) fun h104=>?_
 ·exfalso;omega
 refine U 523167810 ?_;refine an (fun h107=>?_) fun h107=>?_
 ·exfalso;omega
 refine U 6810 ?_;refine jq (au (n:=3) rfl Wh WV rfl rfl) ?_
 refine aq (ee 3 fun p1=>?_)
 refine U 51 ?_;refine cL (ig 7 rfl) fun hn=>?_
 obtain ⟨n,rfl⟩:=hn
 refine jE (W6 n 0 rfl Z Z aa.nil) ?_
 dsimp only [List.set_cons_zero,List.set_cons_succ,List.cons_append,List.nil_append,List.length_cons,List.length_nil,Nat.zero_add,Nat.reduceAdd]
 refine U 16 ?_
 refine aw (aN 0 (YC n) ?_)
 refine U 1165 ?_
 refine aw (aN 0 (YB hb hd n) ?_)
 refine U 1165 ?_
 refine aw (aN 0 (YA hb h32 n) ?_)
 refine U 165 ?_
 refine aw (aN 0 (Yz hb h32 n) ?_)
 refine U 165 ?_
 refine aw (Kl 0 (hD n) ?_)
 rintro _ _ ⟨g2,rfl,rfl⟩;refine ⟨_,_,rfl,cT (cO (j:=2) rfl) Z,?_⟩
 refine U 511900900 ?_;refine jE (bag_pop 0 rfl) ?_;refine jE (bag_pop 0 rfl) ?_;refine U 7000 ?_
 exact bL (H':=[ownB g2 (cM b s)]) (.inl rfl) [2] jD rfl (di rfl (ai (c:=.os 2 g2 0 (cM b s).length 1) rfl) (ai (c:=.err 0) rfl)) (cT (show aa (.os 2 g2 0 (cM b s).length 1) (.os 0 g2 0 (cM b s).length 1) from cO rfl) Z) ⟨g2,rfl,rfl⟩
theorem Mn (n:Nat) (K:gf) (B:List cH) (q:Q5) (hK:pY K) (hB:l8 B) (hr:cl q=true) (ha:Te K q=0):AC gs prog 9 [dl n K B] [.op 0 (some n) 0,lg q] (fun r H'=>∃ g,r=.tup 2 (fl [.os 1 g 0 (cM (dA q) (xf K q)).length 1,.err 0])∧H'=[ka [dl n K (rk B (xV q)),ownB g (cM (dA q) (xf K q))]]):=by
 have hg:=mU hr
 have hbd:=qY (gs:=gs) q (by have:=hg.n8;omega)
 have hl:=(ki hg).2
 have hde:=uv hg
 have hsl:=sN K q
 rw [Zz hr,Zz hr] at hbd
 have hse:=IW (gs:=gs) (f:=15) (by kernel_rfl) n K B q.2.1 rh (dA q) q hbd hK hB (by simp [rh]) O
 have hj:=Og (gs:=gs) (dA q) (xf K q) O hsl hde
 have e1:i7 K q.2.1 rh (dA q)=0:=ha
 have e2:y6 K q.2.1 rh (dA q)=xf K q:=rfl
 have e3:rk B (q.2.1,rh,dA q)=rk B (xV q):=rfl
 rw [e1,Zz rfl,Zz rfl,e2,e3] at hse
 generalize rk B (xV q)=B' at *
 generalize cM (dA q) (xf K q)=J at *
 refine ae 34 func9 fun _ _ _ _=>?_;refine eA ?_
 refine aq (ee 7 fun p1=>?_)
 refine U 6511 ?_;refine kj (bD 7) ?_
 refine aq (ak hbd ?_)
 refine U 55000001675119009001 ?_;refine an (fun h76=>?_) fun h76=>?_
 ·exfalso;exact absurd h76 jD
 refine U 50500000016810 ?_;refine kj (bD 7) ?_;refine jq (au (n:=8) rfl Wi WW rfl rfl) ?_
 refine aw (aN 0 hse ?_)
 refine U 55000001675119009001 ?_;refine an (fun h80=>?_) fun h80=>?_
 ·exfalso;exact absurd h80 jD
 refine U 116810 ?_
 refine aq (yc hj ?_)
 rintro _ _ ⟨g,rfl,rfl⟩
 refine U 7000511900900 ?_
 exact bK (gd:=fun _:Unit=>0) (E:=fun _=>[dl n K B',ownB g J]) (.inl rfl) (.tup 2 (fl [.os 1 g 0 J.length 1,.err 0])) () [0,2] jD rfl ((di rfl (ai (c:=.os 0 g 0 J.length 1) rfl) (ai (c:=.err 0) rfl)).ent (cT (show aa (.os 0 g 0 J.length 1) (.os 1 g 0 J.length 1) from cO rfl) Z)) ⟨g,rfl,rfl⟩
end
end
section
open Go.RowKit Cal
def Fg:I:=cM (dA sm) (xf (K3 3) sm)
def Wc:I:=cM (dA sm) (rx (xf (K3 3) sm))
theorem Ic:40≤Fg.length∧Fg.length≤60000:=by
 have h:=(ki (mU vc)).2
 have hs:=sN (K3 3) sm
 have hj:=(uU (b:=dA sm) (s:=xf (K3 3) sm) O hs).2
 have hb:5≤(dA sm).length:=by
  have:=qB (y9 sm).length
  have h0:4≤(y9 sm).length:=by
   have:=eG 48 (GO sm.2.2.2.2)
   have e:(y9 sm).length=(fV mW (CS sm.1)).length+(M4 sm).length:=by unfold y9;rw [ZD]
   have e2:(M4 sm).length=(fV wH (wo (eY sm.2.1))).length+(Rv sm).length:=by unfold M4;rw [ZD]
   have e3:(fV wH (wo (eY sm.2.1))).length≥16:=by
    show (bB 4 (eY (kI 0))).length≥16
    unfold bB
    have:=kG (kI 0)
    have:=Sq (kB 1)
    have e:(kI 0).length=32:=this
    simp only [List.length_cons,ZD]
    omega
   omega
  unfold dA bB
  simp only [List.length_cons,ZD]
  omega
 have e:=uT (b:=dA sm) hs
 unfold Fg
 rw [e]
 have:=qB ((dA sm).length+34)
 simp only [RB,ZD,List.length_cons,List.length_nil]
 omega
theorem Ev:Fg.set (Fg.length-1) (Fg.getD (Fg.length-1) 0 ^^^ 1)=Wc:=Gd (sN (K3 3) sm)
theorem SD:Wc.length=Fg.length:=by rw [← Ev];simp
theorem SF (B:List cH):Ld (K3 3) B Wc=(Dy,11):=OV vc (GQ vc Ci)
theorem AK:l8 []:=fun x hx=>absurd hx ahx
theorem OJ:l8 (rk [] (xV sm)):=AK.add (by
 have:=GQ vc Ci
 exact (VX this).1)
theorem SC (j:Nat) (hj:j<Fg.length):aa (fX (aV Fg) (Fg.length-1) [.c (.int .u8 (((Fg.getD (Fg.length-1) 0).toNat ^^^ 1:Nat):Int))] j) (aV Wc j):=by
 have h:=Ic
 rw [← Ev]
 exact zH (CK _ 1) O j
section
variable {gs:List Nat} [dO gs] [rz gs] [ud gs]
theorem yM:cd gs prog 6 [] (.c (.bool true)):=by
 have hl:=Ic
 have hfl:=SD
 have hS:=fun n=>Mn (gs:=gs) n (K3 3) [] sm (Io 3) AK vc (GQ vc Ci)
 have hS:∀ n,AC gs prog 9 [dl n (K3 3) []] [.op 0 (some n) 0,lg sm] (fun r H'=>∃ g,r=.tup 2 (fl [.os 1 g 0 Fg.length 1,.err 0])∧H'=[ka [dl n (K3 3) (rk [] (xV sm)),ownB g Fg]]):=hS
 have hC:=fun n=>GI (gs:=gs) n (K3 3) (rk [] (xV sm)) Wc O (Io 3) OJ
 rw [SF] at hC
 have hcell:=SC
 have hq:lg sm=.agg 7 (fl [.c (.int .i64 1),ap [],ap [97],ap (kI 0),.c (.int .i64 1),.c (.int .i64 5),ua []]):=rfl
 generalize Fg=J at *
 generalize Wc=F at *
 generalize rk [] (xV sm)=B1 at *
 rw [hq] at hS
 have hi:(HY 3).getD 0 []=kI 0:=rfl
 have hil:=HV 3
 refine ae 47 func6 fun _ _ _ _=>?_;refine U 6516 ?_
 refine aq (yc Jm ?_)
 rintro _ _ ⟨n,m,rfl,rfl⟩
 refine U 16751119009009001 ?_;refine jq (MY rfl rfl rfl underlying25) ?_;refine U 5 ?_;refine an (fun h34=>?_) fun h34=>?_
 ·exfalso;exact absurd h34 jD
 refine U 16810 ?_;refine jq (au (n:=3) rfl CJ RC rfl rfl) ?_;refine U 6020000001 ?_;refine jq (au (n:=7) rfl ue Dz rfl rfl) ?_
 refine aw (Kl 0 (hS n) ?_ (ho:=rfl) (he:=(.cons (se rfl cP) (.cons (se rfl (aa.agg rfl (fun j hj=>by rcases j with _|_|_|_|_|_|_|j<;>first|exact Z|exact aa.nilS' rfl))) .nil))))
 rintro _ _ ⟨g,rfl,rfl⟩;refine ⟨_,_,rfl,cT (cO (j:=3) rfl) Z,?_⟩
 refine U 75119009001 ?_;refine jE (bag_pop 0 rfl) ?_;refine jE (bag_pop 0 rfl) ?_;refine jE (bj 1 (.op 2 (some n) 0) cP) ?_;refine jE (cE 3 J.length (aV J) rfl (ZA _) (fun _ _=>Z)) ?_;refine U 150000016 ?_;refine aH 25 (fun g38=>?_) fun g38=>?_
 ·refine U 51690005100000000444 ?_
  refine jR (l9 (eN (hv:=absurd g38 jD)))
 refine U 5500231 ?_;refine an (fun h38=>?_) fun h38=>?_
 ·exfalso;(simp only [ne_eq,not_true_eq_false] at *;omega)
 refine U 93116810 ?_;refine jq (dP (i:=J.length-1) (hz:=by omega)) ?_;refine U 50 ?_;refine jq (dc (b:=1) rfl rfl rfl (dJ.2 (avx _)) (dJ.2 jD)) ?_;refine jq (dP (i:=J.length-1) (hz:=by omega)) ?_
 refine aw (bg 1 (aV F) ?_ ?_)
 exact hcell
 refine U 5 ?_;refine jE (freeze 3 rfl) ?_;refine jE (er 4 F rfl rfl hfl.symm (by rw [hfl])) ?_;refine U 116 ?_
 refine aw (aN 2 (hC n) ?_)
 refine U 16519009001 ?_
 refine aq (ak (NA 11 jD) ?_)
 refine U 512 ?_
 refine jR eN
end
end
section
open Go.RowKit Cal
attribute [local irreducible] g2 g3 g4 g5 g6 oQ ub gK ac dy nB ba bm dj af ab in
def lM (q:Q5):Bool:=decide (100<q.2.1.length) || decide (100<q.1.2.1.length) || decide (100<q.1.2.2.length) || decide (20<q.2.2.2.2.length)
theorem As (q:Q5):cd gs prog 8 [lg q] (.c (.bool (lM q || q.2.2.2.2.any fun x=>decide (100<x.length)))):=by
 refine ae 40 func8 fun _ _ _ _=>?_;refine eA ?_
 refine aq (ee 7 fun p1=>?_)
 refine U 751 ?_;refine jE (dt 0 (m:=7) (F:=BI q) rfl jD (fun _=>rfl) (fun j hj=>aa.of_eq (Cf _ hj))) ?_;refine U 12400005050000006 ?_;refine aH 9 (fun g48=>?_) fun g48=>?_
 ·refine U 800030007000516900051000000004444110000000044444110000000044444 ?_;refine cB ?_
  have:lM q=true:=by unfold lM;simp_all;omega
  rw [this,cux]
 refine jq (en 0 3 true) ?_;refine U 150024000050100 ?_;refine aH 16 (fun g48_2=>?_) fun g48_2=>?_
 ·refine U 800030007000516900051000000004444110000000044444 ?_;refine cB ?_
  have:lM q=true:=by unfold lM;simp_all;omega
  rw [this,cux]
 refine jq (en 0 3 true) ?_;refine U 1500240000501000 ?_;refine aH 23 (fun g48_3=>?_) fun g48_3=>?_
 ·refine U 800030007000516900051000000004444 ?_;refine cB ?_
  have:lM q=true:=by unfold lM;simp_all;omega
  rw [this,cux]
 refine U 5500235020000000 ?_;refine an (fun h48=>?_) fun h48=>?_
 ·refine U 800030007000516 ?_;refine cB ?_
  have:lM q=true:=by unfold lM;simp_all;omega
  rw [this,cux]
 refine U 20513502000000067810 ?_
 have hlo:lM q=false:=by unfold lM;simp_all;omega
 refine ar (α:=Nat) [2,4,32,33,34,35,36,37,38,39] (fun i=>[(32,.c (.int .i64 (i:Nat)))]) (fun i=>[(p1,.blk 7 (BI q))]) (fun i=>i≤q.2.2.2.2.length∧(q.2.2.2.2.take i).any (fun x=>decide (100<x.length))=false) (fun i=>q.2.2.2.2.length-i) (0) ?_ (fun _=>rfl) ?_ ?_ ?_
 exact ⟨ZL _,rfl⟩
 exact .cons Z .nil
 exact .same .nil
 ·rintro i ⟨(hi:i≤q.2.2.2.2.length),ha⟩
  refine U 7526 ?_;refine aaa (fun h51=>?_) fun h51=>?_
  ·refine U 8000700051684000200020006000 ?_;refine cB ?_
   have hil:i=q.2.2.2.2.length:=by omega
   rw [hlo,c5x,← ha,hil,ZW]
  refine U 52400001651607006207810 ?_;refine an (fun h52=>?_) fun h52=>?_
  ·refine U 8000300050003000300050007000516 ?_;refine cB ?_
   have hx:(q.2.2.2.2.any fun x=>decide (100<x.length))=true:=by
    have hlt:i<q.2.2.2.2.length:=by omega
    have e:q.2.2.2.2.getD i []=q.2.2.2.2[i]:=by simp [List.getD,hlt]
    refine brx.2 ⟨q.2.2.2.2[i],aAx hlt,?_⟩
    rw [← e]
    exact abx O
   rw [hx,Bool.or_true]
  refine U 8519200840010 ?_
  refine am (i+1) ?_ ?_ (h5:=?_) (h7:=?_)
  ·refine ⟨by omega,?_⟩
   rw [ZH (show i<q.2.2.2.2.length by omega),List.any_append,ha]
   have e:q.2.2.2.2.getD i []=q.2.2.2.2[i]'O:=by simp [List.getD,show i<q.2.2.2.2.length by omega]
   have h:¬ 100<(q.2.2.2.2.getD i []).length:=by omega
   rw [e] at h
   simp [h]
  show q.2.2.2.2.length-(i+1)<q.2.2.2.2.length-i;omega
  exact .cons (cI O) .nil
  exact .same .nil
section
variable {gs:List Nat} [dO gs] [rz gs] [ud gs]
theorem wb (q:Q5) (hr:cl q=true):cd gs prog 4 [lg q] (.c (.bool true)):=by
 have hB:=fun h=>qY (gs:=gs) q h
 have hR:=qr (gs:=gs) q
 have hS:=fun h=>sR (gs:=gs) q h
 have hg:=mU hr
 have hl:=(ki hg).2
 have hRd:=zU (gs:=gs) (dA q) O
 rw [ux hr] at hRd
 rw [hr] at hR hS
 simp only [hr,if_true] at hB
 refine ae 62 func4 fun _ _ _ _=>?_;refine eA ?_
 refine aq (ee 7 fun p1=>?_)
 refine U 6751 ?_
 refine aq (ak yM ?_)
 refine U 530 ?_;refine an (fun h61=>?_) fun h61=>?_
 ·exfalso;exact absurd h61 jD
 refine U 7810 ?_;refine jE (dt 0 (m:=7) (F:=BI q) rfl jD (fun _=>rfl) (fun j hj=>aa.of_eq (Cf _ hj))) ?_;refine eA ?_;refine kj (bD 7) ?_
 refine aq (ak (As q) ?_)
 refine U 5 ?_;refine an (fun h64=>?_) fun h64=>?_
 ·refine U 516 ?_
  refine jR (l9 (eN (hv:=Z)))
 refine U 810 ?_
 have hlo:lM q=false:=by simp_all
 have hb:q.2.2.2.2.length≤20∧q.2.1.length≤100:=by unfold lM at hlo;simp at hlo;omega
 refine eA ?_;refine kj (bD 7) ?_
 refine aq (ak (hB O) ?_)
 refine U 775119009001 ?_;refine dQ (.rd 0 (.rd 2 (.one 1 (.one 3 (.rd 4 (.rd 5 (.rd 6 (.rd 7 (.one 8 (.rd 9 (.rd 10 .done))))))))))) ?_;refine qF (bD 7) ?_;refine qF (bD 7) ?_
 refine gp (ak hR ?_)
 refine gp (ak (hS O) ?_)
 refine aJ Vm ?_;refine U 70 ?_;refine ze 21 (fun g68=>?_) fun g68=>?_
 ·refine U 600600 ?_;refine Ga ?_;refine U 80003000700051690008803000000600 ?_
  exfalso
  simp_all
 refine qF (bD 7) ?_;refine qF (bD 7) ?_
 refine gp (ak (zO q) ?_)
 refine U 880300000100000 ?_;refine an (fun h68=>?_) fun h68=>?_
 ·refine U 800030007000516 ?_
  exfalso
  simp_all
 refine U 67810 ?_;refine kj (bD 7) ?_
 refine aq (ak (hS O) ?_)
 refine U 530 ?_;refine an (fun h71=>?_) fun h71=>?_
 ·exfalso;exact absurd h71 jD
 refine U 16810 ?_
 refine aq (ak hRd ?_)
 refine U 9009001 ?_
 refine aq (dh (n:=7) ue rfl fun p2=>?_)
 refine aw (bg 7 (BI q) ?_ ?_)
 exact sb
 refine U 751 ?_;refine dQ (.rd 0 (.rd 1 (.rd 2 (.rd 3 (.rd 4 (.rd 5 (.one 6 (.rd 7 (.rd 8 (.rd 9 (.rd 10 (.rd 11 (.rd 12 (.rd 13 (.rd 14 (.rd 15 (.rd 16 (.one 17 (.rd 18 (.rd 19 .done)))))))))))))))))))) ?_;refine U 70 ?_;refine aJ YD ?_;refine U 70 ?_;refine ze 45 (fun g75=>?_) fun g75=>?_
 rotate_left
 ·refine U 600600600 ?_;refine Ga ?_;refine U 6006007030000060060070300000600600 ?_;refine Ga ?_;refine U 8000700088070300000 ?_;refine cB ?_
  (simp_all;done)
 refine U 3000000070 ?_;refine qF (bD 7) ?_
 refine gp (ak (FJ hr) ?_)
 refine aJ D8 ?_;refine aJ zh ?_;refine U 703000000 ?_;refine ze 53 (fun g75_2=>?_) fun g75_2=>?_
 rotate_left
 ·refine U 60060070300000600600 ?_;refine Ga ?_;refine U 8000700088070300000 ?_;refine cB ?_
  (simp_all;done)
 refine U 70 ?_;refine aJ YD ?_;refine U 703000000 ?_;refine ze 57 (fun g75_3=>?_) fun g75_3=>?_
 ·refine qF (bD 7) ?_;refine qF (bD 7) ?_
  refine gp (ak (FA q q) ?_)
  refine U 80007000880703000000 ?_;refine cB ?_
  (simp_all;done)
 refine U 600600 ?_;refine Ga ?_;refine U 8000700088070300000 ?_;refine cB ?_
 (simp_all;done)
theorem wc (q:Q5) (hr:cl q=false):cd gs prog 4 [lg q] (.c (.bool true)):=by
 have hB:=fun h=>qY (gs:=gs) q h
 have hR:=qr (gs:=gs) q
 have hS:=fun h=>sR (gs:=gs) q h
 rw [hr] at hR hS
 simp only [hr,if_false,aYx] at hB
 refine ae 62 func4 fun _ _ _ _=>?_;refine eA ?_
 refine aq (ee 7 fun p1=>?_)
 refine U 6751 ?_
 refine aq (ak yM ?_)
 refine U 530 ?_;refine an (fun h61=>?_) fun h61=>?_
 ·exfalso;exact absurd h61 jD
 refine U 7810 ?_;refine jE (dt 0 (m:=7) (F:=BI q) rfl jD (fun _=>rfl) (fun j hj=>aa.of_eq (Cf _ hj))) ?_;refine eA ?_;refine kj (bD 7) ?_
 refine aq (ak (As q) ?_)
 refine U 5 ?_;refine an (fun h64=>?_) fun h64=>?_
 ·refine U 516 ?_
  refine jR (l9 (eN (hv:=Z)))
 refine U 810 ?_
 have hlo:lM q=false:=by simp_all
 have hb:q.2.2.2.2.length≤20∧q.2.1.length≤100:=by unfold lM at hlo;simp at hlo;omega
 refine eA ?_;refine kj (bD 7) ?_
 refine aq (ak (hB O) ?_)
 refine U 775119009001 ?_;refine dQ (.rd 0 (.rd 2 (.one 1 (.one 3 (.rd 4 (.rd 5 (.rd 6 (.rd 7 (.one 8 (.rd 9 (.rd 10 .done))))))))))) ?_;refine qF (bD 7) ?_;refine qF (bD 7) ?_
 refine gp (ak hR ?_)
 refine gp (ak (hS O) ?_)
 refine aJ Vm ?_;refine U 70 ?_;refine ze 21 (fun g68=>?_) fun g68=>?_
 ·refine U 600600 ?_;refine Ga ?_;refine U 80003000700051690008803000000600 ?_
  exfalso
  simp_all
 refine qF (bD 7) ?_;refine qF (bD 7) ?_
 refine gp (ak (zO q) ?_)
 refine U 880300000100000 ?_;refine an (fun h68=>?_) fun h68=>?_
 ·refine U 800030007000516 ?_
  exfalso
  simp_all
 refine U 67810 ?_;refine kj (bD 7) ?_
 refine aq (ak (hS O) ?_)
 refine U 530 ?_;refine aaa (fun h71=>?_) fun h71=>?_
 ·exfalso;exact absurd h71 jD
 refine U 12316 ?_;refine aH 33 (fun g72=>?_) fun g72=>?_
 ·refine U 1 ?_
  refine aq (ak (NA 4 jD) ?_)
  refine U 800030007000511000000002 ?_;refine cB ?_
  rfl
 refine U 80003000700051500444 ?_;refine cB ?_
 (simp_all;done)
theorem xp (q:Q5):cd gs prog 4 [lg q] (.c (.bool true)):=by
 cases h:cl q with
 | true=>exact wb q h
 | false=>exact wc q h
end
end
end Am
end Go.Proofs.YtghminnpfnkbjaaGreatDoor
namespace Go.Proofs.YtghminnpfnkbjaaGreatDoor
open Go.RowKit Go.ChangeShapes Go.Lib Go.Shelf
theorem sD {P:Program} {w:World} {nm:String} {g:Nat} {t e:TypeId} {n:Nat} {k:IntKind} {zs:List Int} (hn:P.globalNamed nm=some g) (hy:(P.globals[g]?).map (·.type)=some t) (ht:P.underlying t=some (.array n e)) (he:P.underlying e=some (.int k)) (hce:P.cellsOf e=1) (hct:P.cellsOf t=n) (h:VarReads P w nm (tabData k zs)) (i:Nat) (v:Value) (hv:(zs.map fun z=>Value.int k z)[i]?=some v):w.cell? ⟨g,i,none⟩=some v:=by
 have ⟨g',t',cs,fuel,p,hg,hty,hvar,hd⟩:=h
 obtain rfl:=Z3 (hn.symm.trans hg)
 obtain rfl:=Z3 (hy.symm.trans hty)
 have hcs:=cells_of_tab ht he hce hct hd
 rw [World.var?_cell hg hvar i,← bUx,hcs]
 exact hv
theorem Bq {W : World} {L : List (String × DataW Unit)} (h : laidMetH prog L W) (h1 : (L.all fun x => x.2.handleName?.isNone) = true) {i j : Nat} (hi : L[i]? = some ("bulla/sha.first", tabData .u32 (Am.firstL.map fun n => ((n : Nat) : Int)))) (hj : L[j]? = some ("bulla/sha.constants", tabData .u32 (Am.kL.map fun n => ((n : Nat) : Int)))) : ∀ t ∈ oV, t.1 ∈ pF Xy → ∀ (i : Nat) (v : Value), t.2[i]? = some v → W.cell? ⟨t.1, i, none⟩ = some v := by
 rw [MakeChecks.laidMetH_plain _ _ _ h1] at h
 have ⟨ps,hv,hnd,hrows⟩:=h
 intro t ht _ a v hav
 simp only [oV,Z9,ahx,or_false] at ht
 rcases ht with rfl|rfl
 exact sD (g:=29) (t:=293) (e:=257) (by kernel_rfl) (by kernel_rfl) underlying293 underlying257 (by kernel_rfl) (by kernel_rfl) (Lib.LaidVars_reads hv _ _ (azx hi)) a v (by rw [a8x];exact hav)
 exact sD (g:=32) (t:=315) (e:=257) (by kernel_rfl) (by kernel_rfl) underlying315 underlying257 (by kernel_rfl) (by kernel_rfl) (Lib.LaidVars_reads hv _ _ (azx hj)) a v (by rw [a8x];exact hav)
instance okSS:ud Xy:=⟨by decide⟩
end Go.Proofs.YtghminnpfnkbjaaGreatDoor
namespace Go.Proofs.YtghminnpfnkbjaaGreatDoor
namespace Am
open Go.RowKit
section
open Go.RowKit Go.ChangeShapes
def yQ (P:Program) (t:TypeId) (k:Nat) (D:Type) (φ:D→Prop) (E:D→Nat→CV):Prop :=
 ∀ (H:Type) (enc:TypeId×Value→H) (W:World) (fuel:Nat) (cs:List Value) (y:DataW H×List MemPlace),DataW.trod enc P W 0 (fun _=>true) true fuel t cs=some y →
  cs.length=k∧∃ x:D,φ x∧∀ al j,j<k→aP al (fun b=>b<W.heap.size) W (E x j) (cs.getD j undef)
section
variable {P:Program} {t:TypeId}
theorem s0 {al:List Addr} {W:World} {St:Nat→Prop} {c:Nat→CV} {v:Value} (h:aP al St W (c 0) v):∀ j,j<1→aP al St W (c j) ([v].getD j undef):=fun j hj=>by
 obtain rfl:j=0:=by omega
 exact h
theorem uD (hu:P.underlying t=some (.int .i64)):yQ P t 1 Int (fun z=>-9223372036854775808≤z∧z≤9223372036854775807) (fun z _=>.c (.int .i64 z)):=fun H enc W fuel cs y h=>by
 obtain ⟨n,rfl,_,hw⟩:=DataW.trod_int hu h
 exact ⟨rfl,n,bounds_i64 hw,fun al=>s0 rfl⟩
theorem DE {e:TypeId} {k:Nat} {D:Type} {φ:D→Prop} {E:D→Nat→CV} (d0:D) (ho:yQ P e k D φ E) (hu:P.underlying t=some (.slice e)) (hk:P.cellsOf e=k) (hk0:0<k) :
  yQ P t 1 (List D) (fun l=>l.length≤maxLen∧∀ x ∈ l,φ x) (fun l _=>.rs k l.length fun i j=>E (l.getD i d0) j):=fun H enc W fuel cs y h=>by
 rcases DataW.trod_slice hu h with ⟨rfl,_⟩|⟨a,len,cap,elems,rest,n,_,rfl,_,_,hle,hm,hl,hel,_⟩
 ·exact ⟨rfl,[],⟨by simp,by simp⟩,fun al=>s0 ⟨none,0,rfl,ZA _,by decide,fun _=>rfl,fun _ h=>by cases h⟩⟩
 ·refine ⟨rfl,?_⟩
  subst hk
  have key:∀ i,∃ x:D,i<len→φ x∧∀ al j,j<P.cellsOf e→∃ v,W.cell? (a.add (i * P.cellsOf e+j))=some v∧aP al (fun b=>b<W.heap.size) W (E x j) v:=fun i=>by
   by_cases hi:i<len
   ·have h1:=hel i hi
    rw [ZM O] at h1
    have ⟨cs,h2,h3⟩:=cKx.1 h1
    obtain ⟨_,h4,h5⟩:=World.cells?_some h2
    obtain ⟨_,x,hx,hr⟩:=ho H enc W n cs _ h3
    refine ⟨x,fun _=>⟨hx,fun al j hj=>⟨cs.getD j undef,?_,hr al j hj⟩⟩⟩
    have:=h5 j hj
    rw [Addr.add_add] at this
    rw [this]
    simp [h4,hj]
   exact ⟨d0,fun h=>absurd h hi⟩
  obtain ⟨F,hF⟩:∃ F:Nat→D,∀ i,i<len→φ (F i)∧∀ al j,j<P.cellsOf e→∃ v,W.cell? (a.add (i * P.cellsOf e+j))=some v∧aP al (fun b=>b<W.heap.size) W (E (F i) j) v :=
   ⟨fun i=>(key i).choose,fun i hi=>(key i).choose_spec hi⟩
  have hm':cap≤9223372036854775807:=by unfold maxLen at hm;omega
  refine ⟨(List.range len).map F,⟨by simp;omega,by simp only [bBx,a7x];rintro x ⟨i,hi,rfl⟩;exact (hF i hi).1⟩,fun al=>s0 ?_⟩
  refine ⟨some a,cap,by simp,by simpa using hle,hm',by simp,fun b hb hn=>?_⟩
  cases hb
  simp at hn
  obtain ⟨v0,hv0,_⟩:=(hF 0 hn).2 al 0 hk0
  have hsp:a.spot=none:=by
   have:=World.cell?_spot hv0
   have ⟨b,o,sp⟩:=a
   simpa [Addr.add] using this
  refine ⟨hsp,?_,fun i j hi hj=>?_⟩
  ·have:=World.block_lt_of_cell? W _ hv0
   have ⟨b,o,sp⟩:=a
   simpa [Addr.add] using this
  ·simp at hi
   obtain ⟨v,hv,hr⟩:=(hF i hi).2 al j hj
   refine ⟨v,?_,by simpa [List.getD,hi] using hr⟩
   have ⟨b,o,sp⟩:=a
   simp only at hsp
   subst hsp
   rwa [Addr.add_lit] at hv
def CA (P:Program) (fs:List Field) (D:Type) (φ:D→Prop) (E:D→Nat→CV) (C:Nat→Bool):Prop :=
 ∀ (H:Type) (enc:TypeId×Value→H) (W:World) (cs:List Value),(∀ f ∈ fs,∃ n y,DataW.trod enc P W 0 (fun _=>true) true n f.type ((cs.drop f.offset).take (P.cellsOf f.type))=some y) →
  ∃ x:D,φ x∧∀ al j,C j=true→aP al (fun b=>b<W.heap.size) W (E x j) (cs.getD j undef)
theorem xI:CA P [] Unit (fun _=>True) (fun _ _=>.top) (fun _=>false):=fun H enc W cs _=>⟨(),trivial,fun al j h=>by cases h⟩
theorem fM {f:Field} {fs:List Field} {k:Nat} {D1 D2:Type} {φ1:D1→Prop} {φ2:D2→Prop} {E1:D1→Nat→CV} {E2:D2→Nat→CV} {C2:Nat→Bool} (h1:yQ P f.type k D1 φ1 E1) (h2:CA P fs D2 φ2 E2 C2) :
  CA P (f::fs) (D1×D2) (fun x=>φ1 x.1∧φ2 x.2) (fun x j=>match Nat.ble f.offset j && Nat.blt j (f.offset+k) with|true=>E1 x.1 (j-f.offset)|false=>E2 x.2 j) (fun j=>(Nat.ble f.offset j && Nat.blt j (f.offset+k)) || C2 j):=fun H enc W cs h=>by
 obtain ⟨n,y,hy⟩:=h f (ZU ..)
 obtain ⟨hl,x1,p1,r1⟩:=h1 H enc W n _ y hy
 obtain ⟨x2,p2,r2⟩:=h2 H enc W cs fun g hg=>h g (Z2 _ hg)
 refine ⟨(x1,x2),⟨p1,p2⟩,fun al j hj=>?_⟩
 cases hb:Nat.ble f.offset j && Nat.blt j (f.offset+k) with
 | true =>
  have hb0:=hb
  simp only [ZE] at hb
  have b1:f.offset≤j:=ZN hb.1
  have b2:j<f.offset+k:=ZN hb.2
  have:=r1 al (j-f.offset) O
  simp only [ZK,ZI] at hl
  rw [ZB,aXx,jP,bsx,show f.offset+(j-f.offset)=j by omega,← ZB] at this
  simp only [hb0]
  exact this
 | false =>
  simp only [hb,c5x] at hj
  simp only [hb]
  exact r2 al j hj
theorem sZ {fs:Array Field} {n:Nat} {D:Type} {φ:D→Prop} {E:D→Nat→CV} {C:Nat→Bool} (hu:P.underlying t=some (.struct fs)) (hn:P.cellsOf t=n) (ho:CA P fs.toList D φ E C) (hC:(List.range n).all C=true):yQ P t n D φ E:=fun H enc W fuel cs y h=>by
 have ⟨xs,m,_,_,hl,hlen,hf⟩:=DataW.trod_struct hu h
 obtain ⟨x,hx,hr⟩:=ho H enc W cs fun f hf'=>by
  have ⟨i,hi⟩:=bVx.1 hf'
  rw [bUx] at hi
  have:=hf i f hi
  have hlt:i<xs.length:=by rw [hlen];exact (ZX.1 hi).1
  rw [ZM hlt] at this
  exact ⟨m,_,this⟩
 exact ⟨hl.trans hn,x,hx,fun al j hj=>hr al j (Z1.1 hC j (a7x.2 hj))⟩
theorem Tf {n:Nat} {D:Type} {φ:D→Prop} {E:D→Nat→CV} (ho:yQ P t n D φ E) {H:Type} {enc:TypeId×Value→H} {W:World} {cs:Array Value} {d:DataW H} {p:List MemPlace} (h:DataW.Trod enc P W 0 (fun _=>true) true t (.agg cs) d p) :
  ∃ x:D,φ x∧∀ al,aP al (fun b=>b<W.heap.size) W (.agg n (E x)) (.agg cs):=by
 have ⟨fuel,hf⟩:=h
 obtain ⟨hl,x,hx,hr⟩:=ho H enc W fuel _ _ hf
 refine ⟨x,hx,fun al=>⟨cs,rfl,by simpa [Value.cells] using hl,fun i hi=>?_⟩⟩
 have:=hr al i hi
 simpa [Value.cells] using this
end
end
section
open Go.RowKit Go.ChangeShapes
theorem nY {P:Program} {t:TypeId} (hu:P.underlying t=some .string):yQ P t 1 I (fun s=>s.length≤maxLen) (fun z _=>ap z):=fun H enc W fuel cs y h=>by
 obtain ⟨n,rfl,_,hs⟩:=DataW.trod_string hu h
 obtain ⟨l,rfl⟩:=Tc n
 exact ⟨rfl,l,hs,fun al=>s0 rfl⟩
end
end Am
end Go.Proofs.YtghminnpfnkbjaaGreatDoor
