/- What the law leans on, part 3: Am7, Am8, Am9, Ty, AmA, AmB, AmC, AmK -/
import Derived.Test.YthlpfjnkieaeeaaGreatDoorM2ObjectsRead
import Derived.Laws.StructEq

set_option maxRecDepth 100000
namespace Go.Proofs.YthlpfjnkieaeeaaGreatDoor
set_option linter.unusedVariables false
namespace Am
open Go.RowKit
section
section
variable {P:Program} {G:Gh} {ops:Array Oper} {o:Oper} {s:AS} {K:AS→Prop} {t u:TypeId} {x y:Operand} {k:IntKind}

theorem rk {ats:Array TypeId} (ho:o.op=.call ⟨.builtin .len,#[x],ats⟩) {a:Act} {v:Value} {w:World} (h:(Builtin.len_ ats o.type #[a.eval x]).run P w=.ok v w):(execOp a.eval o).run P w=.ok (.value v) w:=by
 simp [execOp,ho,resolve,invoke,builtin,h]
theorem Le {e:TypeId} {m n:Nat} {f:Nat→Nat→CV} (ho:o.op=.call ⟨.builtin .len,#[x],#[t]⟩) (hx:s.eval x=.rs m n f) (h1:P.underlying t=some (.slice e)):cq P G o s (.c (.int .i64 (n:Nat))):=fun St a w h=>by
 obtain ⟨ao,cap,e0,_⟩:=ka h hx
 exact ⟨_,fun W _=>rk ho (v:=.int .i64 (n:Nat)) (by rw [e0];simp [Builtin.len_,underlying,h1,goInt]),rfl⟩
theorem Lf {e:TypeId} {i off m n:Nat} {g:Option Nat} (ho:o.op=.call ⟨.builtin .len,#[x],#[t]⟩) (hx:s.eval x=.os i g off n m) (h1:P.underlying t=some (.slice e)):cq P G o s (.c (.int .i64 (n:Nat))):=fun St a w h=>by
 obtain ⟨ao,cap,e0⟩:∃ ao cap,a.eval x=.slice ao n cap:=by
  have he:=ka h hx
  cases g with
  | none=>exact ⟨none,0,by rw [he.2,he.1]⟩
  | some b=>obtain ⟨cap,e0,_⟩:=he;exact ⟨_,cap,e0⟩
 exact ⟨_,fun W _=>rk ho (v:=.int .i64 (n:Nat)) (by rw [e0];simp [Builtin.len_,underlying,h1,goInt]),rfl⟩
theorem Ld {l:ByteArray} (ho:o.op=.call ⟨.builtin .len,#[x],#[t]⟩) (hx:s.eval x=.c (.string l)) (h1:P.underlying t=some .string):cq P G o s (.c (.int .i64 (l.size:Nat))):=fun St a w h =>
 ⟨_,fun W _=>rk ho (v:=.int .i64 (l.size:Nat)) (by rw [ov h hx];simp [Builtin.len_,underlying,h1,goInt]),rfl⟩
theorem Lg {e:TypeId} (ho:o.op=.call ⟨.builtin .len,#[x],#[t]⟩) (hx:s.eval x=.c (.slice none 0 0)) (h1:P.underlying t=some (.slice e)):cq P G o s (.c (.int .i64 0)):=fun St a w h =>
 ⟨_,fun W _=>rk ho (v:=.int .i64 0) (by rw [ov h hx];simp [Builtin.len_,underlying,h1,goInt]),rfl⟩

theorem DH {p q:Int} {ats:Array TypeId} (ho:o.op=.call ⟨.builtin .max,#[x,y],ats⟩) (hx:s.eval x=.c (.int k p)) (hy:s.eval y=.c (.int k q)):cq P G o s (.c (.int k (max p q))):=fun St a w h =>
 ⟨_,fun W _=>by
  have e:max p q=if q>p then q else p:=by split <;> omega
  simp [execOp,ho,resolve,invoke,builtin,ov h hx,ov h hy,Builtin.max_,Builtin.max2]
  rw [e],rfl⟩
theorem Lc {p q:Int} {ats:Array TypeId} (ho:o.op=.call ⟨.builtin .min,#[x,y],ats⟩) (hx:s.eval x=.c (.int k p)) (hy:s.eval y=.c (.int k q)):cq P G o s (.c (.int k (min p q))):=fun St a w h =>
 ⟨_,fun W _=>by
  have e:min p q=if q<p then q else p:=by split <;> omega
  simp [execOp,ho,resolve,invoke,builtin,ov h hx,ov h hy,Builtin.min_,Builtin.min2]
  rw [e],rfl⟩

def Bd (s:AS) (d:Nat):Option Operand→Nat→Prop
 | none,n=>n=d
 | some x,n=>∃ (k:IntKind) (z:Int),s.eval x=.c (.int k z)∧z=(n:Int)
theorem dc (s:AS) (d:Nat):Bd s d none d:=rfl
theorem bY {d n:Nat} {z:Int} (hx:s.eval x=.c (.int k z)) (hz:z=(n:Int)):Bd s d (some x) n:=⟨k,z,hx,hz⟩

theorem kG {St:Nat→Prop} {a:Act} {w:World} (h:aC G St s a w) {lo hi:Option Operand} {l u n cap:Nat} (h1:Bd s 0 lo l) (h2:Bd s n hi u) (hlu:l≤u) (hu:u≤n) (hn:n≤cap) (is:Bool) (W:World) :
  (Instr.sliceBounds is n cap (lo.map a.eval) (hi.map a.eval) none).run P W=.ok (l,u,cap) W:=by
 have hb:∀ (x:Operand) (k:IntKind) (z:Int) (m y:Nat) (code:BoundsCode),s.eval x=.c (.int k z)→z=(m:Int)→m≤y→(Instr.sliceBound (a.eval x) y code).run P W=.ok m W:=fun x k z m y code hx hz hm=>by
  rw [ov h hx,hz]
  simp [Instr.sliceBound,asIntOf,hm]
 cases lo with
 | none =>
  have h1:l=0:=h1
  subst h1
  cases hi with
  | none=>have h2:u=n:=h2;subst h2;simp [Instr.sliceBounds]
  | some y=>obtain ⟨k,z,hy,hz⟩:=h2;simp [Instr.sliceBounds,hb y k z u cap _ hy hz jO]
 | some x =>
  obtain ⟨k1,z1,hx,hz1⟩:=h1
  cases hi with
  | none=>have h2:u=n:=h2;subst h2;simp [Instr.sliceBounds,hb x k1 z1 l u _ hx hz1 hlu]
  | some y=>obtain ⟨k,z,hy,hz⟩:=h2;simp [Instr.sliceBounds,hb y k z u cap _ hy hz jO,hb x k1 z1 l u _ hx hz1 hlu]

theorem kU {lo hi:Option Operand} (ho:o.op=.slice t x lo hi none) {a:Act} {v:Value} {w:World} (h:(Instr.sliceAt t (a.eval x) (lo.map a.eval) (hi.map a.eval) none).run P w=.ok v w):(execOp a.eval o).run P w=.ok (.value v) w:=by
 simp only [execOp,ho]
 exact oI h

theorem oY {e:TypeId} {m n l v:Nat} {f:Nat→Nat→CV} {lo hi:Option Operand} (ho:o.op=.slice t x lo hi none) (hx:s.eval x=.rs m n f) (h1:P.underlying t=some (.slice e)) (h5:(P.info? e).map (·.size)=some m)
  (hl:Bd s 0 lo l) (hu:Bd s n hi v) (hlv:l≤v) (hvn:v≤n):cq P G o s (.rs m (v-l) fun i j=>f (l+i) j):=fun St a w h=>by
 obtain ⟨info,hi',hs⟩:=Option.map_eq_some_iff.1 h5
 obtain ⟨ao,cap,e0,h2,h3,h4,h6⟩:=ka h hx
 refine ⟨.slice (if cap=l then ao else ao.map (·.add (l * m))) (v-l) (cap-l),fun W _=>kU ho ?_,_,_,rfl,by omega,by omega,fun hn=>?_,fun ad had hn=>?_⟩
 ·rw [e0]
  simp [Instr.sliceAt,Instr.slice,underlying,h1,kG h hl hu hlv hvn h2,sizeOf,typeInfo,hi',hs]
 ·split at hn
  ·have:=h4 hn;omega
  ·have:ao=none:=by simpa using hn
   have:=h4 this;omega
 ·have hne:¬ cap=l:=by omega
  rw [if_neg hne] at had
  obtain ⟨ad0,rfl,rfl⟩:=Option.map_eq_some_iff.1 had
  obtain ⟨h7,h8,h9⟩:=h6 ad0 rfl jO
  obtain ⟨b,q,sp⟩:=ad0
  simp only at h7 h8 h9
  subst h7
  rw [iH]
  refine ⟨rfl,h8,fun i j hi2 hj=>?_⟩
  obtain ⟨vv,hv,hr⟩:=h9 (l+i) j jO hj
  refine ⟨vv,?_,hr⟩
  rw [← hv,Nat.add_mul]
  congr 2
  simp only
  omega
theorem E4 {e:TypeId} {i off m n l v:Nat} {g:Option Nat} {lo hi:Option Operand} (ho:o.op=.slice t x lo hi none) (hx:s.eval x=.os i g off n m) (h1:P.underlying t=some (.slice e)) (h5:(P.info? e).map (·.size)=some m)
  (hl:Bd s 0 lo l) (hu:Bd s n hi v) (hlv:l≤v) (hvn:v≤n) (hln:l=0∨l<n):cq P G o s (.os i g (off+l * m) (v-l) m):=fun St a w h=>by
 obtain ⟨info,hi',hs⟩:=Option.map_eq_some_iff.1 h5
 have he:=ka h hx
 cases g with
 | none =>
  obtain ⟨h2,h3⟩:=he
  subst h2
  have hl0:l=0:=by omega
  have hv0:v=0:=by omega
  subst hl0 hv0
  refine ⟨.slice none 0 0,fun W _=>kU ho ?_,rfl,rfl⟩
  rw [h3]
  simp [Instr.sliceAt,Instr.slice,underlying,h1,kG h hl hu hlv hvn (Nat.le_refl _),sizeOf,typeInfo,hi']
 | some b =>
  obtain ⟨cap,e0,h2,h3,cur,ty,z,h4,h6⟩:=he
  refine ⟨.slice (some ⟨b,off+l * m,none⟩) (v-l) (cap-l),fun W _=>kU ho ?_,cap-l,rfl,by omega,by omega,cur,ty,z,h4,?_⟩
  ·rw [e0]
   have e1:(if cap=l then some (⟨b,off,none⟩:Addr) else some (Addr.add ⟨b,off,none⟩ (l * m)))=some ⟨b,off+l * m,none⟩:=by
    split
    ·have:l=0:=by omega
     subst this
     simp
    ·rw [iH]
   simp [Instr.sliceAt,Instr.slice,underlying,h1,kG h hl hu hlv hvn h2,sizeOf,typeInfo,hi',hs]
   exact e1
  ·have:l * m+(cap-l) * m=cap * m:=by rw [← Nat.add_mul];congr 1;omega
   omega
theorem E3 {b:ByteArray} {l v:Nat} {lo hi:Option Operand} (ho:o.op=.slice t x lo hi none) (hx:s.eval x=.c (.string b)) (h1:P.underlying t=some .string)
  (hl:Bd s 0 lo l) (hu:Bd s b.size hi v) (hlv:l≤v) (hvn:v≤b.size):cq P G o s (.c (.string (b.extract l v))):=fun St a w h =>
 ⟨_,fun W _=>kU ho (by rw [ov h hx];simp [Instr.sliceAt,Instr.slice,underlying,h1,kG h hl hu hlv hvn (Nat.le_refl _)]),rfl⟩

theorem BA (l:List UInt8) (p q:Nat) (hpq:p≤q) (hq:q≤l.length):ab (.rs 1 (q-p) fun i _=>ft l (p+i)) (bu ((l.take q).drop p)):=by
 refine ab.rs (by simp;omega) fun i j hi hj=>ab.of_eq ?_
 simp [ft,List.getD,show p+i<q by omega]
theorem My (l:List UInt8) (p:Nat) (hp:p≤l.length):ab (.rs 1 (l.length-p) fun i _=>ft l (p+i)) (bu (l.drop p)):=by
 refine ab.rs (by simp) fun i j hi hj=>ab.of_eq ?_
 simp [ft,List.getD]
theorem PP (l:List UInt8) (q:Nat) (hq:q≤l.length):ab (.rs 1 (q-0) fun i _=>ft l (0+i)) (bu (l.take q)):=by
 have:=BA l 0 q jO hq
 simpa using this

theorem Aq {g:FuncId} {cs:Array Operand} {n:Nat} (ho:o.op=.makeFunc (.func g) #[] cs) (hn:cs.size=n):cq P G o s (.fn g n (fl (cs.toList.map s.eval))):=fun St a w h =>
 ⟨.func (.func g) #[] (cs.map a.eval),fun W _=>by simp only [execOp,ho];exact oI (by simp [Instr.makeFunc]),_,rfl,by simp [hn],fun i hi=>by
  rw [eT]
  simp [List.getD,show i<cs.size by omega]
  exact h.eval _⟩
theorem aC.freshRS {St:Nat→Prop} {a:Act} {w w':World} (h:aC G St s a w) (hb:Below w.heap.size w w') {g:Nat} (hg:w.heap.size≤g) (hlt:g<w'.heap.size):aC G (fun b=>St b∨b=g) s a w':=by
 have h1:=h.ext hb
 have he:qk St w' w':=⟨fun _ _ _ _ _ h=>h,fun b cur t z h=>⟨cur,z,h,rfl⟩⟩
 have hs:∀ b,St b→St b∨b=g:=fun _ h=>.inl h
 obtain ⟨fp0,hp0⟩:=h.hp
 refine ⟨h1.df.grow hs,h1.sz,fun d=>bv.evo he hs _ _ (h1.env d),h1.un,fun b hb=>.inl (h1.s1 b hb),fun b hb=>?_,fun b hb=>?_,?_,h1.sn,fun g hg=>.inl (h1.sg.1 g hg),fun x hx=>.inl (h1.sg.2 x hx)⟩
 ·rcases hb with hb|rfl
  ·exact h1.s2 b hb
  ·exact .inr (.inl (Nat.le_trans h.un.size hg))
 ·rcases hb with hb|rfl
  ·exact h1.s3 b hb
  ·exact hlt
 ·have he2:=qk.of_below hb h.s3
  refine ⟨fp0,fun i q r hi=>bp.rep_evo he2 hs (fun b hF=>hb.block b (hp0.own i b hF).1) (hp0.rep i q r hi),hp0.dis,fun i b hF=>?_,hp0.out⟩
  obtain ⟨h2,h3,h4⟩:=hp0.own i b hF
  exact ⟨Nat.lt_of_lt_of_le h2 hb.size,fun h=>h.elim h3 (fun e=>by omega),h4⟩

theorem Gc {e:TypeId} {l:ByteArray} (ho:o.op=.convert t u x) (hx:s.eval x=.c (.string l)) (h1:P.underlying t=some .string) (h2:P.underlying u=some (.slice e)) (h3:P.underlying e=some (.int .u8)) (hl:l.size≤9223372036854775807) (hd:ck G o=true)
  (hK:K (s.with o.dst (bu l.data.toList) s.H)):lb P G o s K:=fun St a w hr Q=>by
 have hlen:l.data.size=l.size:=rfl
 let cap:=grownCap w l.size 0 e
 have hgc:l.size≤cap∧cap≤9223372036854775807:=by
  have hlt:=Nat.mod_lt (w.tape w.drawn (.appendCap l.size 0 e)) (show 0<2 ^ 63-l.size by omega)
  simp only [cap,grownCap,Question.cut]
  omega
 let cs:Array Value:=(l.data.map fun b=>.int .u8 (b.toNat:Nat))++Array.replicate (cap-l.size) (.int .u8 0)
 have hcs:cs.size=cap:=by simp [cs,hlen];omega
 let w1:=w.drew.alloc (.cells cs e)
 have hw1:w1.heap[w.heap.size]?=some (.cells cs e (0,0)):=heap_alloc_new w.drew _
 let w2:=w1.freeze { block:=w.heap.size,off:=cs.size } 1
 have hb1:Below w.heap.size w w1:=di w _
 have hw2:w2.heap[w.heap.size]?=some (.cells cs e (cs.size,cs.size+1)):=by
  simp only [w2,World.freeze]
  rw [if_neg jD]
  simp only [Array.getElem?_modify,hw1,if_true,Option.map_some]
  simp
 have hb2:Below w.heap.size w w2:=by
  refine ⟨?_,?_,?_,?_,fun k hk=>?_⟩
  ·simp only [w2,World.freeze];rw [if_neg jD];exact hb1.os
  ·simp only [w2,World.freeze];rw [if_neg jD];exact hb1.tape
  ·simp only [w2,World.freeze];rw [if_neg jD];exact hb1.output
  ·simp only [w2,World.freeze];rw [if_neg jD];simp;exact hb1.size
  ·simp only [w2,World.freeze]
   rw [if_neg jD]
   simp only [Array.getElem?_modify]
   rw [jK]
   exact hb1.block k hk
 have hrun:(execOp a.eval o).run P w=.ok (.value (.slice (some ⟨w.heap.size,0,none⟩) l.size cap)) w2:=by
  simp only [execOp,ho,ov hr hx]
  refine oI ?_
  have hch:(choose (.appendCap l.size 0 e)).run P w=.ok cap w.drew:=by simp [Question.forced,grownCap,cap]
  have hsh:w1.shape? w.heap.size=some (e,cs.size):=by simp [World.shape?,hw1]
  simp only [convert,underlying,Sem.run_bind,run_program,Result.andThen_ok,h1,h2,h3,Sem.run_pure,Conv.stringToBytes,hch,newRow,run_newObj,World.size_drew,World.alloc_eq]
  simp only [markStringish,Sem.run_bind,run_shape]
  show ((Result.ok (w1.shape? w.heap.size) w1).andThen _).andThen _=_
  rw [hsh]
  rfl
 unfold Oper.wp
 rw [hrun]
 refine ⟨hb2,fun b=>St b∨b=w.heap.size,fun _ h=>.inl h,_,hK,?_⟩
 have h4:=(hr.freshRS hb2 (Nat.le_refl _) (Array.getElem?_eq_some_iff.1 hw2).1).put (dst:=o.dst) (v:=bu l.data.toList) (x:=.slice (some ⟨w.heap.size,0,none⟩) l.size cap) (ef hd) ⟨_,cap,by simp;rfl,by simp [hlen];exact hgc.1,hgc.2,(fun h=>by cases h),fun ad had _=>by
  have:=Option.some.inj had
  subst this
  refine ⟨rfl,.inr rfl,fun i j hi hj=>?_⟩
  have hi:i<l.data.size:=by simpa using hi
  refine ⟨.int .u8 (l.data[i].toNat:Nat),?_,?_⟩
  ·show w2.cell? ⟨w.heap.size,0+(i * 1+j),none⟩=_
   rw [cell_of_row w2 w.heap.size _ cs e _ hw2,show 0+(i * 1+j)=i by omega]
   have e9:l.data[i]?=some l.data[i]:=Array.getElem?_eq_getElem hi
   have hi2:i<l.size:=hi
   simp [cs,Array.getElem?_append,hi2]
  ·have e9:l.data[i]?=some l.data[i]:=Array.getElem?_eq_getElem hi
   simp [ft,List.getD,e9]
   rfl⟩
 cases ho:o.dst with
 | none=>rw [ho] at h4;exact h4
 | some d=>rw [ho] at h4;exact h4
end
end
section
section
variable {P:Program} {G:Gh} {ops:Array Oper} {o:Oper} {s:AS} {r:List Oper} {K:AS→Prop} {R:Exit→AS→Prop} {Y:AS→Prop} {x y:Code}

theorem Dd {i j:Nat} (he:Nat.beq j i=true) (h:R .normal s):nb i R (.exit j) s:=by
 show match Nat.beq j i with|true=>R .normal s|false=>R (.exit j) s
 rw [he];exact h
theorem BB {i j:Nat} (he:Nat.beq j i=false) (h:R (.exit j) s):nb i R (.exit j) s:=by
 show match Nat.beq j i with|true=>R .normal s|false=>R (.exit j) s
 rw [he];exact h
theorem C7 {d:Operand} (hl:s.eval d=.c (.bool true)) (ht:bj P G x s R):bj P G (.cond d x y) s R:=sJ hl (fun _=>ht) (fun h=>by cases h)
theorem C9 {d:Operand} (hl:s.eval d=.c (.bool false)) (hf:bj P G y s R):bj P G (.cond d x y) s R:=sJ hl (fun h=>by cases h) (fun _=>hf)

variable {env:List (Nat×CV)} {b0:Nat→CV} {H:List (Option Nat×bp)}
theorem Qd {d:Nat} {v:CV} (hw:be G ops o ⟨env,b0,H⟩ true) (hd:o.dst=some d) (hN:Nat.blt d G.N=true) (h:cq P G o ⟨env,b0,H⟩ v) (hk:cV P G ops r ⟨(d,v)::env,b0,H⟩ K):cV P G ops (o::r) ⟨env,b0,H⟩ K :=
 Nv hw (by simp only [ck,hd];exact hN) h (by simp only [AS.put,hd];exact hk)
theorem O9 {d:Nat} {v:CV} (hw:be G ops o ⟨env,b0,H⟩ true) (hd:o.dst=some d) (hN:Nat.blt d G.N=true) (h:lg P G o ⟨env,b0,H⟩ v) (hk:cV P G ops r ⟨(d,v)::env,b0,H⟩ K):cV P G ops (o::r) ⟨env,b0,H⟩ K :=
 Dw hw (by simp only [ck,hd];exact hN) h (by simp only [AS.put,hd];exact hk)
theorem NT {d:Nat} (hw:be G ops o ⟨env,b0,H⟩ false) (hd:o.dst=some d) (hN:Nat.blt d G.N=true) (hk:cV P G ops r ⟨(d,.c undef)::env,b0,H⟩ K):cV P G ops (o::r) ⟨env,b0,H⟩ K :=
 G8 hw (by simp only [ck,hd];exact hN) (by simp only [AS.put,hd];exact hk)
theorem P7 {d:Nat} {v:CV} {tr:dO} (hw:be G ops o ⟨env,b0,H⟩ true) (hd:o.dst=some d) (hN:Nat.blt d G.N=true) (h:cq P G o ⟨env,b0,H⟩ v) (hk:AX P G ops tr ⟨(d,v)::env,b0,H⟩ K):AX P G ops (.rd o tr) ⟨env,b0,H⟩ K :=
 P8 hw (by simp only [ck,hd];exact hN) h (by simp only [AS.put,hd];exact hk)
theorem OT {d:Nat} {v:CV} {tr:dO} (hw:be G ops o ⟨env,b0,H⟩ true) (hd:o.dst=some d) (hN:Nat.blt d G.N=true) (h:lg P G o ⟨env,b0,H⟩ v) (hk:AX P G ops tr ⟨(d,v)::env,b0,H⟩ K):AX P G ops (.rd o tr) ⟨env,b0,H⟩ K :=
 MK hw (by simp only [ck,hd];exact hN) h (by simp only [AS.put,hd];exact hk)
theorem OG {d:Nat} {v:CV} {tr:dO} (hw:be G ops o ⟨env,b0,H⟩ true) (hd:o.dst=some d) (hN:Nat.blt d G.N=true) (h:cq P G o ⟨env,b0,H⟩ v) (hk:AZ P G ops tr ⟨(d,v)::env,b0,H⟩ K):AZ P G ops (.rd o tr) ⟨env,b0,H⟩ K :=
 P5 hw (by simp only [ck,hd];exact hN) h (by simp only [AS.put,hd];exact hk)
theorem GB {d:Nat} {v:CV} {tr:dO} (hw:be G ops o ⟨env,b0,H⟩ true) (hd:o.dst=some d) (hN:Nat.blt d G.N=true) (h:lg P G o ⟨env,b0,H⟩ v) (hk:AZ P G ops tr ⟨(d,v)::env,b0,H⟩ K):AZ P G ops (.one o tr) ⟨env,b0,H⟩ K :=
 Km hw (by simp only [ck,hd];exact hN) h (by simp only [AS.put,hd];exact hk)
theorem Nc {d:Nat} {v:CV} {tr:dO} (hw:be G ops o ⟨env,b0,H⟩ true) (hd:o.dst=some d) (hN:Nat.blt d G.N=true) (hb:Fn ops o=true) (h:lg P G o ⟨env,b0,H⟩ v) (hk:AZ P G ops tr ⟨(d,v)::env,b0,H⟩ K):AZ P G ops (.rd o tr) ⟨env,b0,H⟩ K :=
 OR hw (by simp only [ck,hd];exact hN) hb h (by simp only [AS.put,hd];exact hk)
theorem Kk {d:Nat} {tr:dO} (hw:be G ops o ⟨env,b0,H⟩ false) (hd:o.dst=some d) (hN:Nat.blt d G.N=true) (hk:AZ P G ops tr ⟨(d,.c undef)::env,b0,H⟩ K):AZ P G ops (.rd o tr) ⟨env,b0,H⟩ K :=
 Ni hw (by simp only [ck,hd];exact hN) (by simp only [AS.put,hd];exact hk)
theorem Nk {d:Nat} {tr:dO} (hw:be G ops o ⟨env,b0,H⟩ false) (hd:o.dst=some d) (hN:Nat.blt d G.N=true) (hk:AX P G ops tr ⟨(d,.c undef)::env,b0,H⟩ K):AX P G ops (.rd o tr) ⟨env,b0,H⟩ K :=
 Nl hw (by simp only [ck,hd];exact hN) (by simp only [AS.put,hd];exact hk)
theorem Kq {d:Nat} {tr:dO} (hw:be G ops o ⟨env,b0,H⟩ false) (hd:o.dst=some d) (hN:Nat.blt d G.N=true) (hk:AX P G ops tr ⟨(d,.c undef)::env,b0,H⟩ K):AX P G ops (.one o tr) ⟨env,b0,H⟩ K :=
 Ku hw (by simp only [ck,hd];exact hN) (by simp only [AS.put,hd];exact hk)

theorem kk {j d:Nat} {b:Bool} (h:o.guard=some (j,b)) (hd:(ops[j]?).bind (·.dst)=some d) (hN:Nat.blt d G.N=true) (hl:look s.env s.b d=.c undef):be G ops o s false:=fun St a w hr=>by
 have hlt:d<a.tmps.size:=by rw [hr.sz];exact Nat.le_of_ble_eq_true hN
 have he:=hr.env d
 rw [hl] at he
 have he:a.tmps.getD d undef=undef:=he
 have hg:a.tmps[d]?=some undef:=by
  rw [Array.getElem?_eq_getElem hlt]
  congr 1
  simpa [hlt] using he
 simp only [Region.wanted,h,yielded,hd,Option.bind_some,hg]
 cases b <;> rfl
theorem o7 {d:Nat} {t:Bool} (hN:Nat.blt d G.N=true) (hl:look s.env s.b d=.c (.bool t)) {b:Bool} (e:t=b):cU G s ⟨(d,.c (.bool b))::s.env,s.b,s.H⟩ :=
 cU.put hN fun St a w hr=>by
  have:=hr.env d
  rw [hl,e] at this
  exact this
theorem C8 {d:Nat} {t:Bool} (hN:Nat.blt d G.N=true) (hl:look s.env s.b d=.c (.bool t)) (ht:t=true→bj P G x ⟨(d,.c (.bool true))::s.env,s.b,s.H⟩ R) (hf:t=false→bj P G y ⟨(d,.c (.bool false))::s.env,s.b,s.H⟩ R):bj P G (.cond (.tmp d) x y) s R :=
 sJ (t:=t) hl (fun e=>jE (o7 hN hl e) (ht e)) (fun e=>jE (o7 hN hl e) (hf e))
theorem ED {d:Nat} {t:Bool} (hN:Nat.blt d G.N=true) (hl:look s.env s.b d=.c (.bool t)) (ht:t=true→cV P G ops r ⟨(d,.c (.bool true))::s.env,s.b,s.H⟩ K) (hf:t=false→cV P G ops r ⟨(d,.c (.bool false))::s.env,s.b,s.H⟩ K):cV P G ops r s K:=by
 cases e:t with
 | true=>exact bg (o7 hN hl e) (ht e)
 | false=>exact bg (o7 hN hl e) (hf e)
theorem Kt {d:Nat} {t:Bool} {tr:dO} (hN:Nat.blt d G.N=true) (hl:look s.env s.b d=.c (.bool t)) (ht:t=true→AX P G ops tr ⟨(d,.c (.bool true))::s.env,s.b,s.H⟩ K) (hf:t=false→AX P G ops tr ⟨(d,.c (.bool false))::s.env,s.b,s.H⟩ K):AX P G ops tr s K:=by
 cases e:t with
 | true=>exact lh (o7 hN hl e) (ht e)
 | false=>exact lh (o7 hN hl e) (hf e)
def PV:IntKind→Int→Prop
 | .i64,z=>-9223372036854775808≤z∧z≤9223372036854775807
 | .u64,z=>0≤z∧z≤18446744073709551615
 | .i32,z=>-2147483648≤z∧z≤2147483647
 | .u32,z=>0≤z∧z≤4294967295
 | .i16,z=>-32768≤z∧z≤32767
 | .u16,z=>0≤z∧z≤65535
 | .i8,z=>-128≤z∧z≤127
 | .u8,z=>0≤z∧z≤255
theorem gx {k:IntKind} {z:Int} (h:PV k z):k.wrap z=z:=by
 cases k <;> simp only [PV] at h <;> simp [IntKind.wrap,IntKind.bits,IntKind.signed] <;> omega
theorem wx {z:Int} (h:0≤z):z=(z.toNat:Int):=by omega

theorem cI {k:IntKind} {a b:Int} (h:a=b):ab (.c (.int k a)) (.c (.int k b)):=h ▸ cZ
theorem cB {a b:Bool} (h:a=b):ab (.c (.bool a)) (.c (.bool b)):=h ▸ cZ
theorem ab.str {a b:ByteArray} (h:a=b):ab (.c (.string a)) (.c (.string b)):=h ▸ cZ
theorem ab.err {a b:Nat} (h:a=b):ab (.err a) (.err b):=h ▸ cZ
theorem ab.bs {a b:List UInt8} (h:a=b):ab (bu a) (bu b):=h ▸ cZ
theorem cN:ab (.c (.slice none 0 0)) (bu []):=ab.nilS _ _
theorem cT {a b c d:CV} (h1:ab a c) (h2:ab b d):ab (.tup 2 (fl [a,b])) (.tup 2 (fl [c,d])) :=
 ab.tup rfl fun i hi=>match i,hi with|0,_=>h1|1,_=>h2
theorem ab.tup3 {a b c d e f:CV} (h1:ab a d) (h2:ab b e) (h3:ab c f):ab (.tup 3 (fl [a,b,c])) (.tup 3 (fl [d,e,f])) :=
 ab.tup rfl fun i hi=>match i,hi with|0,_=>h1|1,_=>h2|2,_=>h3
def SE (G:Gh) (s:AS) (x:Operand) (c:CV):Prop:=∀ St a w,aC G St s a w→bv G.al St w c (a.eval x)
theorem se {x:Operand} {c0 c:CV} (hx:s.eval x=c0) (h:ab c0 c):SE G s x c:=fun St a w hr=>h _ _ _ _ (ka hr hx)
theorem Hc {x:Operand} {i off n m N:Nat} {g:Option Nat} {F:Nat→CV} (hx:s.eval x=.os i g off n m) (hH:s.H[i]?=some (g,.frz N F)) (hN:off+n * m≤N) (f:Nat→Nat→CV) (hf:∀ a b,a<n→b<m→ab (F (off+(a * m+b))) (f a b)):SE G s x (.rs m n f):=fun St a w hr=>by
 have he:=ka hr hx
 cases g with
 | none =>
  obtain ⟨h1,h2⟩:=he
  subst h1
  exact ⟨none,0,h2,Nat.le_refl _,by decide,fun _=>rfl,fun _ h=>by cases h⟩
 | some g =>
  obtain ⟨cap,h1,h2,h3,_⟩:=he
  obtain ⟨fp,hp⟩:=hr.hp
  obtain ⟨_,hg,cur,t,z,hh,hle,hc⟩:=hp.rep i (some g) _ hH
  refine ⟨_,cap,h1,h2,h3,(fun h=>by cases h),fun ad ha _=>?_⟩
  cases ha
  refine ⟨rfl,hg,fun p q hp' hq=>?_⟩
  have hb:p * m+q<n * m:=by
   have:p * m+m≤n * m:=by rw [← Nat.succ_mul];exact Nat.mul_le_mul_right _ hp'
   omega
  have hlt:off+(p * m+q)<cur.size:=by omega
  refine ⟨cur.getD (off+(p * m+q)) undef,?_,hf p q hp' hq _ _ _ _ (hc _ jO)⟩
  show w.cell? ⟨g,off+(p * m+q),none⟩=_
  rw [cell_of_row w g _ cur t z hh];simp [hlt]
theorem oQ {x:Operand} {i off n N:Nat} {g:Option Nat} {F:Nat→CV} (l:List UInt8) (hx:s.eval x=.os i g off n 1) (hH:s.H[i]?=some (g,.frz N F)) (hn:n=l.length) (hN:off+n≤N) (hf:∀ a,a<n→ab (F (off+a)) (ft l a)):SE G s x (bu l):=by
 subst hn
 refine Hc hx hH jO _ fun a b ha hb=>?_
 rw [show off+(a * 1+b)=off+a by omega]
 exact hf a ha
inductive ya (G:Gh) (s:AS):List Operand→List CV→Prop where
 | nil:ya G s [] []
 | cons {x:Operand} {c:CV} {l:List Operand} {m:List CV} (h:SE G s x c) (t:ya G s l m):ya G s (x::l) (c::m)
theorem KM {l:List Operand} {m:List CV} (h:ya G s l m):l.length=m.length:=by
 induction h with
 | nil=>rfl
 | cons _ _ ih=>simp [ih]
theorem KN {l:List Operand} {m:List CV} (h:ya G s l m) {St:Nat→Prop} {a:Act} {w:World} (hr:aC G St s a w):∀ i (hi:i<l.length),bv G.al St w (fl m i) (a.eval l[i]):=by
 induction h with
 | nil=>intro i hi;simp at hi
 | cons h1 _ ih =>
  intro i hi
  cases i with
  | zero=>exact h1 St a w hr
  | succ i=>exact ih i (by simpa using hi)

def bM (gs:List Nat) (P:Program) (f:FuncId) (args:List CV) (m:CV):Prop:=AC gs P f [] args fun r H=>r=m∧H=[]

theorem zq {xs:Array Operand} {args:List CV} (he:ya G s xs.toList args) {St:Nat→Prop} {a:Act} {w:World} (h:aC G St s a w):(xs.map a.eval).size=args.length∧∀ i,bv G.al St w (fl args i) ((xs.map a.eval).getD i undef):=by
 have hl:=KM he
 simp at hl
 refine ⟨by simp [hl],fun i=>?_⟩
 by_cases hi:i<xs.size
 ·have:=KN he h i (by simpa using hi)
  simpa [hi] using this
 ·rw [rf args i jO]
  trivial
theorem Be {f:FuncId} {xs:Array Operand} {ats:Array TypeId} {args:List CV} {Q:CV→List (Option Nat×bp)→Prop} (ho:o.op=.call ⟨.value (.func f),xs,ats⟩) (hc:br P f=true) (hA:AC G.gs P f [] args Q) (he:ya G s xs.toList args) (hd:ck G o=true)
  (hK:∀ r H',Q r H'→K (s.with o.dst r (s.H++H'))):lb P G o s K:=fun St a w hr Q'=>by
 unfold Oper.wp
 rw [xO ho hc]
 obtain ⟨h1,h2⟩:=zq he hr
 refine (hA G.al w St _ _ (Jp hr) h1 h2).mono ?_
 rintro e w' ⟨v,r,H',St',rfl,hq,hv,hu,h3,h4,h5,h6⟩
 refine ⟨hu.below,St',h3,_,hK r H' hq,?_⟩
 have:=(hr.after hu h3 h4 h5 h6).put (dst:=o.dst) (ef hd) hv
 cases ho:o.dst with
 | none=>rw [ho] at this;exact this
 | some d=>rw [ho] at this;exact this
theorem Jl {f:FuncId} {xs:Array Operand} {ats:Array TypeId} {args:List CV} {m:CV} (ho:o.op=.call ⟨.value (.func f),xs,ats⟩) (hc:br P f=true) (hA:bM G.gs P f args m) (he:ya G s xs.toList args) (hd:ck G o=true)
  (hK:K (s.with o.dst m (s.H++[]))):lb P G o s K:=Be ho hc hA he hd (by rintro _ _ ⟨rfl,rfl⟩;exact hK)

def BQ (P:Program) (G:Gh) (s:AS) (rv:ResultVar) (c:CV):Prop:=∀ St a w,aC G St s a w→∃ v,(match rv with|.tmp t=>pure (a.tmps.getD t undef)|.cell d t=>do loadVar t (← asAddr (a.tmps.getD d undef)):Sem Value).run P w=.ok v w∧bv G.al St w c v
theorem aP {t:Nat} {c:CV} (h:look s.env s.b t=c):BQ P G s (.tmp t) c:=fun St a w hr=>⟨_,rfl,h ▸ hr.env t⟩
theorem J8 {d:Nat} {t:TypeId} {i off n:Nat} {g:Option Nat} {f:Nat→CV} {c:CV} {ds:TypeDesc} (h:look s.env s.b d=.op i g off) (hH:Holds s i g n f) (h1:P.underlying t=some ds) (ha:jT P t=false) (hn:off<n) (hc:f off=c):BQ P G s (.cell d t) c:=fun St a w hr=>by
 have he:=hr.env d
 rw [h] at he
 obtain ⟨b,rfl,he⟩:=he
 obtain ⟨hg,cur,ty,z,hh,hle,hcell⟩:=i7 hr hH
 have hlt:off<cur.size:=by omega
 have hcc:w.cell? ⟨b,off,none⟩=some (cur.getD off undef):=by
  rw [cell_of_row w b off cur ty z hh];simp [hlt]
 refine ⟨_,?_,hc ▸ hcell off hn⟩
 simp only [he,asAddr,Sem.run_bind,Sem.run_pure,Result.andThen_ok]
 exact im h1 ha hcc
theorem Gv {d:Nat} {t:TypeId} {i off n m:Nat} {g:Option Nat} {f:Nat→CV} {ds:TypeDesc} (h:look s.env s.b d=.op i g off) (hH:Holds s i g n f) (h1:P.underlying t=some ds) (ha:jT P t=true) (h5:(P.info? t).map (·.size)=some m) (hn:off+m≤n):BQ P G s (.cell d t) (.agg m fun j=>f (off+j)):=fun St a w hr=>by
 obtain ⟨info,h5i,h6⟩:=Option.map_eq_some_iff.1 h5
 have he:=hr.env d
 rw [h] at he
 obtain ⟨b,rfl,he⟩:=he
 obtain ⟨hg,cur,ty,z,hh,hle,hcell⟩:=i7 hr hH
 subst h6
 have hrun:=mC h1 ha h5i (w:=w) (b:=b) (q:=off) (g:=fun j=>cur.getD (off+j) undef) (fun j hj=>by
  have hlt:off+j<cur.size:=by omega
  rw [cell_of_row w b (off+j) cur ty z hh];simp [hlt])
 refine ⟨.agg ((List.range info.size).map fun j=>cur.getD (off+j) undef).toArray,?_,_,rfl,by simp,fun j hj=>?_⟩
 ·simp only [he,asAddr,Sem.run_bind,Sem.run_pure,Result.andThen_ok]
  exact hrun
 ·have:=hcell (off+j) jO
  simp [hj] at this ⊢
  exact this
theorem EP {α β:Type} (f:α→Sem β) {a1:α} {b1:β} {w:World} (h1:(f a1).run P w=.ok b1 w):((#[a1]:Array α).mapM f).run P w=.ok #[b1] w:=by
 simp [h1]
theorem EO {α β:Type} (f:α→Sem β) {a1 a2:α} {b1 b2:β} {w:World} (h1:(f a1).run P w=.ok b1 w) (h2:(f a2).run P w=.ok b2 w):((#[a1,a2]:Array α).mapM f).run P w=.ok #[b1,b2] w:=by
 simp [h1,h2]
theorem EN {α β:Type} (f:α→Sem β) {a1 a2 a3:α} {b1 b2 b3:β} {w:World} (h1:(f a1).run P w=.ok b1 w) (h2:(f a2).run P w=.ok b2 w) (h3:(f a3).run P w=.ok b3 w):((#[a1,a2,a3]:Array α).mapM f).run P w=.ok #[b1,b2,b3] w:=by
 simp [h1,h2,h3]
theorem EM {α β:Type} (f:α→Sem β) {a1 a2 a3 a4:α} {b1 b2 b3 b4:β} {w:World} (h1:(f a1).run P w=.ok b1 w) (h2:(f a2).run P w=.ok b2 w) (h3:(f a3).run P w=.ok b3 w) (h4:(f a4).run P w=.ok b4 w):((#[a1,a2,a3,a4]:Array α).mapM f).run P w=.ok #[b1,b2,b3,b4] w:=by
 simp [h1,h2,h3,h4]
theorem tM {fn:Func} {tmps:Array Value} {vs:Array Value} {w:World} (h:(fn.results.mapM fun|.tmp t=>pure (tmps.getD t undef)|.cell a t=>do loadVar t (← asAddr (tmps.getD a undef)):Sem (Array Value)).run P w=.ok vs w):(results fn tmps).run P w=.ok (if h:vs.size=1 then vs[0] else .tuple vs) w:=by
 unfold results
 rw [Sem.run_bind]
 have h':=h
 refine (congrArg (fun r=>Result.andThen r _) h').trans ?_
 rfl
theorem aA {fn:Func} {r1:ResultVar} {v:CV} (h:fn.results=#[r1]) (h1:BQ P G s r1 v):kt P G fn s v:=fun St a w hr=>by
 obtain ⟨x1,e1,q1⟩:=h1 St a w hr
 exact ⟨x1,tM (vs:=#[x1]) (by rw [h];exact EP _ e1),q1⟩
theorem bH {fn:Func} {r1 r2:ResultVar} {v1 v2:CV} (h:fn.results=#[r1,r2]) (h1:BQ P G s r1 v1) (h2:BQ P G s r2 v2):kt P G fn s (.tup 2 (fl [v1,v2])):=fun St a w hr=>by
 obtain ⟨x1,e1,q1⟩:=h1 St a w hr
 obtain ⟨x2,e2,q2⟩:=h2 St a w hr
 exact ⟨.tuple #[x1,x2],tM (vs:=#[x1,x2]) (by rw [h];exact EO _ e1 e2),_,rfl,rfl,fun i hi=>match i,hi with|0,_=>q1|1,_=>q2⟩
theorem er {fn:Func} {r1 r2 r3:ResultVar} {v1 v2 v3:CV} (h:fn.results=#[r1,r2,r3]) (h1:BQ P G s r1 v1) (h2:BQ P G s r2 v2) (h3:BQ P G s r3 v3):kt P G fn s (.tup 3 (fl [v1,v2,v3])):=fun St a w hr=>by
 obtain ⟨x1,e1,q1⟩:=h1 St a w hr
 obtain ⟨x2,e2,q2⟩:=h2 St a w hr
 obtain ⟨x3,e3,q3⟩:=h3 St a w hr
 exact ⟨.tuple #[x1,x2,x3],tM (vs:=#[x1,x2,x3]) (by rw [h];exact EN _ e1 e2 e3),_,rfl,rfl,fun i hi=>match i,hi with|0,_=>q1|1,_=>q2|2,_=>q3⟩
theorem O3 {fn:Func} {r1 r2 r3 r4:ResultVar} {v1 v2 v3 v4:CV} (h:fn.results=#[r1,r2,r3,r4]) (h1:BQ P G s r1 v1) (h2:BQ P G s r2 v2) (h3:BQ P G s r3 v3) (h4:BQ P G s r4 v4):kt P G fn s (.tup 4 (fl [v1,v2,v3,v4])):=fun St a w hr=>by
 obtain ⟨x1,e1,q1⟩:=h1 St a w hr
 obtain ⟨x2,e2,q2⟩:=h2 St a w hr
 obtain ⟨x3,e3,q3⟩:=h3 St a w hr
 obtain ⟨x4,e4,q4⟩:=h4 St a w hr
 exact ⟨.tuple #[x1,x2,x3,x4],tM (vs:=#[x1,x2,x3,x4]) (by rw [h];exact EM _ e1 e2 e3 e4),_,rfl,rfl,fun i hi=>match i,hi with|0,_=>q1|1,_=>q2|2,_=>q3|3,_=>q4⟩
theorem bN {fn:Func} (h:fn.results=#[]):kt P G fn s (.c (.tuple #[])):=fun St a w hr=>⟨.tuple #[],by simp [results,h],rfl⟩

theorem Mh {fn:Func} {e:Exit} {v m:CV} (he:e=.ret∨e=.normal) (hres:kt P G fn s v) (hv:ab v m):k7 P G fn (fun r H=>r=m∧H=[]) e s:=Jr he m (hres.ent hv) ⟨rfl,rfl⟩
variable {t u:TypeId} {p q:Operand} {k:IntKind}
theorem Fh {e:TypeId} (ho:o.op=.convert t u p) (hx:s.eval p=.c (.slice none 0 0)) (h1:P.underlying t=some (.slice e)) (h2:P.underlying e=some (.int .u8)) (h3:P.underlying u=some .string):cq P G o s (.c (.string ⟨#[]⟩)):=fun St a w h=>by
 refine ⟨_,fun W _=>?_,rfl⟩
 simp only [execOp,ho,ov h hx]
 exact oI (gH (Bs.nil W) _ _ _ h1 h2 h3)
theorem JS {St:Nat→Prop} {a:Act} {w:World} (h:aC G St s a w) {x:Operand} {i off n N:Nat} {g:Option Nat} {F:Nat→CV} {l:List UInt8} (hx:s.eval x=.os i g off n 1) (hH:Holds s i g N F) (hn:n=l.length) (hN:off+n≤N) (hf:∀ a,a<n→ab (F (off+a)) (ft l a)):Bs w (a.eval x) l:=by
 subst hn
 have he:=ka h hx
 cases g with
 | none =>
  obtain ⟨h1,h2⟩:=he
  rw [h2,List.eq_nil_of_length_eq_zero h1]
  exact Bs.nil w
 | some g =>
  obtain ⟨cap,h1,h2,h3,_⟩:=he
  rw [h1]
  obtain ⟨hg,cur,ty,z,hh,hle,hcell⟩:=i7 h hH
  refine Bs.of_cells h2 h3 fun j hj=>?_
  have hlt:off+j<cur.size:=by omega
  rw [cell_of_row w g _ cur ty z hh]
  have:=hf j hj _ _ _ _ (hcell (off+j) jO)
  have e:cur.getD (off+j) undef=.int .u8 ((l.getD j 0).toNat:Nat):=this
  rw [← e]
  simp [hlt]
theorem Fg {e:TypeId} {i off n N:Nat} {g:Option Nat} {F:Nat→CV} (l:List UInt8) (ho:o.op=.convert t u p) (hx:s.eval p=.os i g off n 1) (hH:Holds s i g N F) (hn:n=l.length) (hN:off+n≤N) (hf:∀ a,a<n→ab (F (off+a)) (ft l a))
  (h1:P.underlying t=some (.slice e)) (h2:P.underlying e=some (.int .u8)) (h3:P.underlying u=some .string):lg P G o s (.c (.string ⟨l.toArray⟩)):=fun St a w h=>by
 refine ⟨_,fun W hW=>?_,rfl⟩
 have hb:=(JS h hx hH hn hN hf).below hW
 obtain ⟨ao,cap,e0,_⟩:=id hb
 simp only [execOp,ho,e0]
 rw [e0] at hb
 exact oI (gH hb _ _ _ h1 h2 h3)

theorem E6 {e:TypeId} {a b:Operand} {z1 z2:Int} {k1 k2:IntKind} {l v:Nat} {bl:List UInt8} (ho:o.op=.slice t p (some a) (some b) none) (hx:s.eval p=bu bl) (h1:P.underlying t=some (.slice e)) (h5:(P.info? e).map (·.size)=some 1)
  (ha:s.eval a=.c (.int k1 z1)) (hz1:z1=(l:Int)) (hb:s.eval b=.c (.int k2 z2)) (hz2:z2=(v:Int)) (hlv:l≤v) (hvn:v≤bl.length):cq P G o s (bu ((bl.take v).drop l)) :=
 (oY ho hx h1 h5 (bY ha hz1) (bY hb hz2) hlv hvn).ent (BA bl l v hlv hvn)
theorem uT {e:TypeId} {a:Operand} {z1:Int} {k1:IntKind} {l:Nat} {bl:List UInt8} (ho:o.op=.slice t p (some a) none none) (hx:s.eval p=bu bl) (h1:P.underlying t=some (.slice e)) (h5:(P.info? e).map (·.size)=some 1)
  (ha:s.eval a=.c (.int k1 z1)) (hz1:z1=(l:Int)) (hlv:l≤bl.length):cq P G o s (bu (bl.drop l)) :=
 (oY ho hx h1 h5 (bY ha hz1) (dc _ _) hlv (Nat.le_refl _)).ent (My bl l hlv)
theorem yG {e:TypeId} {b:Operand} {z2:Int} {k2:IntKind} {v:Nat} {bl:List UInt8} (ho:o.op=.slice t p none (some b) none) (hx:s.eval p=bu bl) (h1:P.underlying t=some (.slice e)) (h5:(P.info? e).map (·.size)=some 1)
  (hb:s.eval b=.c (.int k2 z2)) (hz2:z2=(v:Int)) (hvn:v≤bl.length):cq P G o s (bu (bl.take v)) :=
 (oY ho hx h1 h5 (dc _ _) (bY hb hz2) (Nat.zero_le _) hvn).ent (PP bl v hvn)

theorem Lj (ho:o.op=.binOp .eql 25 p (.const .nilIface) u) (hx:s.eval p=.c .nilIface):cq Tryz.prog G o s (.c (.bool (decide ((0:Nat)=0)))):=fun St a w h=>by
 have hs:a.eval p=ev G.al 0:=(ov h hx).trans (Eb _).symm
 refine ⟨.bool (decide ((0:Nat)=0)),fun W _=>?_,rfl⟩
 simp only [execOp,ho,hs]
 refine oI ?_
 show (do eqGuard .eql _ _ _ (ev G.al 0) .nilIface;binOp .eql _ (ev G.al 0) .nilIface:Sem Value).run _ W=_
 rw [iD]
 exact nS G.al 0 W
theorem K9 (ho:o.op=.binOp .neq 25 p (.const .nilIface) u) (hx:s.eval p=.c .nilIface):cq Tryz.prog G o s (.c (.bool (decide ((0:Nat)≠0)))):=fun St a w h=>by
 have hs:a.eval p=ev G.al 0:=(ov h hx).trans (Eb _).symm
 refine ⟨.bool (decide ((0:Nat)≠0)),fun W _=>?_,rfl⟩
 simp only [execOp,ho,hs]
 refine oI ?_
 show (do eqGuard .neq _ _ _ (ev G.al 0) .nilIface;binOp .neq _ (ev G.al 0) .nilIface:Sem Value).run _ W=_
 rw [iD]
 have:=nQ G.al 0 W
 rw [← decide_not] at this
 exact this
def eK {α:Type} (k:Nat) (e:α→Nat→CV) (d:α) (l:List α) (j:Nat):CV:=e (l.getD (j / k) d) (j % k)
theorem gL {α:Type} {k:Nat} {e:α→Nat→CV} {d:α} {l:List α} {i j:Nat} (hj:j<k):eK k e d l (i * k+j)=e (l.getD i d) j:=by
 unfold eK
 rw [Nat.mul_comm i k,Nat.mul_add_div jO,Nat.div_eq_of_lt hj,Nat.add_zero,Nat.mul_add_mod,Nat.mod_eq_of_lt hj]
theorem Da {l l2:List UInt8} {h:Nat→CV} (hh:∀ j,j<l2.length→ab (h j) (ft l2 j)):∀ j,j<(l.length+l2.length) * 1→ab (sP (l.length * 1) (ft l) h j) (ft (l++l2) j):=fun j hj=>by
 unfold sP
 by_cases h1:j<l.length * 1
 ·rw [if_pos h1]
  refine ab.of_eq ?_
  simp only [ft,List.getD_eq_getElem?_getD,List.getElem?_append_left (show j<l.length by omega)]
 ·rw [if_neg h1]
  refine ab.trans (hh _ jO) (ab.of_eq ?_)
  simp only [ft,List.getD_eq_getElem?_getD,List.getElem?_append_right (show l.length≤j by omega),Nat.mul_one]

theorem CI {e:TypeId} {z:Value} {i N:Nat} {g:Option Nat} {f h:Nat→CV} {l l2:List UInt8} {m:Nat} (ho:o.op=.call ⟨.builtin .append,#[p,q],#[t,u]⟩) (hx:s.eval p=.os i g 0 l.length 1) (hH:s.H[i]?=some (g,.blk N f)) (hN:l.length≤N) (hf:∀ j,j<l.length→ab (f j) (ft l j))
  (hsrc:wD P G s q 1 m h) (hm:m=l2.length) (hh:∀ j,j<l2.length→ab (h j) (ft l2 j)) (h1:P.underlying t=some (.slice e)) (hu:dZ P u=true) (h5:(P.info? e).map (·.size)=some 1) (hz:(P.info? e).map (·.zero)=some (some z)) (hby:(P.info? e).map (·.bytes)=some 1) (hzk:z.cells.size=1)
  (h63:l.length+l2.length≤140737488355328) (hleaf:∀ j,j<m * 1→fo (h j)=true) (hd:ck G o=true)
  (hK:∀ g',K (s.with o.dst (.os i g' 0 (l++l2).length 1) (s.H.set i (g',.blk (l++l2).length (ft (l++l2)))))):uc P G o s K:=by
 subst hm
 refine xr ho hx hH jO hsrc h1 hu h5 hz hby jO jO hzk (ft (l++l2)) (fun j hj=>?_) hleaf hd (fun g'=>?_)
 ·refine ab.trans ?_ (Da hh j hj)
  unfold sP
  split
  ·exact hf j jO
  ·exact cZ
 ·have:=hK g'
  rw [List.length_append] at this
  rw [Nat.mul_one]
  exact this

variable {env:List (Nat×CV)} {b0:Nat→CV} {H:List (Option Nat×bp)}
theorem dU {d:Nat} {v:CV} {H':List (Option Nat×bp)} (hd:o.dst=some d):(⟨env,b0,H⟩:AS).with o.dst v H'=⟨(d,v)::env,b0,H'⟩:=by simp only [AS.with,AS.put,hd]
theorem wJ {v:CV} {H':List (Option Nat×bp)} (hd:o.dst=none):(⟨env,b0,H⟩:AS).with o.dst v H'=⟨env,b0,H'⟩:=by simp only [AS.with,AS.put,hd]
theorem kW {d:Nat} (hd:o.dst=some d) (hN:Nat.blt d G.N=true):ck G o=true:=by simp only [ck,hd];exact hN
theorem M3 (hd:o.dst=none):ck G o=true:=by simp only [ck,hd]

theorem Mn {z:Value} {n d:Nat} (ho:o.op=.alloc t) (hz:(P.info? t).map (·.zero)=some (some z)) (hn:z.cells.size=n) (hd:o.dst=some d) (hN:Nat.blt d G.N=true)
  (hK:∀ g,K ⟨(d,.op H.length g 0)::env,b0,H++[(g,.blk n fun j=>.c (z.cells.getD j undef))]⟩):lb P G o ⟨env,b0,H⟩ K :=
 Jm ho hz hn (kW hd hN) fun g=>by rw [dU hd];exact hK g
theorem PJ {n d:Nat} {c:CV} {l:List CV} (ho:o.op=.box t p) (hx:(⟨env,b0,H⟩:AS).eval p=c) (hl:ek c=some l) (hn:l.length=n) (hd:o.dst=some d) (hN:Nat.blt d G.N=true)
  (hK:∀ g,K ⟨(d,.op H.length g 0)::env,b0,H++[(g,.blk n (fl l))]⟩):lb P G o ⟨env,b0,H⟩ K :=
 On ho hx hl hn (kW hd hN) fun g=>by rw [dU hd];exact hK g
theorem ze {e:TypeId} {z:Value} {len m:Nat} {parts:Array (Nat×Operand)} {l:List CV} {n d:Nat} (ho:o.op=.buildSlice t len parts) (h1:P.underlying t=some (.slice e)) (h5:(P.info? e).map (·.size)=some m) (hz:(P.info? e).map (·.zero)=some (some z))
  (hm:Nat.ble (len * m) 16777216=true) (hlen:Nat.ble len 16777216=true) (hf:tn (fun i=>some (i * m,m)) ((List.range (len * m)).map fun i=>.c (z.cells[i % z.cells.size]!)) (parts.toList.map fun p=>(p.1,(⟨env,b0,H⟩:AS).eval p.2))=some l) (hn:l.length=n) (hle:n=len * m) (hd:o.dst=some d) (hN:Nat.blt d G.N=true)
  (hK:∀ g,K ⟨(d,.os H.length g 0 len m)::env,b0,H++[(g,.blk n (fl l))]⟩):lb P G o ⟨env,b0,H⟩ K :=
 wy ho h1 h5 hz hm hlen hf hn hle (kW hd hN) fun g=>by rw [dU hd];exact hK g
theorem Jv {e:TypeId} {l:ByteArray} {d:Nat} (ho:o.op=.convert t u p) (hx:(⟨env,b0,H⟩:AS).eval p=.c (.string l)) (h1:P.underlying t=some .string) (h2:P.underlying u=some (.slice e)) (h3:P.underlying e=some (.int .u8)) (hl:l.size≤9223372036854775807) (hd:o.dst=some d) (hN:Nat.blt d G.N=true)
  (hK:K ⟨(d,bu l.data.toList)::env,b0,H⟩):lb P G o ⟨env,b0,H⟩ K :=
 Gc ho hx h1 h2 h3 hl (kW hd hN) (by rw [dU hd];exact hK)
theorem Ml {f:FuncId} {xs:Array Operand} {ats:Array TypeId} {args:List CV} {m:CV} {d:Nat} (ho:o.op=.call ⟨.value (.func f),xs,ats⟩) (hc:br P f=true) (hA:bM G.gs P f args m) (he:ya G ⟨env,b0,H⟩ xs.toList args) (hd:o.dst=some d) (hN:Nat.blt d G.N=true)
  (hK:K ⟨(d,m)::env,b0,H⟩):lb P G o ⟨env,b0,H⟩ K:=Jl ho hc hA he (kW hd hN) (by rw [dU hd,List.append_nil];exact hK)
theorem Ed {f:FuncId} {xs:Array Operand} {ats:Array TypeId} {args:List CV} {Q:CV→List (Option Nat×bp)→Prop} {d:Nat} (ho:o.op=.call ⟨.value (.func f),xs,ats⟩) (hc:br P f=true) (hA:AC G.gs P f [] args Q) (he:ya G ⟨env,b0,H⟩ xs.toList args) (hd:o.dst=some d) (hN:Nat.blt d G.N=true)
  (hK:∀ r H',Q r H'→K ⟨(d,r)::env,b0,H++H'⟩):lb P G o ⟨env,b0,H⟩ K:=Be ho hc hA he (kW hd hN) (fun r H' hq=>by rw [dU hd];exact hK r H' hq)
theorem iE {f:FuncId} {v:Operand} {n d:Nat} {fv:Nat→CV} {xs:Array Operand} {ats:Array TypeId} {args:List CV} {Q:CV→List (Option Nat×bp)→Prop} (ho:o.op=.call ⟨.value v,xs,ats⟩) (hv:(⟨env,b0,H⟩:AS).eval v=.fn f n fv) (hc:br P f=true) (hA:AC G.gs P f [] args Q) (he:oE (xs.toList.map (⟨env,b0,H⟩:AS).eval++(List.range n).map fv) args) (hd:o.dst=some d) (hN:Nat.blt d G.N=true)
  (hK:∀ r H',Q r H'→K ⟨(d,r)::env,b0,H++H'⟩):lb P G o ⟨env,b0,H⟩ K:=Jk ho hv hc he hA (kW hd hN) (fun r H' hq=>by rw [dU hd];exact hK r H' hq)
theorem DS {i off n m:Nat} {g:Option Nat} {f:Nat→CV} {c:CV} {l:List CV} (ho:o.op=.store t p q) (hx:(⟨env,b0,H⟩:AS).eval p=.op i g off) (hH:H[i]?=some (g,.blk n f)) (hy:(⟨env,b0,H⟩:AS).eval q=c) (hl:ek c=some l) (h5:(P.info? t).map (·.size)=some m) (hm:l.length=m) (hleaf:l.all fo=true) (hn:off+m≤n)
  (F:Nat→CV) (hF:∀ j,j<n→ab (mo f off l j) (F j)) (hd:o.dst=none) (hK:K ⟨env,b0,H.set i (g,.blk n F)⟩):uc P G o ⟨env,b0,H⟩ K :=
 Io ho hx hH hy hl h5 hm hleaf hn F hF (M3 hd) (by rw [wJ hd];exact hK)
theorem Iu {e:TypeId} {z:Value} {i n m k N by_ n' N' d:Nat} {g:Option Nat} {f h:Nat→CV} (ho:o.op=.call ⟨.builtin .append,#[p,q],#[t,u]⟩) (hx:(⟨env,b0,H⟩:AS).eval p=.os i g 0 n k) (hH:H[i]?=some (g,.blk N f)) (hN:n * k≤N)
  (hsrc:wD P G ⟨env,b0,H⟩ q k m h) (h1:P.underlying t=some (.slice e)) (hu:dZ P u=true) (h5:(P.info? e).map (·.size)=some k) (hz:(P.info? e).map (·.zero)=some (some z)) (hby:(P.info? e).map (·.bytes)=some by_)
  (h63:n+m≤9223372036854775807) (h48:(n+m) * by_≤140737488355328) (hzk:z.cells.size=k)
  (F:Nat→CV) (hF:∀ j,j<(n+m) * k→ab (sP (n * k) f h j) (F j)) (hleaf:∀ j,j<m * k→fo (h j)=true) (hd:o.dst=some d) (hdN:Nat.blt d G.N=true) (hn':n+m=n') (hN':(n+m) * k=N')
  (hK:∀ g',K ⟨(d,.os i g' 0 n' k)::env,b0,H.set i (g',.blk N' F)⟩):uc P G o ⟨env,b0,H⟩ K :=
 xr ho hx hH hN hsrc h1 hu h5 hz hby h63 h48 hzk F hF hleaf (kW hd hdN) fun g'=>by subst hn';subst hN';rw [dU hd];exact hK g'
theorem bC {e:TypeId} {z:Value} {i N d:Nat} {g:Option Nat} {f h:Nat→CV} {l l2:List UInt8} {m:Nat} (ho:o.op=.call ⟨.builtin .append,#[p,q],#[t,u]⟩) (hx:(⟨env,b0,H⟩:AS).eval p=.os i g 0 l.length 1) (hH:H[i]?=some (g,.blk N f)) (hN:l.length≤N) (hf:∀ j,j<l.length→ab (f j) (ft l j))
  (hsrc:wD P G ⟨env,b0,H⟩ q 1 m h) (hm:m=l2.length) (hh:∀ j,j<l2.length→ab (h j) (ft l2 j)) (h1:P.underlying t=some (.slice e)) (hu:dZ P u=true) (h5:(P.info? e).map (·.size)=some 1) (hz:(P.info? e).map (·.zero)=some (some z)) (hby:(P.info? e).map (·.bytes)=some 1) (hzk:z.cells.size=1)
  (h63:l.length+l2.length≤140737488355328) (hleaf:∀ j,j<m * 1→fo (h j)=true) (hd:o.dst=some d) (hdN:Nat.blt d G.N=true)
  (hK:∀ g',K ⟨(d,.os i g' 0 (l++l2).length 1)::env,b0,H.set i (g',.blk (l++l2).length (ft (l++l2)))⟩):uc P G o ⟨env,b0,H⟩ K :=
 CI ho hx hH hN hf hsrc hm hh h1 hu h5 hz hby hzk h63 hleaf (kW hd hdN) fun g'=>by rw [dU hd];exact hK g'
theorem aF {c:Code} {α:Type} (D:List Nat) (M:α→List (Nat×CV)) (Hp:α→List (Option Nat×bp)) (φ:α→Prop) (μ:α→Nat) (p0:α) (h0:φ p0) (hM:∀ p,((M p).all fun x=>D.any (Nat.beq x.1))=true) (he:bZ env b0 (M p0)) (hH:aS H (Hp p0))
  (hr:∀ p,φ p→bj P G c ⟨M p,s0 D env b0,Hp p⟩ (qp (fun s'=>∃ p',φ p'∧μ p'<μ p∧yb D (s0 D env b0) s'.b∧(s'.env.all fun x=>D.any (Nat.beq x.1))=true∧bZ s'.env s'.b (M p')∧(Hp p').length≤s'.H.length∧aS (s'.H.take (Hp p').length) (Hp p')) R)):bj P G (.loop c) ⟨env,b0,H⟩ R :=
 C3 (s:=⟨env,b0,H⟩) D M Hp φ μ p0 h0 hM he hH hr
end
end
section
section
variable {P:Program} {G:Gh} {ops:Array Oper} {o:Oper} {s:AS} {K:AS→Prop} {t u:TypeId} {p q:Operand} {k:IntKind}
variable {env:List (Nat×CV)} {b0:Nat→CV} {H:List (Option Nat×bp)}

theorem aC.afterH {St St':Nat→Prop} {a:Act} {w w':World} (h:aC G St s a w) {fp:Nat→Nat→Prop} (hp:BJ G.al St w G.w0.heap.size G.F0 s.H fp) {i:Nat} (hi:i<s.H.length) {x:Option Nat×bp} (hu:iI (fp i) w w') (h1:∀ b,St b→St' b) (h2:∀ b,St' b→St b∨w.heap.size≤b∨fp i b) (h3:∀ b,St' b→b<w'.heap.size) (hp':cH G.al St' w' w.heap.size (fp i) [x]) :
  aC G St' ⟨s.env,s.b,s.H.set i x⟩ a w':=by
 have hst:∀ b,St b→w'.heap[b]?=w.heap[b]?:=fun b hb=>hu.block b (h.s3 b hb) fun hf=>(hp.own i b hf).2.1 hb
 have he:qk St w w':=⟨fun b cur t z hb hc=>(hst b hb).trans hc,hu.sh⟩
 obtain ⟨fp',hp'⟩:=hp'
 refine ⟨h.df.keep h1 hst,h.sz,fun d=>bv.evo he h1 _ _ (h.env d),⟨hu.os.trans h.un.os,hu.tape.trans h.un.tape,hu.output.trans h.un.output,Nat.le_trans h.un.size hu.size,fun k hk hF=>?_,fun b cur ty z hb=>?_⟩,fun b hs=>h1 b (h.s1 b hs),fun b hs=>?_,h3,?_,?_,fun g hg=>h1 g (h.sg.1 g hg),fun y hy=>h1 _ (h.sg.2 y hy)⟩
 ·refine (hu.block k (Nat.lt_of_lt_of_le hk h.un.size) fun hf=>?_).trans (h.un.block k hk hF)
  rcases (hp.own i k hf).2.2 with h4|h4
  ·omega
  ·exact hF h4
 ·obtain ⟨cur',z',h4,h5⟩:=h.un.sh b cur ty z hb
  obtain ⟨cur2,z2,h6,h7⟩:=hu.sh b cur' ty z' h4
  exact ⟨cur2,z2,h6,h7.trans h5⟩
 ·rcases h2 b hs with hs|hs|hs
  ·exact h.s2 b hs
  ·exact .inr (.inl (Nat.le_trans h.un.size hs))
  ·exact .inr (hp.own i b hs).2.2
 ·have old:∀ j b,j≠i→fp j b→w'.heap[b]?=w.heap[b]?:=fun j b hj hb=>hu.block b (hp.own j b hb).1 fun hf=>hj (hp.dis j i b hb hf)
  refine ⟨fun j b=>if j=i then fp' 0 b else fp j b,fun j q r hj=>?_,fun j l b hj hl=>?_,fun j b hj=>?_,fun j hj b hb=>?_⟩
  ·by_cases e:j=i
   ·subst e
    simp [hi] at hj
    have e2:(fun b=>if j=j then fp' 0 b else fp j b)=fp' 0:=funext fun b=>by simp
    show r.rep G.al St' w' (fun b=>if j=j then fp' 0 b else fp j b) q
    rw [e2]
    exact hp'.rep 0 q r (by simp [hj])
   ·rw [List.getElem?_set_ne (Ne.symm e)] at hj
    have e2:(fun b=>if j=i then fp' 0 b else fp j b)=fp j:=funext fun b=>by simp [e]
    show r.rep G.al St' w' (fun b=>if j=i then fp' 0 b else fp j b) q
    rw [e2]
    exact bp.rep_evo he h1 (fun b hF=>old j b e hF) (hp.rep j q r hj)
  ·have apart:∀ l b,l≠i→fp l b→fp' 0 b→False:=fun l b hl h4 h5=>by
    rcases (hp'.own 0 b h5).2.2 with h6|h6
    ·have:=(hp.own l b h4).1;omega
    ·exact hl (hp.dis l i b h4 h6)
   by_cases e1:j=i <;> by_cases e2:l=i
   ·omega
   ·simp only [e1,e2,if_true,if_false] at hj hl;exact (apart l b e2 hl hj).elim
   ·simp only [e1,e2,if_true,if_false] at hj hl;exact (apart j b e1 hj hl).elim
   ·simp only [e1,e2,if_false] at hj hl;exact hp.dis j l b hj hl
  ·by_cases e:j=i
   ·simp only [e,if_true] at hj
    obtain ⟨h4,h5,h6⟩:=hp'.own 0 b hj
    refine ⟨h4,h5,?_⟩
    rcases h6 with h6|h6
    ·exact .inl (Nat.le_trans h.un.size h6)
    ·exact (hp.own i b h6).2.2
   ·simp only [e,if_false] at hj
    obtain ⟨h4,h5,h6⟩:=hp.own j b hj
    refine ⟨Nat.lt_of_lt_of_le h4 hu.size,fun hs=>?_,h6⟩
    rcases h2 b hs with hs|hs|hs
    ·exact h5 hs
    ·omega
    ·exact e (hp.dis j i b hj hs)
  ·have hj':s.H.length≤j:=by simpa using hj
   have e:j≠i:=by omega
   simp only [e,if_false] at hb
   exact hp.out j hj' b hb
 ·exact fY.keep h.sn (fun q hq=>hst q (h.sg.1 q hq)) (fun y hy=>hst _ (h.sg.2 y hy))

theorem DT {f:FuncId} {xs:Array Operand} {ats:Array TypeId} {args:List CV} {Q:CV→List (Option Nat×bp)→Prop} {i d:Nat} {x0:Option Nat×bp} (ho:o.op=.call ⟨.value (.func f),xs,ats⟩) (hc:br P f=true) (hi:H[i]?=some x0) (hA:AC G.gs P f [x0] args Q) (he:ya G ⟨env,b0,H⟩ xs.toList args) (hd:o.dst=some d) (hN:Nat.blt d G.N=true)
  (hK:∀ r H',Q r H'→∃ x r',H'=[x]∧ab r r'∧K ⟨(d,r')::env,b0,H.set i x⟩):uc P G o ⟨env,b0,H⟩ K:=fun St a w hr Q'=>by
 unfold Oper.wp
 rw [xO ho hc]
 obtain ⟨h1,h2⟩:=zq he hr
 obtain ⟨fp,hp⟩:=hr.hp
 have hlt:i<H.length:=(List.getElem?_eq_some_iff.1 hi).1
 obtain ⟨g0,r0⟩:=x0
 have hent:wk G.gs G.al St (fp i) [(g0,r0)] w:=by
  refine ⟨hr.s3,hr.sn,hr.sg,⟨fun j b=>j=0∧fp i b,fun j g r hj=>?_,fun j l b hj hl=>by omega,fun j b hj=>⟨(hp.own i b hj.2).1,(hp.own i b hj.2).2.1,.inr hj.2⟩,fun j hj b hb=>by simp at hj;omega⟩,fun b hb=>(hp.own i b hb).2.1⟩
  match j,hj with
  | 0,hj =>
   simp at hj
   obtain ⟨rfl,rfl⟩:=hj
   have e:(fun b=>(0:Nat)=0∧fp i b)=fp i:=funext fun b=>by simp
   show r0.rep G.al St w (fun b=>(0:Nat)=0∧fp i b) g0
   rw [e]
   exact hp.rep i g0 r0 hi
  | j+1,hj=>simp at hj
 refine (hA G.al w St _ _ hent h1 h2).mono ?_
 rintro e w' ⟨v,r,H',St',rfl,hq,hv,hu,h3,h4,h5,h6⟩
 obtain ⟨x,r',rfl,hce,hk⟩:=hK r H' hq
 refine ⟨fun b hb=>hu.block b (hr.s3 b hb) fun hf=>(hp.own i b hf).2.1 hb,St',h3,_,hk,?_⟩
 have h7:=(hr.afterH hp hlt hu h3 h4 h5 h6).put (dst:=o.dst) (v:=r') (x:=v) (by intro d' hd';rw [hd] at hd';cases hd';exact Nat.le_of_ble_eq_true hN) (hce _ _ _ _ hv)
 rw [hd] at h7 ⊢
 exact h7
theorem cO {i j:Nat} {g:Option Nat} {off n m k:Nat} (h:n=m):ab (.os i g off n k) (.os j g off m k):=by
 subst h
 cases g <;> exact fun _ _ _ _ h=>h
theorem cP {i j off:Nat} {g:Option Nat}:ab (.op i g off) (.op j g off):=fun _ _ _ _ h=>h
def we (n k N:Nat) (F:Nat→CV):CV→List (Option Nat×bp)→Prop:=fun r H'=>∃ g,r=.os 0 g 0 n k∧H'=[(g,.blk N F)]
theorem LL {f:FuncId} {xs:Array Operand} {ats:Array TypeId} {args:List CV} {n m N:Nat} {F:Nat→CV} {i d:Nat} {x0:Option Nat×bp} (ho:o.op=.call ⟨.value (.func f),xs,ats⟩) (hc:br P f=true) (hi:H[i]?=some x0) (hA:AC G.gs P f [x0] args (we n m N F)) (he:ya G ⟨env,b0,H⟩ xs.toList args) (hd:o.dst=some d) (hN:Nat.blt d G.N=true)
  (hK:∀ g,K ⟨(d,.os i g 0 n m)::env,b0,H.set i (g,.blk N F)⟩):uc P G o ⟨env,b0,H⟩ K :=
 DT ho hc hi hA he hd hN fun r H' ⟨g,h1,h2⟩=>⟨_,_,h2,by rw [h1];exact cO (j:=i) rfl,hK g⟩
theorem Jq {d:Nat} {v v':CV} (h:ab v v'):cU G ⟨(d,v)::env,b0,H⟩ ⟨(d,v')::env,b0,H⟩:=fun St a w hr=>by
 refine ⟨St,fun _ h=>h,hr.df,hr.sz,fun e=>?_,hr.un,hr.s1,hr.s2,hr.s3,hr.hp,hr.sn,hr.sg⟩
 have:=hr.env e
 by_cases hde:d=e
 ·subst hde
  rw [eR] at this ⊢
  exact h _ _ _ _ this
 ·rw [c9 _ _ _ hde] at this ⊢;exact this
theorem lb.ent {K':AS→Prop} (h:lb P G o s K') (hK:∀ s',K' s'→∃ s'',cU G s' s''∧K s''):lb P G o s K:=fun St a w hr Q=>Oper.wp_mono (fun a' w' ⟨hb,St',hs,s',h1,h2⟩=>by
 obtain ⟨s'',h3,h4⟩:=hK s' h1
 obtain ⟨S2,h5,h6⟩:=h3 St' a' w' h2
 exact ⟨hb,S2,fun b hb=>h5 b (hs b hb),s'',h4,h6⟩) (h St a w hr Q)
theorem Mm {f:FuncId} {xs:Array Operand} {ats:Array TypeId} {args:List CV} {n m N:Nat} {F:Nat→CV} {d:Nat} (ho:o.op=.call ⟨.value (.func f),xs,ats⟩) (hc:br P f=true) (hA:AC G.gs P f [] args (we n m N F)) (he:ya G ⟨env,b0,H⟩ xs.toList args) (hd:o.dst=some d) (hN:Nat.blt d G.N=true)
  (hK:∀ g,K ⟨(d,.os H.length g 0 n m)::env,b0,H++[(g,.blk N F)]⟩):lb P G o ⟨env,b0,H⟩ K :=
 lb.ent (K':=fun s'=>∃ g,s'=⟨(d,.os 0 g 0 n m)::env,b0,H++[(g,.blk N F)]⟩) (Ed ho hc hA he hd hN fun r H' ⟨g,h1,h2⟩=>⟨g,by rw [h1,h2]⟩) fun s' ⟨g,hs⟩=>⟨_,by rw [hs];exact Jq (cO (j:=H.length) rfl),hK g⟩
theorem vK {fn:Func} {e:Exit} {n m k N M:Nat} {g:Option Nat} {F F':Nat→CV} (i:Nat) (he:e=.ret∨e=.normal) (hres:kt P G fn s (.os i g 0 n k)) (hH:s.H[i]?=some (g,.blk N F)) (hn:n=m) (hN:M≤N) (hg:g=none→M=N) (hF:∀ j,j<M→ab (F j) (F' j)):k7 P G fn (we m k M F') e s:=by
 have h:∃ r H',kt P G fn s r∧we m k M F' r H'∧∀ St a w,aC G St s a w→cH G.al St w G.w0.heap.size G.F0 H':=by
  refine ⟨.os 0 g 0 m k,[(g,.blk M F')],hres.ent (cO hn),⟨g,rfl,rfl⟩,fun St a w hr=>?_⟩
  obtain ⟨fp,hp⟩:=hr.hp
  have hr0:=hp.rep i g _ hH
  refine ⟨fun j b=>j=0∧fp i b,fun j q r hj=>?_,fun j l b hj hl=>by omega,fun j b hj=>hp.own i b hj.2,fun j hj b hb=>by simp at hj;omega⟩
  match j,hj with
  | 0,hj =>
   simp at hj
   obtain ⟨rfl,rfl⟩:=hj
   have e:(fun b=>(0:Nat)=0∧fp i b)=fp i:=funext fun b=>by simp
   show bp.rep G.al St w (fun b=>(0:Nat)=0∧fp i b) g (.blk M F')
   rw [e]
   cases g with
   | none=>exact ⟨by rw [hg rfl];exact hr0.1,hr0.2⟩
   | some g =>
    obtain ⟨h1,cur,ty,h2,h3,h4⟩:=hr0
    exact ⟨h1,cur,ty,h2,by omega,fun l hl=>hF l hl _ _ _ _ (h4 l jO)⟩
  | j+1,hj=>simp at hj
 rcases he with rfl|rfl <;> exact h

theorem tQ (d k:Nat) (f:Nat→CV) (hl:look s.env s.b d=.c (.slice none 0 0)):cU G s ⟨(d,.os s.H.length none 0 0 k)::s.env,s.b,s.H++[(none,.blk 0 f)]⟩:=fun St a w hr=>by
 refine ⟨St,fun _ h=>h,hr.df,hr.sz,fun e=>?_,hr.un,hr.s1,hr.s2,hr.s3,?_,hr.sn,hr.sg⟩
 ·by_cases hde:d=e
  ·subst hde
   rw [eR]
   have:=hr.env d
   rw [hl] at this
   exact ⟨rfl,this⟩
  ·rw [c9 _ _ _ hde];exact hr.env e
 ·obtain ⟨fp,hp⟩:=hr.hp
  refine ⟨fp,fun j g r hj=>?_,hp.dis,hp.own,fun j hj=>hp.out j (by simp at hj;omega)⟩
  rcases Nat.lt_or_ge j s.H.length with h1|h1
  ·rw [List.getElem?_append_left h1] at hj;exact hp.rep j g r hj
  ·rw [List.getElem?_append_right h1] at hj
   have h2:=(List.getElem?_eq_some_iff.1 hj).1
   simp at h2
   have h3:j=s.H.length:=by omega
   subst h3
   simp at hj
   obtain ⟨rfl,rfl⟩:=hj
   exact ⟨rfl,fun b hb=>hp.out _ (Nat.le_refl _) b hb⟩
theorem mz {x:Operand} {i k off:Nat} (hx:s.eval x=.c (.slice none 0 0)):SE G s x (.os i none off 0 k):=fun St a w hr=>⟨rfl,ov hr hx⟩
theorem gv (f:Nat→CV):cU G s ⟨s.env,s.b,s.H++[(none,.blk 0 f)]⟩:=fun St a w hr=>by
 refine ⟨St,fun _ h=>h,hr.df,hr.sz,hr.env,hr.un,hr.s1,hr.s2,hr.s3,?_,hr.sn,hr.sg⟩
 obtain ⟨fp,hp⟩:=hr.hp
 refine ⟨fp,fun j g r hj=>?_,hp.dis,hp.own,fun j hj=>hp.out j (by simp at hj;omega)⟩
 rcases Nat.lt_or_ge j s.H.length with h1|h1
 ·rw [List.getElem?_append_left h1] at hj;exact hp.rep j g r hj
 ·rw [List.getElem?_append_right h1] at hj
  have h2:=(List.getElem?_eq_some_iff.1 hj).1
  simp at h2
  have h3:j=s.H.length:=by omega
  subst h3
  simp at hj
  obtain ⟨rfl,rfl⟩:=hj
  exact ⟨rfl,fun b hb=>hp.out _ (Nat.le_refl _) b hb⟩
theorem gB (i:Nat) {g:Option Nat} {n m:Nat} {f F:Nat→CV} (hH:s.H[i]?=some (g,.blk n f)) (hn:m≤n) (hg:g=none→m=n) (hF:∀ j,j<m→ab (f j) (F j)):cU G s ⟨s.env,s.b,s.H.set i (g,.blk m F)⟩:=fun St a w hr=>by
 refine ⟨St,fun _ h=>h,hr.df,hr.sz,hr.env,hr.un,hr.s1,hr.s2,hr.s3,?_,hr.sn,hr.sg⟩
 obtain ⟨fp,hp⟩:=hr.hp
 have hlt:i<s.H.length:=(List.getElem?_eq_some_iff.1 hH).1
 refine ⟨fp,fun j q r hj=>?_,hp.dis,hp.own,fun j hj=>hp.out j (by simpa using hj)⟩
 by_cases e:j=i
 ·subst e
  simp [hlt] at hj
  obtain ⟨rfl,rfl⟩:=hj
  have:=hp.rep j g _ hH
  cases g with
  | none=>exact ⟨by rw [hg rfl];exact this.1,this.2⟩
  | some g =>
   obtain ⟨h1,cur,ty,h2,h3,h4⟩:=this
   exact ⟨h1,cur,ty,h2,by omega,fun l hl=>hF l hl _ _ _ _ (h4 l jO)⟩
 ·rw [List.getElem?_set_ne (Ne.symm e)] at hj
  exact hp.rep j q r hj

theorem ab.agg2 {f g:Nat→CV} (h0:ab (f 0) (g 0)) (h1:ab (f 1) (g 1)):ab (.agg 2 f) (.agg 2 g):=ab.agg rfl fun i hi=>match i,hi with|0,_=>h0|1,_=>h1
theorem ab.agg3 {f g:Nat→CV} (h0:ab (f 0) (g 0)) (h1:ab (f 1) (g 1)) (h2:ab (f 2) (g 2)):ab (.agg 3 f) (.agg 3 g):=ab.agg rfl fun i hi=>match i,hi with|0,_=>h0|1,_=>h1|2,_=>h2
theorem ab.agg4 {f g:Nat→CV} (h0:ab (f 0) (g 0)) (h1:ab (f 1) (g 1)) (h2:ab (f 2) (g 2)) (h3:ab (f 3) (g 3)):ab (.agg 4 f) (.agg 4 g):=ab.agg rfl fun i hi=>match i,hi with|0,_=>h0|1,_=>h1|2,_=>h2|3,_=>h3
theorem ab.agg5 {f g:Nat→CV} (h0:ab (f 0) (g 0)) (h1:ab (f 1) (g 1)) (h2:ab (f 2) (g 2)) (h3:ab (f 3) (g 3)) (h4:ab (f 4) (g 4)):ab (.agg 5 f) (.agg 5 g):=ab.agg rfl fun i hi=>match i,hi with|0,_=>h0|1,_=>h1|2,_=>h2|3,_=>h3|4,_=>h4
theorem ab.agg6 {f g:Nat→CV} (h0:ab (f 0) (g 0)) (h1:ab (f 1) (g 1)) (h2:ab (f 2) (g 2)) (h3:ab (f 3) (g 3)) (h4:ab (f 4) (g 4)) (h5:ab (f 5) (g 5)):ab (.agg 6 f) (.agg 6 g):=ab.agg rfl fun i hi=>match i,hi with|0,_=>h0|1,_=>h1|2,_=>h2|3,_=>h3|4,_=>h4|5,_=>h5
def kQ (l:List Int) (i:Nat):CV:=.c (.int .i64 (l.getD i 0))
def wl (l:List Int):CV:=.rs 1 l.length fun i _=>kQ l i
theorem lA (L:List Int) (j:Nat) (hj:j<L.length):ab (fl (L.map fun z=>.c (.int .i64 z)) j) (kQ L j):=ab.of_eq (by
 rw [eT]
 simp [List.getD,hj,kQ])
theorem Jd (L:List UInt8) (j:Nat) (hj:j<L.length):ab (fl (L.map fun z=>.c (.int .u8 (z.toNat:Nat))) j) (ft L j):=ab.of_eq (by
 rw [eT]
 simp [List.getD,hj,ft])
theorem Dy {x:Operand} {i off n N:Nat} {g:Option Nat} {F:Nat→CV} (l:List Int) (hx:s.eval x=.os i g off n 1) (hH:s.H[i]?=some (g,.frz N F)) (hn:n=l.length) (hN:off+n≤N) (hf:∀ a,a<n→ab (F (off+a)) (kQ l a)):SE G s x (wl l):=by
 subst hn
 refine Hc hx hH jO _ fun a b ha hb=>?_
 rw [show off+(a * 1+b)=off+a by omega]
 exact hf a ha

inductive Kj (P:Program) (f g:Nat→CV):List Field→Prop→Prop where
 | nil:Kj P f g [] True
 | int {fd : Field} {fs : List Field} {k k' : IntKind} {a b : Int} {p : Prop} (h : P.underlying fd.type = some (.int k')) (hn : fd.name ≠ "_") (hf : f fd.offset = .c (.int k a)) (hg : g fd.offset = .c (.int k b)) (t : Kj P f g fs p) : Kj P f g (fd :: fs) (a = b ∧ p)
 | bool {fd : Field} {fs : List Field} {a b : Bool} {p : Prop} (h : P.underlying fd.type = some .bool) (hn : fd.name ≠ "_") (hf : f fd.offset = .c (.bool a)) (hg : g fd.offset = .c (.bool b)) (t : Kj P f g fs p) : Kj P f g (fd :: fs) (a = b ∧ p)
 | str {fd : Field} {fs : List Field} {a b : ByteArray} {p : Prop} (h : P.underlying fd.type = some .string) (hn : fd.name ≠ "_") (hf : f fd.offset = .c (.string a)) (hg : g fd.offset = .c (.string b)) (t : Kj P f g fs p) : Kj P f g (fd :: fs) (a = b ∧ p)
theorem lT {d:TypeDesc} {t:TypeId} (h:P.underlying t=some d) (ha:jT P t=false) {cs:Array Value} {i:Nat} {v:Value} (hv:cs[i]?=some v) (W:World):(part t cs i).run P W=.ok v W:=by
 simp [part,oR h,ha,hv]
theorem qz {f g:Nat→CV} {fs:List Field} {p:Prop} (h:Kj P f g fs p) {al:List Addr} {St:Nat→Prop} {w:World} {xs ys:Array Value} {n:Nat} (hx:xs.size=n) (hy:ys.size=n) (hf:∀ i,i<n→bv al St w (f i) (xs.getD i undef)) (hg:∀ i,i<n→bv al St w (g i) (ys.getD i undef))
  (hoff:(fs.all fun fd=>Nat.blt fd.offset n)=true) (d:Nat) (W:World):∃ r:Bool,(Op.eqFields (d+1) xs ys fs).run P W=.ok r W∧(r=true↔p):=by
 have get:∀ (c:Array Value) (q:Nat→CV) (i:Nat) (v:Value),c.size=n→i<n→(∀ i,i<n→bv al St w (q i) (c.getD i undef))→q i=.c v→c[i]?=some v:=fun c q i v hc hi hq he=>by
  have:=hq i hi
  rw [he] at this
  have:c.getD i undef=v:=this
  rw [← this]
  have:i<c.size:=by omega
  simp [this]
 induction h with
 | nil=>exact ⟨true,by simp [Op.eqFields],by simp⟩
 | @int fd fs k k' a b p h hn h1 h2 _ ih =>
  simp only [List.all_cons,Bool.and_eq_true] at hoff
  obtain ⟨r,hr,hp⟩:=ih hoff.2
  have hlt:fd.offset<n:=Nat.le_of_ble_eq_true hoff.1
  have ha:jT P fd.type=false:=by unfold jT;rw [h]
  have e1:=lT h ha (get xs f _ _ hx hlt hf h1) W
  have e2:=lT h ha (get ys g _ _ hy hlt hg h2) W
  simp only [Op.eqFields,ne_eq,hn,not_false_eq_true,if_true,Sem.run_bind,e1,e2,Result.andThen_ok,run_equalIn_int W d fd.type k k' a b h,Sem.run_ite]
  by_cases hab:a=b
  ·subst hab;exact ⟨r,by simp [hr],by simp [hp]⟩
  ·exact ⟨false,by simp [hab],by simp [hab]⟩
 | @bool fd fs a b p h hn h1 h2 _ ih =>
  simp only [List.all_cons,Bool.and_eq_true] at hoff
  obtain ⟨r,hr,hp⟩:=ih hoff.2
  have hlt:fd.offset<n:=Nat.le_of_ble_eq_true hoff.1
  have ha:jT P fd.type=false:=by unfold jT;rw [h]
  have e1:=lT h ha (get xs f _ _ hx hlt hf h1) W
  have e2:=lT h ha (get ys g _ _ hy hlt hg h2) W
  simp only [Op.eqFields,ne_eq,hn,not_false_eq_true,if_true,Sem.run_bind,e1,e2,Result.andThen_ok,run_equalIn_bool' W d fd.type a b h,Sem.run_ite]
  by_cases hab:a=b
  ·subst hab;exact ⟨r,by simp [hr],by simp [hp]⟩
  ·exact ⟨false,by simp [hab],by simp [hab]⟩
 | @str fd fs a b p h hn h1 h2 _ ih =>
  simp only [List.all_cons,Bool.and_eq_true] at hoff
  obtain ⟨r,hr,hp⟩:=ih hoff.2
  have hlt:fd.offset<n:=Nat.le_of_ble_eq_true hoff.1
  have ha:jT P fd.type=false:=by unfold jT;rw [h]
  have e1:=lT h ha (get xs f _ _ hx hlt hf h1) W
  have e2:=lT h ha (get ys g _ _ hy hlt hg h2) W
  simp only [Op.eqFields,ne_eq,hn,not_false_eq_true,if_true,Sem.run_bind,e1,e2,Result.andThen_ok,run_equalIn_string W d fd.type a b h,Sem.run_ite]
  by_cases hab:a=b
  ·subst hab;exact ⟨r,by simp [hr],by simp [hp]⟩
  ·exact ⟨false,by simp [hab,pN],by simp [hab]⟩
theorem HM {n:Nat} {f g:Nat→CV} {fs:Array Field} {p:Prop} [Decidable p] {t u:TypeId} {x y:Operand} (ho:o.op=.binOp .eql t x y u) (hx:s.eval x=.agg n f) (hy:s.eval y=.agg n g) (hS:P.underlying t=some (.struct fs)) (hp:P.stoodInHeld t=false) (hG:P.eqGuardType P.depth t=false) (hE:Kj P f g fs.toList p) (hoff:(fs.toList.all fun fd=>Nat.blt fd.offset n)=true):cq P G o s (.c (.bool (decide p))):=fun St a w h=>by
 obtain ⟨xs,ex,hx1,hx2⟩:=ka h hx
 obtain ⟨ys,ey,hy1,hy2⟩:=ka h hy
 have hfs:P.fieldsOf t=fs:=by simp [Program.fieldsOf,hS]
 refine ⟨.bool (decide p),fun W _=>?_,rfl⟩
 obtain ⟨r,hr,hiff⟩:=qz hE hx1 hy1 hx2 hy2 hoff 9998 W
 simp only [execOp,ho,ex,ey]
 refine oI ?_
 simp only [Sem.run_bind,run_eqGuard_agg _ _ _ _ _ _ _ hG,Result.andThen_ok,run_eql_struct]
 rw [show (10000:Nat)=9999+1 from rfl,run_equalIn_agg W 9999 t xs ys (by rw [hfs];exact hS) hp,hfs,hr]
 have:r=decide p:=by rw [Bool.eq_iff_iff,hiff];simp
 simp [this]
theorem Ap {n:Nat} {f g:Nat→CV} {fs:Array Field} {p:Prop} [Decidable p] {t u:TypeId} {x y:Operand} (ho:o.op=.binOp .neq t x y u) (hx:s.eval x=.agg n f) (hy:s.eval y=.agg n g) (hS:P.underlying t=some (.struct fs)) (hp:P.stoodInHeld t=false) (hG:P.eqGuardType P.depth t=false) (hE:Kj P f g fs.toList p) (hoff:(fs.toList.all fun fd=>Nat.blt fd.offset n)=true):cq P G o s (.c (.bool (decide (¬ p)))):=fun St a w h=>by
 obtain ⟨xs,ex,hx1,hx2⟩:=ka h hx
 obtain ⟨ys,ey,hy1,hy2⟩:=ka h hy
 have hfs:P.fieldsOf t=fs:=by simp [Program.fieldsOf,hS]
 refine ⟨.bool (decide (¬ p)),fun W _=>?_,rfl⟩
 obtain ⟨r,hr,hiff⟩:=qz hE hx1 hy1 hx2 hy2 hoff 9998 W
 simp only [execOp,ho,ex,ey]
 refine oI ?_
 simp only [Sem.run_bind,run_eqGuard_agg _ _ _ _ _ _ _ hG,Result.andThen_ok,run_neq_struct]
 rw [show (10000:Nat)=9999+1 from rfl,run_equalIn_agg W 9999 t xs ys (by rw [hfs];exact hS) hp,hfs,hr]
 have:r=decide p:=by rw [Bool.eq_iff_iff,hiff];simp
 simp [this]

theorem aS.frzDead {g:Option Nat} {n:Nat} {f:Nat→CV} {l m:List (Option Nat×bp)} (t:aS l m):aS ((g,.frz n f)::l) ((g,.dead)::m) :=
 .dead (fun al St w F h=>by
  cases g with
  | none=>exact h.2
  | some g=>exact h.1) t
theorem Jf {cs:List CV} {j:Nat} (hj:j<cs.length):fl cs j=cs[j]:=by rw [eT];simp [List.getD,hj]
theorem zb {cs ds:List CV} (h:oE cs ds):cs.length=ds.length∧∀ j,ab (fl cs j) (fl ds j):=by
 induction h with
 | nil=>exact ⟨rfl,fun _=>cZ⟩
 | cons h _ ih=>exact ⟨by simp [ih.1],fun j=>match j with|0=>h|j+1=>ih.2 j⟩
theorem dt {cs:List CV} {l2:List UInt8} (h:oE cs (l2.map fun c=>.c (.int .u8 (c.toNat:Nat)))):∀ j,j<l2.length→ab (fl cs (0+j)) (ft l2 j):=fun j hj=>by
 rw [Nat.zero_add]
 exact ((zb h).2 j).trans (Jd l2 j hj)
theorem eM {cs:List CV} {m:Nat} (h:cs.all fo=true) (hm:m * 1=cs.length):∀ j,j<m * 1→fo (fl cs (0+j))=true:=fun j hj=>by
 rw [Nat.zero_add,Jf jO]
 exact List.all_eq_true.1 h _ (List.getElem_mem ..)

theorem Kc {gs:List Nat} {al:List Addr} {f:FuncId} {args:List CV} {m:CV} {w:World} {vals:Array Value} (hA:bM gs P f args m) (hS:fY w gs al) (hs:vals.size=args.length) (hv:∀ i,bv al (fun b=>b<w.heap.size) w (fl args i) (vals.getD i undef)) :
  Calls P f vals w fun e w'=>∃ v St',e=.returned v∧bv al St' w' m v∧Below w.heap.size w w':=by
 have hg:∀ g ∈ rG gs,g<w.heap.size:=hS.lt
 have ha:∀ a ∈ al,a.block<w.heap.size:=fun a ha=>by
  obtain ⟨c,t,hc⟩:=hS.row a ha
  exact (Array.getElem?_eq_some_iff.1 hc).1
 refine (hA al w (fun b=>b<w.heap.size) (fun _=>False) vals ⟨fun _ h=>h,hS,⟨hg,ha⟩,⟨fun _ _=>False,fun i g r hi=>by simp at hi,fun _ _ _ h=>h.elim,fun _ _ h=>h.elim,fun _ _ _ h=>h⟩,fun _ h=>h.elim⟩ hs hv).mono ?_
 rintro e w' ⟨v,r,H',St',he,⟨rfl,rfl⟩,hr,hu,_⟩
 exact ⟨v,St',he,hr,hu.below⟩
theorem law_calls {gs:List Nat} {al:List Addr} {f:FuncId} {args:List CV} {w:World} {vals:Array Value} (hA:bM gs P f args (.c (.bool true))) (hS:fY w gs al) (hs:vals.size=args.length) (hv:∀ i,bv al (fun b=>b<w.heap.size) w (fl args i) (vals.getD i undef)) :
  Calls P f vals w fun e w'=>e=.returned (.bool true)∧Below w.heap.size w w' :=
 (Kc hA hS hs hv).mono fun e w' ⟨v,St',he,hr,hb⟩=>⟨by rw [he];exact congrArg _ hr,hb⟩
theorem Ox {al:List Addr} {w:World} {v:Value} {l:List UInt8} (h:Bs w v l):bv al (fun b=>b<w.heap.size) w (bu l) v:=by
 obtain ⟨ao,cap,h1,h2,h3,h4,h5⟩:=h
 refine ⟨ao,cap,h1,h2,h3,h4,fun a ha hn=>?_⟩
 obtain ⟨h6,h7⟩:=h5 a ha
 refine ⟨h6 hn,World.block_lt_of_cell? w ⟨a.block,a.off+0,none⟩ (h7 0 hn),fun i j hi hj=>⟨_,?_,rfl⟩⟩
 rw [show i * 1+j=i by omega]
 exact h7 i hi

theorem oC {gs:List Nat} {f:FuncId} {args:List CV} {r:Value} (h:∀ (al:List Addr) (w:World) (St:Nat→Prop) (vals:Array Value),fY w gs al→vals.size=args.length→(∀ i,bv al St w (fl args i) (vals.getD i undef))→Calls P f vals w fun e w'=>e=.returned r∧Below w.heap.size w w'):bM gs P f args (.c r) :=
 fun al w St F0 vals he hs hv=>(h al w St vals he.sn hs hv).mono fun e w' ⟨h1,h2⟩=>by
  refine ⟨r,.c r,[],St,h1,⟨rfl,rfl⟩,rfl,⟨h2.os,h2.tape,h2.output,h2.size,fun k hk _=>h2.block k hk,fun b cur t z hb=>⟨cur,z,(h2.block b (Array.getElem?_eq_some_iff.1 hb).1).trans hb,rfl⟩⟩,fun _ h=>h,fun _ h=>.inl h,fun b hb=>Nat.lt_of_lt_of_le (he.s3 b hb) h2.size,cH.none _ _ _ _ _⟩
theorem GK {vals:Array Value} (h:vals.size=1):vals=#[vals.getD 0 undef]:=by
 apply Array.ext
 ·simp [h]
 ·intro i h1 h2
  have:i=0:=by omega
  subst this
  simp [h]
theorem ui {vals:Array Value} (h:vals.size=2):vals=#[vals.getD 0 undef,vals.getD 1 undef]:=by
 apply Array.ext
 ·simp [h]
 ·intro i h1 h2
  have:i=0∨i=1:=by omega
  rcases this with e|e <;> subst e <;> simp [h]
theorem Ci {e:TypeId} {j n i:Nat} {g:Option Nat} {z:Int} {t:TypeId} {x y:Operand} {k:IntKind} (ho:o.op=.indexAddr t x y) (hx:s.eval x=.os j g 0 n 1) (hy:s.eval y=.c (.int k z)) (h1:P.underlying t=some (.slice e))
  (h5:(P.info? e).map (·.size)=some 1) (hz:z=(i:Int)) (hi:i<n):cq P G o s (.op j g i):=by
 have:=rX (G:=G) ho hx hy h1 h5 hz hi
 rwa [Nat.zero_add,Nat.mul_one] at this
theorem fA {e:TypeId} {j n i:Nat} {g:Option Nat} {z:Int} {t:TypeId} {x y:Operand} {k:IntKind} (ho:o.op=.indexAddr t x y) (hx:s.eval x=.op j g 0) (hy:s.eval y=.c (.int k z)) (h1:P.underlying t=some (.array n e))
  (h5:(P.info? e).map (·.size)=some 1) (hz:z=(i:Int)) (hi:i<n):cq P G o s (.op j g i):=by
 have:=Fc (G:=G) ho hx hy h1 h5 hz hi
 rwa [Nat.zero_add,Nat.mul_one] at this
theorem K1 {al:List Addr} {St:Nat→Prop} {w:World}:∀ i,bv al St w (fl [] i) ((List.toArray ([]:List Value)).getD i undef):=fun _=>trivial
theorem Hr {al:List Addr} {St:Nat→Prop} {w:World} {c:CV} {cs:List CV} {v:Value} {vs:List Value} (h:bv al St w c v) (t:∀ i,bv al St w (fl cs i) ((List.toArray vs).getD i undef)):∀ i,bv al St w (fl (c::cs) i) ((List.toArray (v::vs)).getD i undef)
 | 0=>h
 | i+1=>by
  have:=t i
  simpa [fl,Array.getD_eq_getD_getElem?] using this
theorem kE (d:Nat) {i n N:Nat} {g:Option Nat} {F:Nat→CV} (l:List UInt8) (hl:look s.env s.b d=.os i g 0 n 1) (hH:s.H[i]?=some (g,.frz N F)) (hn:n=l.length) (hF:(N,F)=(l.length,ft l)) :
  cU G s ⟨(d,bu l)::s.env,s.b,s.H⟩:=by
 cases hF
 subst hn
 exact eP d (fun a _=>ft l a) hl hH jO (fun a b ha hb=>ab.of_eq (by rw [show 0+(a * 1+b)=a by omega]))
def Dj {α:Type} (k:Nat) (C:List α→Nat→CV):Prop:=∀ l l2 j,j<(l.length+l2.length) * k→(if j<l.length * k then C l j else C l2 (j-l.length * k))=C (l++l2) j
theorem fS:Dj 1 kQ:=fun l l2 j hj=>by
 simp only [kQ,List.getD_eq_getElem?_getD]
 split
 ·rw [List.getElem?_append_left jO]
 ·rw [List.getElem?_append_right jO,Nat.mul_one]
theorem ge {α:Type} (k:Nat) (e:α→Nat→CV) (d:α):Dj k (eK k e d):=fun l l2 j hj=>by
 rcases Nat.eq_zero_or_pos k with h0|h0
 ·subst h0;simp at hj
 split
 ·rename_i h1
  have h2:j / k<l.length:=Nat.div_lt_of_lt_mul (by rw [Nat.mul_comm];exact h1)
  simp only [eK,List.getD_eq_getElem?_getD,List.getElem?_append_left h2]
 ·rename_i h1
  rw [Nat.add_mul] at hj
  obtain ⟨q,rfl⟩:∃ q,j=l.length * k+q:=⟨j-l.length * k,by omega⟩
  rw [Nat.add_sub_cancel_left]
  unfold eK
  rw [Nat.mul_comm l.length k,Nat.mul_add_div h0,Nat.mul_add_mod,List.getD_eq_getElem?_getD,List.getD_eq_getElem?_getD,List.getElem?_append_right (Nat.le_add_right _ _),Nat.add_sub_cancel_left]
theorem av {α:Type} {C:List α→Nat→CV} {k:Nat} (hC:Dj k C) {e:TypeId} {z:Value} {i n N N' by_ d:Nat} {t u:TypeId} {p q:Operand} {env:List (Nat×CV)} {b0:Nat→CV} {H:List (Option Nat×bp)} {K:AS→Prop} {g:Option Nat} {f h:Nat→CV} {l l2:List α} {m:Nat} (ho:o.op=.call ⟨.builtin .append,#[p,q],#[t,u]⟩) (hx:(⟨env,b0,H⟩:AS).eval p=.os i g 0 n k) (hn:n=l.length) (hH:H[i]?=some (g,.blk N f)) (hN:l.length * k≤N) (hf:∀ j,j<l.length * k→ab (f j) (C l j))
  (hsrc:wD P G ⟨env,b0,H⟩ q k m h) (hm:m=l2.length) (hh:∀ j,j<l2.length * k→ab (h j) (C l2 j)) (h1:P.underlying t=some (.slice e)) (hu:dZ P u=true) (h5:(P.info? e).map (·.size)=some k) (hz:(P.info? e).map (·.zero)=some (some z)) (hby:(P.info? e).map (·.bytes)=some by_) (hzk:z.cells.size=k)
  (h63:l.length+l2.length≤9223372036854775807) (h48:(l.length+l2.length) * by_≤140737488355328) (hleaf:∀ j,j<m * k→fo (h j)=true) (hd:o.dst=some d) (hdN:Nat.blt d G.N=true) (hN':(l++l2).length * k=N')
  (hK:∀ g',K ⟨(d,.os i g' 0 (l++l2).length k)::env,b0,H.set i (g',.blk N' (C (l++l2)))⟩):uc P G o ⟨env,b0,H⟩ K:=by
 subst hm hn
 refine Iu ho hx hH hN hsrc h1 hu h5 hz hby h63 h48 hzk (C (l++l2)) (fun j hj=>?_) hleaf hd hdN List.length_append.symm (by rw [← List.length_append];exact hN') hK
 rw [← hC l l2 j hj]
 unfold sP
 split
 ·rename_i h;exact hf j h
 ·rename_i h
  refine hh _ ?_
  rw [Nat.add_mul] at hj
  omega
theorem lz {cs:List CV} {l2:List Int} (h:oE cs (l2.map fun c=>.c (.int .i64 c))):∀ j,j<l2.length * 1→ab (fl cs (0+j)) (kQ l2 j):=fun j hj=>by
 rw [Nat.zero_add]
 exact ((zb h).2 j).trans (lA l2 j jO)
theorem bi {cs:List CV} {m k:Nat} (h:cs.all fo=true) (hm:m * k=cs.length):∀ j,j<m * k→fo (fl cs (0+j))=true:=fun j hj=>by
 rw [Nat.zero_add,Jf jO]
 exact List.all_eq_true.1 h _ (List.getElem_mem ..)
end
end
section
theorem uq:(Tryz.prog.info? 3).map (·.size)=some 1:=by kernel_rfl
theorem Eh:(Tryz.prog.info? 3).map (·.bytes)=some 8:=by kernel_rfl
theorem nj:(Tryz.prog.info? 3).map (·.zero)=some (some (.int .i64 0)):=by kernel_rfl
theorem qi:(Tryz.prog.info? 5).map (·.size)=some 1:=by kernel_rfl
theorem rB:(Tryz.prog.info? 5).map (·.bytes)=some 1:=by kernel_rfl
theorem f7:(Tryz.prog.info? 5).map (·.zero)=some (some (.int .u8 0)):=by kernel_rfl
theorem Qa:(Tryz.prog.info? 9).map (·.size)=some 1:=by kernel_rfl
theorem QA:(Tryz.prog.info? 9).map (·.bytes)=some 16:=by kernel_rfl
theorem Kg:(Tryz.prog.info? 9).map (·.zero)=some (some (.string ByteArray.empty)):=by kernel_rfl
theorem gQ:(Tryz.prog.info? 22).map (·.size)=some 1:=by kernel_rfl
theorem gW:(Tryz.prog.info? 22).map (·.bytes)=some 24:=by kernel_rfl
theorem iM:dZ Tryz.prog 22=true:=by kernel_rfl
theorem cJ:(Tryz.prog.info? 22).map (·.zero)=some (some (.slice none 0 0)):=by kernel_rfl
theorem OI:(Tryz.prog.info? 25).map (·.zero)=some (some (.nilIface)):=by kernel_rfl
theorem nH:(Tryz.prog.info? 36).map (·.zero)=some (some (.agg #[.int .i64 0,.string ByteArray.empty,.string ByteArray.empty])):=by kernel_rfl
theorem Av:iZ Tryz.prog 36=some [(0,1),(1,1),(2,1)]:=by kernel_rfl
theorem wm:(Tryz.prog.info? 38).map (·.zero)=some (some (.agg #[.int .i64 0,.string ByteArray.empty,.string ByteArray.empty,.slice none 0 0,.int .i64 0,.int .i64 0,.slice none 0 0,.slice none 0 0])):=by kernel_rfl
theorem Pa:iZ Tryz.prog 38=some [(0,3),(3,1),(4,1),(5,1),(6,1),(7,1)]:=by kernel_rfl
theorem ql:(Tryz.prog.info? 43).map (·.zero)=some (some (.agg #[.int .i64 0,.slice none 0 0])):=by kernel_rfl
theorem HU:iZ Tryz.prog 43=some [(0,1),(1,1)]:=by kernel_rfl
theorem Pk:dZ Tryz.prog 45=true:=by kernel_rfl
theorem zB:(Tryz.prog.info? 52).map (·.zero)=some (some (.agg #[.int .i64 0,.slice none 0 0,.int .i64 0,.int .i64 0,.int .i64 0,.int .i64 0,.int .i64 0])):=by kernel_rfl
theorem Qi:iZ Tryz.prog 52=some [(0,1),(1,1),(2,1),(3,1),(4,1),(5,1),(6,1)]:=by kernel_rfl
theorem zA:(Tryz.prog.info? 67).map (·.zero)=some (some (.agg #[.int .i64 0,.int .i64 0,.int .i64 0,.int .i64 0])):=by kernel_rfl
theorem Qh:iZ Tryz.prog 67=some [(0,1),(1,1),(2,1),(3,1)]:=by kernel_rfl
theorem zy:(Tryz.prog.info? 69).map (·.zero)=some (some (.agg #[.string ByteArray.empty,.slice none 0 0,.int .i64 0])):=by kernel_rfl
theorem Qg:iZ Tryz.prog 69=some [(0,1),(1,1),(2,1)]:=by kernel_rfl
theorem zw:(Tryz.prog.info? 71).map (·.zero)=some (some (.agg #[.slice none 0 0,.slice none 0 0])):=by kernel_rfl
theorem Qf:iZ Tryz.prog 71=some [(0,1),(1,1)]:=by kernel_rfl
theorem N4:dZ Tryz.prog 82=true:=by kernel_rfl
theorem Qk:dZ Tryz.prog 93=true:=by kernel_rfl
theorem P4:(Tryz.prog.info? 95).map (·.zero)=some (some (.agg #[.slice none 0 0,.slice none 0 0,.nilIface])):=by kernel_rfl
theorem Qe:iZ Tryz.prog 95=some [(0,1),(1,1),(2,1)]:=by kernel_rfl
theorem MJ:(Tryz.prog.info? 113).map (·.zero)=some (some (.agg #[.int .i64 0,.nilFunc,.nilFunc,.nilFunc])):=by kernel_rfl
theorem Pj:iZ Tryz.prog 113=some [(0,1),(1,1),(2,1),(3,1)]:=by kernel_rfl
theorem en:(Tryz.prog.info? 118).map (·.zero)=some (some (.agg #[.int .i64 0,.int .i64 0,.int .i64 0])):=by kernel_rfl
theorem gE:iZ Tryz.prog 118=some [(0,1),(1,1),(2,1)]:=by kernel_rfl
theorem Dr:(Tryz.prog.info? 120).map (·.size)=some 6:=by kernel_rfl
theorem Ei:(Tryz.prog.info? 120).map (·.bytes)=some 88:=by kernel_rfl
theorem dq:(Tryz.prog.info? 120).map (·.zero)=some (some (.agg #[.int .i64 0,.string ByteArray.empty,.slice none 0 0,.int .i64 0,.string ByteArray.empty,.string ByteArray.empty])):=by kernel_rfl
theorem fV:iZ Tryz.prog 120=some [(0,1),(1,1),(2,1),(3,3)]:=by kernel_rfl
theorem MI:(Tryz.prog.info? 124).map (·.zero)=some (some (.agg #[.int .i64 0,.nilFunc,.nilFunc,.nilFunc])):=by kernel_rfl
theorem Pi:iZ Tryz.prog 124=some [(0,1),(1,1),(2,1),(3,1)]:=by kernel_rfl
theorem cK:(Tryz.prog.info? 130).map (·.zero)=some (some (.agg #[.int .i64 0,.int .i64 0,.bool false,.slice none 0 0,.string ByteArray.empty])):=by kernel_rfl
theorem dL:iZ Tryz.prog 130=some [(0,1),(1,1),(2,1),(3,1),(4,1)]:=by kernel_rfl
theorem nI:(Tryz.prog.info? 133).map (·.zero)=some (some (.agg #[.int .i64 0,.int .i64 0,.int .i64 0,.int .i64 0])):=by kernel_rfl
theorem oa:iZ Tryz.prog 133=some [(0,1),(1,1),(2,1),(3,1)]:=by kernel_rfl
theorem lw:dZ Tryz.prog 137=true:=by kernel_rfl
theorem GC:(Tryz.prog.info? 137).map (·.zero)=some (some (.slice none 0 0)):=by kernel_rfl
theorem MR:dZ Tryz.prog 138=true:=by kernel_rfl
theorem OL:(Tryz.prog.info? 140).map (·.zero)=some (some (.agg #[.slice none 0 0,.slice none 0 0,.int .i64 0])):=by kernel_rfl
theorem Ph:iZ Tryz.prog 140=some [(0,1),(1,1),(2,1)]:=by kernel_rfl
theorem MH:(Tryz.prog.info? 149).map (·.zero)=some (some (.agg #[.int .i64 0,.nilFunc,.nilFunc,.nilFunc])):=by kernel_rfl
theorem Pg:iZ Tryz.prog 149=some [(0,1),(1,1),(2,1),(3,1)]:=by kernel_rfl
theorem MG:(Tryz.prog.info? 155).map (·.zero)=some (some (.agg #[.int .i64 0,.nilFunc,.nilFunc,.nilFunc])):=by kernel_rfl
theorem Pf:iZ Tryz.prog 155=some [(0,1),(1,1),(2,1),(3,1)]:=by kernel_rfl
theorem MF:(Tryz.prog.info? 161).map (·.zero)=some (some (.agg #[.int .i64 0,.nilFunc,.nilFunc,.nilFunc])):=by kernel_rfl
theorem Pe:iZ Tryz.prog 161=some [(0,1),(1,1),(2,1),(3,1)]:=by kernel_rfl
theorem MM:(Tryz.prog.info? 186).map (·.size)=some 1:=by kernel_rfl
theorem M5:(Tryz.prog.info? 186).map (·.bytes)=some 24:=by kernel_rfl
theorem dY:dZ Tryz.prog 186=true:=by kernel_rfl
theorem Dl:(Tryz.prog.info? 186).map (·.zero)=some (some (.slice none 0 0)):=by kernel_rfl
theorem O0:(Tryz.prog.info? 188).map (·.size)=some 2:=by kernel_rfl
theorem PO:(Tryz.prog.info? 188).map (·.bytes)=some 32:=by kernel_rfl
theorem Dk:(Tryz.prog.info? 188).map (·.zero)=some (some (.agg #[.int .i64 0,.slice none 0 0])):=by kernel_rfl
theorem Pd:iZ Tryz.prog 188=some [(0,1),(1,1)]:=by kernel_rfl
theorem OK:(Tryz.prog.info? 197).map (·.zero)=some (some (.agg #[.slice none 0 0,.nilIface])):=by kernel_rfl
theorem Pc:iZ Tryz.prog 197=some [(0,1),(1,1)]:=by kernel_rfl
theorem gC:(Tryz.prog.info? 199).map (·.zero)=some (some (.agg #[.int .i64 0,.slice none 0 0])):=by kernel_rfl
theorem pD:iZ Tryz.prog 199=some [(0,1),(1,1)]:=by kernel_rfl
theorem OJ:(Tryz.prog.info? 205).map (·.zero)=some (some (.agg #[.slice none 0 0,.int .i64 0])):=by kernel_rfl
theorem Pb:iZ Tryz.prog 205=some [(0,1),(1,1)]:=by kernel_rfl
theorem sZ:dZ Tryz.prog 210=true:=by kernel_rfl
theorem sS:(Tryz.prog.info? 212).map (·.size)=some 2:=by kernel_rfl
theorem tw:(Tryz.prog.info? 212).map (·.bytes)=some 32:=by kernel_rfl
theorem dH:(Tryz.prog.info? 212).map (·.zero)=some (some (.agg #[.string ByteArray.empty,.string ByteArray.empty])):=by kernel_rfl
theorem pC:iZ Tryz.prog 212=some [(0,1),(1,1)]:=by kernel_rfl
theorem zC:(Tryz.prog.info? 265).map (·.zero)=some (some (.agg #[.int .i64 0,.int .i64 0,.int .i64 0,.int .i64 0,.int .i64 0,.int .i64 0])):=by kernel_rfl
theorem MQ:iZ Tryz.prog 265=some [(0,1),(1,1),(2,1),(3,1),(4,1),(5,1)]:=by kernel_rfl
theorem wE:(Tryz.prog.info? 270).map (·.zero)=some (some (.agg #[.int .i64 0,.int .i64 0,.int .i64 0,.int .i64 0,.int .i64 0,.int .i64 0])):=by kernel_rfl
theorem HV:iZ Tryz.prog 270=some [(0,1),(1,1),(2,1),(3,1),(4,1),(5,1)]:=by kernel_rfl
theorem OH:(Tryz.prog.info? 283).map (·.zero)=some (some (.agg #[.int .i64 0,.int .i64 0,.int .i64 0,.int .i64 0,.int .i64 0,.int .i64 0,.int .i64 0])):=by kernel_rfl
end
section
theorem uj (f:Nat→CV) (off:Nat) (x:CV) (j:Nat):mo f off [x] j=if j=off then x else f j:=by
 rw [kD]
 by_cases h:j=off
 ·subst h;rw [if_pos (by simp),if_pos rfl,Nat.sub_self];rfl
 ·rw [if_neg (by simp;omega),if_neg h]
section
variable {P:Program} {G:Gh} {ops:Array Oper} {o:Oper} {s:AS} {r:List Oper} {K:AS→Prop} {t u:TypeId} {x y:Operand} {env:List (Nat×CV)} {b0:Nat→CV} {H:List (Option Nat×bp)}

theorem kg {gs:List Nat} {P:Program} {f:FuncId} {H:List (Option Nat×bp)} {args:List CV} {Q:CV→List (Option Nat×bp)→Prop} (j:Nat) {k n:Nat} {F:Nat→Nat→CV} (hj:fl args j=.rs k n F) (h:n≤9223372036854775807→AC gs P f H args Q):AC gs P f H args Q:=fun al w St F0 vals he hs hv=>by
 have h1:=hv j
 rw [hj] at h1
 obtain ⟨ao,cap,_,h2,h3,_⟩:=id h1
 exact h jO al w St F0 vals he hs hv
theorem ab.nilS' {n k:Nat} {f:Nat→Nat→CV} (h:n=0):ab (.c (.slice none 0 0)) (.rs k n f):=by subst h;exact ab.nilS k f
theorem Je {cs:List CV} {l2:List UInt8} (h:oE cs (l2.map fun c=>.c (.int .u8 (c.toNat:Nat)))):∀ j,j<l2.length→ab (fl cs j) (ft l2 j):=fun j hj=>by
 have:=dt h j hj
 rwa [Nat.zero_add] at this
theorem Ge (op:BinOp) (t:TypeId) (x y:Operand) (a b:Option Addr) (n c n' c':Nat) (W:World):(eqGuard op t x y (.slice a n c) (.slice b n' c')).run P W=.ok () W:=by
 unfold eqGuard
 split <;> simp
theorem wt {e:TypeId} (ht:P.underlying t=some (.slice e)) (a:Option Addr) (n c:Nat) (W:World):(Op.equal t (.slice a n c) (.slice none 0 0)).run P W=.ok a.isNone W:=by
 show (Op.equalIn 10000 t (.slice a n c) (.slice none 0 0)).run P W=_
 rw [show (10000:Nat)=9999+1 from rfl,Op.equalIn]
 cases a <;> simp only [underlying,Sem.run_bind,run_program,Result.andThen_ok,ht,Sem.run_pure] <;> rfl
theorem ou {e:TypeId} (ho:o.op=.binOp .eql t x y u) {a:Act} {ao:Option Addr} {n c:Nat} (hx:a.eval x=.slice ao n c) (hy:a.eval y=.slice none 0 0) (ht:P.underlying t=some (.slice e)) (W:World):(execOp a.eval o).run P W=.ok (.value (.bool ao.isNone)) W:=by
 simp only [execOp,ho,hx,hy]
 refine oI ?_
 simp [Ge,binOp,wt ht]
theorem Li {e:TypeId} {i off n k:Nat} {g:Option Nat} (ho:o.op=.binOp .eql t x y u) (hx:s.eval x=.os i g off n k) (hy:s.eval y=.c (.slice none 0 0)) (ht:P.underlying t=some (.slice e)):cq P G o s (.c (.bool g.isNone)):=fun St a w h=>by
 have he:=ka h hx
 cases g with
 | none=>exact ⟨_,fun W _=>ou ho he.2 (ov h hy) ht W,rfl⟩
 | some b=>obtain ⟨cap,e0,_⟩:=he;exact ⟨_,fun W _=>ou ho e0 (ov h hy) ht W,rfl⟩
theorem wS {e:TypeId} {k n d:Nat} {f:Nat→Nat→CV} (hw:be G ops o ⟨env,b0,H⟩ true) (ho:o.op=.binOp .eql t x y u) (hx:(⟨env,b0,H⟩:AS).eval x=.rs k n f) (hy:(⟨env,b0,H⟩:AS).eval y=.c (.slice none 0 0)) (ht:P.underlying t=some (.slice e)) (hd:o.dst=some d) (hN:Nat.blt d G.N=true)
  (h1:n=0→cV P G ops r ⟨(d,.c (.bool true))::env,b0,H⟩ K) (h2:cV P G ops r ⟨(d,.c (.bool false))::env,b0,H⟩ K):cV P G ops (o::r) ⟨env,b0,H⟩ K:=fun a w ⟨St,hr⟩ Q hQ=>by
 unfold lQ
 rw [if_pos (hw St a w hr)]
 obtain ⟨ao,cap,e0,h3,h4,h5,h6⟩:=ka hr hx
 refine .inl ?_
 unfold Oper.wp
 rw [ou ho e0 (ov hr hy) ht w]
 have put:∀ b:Bool,aC G St ⟨(d,.c (.bool b))::env,b0,H⟩ (a.put o.dst (.bool b)) w:=fun b=>by
  have:=hr.put (dst:=o.dst) (v:=.c (.bool b)) (x:=.bool b) (ef (kW hd hN)) rfl
  rwa [hd] at this ⊢
 cases ao with
 | none=>exact h1 (by have:=h5 rfl;omega) _ _ ⟨St,put true⟩ Q hQ
 | some ad=>exact h2 _ _ ⟨St,put false⟩ Q hQ

theorem gP (d:Nat) {i n N:Nat} {g:Option Nat} {cs:List CV} (l:List UInt8) (hl:look s.env s.b d=.os i g 0 n 1) (hH:s.H[i]?=some (g,.frz N (fl cs))) (hn:n=l.length) (hN:Nat.ble n N=true) (he:oE cs (l.map fun c=>.c (.int .u8 (c.toNat:Nat)))) :
  cU G s ⟨(d,bu l)::s.env,s.b,s.H⟩:=by
 subst hn
 have hN:=Nat.le_of_ble_eq_true hN
 exact eP d (fun a _=>ft l a) hl hH jO (fun a b ha hb=>by
  have:=dt he a ha
  rwa [show 0+(a * 1+b)=0+a by omega])
theorem mr (d:Nat) {i n N:Nat} {g:Option Nat} {F:Nat→CV} (l:List Int) (hl:look s.env s.b d=.os i g 0 n 1) (hH:s.H[i]?=some (g,.frz N F)) (hn:n=l.length) (hN:Nat.ble n N=true) (he:∀ j,j<l.length→ab (F j) (kQ l j)) :
  cU G s ⟨(d,wl l)::s.env,s.b,s.H⟩:=by
 subst hn
 have hN:=Nat.le_of_ble_eq_true hN
 exact eP d (fun a _=>kQ l a) hl hH jO (fun a b ha hb=>by
  have:=he a ha
  rwa [show 0+(a * 1+b)=a by omega])
def Do:IntKind→Bool|.i8=>false|_=>true
theorem BT {k:IntKind} (h:Do k=true) {z:Int} (h0:0≤z) (h1:z<256):k.wrap z=z:=by
 cases k <;> first|(simp [Do] at h;done)|(refine gx ?_;show _∧_;omega)
theorem HN {c:UInt8} {k':IntKind} {d:TypeDesc} (ho:o.op=.convert t u x) (hx:s.eval x=.c (.int .u8 ((c.toNat:Nat):Int))) (h1:P.underlying t=some d) (h2:P.underlying u=some (.int k')) (hk:Do k'=true):cq P G o s (.c (.int k' ((c.toNat:Nat):Int))) :=
 fH ho hx h1 h2 _ (BT hk jO (by have:=c.toNat_lt;omega))
theorem Ju {e:TypeId} {z:Value} {n c k by_ d:Nat} {kn kc:IntKind} {zn zc:Int} {F:Nat→CV} (ho:o.op=.makeSlice t x y) (hx:(⟨env,b0,H⟩:AS).eval x=.c (.int kn zn)) (hy:(⟨env,b0,H⟩:AS).eval y=.c (.int kc zc)) (hn:zn=(n:Int)) (hc:zc=(c:Int)) (hnc:n≤c) (h1:P.underlying t=some (.slice e)) (h5:(P.info? e).map (·.size)=some k) (hz:(P.info? e).map (·.zero)=some (some z)) (hby:(P.info? e).map (·.bytes)=some by_)
  (h48:c * by_≤140737488355328) (h63:c≤9223372036854775807) (hF:∀ j,j<n * k→ab (.c (z.cells[j % z.cells.size]!)) (F j)) (hd:o.dst=some d) (hN:Nat.blt d G.N=true)
  (hK:∀ g,K ⟨(d,.os H.length g 0 n k)::env,b0,H++[(g,.blk (n * k) F)]⟩):lb P G o ⟨env,b0,H⟩ K :=
 lb.new (kW hd hN) (fun g=>.os H.length g 0 n k) (fun St a w hr=>by
  obtain ⟨info,hi,h6⟩:=Option.map_eq_some_iff.1 h5
  obtain ⟨info',hi',hz⟩:=Option.map_eq_some_iff.1 hz
  obtain rfl:=Option.some.inj (hi.symm.trans hi')
  obtain ⟨info',hi',hby⟩:=Option.map_eq_some_iff.1 hby
  obtain rfl:=Option.some.inj (hi.symm.trans hi')
  subst hn hc
  have hb':(info.bytes:Int) * (c:Int)≤281474976710656:=by
   have h:((info.bytes * c:Nat):Int)≤281474976710656:=by rw [Nat.mul_comm,hby];omega
   rwa [Int.natCast_mul] at h
  have hr':=run_make (P:=P) w t e info z h1 hi hz kn kc n c jO jO hb' jO
  simp only [Int.toNat_natCast] at hr'
  have hsz:(madeCells z.cells (c * info.size)).size=c * k:=by rw [h6];simp [madeCells]
  refine ⟨w.alloc (.cells (madeCells z.cells (c * info.size)) e),w.heap.size,_,e,.slice (some ⟨w.heap.size,0,none⟩) n c,?_,fu w _,Nat.le_refl _,heap_alloc_new w _,?_,fun j hj=>?_,c,rfl,hnc,h63,_,e,(0,0),heap_alloc_new w _,?_⟩
  ·simp only [execOp,ho,ov hr hx,ov hr hy]
   exact oI hr'
  ·rw [hsz];exact Nat.mul_le_mul_right _ hnc
  ·refine hF j hj _ _ _ _ ?_
   have hj2:j<c * k:=Nat.lt_of_lt_of_le hj (Nat.mul_le_mul_right _ hnc)
   show _=_
   rw [h6]
   simp [madeCells,hj2]
  ·rw [hsz];omega) (fun g=>by rw [dU hd];exact hK g)
end
end
section
section
variable {P:Program} {G:Gh} {ops:Array Oper} {o:Oper} {s:AS} {r:List Oper} {K:AS→Prop} {t u:TypeId} {x y:Operand} {env:List (Nat×CV)} {b0:Nat→CV} {H:List (Option Nat×bp)}
theorem Ji {ats:Array TypeId} (ho:o.op=.call ⟨.builtin .cap,#[x],ats⟩) {a:Act} {v:Value} {w:World} (h:(Builtin.cap_ ats o.type #[a.eval x]).run P w=.ok v w):(execOp a.eval o).run P w=.ok (.value v) w:=by
 simp [execOp,ho,resolve,invoke,builtin,h]
theorem DI {e:TypeId} (ho:o.op=.call ⟨.builtin .cap,#[x],#[t]⟩) (hx:s.eval x=.c (.slice none 0 0)) (h1:P.underlying t=some (.slice e)):cq P G o s (.c (.int .i64 0)):=fun St a w h =>
 ⟨_,fun W _=>Ji ho (v:=.int .i64 0) (by rw [ov h hx];simp [Builtin.cap_,underlying,h1,goInt]),rfl⟩
theorem E5 {e:TypeId} {m l v:Nat} {lo hi:Option Operand} (ho:o.op=.slice t x lo hi none) (hx:s.eval x=.c (.slice none 0 0)) (h1:P.underlying t=some (.slice e)) (h5:(P.info? e).map (·.size)=some m)
  (hl:Bd s 0 lo l) (hu:Bd s 0 hi v) (hlv:l≤v) (hvn:v≤0):cq P G o s (.c (.slice none 0 0)):=fun St a w h=>by
 obtain ⟨info,hi',hs⟩:=Option.map_eq_some_iff.1 h5
 have hl0:l=0:=by omega
 have hv0:v=0:=by omega
 subst hl0 hv0
 refine ⟨.slice none 0 0,fun W _=>kU ho ?_,rfl⟩
 rw [ov h hx]
 simp [Instr.sliceAt,Instr.slice,underlying,h1,kG h hl hu hlv hvn (Nat.le_refl _),sizeOf,typeInfo,hi']
theorem yu {e ty:TypeId} {info:TypeInfo} {z:Value} {n:Nat} {w:World} (h1:P.underlying t=some (.slice e)) (hu:P.underlying u=some (.int .i64)) (hi:P.info? e=some info) (hz:info.zero=some z) (hk:0<info.size) (hn:0<n) (h63:n≤9223372036854775807) (h48:n * info.bytes≤140737488355328) :
  (Builtin.append_ #[t,u] ty #[.slice none 0 0,.int .i64 (n:Nat)]).run P w=.ok (.slice (some ⟨w.heap.size,0,none⟩) n (grownCap w n 0 e)) (w.drew.alloc (.cells (#[]++Builtin.zeroCells z.cells n++Builtin.zeroCells z.cells (grownCap w n 0 e-n)) e)):=by
 have hw:IntKind.i64.wrap (n:Int)=(n:Int):=gx (k:=.i64) (by show _∧_;omega)
 have hneg:¬ ((n:Int)<0):=by omega
 have hb:¬ ((n:Int) * (info.bytes:Int)>2 ^ 48):=by
  have h:((n * info.bytes:Nat):Int)≤140737488355328:=by omega
  rw [Int.natCast_mul] at h;omega
 have hnot:¬ (0+n≤0):=by omega
 have hfit:=growslice_fits (need:=n) (old:=0) jO h48
 have h49:¬ (Builtin.nextslicecap n 0 * info.bytes>2 ^ 48):=by omega
 have h64:¬ (((n:Nat):Int)>IntKind.i64.max∧(true=true∨info.bytes=0)):=by simp [IntKind.max,IntKind.bits,IntKind.signed];omega
 have hch:(choose (.appendCap n 0 e)).run P w=.ok (grownCap w n 0 e) w.drew:=by simp [Question.forced,grownCap]
 have hns:¬ (n * info.size=0):=by have:=Nat.mul_pos hn hk;omega
 simp only [Builtin.append_,List.getElem?_toArray,List.getElem?_cons_zero,List.getElem?_cons_succ,underlying,Sem.run_bind,run_program,Result.andThen_ok,h1,hu,Sem.run_pure,sizeOf,typeInfo,hi,asInt,asIntOf,hw,if_neg hneg,if_neg hb,Int.toNat_natCast,Nat.zero_add,if_true,if_neg (show ¬ n≤0 by omega),zeroValue,Builtin.firstCells,Bool.not_true,Bool.false_eq_true,if_false,if_neg hns,newRow]
 rw [if_neg (by simp [IntKind.max,IntKind.bits,IntKind.signed];omega)]
 simp only [Sem.run_bind,run_program,Result.andThen_ok,Sem.run_pure,hi,hz,if_neg h49,hch,run_askRoom,run_newObj,World.alloc_eq,World.size_drew]
theorem Ot {e:TypeId} {z:Value} {n k by_ d:Nat} {zn:Int} {F:Nat→CV} (ho:o.op=.call ⟨.builtin .append,#[x,y],#[t,u]⟩) (hx:(⟨env,b0,H⟩:AS).eval x=.c (.slice none 0 0)) (hy:(⟨env,b0,H⟩:AS).eval y=.c (.int .i64 zn)) (hn:zn=(n:Int)) (hn0:0<n) (h1:P.underlying t=some (.slice e)) (hu:P.underlying u=some (.int .i64)) (h5:(P.info? e).map (·.size)=some k) (hk0:0<k) (hz:(P.info? e).map (·.zero)=some (some z)) (hby:(P.info? e).map (·.bytes)=some by_)
  (h48:n * by_≤140737488355328) (h63:n≤4611686018427387904) (hzk:z.cells.size=k) (hd:o.dst=some d) (hN:Nat.blt d G.N=true)
  (hK:∀ g,K ⟨(d,.os H.length g 0 n k)::env,b0,H++[(g,.blk 0 F)]⟩):lb P G o ⟨env,b0,H⟩ K :=
 lb.new (kW hd hN) (fun g=>.os H.length g 0 n k) (fun St a w hr=>by
  obtain ⟨info,hi,h6⟩:=Option.map_eq_some_iff.1 h5
  obtain ⟨info',hi',hz⟩:=Option.map_eq_some_iff.1 hz
  obtain rfl:=Option.some.inj (hi.symm.trans hi')
  obtain ⟨info',hi',hby⟩:=Option.map_eq_some_iff.1 hby
  obtain rfl:=Option.some.inj (hi.symm.trans hi')
  subst hn
  have hrun:=yu (P:=P) (t:=t) (u:=u) (ty:=o.type) (w:=w) h1 hu hi hz jO hn0 jO (by rw [hby];exact h48)
  have hgc:n≤grownCap w n 0 e∧grownCap w n 0 e≤9223372036854775807:=by
   have hlt:=Nat.mod_lt (w.tape w.drawn (.appendCap n 0 e)) (show 0<2 ^ 63-n by omega)
   simp only [grownCap,Question.cut]
   omega
  have hsz:(#[]++Builtin.zeroCells z.cells n++Builtin.zeroCells z.cells (grownCap w n 0 e-n)).size=grownCap w n 0 e * k:=by
   simp [Builtin.zeroCells,hzk]
   rw [← Nat.add_mul]
   congr 1
   omega
  have hargs:(#[x,y]:Array Operand).map a.eval=#[a.eval x,a.eval y]:=by simp
  refine ⟨w.drew.alloc (.cells (#[]++Builtin.zeroCells z.cells n++Builtin.zeroCells z.cells (grownCap w n 0 e-n)) e),w.heap.size,_,e,.slice (some ⟨w.heap.size,0,none⟩) n (grownCap w n 0 e),?_,di w _,Nat.le_refl _,heap_alloc_new w.drew _,Nat.zero_le _,fun j hj=>absurd hj (Nat.not_lt_zero j),grownCap w n 0 e,rfl,hgc.1,hgc.2,_,e,(0,0),heap_alloc_new w.drew _,?_⟩
  ·exact gu ho (by rw [hargs,ov hr hx,ov hr hy];exact hrun)
  ·rw [hsz];omega) (fun g=>by rw [dU hd];exact hK g)
end
theorem ab.nilE {n:Nat} (h:n=0):ab (.c .nilIface) (.err n):=by subst h;exact ab.nil
def BN (ls:List (List UInt8)):CV:=.rs 1 ls.length fun i _=>bu (ls.getD i [])
theorem GT {G:Gh} {s:AS} (d:Nat) {i n N:Nat} {g:Option Nat} {cs:List CV} (ls:List (List UInt8)) (hl:look s.env s.b d=.os i g 0 n 1) (hH:s.H[i]?=some (g,.frz N (fl cs))) (hn:n=ls.length) (hN:Nat.ble n N=true) (he:oE cs (ls.map bu)) :
  cU G s ⟨(d,BN ls)::s.env,s.b,s.H⟩:=by
 subst hn
 have hN:=Nat.le_of_ble_eq_true hN
 exact eP d (fun a _=>bu (ls.getD a [])) hl hH jO (fun a b ha hb=>by
  have:=(zb he).2 a
  rw [Jf (cs:=ls.map bu) (by simpa using ha)] at this
  obtain rfl:b=0:=by omega
  rw [show 0+(a * 1+0)=a by omega]
  simpa [List.getD,ha] using this)
def cm (ls:List (List UInt8)):Nat:=(ls.map List.length).sum
theorem qr (a b:List (List UInt8)):cm (a++b)=cm a+cm b:=by simp only [cm,List.map_append,List.sum_append]
theorem iV {ls:List (List UInt8)} {i:Nat} (h:i<ls.length):cm (ls.take (i+1))=cm (ls.take i)+(ls.getD i []).length:=by
 rw [List.take_succ_eq_append_getElem h,qr]
 simp only [cm,List.map_cons,List.map_nil,List.sum_cons,List.sum_nil,List.getD,List.getElem?_eq_getElem h,Option.getD_some,Nat.add_zero]
theorem oK (ls:List (List UInt8)) (i:Nat):cm (ls.take i)≤cm ls:=by
 have h:=qr (ls.take i) (ls.drop i)
 rw [List.take_append_drop] at h
 omega
theorem ia {ls:List (List UInt8)} {i:Nat} (h:i<ls.length):(ls.take (i+1)).flatten=(ls.take i).flatten++ls.getD i []:=by
 rw [List.take_succ_eq_append_getElem h,List.flatten_append,List.flatten_singleton]
 simp only [List.getD,List.getElem?_eq_getElem h,Option.getD_some]
theorem gt (ls:List (List UInt8)):ls.flatten.length=cm ls:=by simp [cm,List.length_flatten]
end
section
structure PX (al:List Addr) (St:Nat→Prop) (w:World) (F:Nat→Prop) (E:List (Option Nat×bp)) (fp:Nat→Nat→Prop):Prop where
 rep:∀ (i:Nat) (g:Option Nat) (r:bp),E[i]?=some (g,r)→r.rep al St w (fp i) g
 dis:∀ i j b,fp i b→fp j b→i=j
 out:∀ i,E.length≤i→∀ b,¬ fp i b
 all:∀ b,F b↔∃ i,fp i b
def NX {γ:Type} (gd:γ→Nat) (E:γ→List (Option Nat×bp)):OP where
 p al St w g F:=∃ x,gd x=g∧∃ fp,PX al St w F (E x) fp
 st:=fun he hs hF ⟨x,hx,fp,h⟩=>⟨x,hx,fp,fun i g r hi=>bp.rep_evo he hs (fun b hb=>hF b ((h.all b).2 ⟨i,hb⟩)) (h.rep i g r hi),h.dis,h.out,h.all⟩
def lZ {γ:Type} (g:Nat) (gd:γ→Nat) (E:γ→List (Option Nat×bp)):Option Nat×bp:=(some g,.obj (NX gd E))

theorem cH.pack {al:List Addr} {St:Nat→Prop} {w:World} {base:Nat} {F0:Nat→Prop} {γ:Type} {gd:γ→Nat} {E:γ→List (Option Nat×bp)} (x:γ) {B:List (Option Nat×bp)} (h:cH al St w base F0 (E x++B)):cH al St w base F0 (lZ (gd x) gd E::B):=by
 obtain ⟨fp,hp⟩:=h
 refine ⟨fun j b=>match j with|0=>∃ i,i<(E x).length∧fp i b|j+1=>fp ((E x).length+j) b,fun j g r hj=>?_,fun i j b hi hj=>?_,fun i b hi=>?_,fun i hi b hb=>?_⟩
 ·cases j with
  | zero =>
   simp only [lZ,List.getElem?_cons_zero,Option.some.injEq,Prod.mk.injEq] at hj
   obtain ⟨rfl,rfl⟩:=hj
   refine ⟨x,rfl,fun i b=>i<(E x).length∧fp i b,fun i g r hi=>?_,fun i j b hi hj=>hp.dis i j b hi.2 hj.2,fun i hi b hb=>by omega,fun b=>Iff.rfl⟩
   have hlt:=(List.getElem?_eq_some_iff.1 hi).1
   have e:(fun b=>i<(E x).length∧fp i b)=fp i:=funext fun b=>propext ⟨fun h=>h.2,fun h=>⟨hlt,h⟩⟩
   show r.rep al St w (fun b=>i<(E x).length∧fp i b) g
   rw [e]
   exact hp.rep i g r (by rw [List.getElem?_append_left hlt];exact hi)
  | succ j =>
   simp only [List.getElem?_cons_succ] at hj
   exact hp.rep _ g r (by rw [List.getElem?_append_right jO,Nat.add_sub_cancel_left];exact hj)
 ·cases i with
  | zero =>
   cases j with
   | zero=>rfl
   | succ j=>obtain ⟨k,hk,hf⟩:=hi;have:=hp.dis _ _ b hf hj;omega
  | succ i =>
   cases j with
   | zero=>obtain ⟨k,hk,hf⟩:=hj;have:=hp.dis _ _ b hf hi;omega
   | succ j=>have:=hp.dis _ _ b hi hj;omega
 ·cases i with
  | zero=>obtain ⟨k,hk,hf⟩:=hi;exact hp.own _ b hf
  | succ i=>exact hp.own _ b hi
 ·cases i with
  | zero=>simp at hi
  | succ i=>exact hp.out _ (by simp at hi ⊢;omega) b hb
theorem cH.unpack {al:List Addr} {St:Nat→Prop} {w:World} {base:Nat} {F0:Nat→Prop} {γ:Type} {gd:γ→Nat} {e0:γ→Option Nat×bp} {tl:γ→List (Option Nat×bp)} {H:List (Option Nat×bp)} {i g:Nat} (hH:H[i]?=some (lZ g gd fun x=>e0 x::tl x)) (h:cH al St w base F0 H) :
  ∃ x,gd x=g∧cH al St w base F0 (H.set i (e0 x)++tl x):=by
 obtain ⟨fp,hp⟩:=h
 have hlt:=(List.getElem?_eq_some_iff.1 hH).1
 obtain ⟨x,hx,fe,he⟩:=hp.rep i _ _ hH
 refine ⟨x,hx,fun j b=>if j<H.length then (if j=i then fe 0 b else fp j b) else fe (j-H.length+1) b,fun j q r hj=>?_,fun j k b hj hk=>?_,fun j b hj=>?_,fun j hj b hb=>?_⟩
 ·by_cases h1:j<H.length
  ·rw [List.getElem?_append_left (by simpa using h1)] at hj
   by_cases h2:j=i
   ·subst h2
    simp [h1] at hj
    simp only [h1,if_true]
    exact he.rep 0 q r (by simp [hj])
   ·rw [List.getElem?_set_ne (Ne.symm h2)] at hj
    simp only [h1,h2,if_true,if_false]
    exact hp.rep j q r hj
  ·rw [List.getElem?_append_right (by simp;omega)] at hj
   simp only [h1,if_false]
   refine he.rep (j-H.length+1) q r ?_
   simpa using hj
 ·have kQ:∀ q b,fe q b→fp i b:=fun q b hq=>(he.all b).2 ⟨q,hq⟩
  by_cases h1:j<H.length <;> by_cases h2:k<H.length <;> simp only [h1,h2,if_true,if_false] at hj hk
  ·by_cases h3:j=i <;> by_cases h4:k=i <;> simp only [h3,h4,if_true,if_false] at hj hk
   ·omega
   ·exact absurd (hp.dis _ _ b (kQ _ _ hj) hk).symm h4
   ·exact absurd (hp.dis _ _ b hj (kQ _ _ hk)) h3
   ·exact hp.dis _ _ b hj hk
  ·by_cases h3:j=i <;> simp only [h3,if_true,if_false] at hj
   ·have:=he.dis _ _ b hj hk;omega
   ·exact absurd (hp.dis _ _ b hj (kQ _ _ hk)) h3
  ·by_cases h4:k=i <;> simp only [h4,if_true,if_false] at hk
   ·have:=he.dis _ _ b hj hk;omega
   ·exact absurd (hp.dis _ _ b hk (kQ _ _ hj)) h4
  ·have:=he.dis _ _ b hj hk;omega
 ·have kQ:∀ q b,fe q b→fp i b:=fun q b hq=>(he.all b).2 ⟨q,hq⟩
  by_cases h1:j<H.length <;> simp only [h1,if_true,if_false] at hj
  ·by_cases h3:j=i <;> simp only [h3,if_true,if_false] at hj
   ·exact hp.own i b (kQ _ _ hj)
   ·exact hp.own j b hj
  ·exact hp.own i b (kQ _ _ hj)
 ·have h1:¬ j<H.length:=by simp at hj;omega
  simp only [h1,if_false] at hb
  exact he.out _ (by simp at hj ⊢;omega) b hb
section
variable {P:Program} {G:Gh} {ops:Array Oper} {s:AS} {K:AS→Prop} {c:Code} {R:Exit→AS→Prop} {γ:Type} {gd:γ→Nat} {e0:γ→Option Nat×bp} {tl:γ→List (Option Nat×bp)}
theorem cU.hrel {H':List (Option Nat×bp)} (h:∀ {al St w base F0},cH al St w base F0 s.H→cH al St w base F0 H'):cU G s ⟨s.env,s.b,H'⟩:=fun St _ _ hr =>
 ⟨St,fun _ h=>h,hr.df,hr.sz,hr.env,hr.un,hr.s1,hr.s2,hr.s3,h hr.hp,hr.sn,hr.sg⟩
theorem dB {H':List (Option Nat×bp)} (l:List Nat) (hl:l.Nodup) (hH:gZ s.H l=H'):cU G s ⟨s.env,s.b,H'⟩:=cU.hrel fun h=>h.pick l hl hH
theorem zJ {i g:Nat} (hH:s.H[i]?=some (lZ g gd fun x=>e0 x::tl x)) {St:Nat→Prop} {a:Act} {w:World} (hr:aC G St s a w):∃ x,gd x=g∧aC G St ⟨s.env,s.b,s.H.set i (e0 x)++tl x⟩ a w:=by
 obtain ⟨x,hx,h2⟩:=hr.hp.unpack hH
 exact ⟨x,hx,hr.df,hr.sz,hr.env,hr.un,hr.s1,hr.s2,hr.s3,h2,hr.sn,hr.sg⟩
theorem Ew {i g:Nat} (hH:s.H[i]?=some (lZ g gd fun x=>e0 x::tl x)) {a:Act} {w:World} (h:wd G s a w):∃ x,gd x=g∧wd G ⟨s.env,s.b,s.H.set i (e0 x)++tl x⟩ a w:=by
 obtain ⟨St,hr⟩:=h
 obtain ⟨x,hx,h2⟩:=zJ hH hr
 exact ⟨x,hx,St,h2⟩
theorem oz (i:Nat) {g:Nat} (hH:s.H[i]?=some (lZ g gd fun x=>e0 x::tl x)) (h:∀ x,gd x=g→bj P G c ⟨s.env,s.b,s.H.set i (e0 x)++tl x⟩ R):bj P G c s R:=fun a w hr Q hQ=>by
 obtain ⟨x,hx,h2⟩:=Ew hH hr
 exact h x hx a w h2 Q hQ
end
end
section
theorem cH.weak {al:List Addr} {St:Nat→Prop} {w:World} {base:Nat} {F0:Nat→Prop} {H:List (Option Nat×bp)} {i n m:Nat} {g:Option Nat} {f F:Nat→CV} (hi:H[i]?=some (g,.blk n f)) (hm:m≤n) (hF:∀ j,j<m→ab (f j) (F j)) (h:cH al St w base F0 H):cH al St w base F0 (H.set i (g,.blk m F)):=by
 obtain ⟨fp,hp⟩:=h
 have hlt:=(List.getElem?_eq_some_iff.1 hi).1
 refine ⟨fp,fun j q r hj=>?_,hp.dis,hp.own,fun j hj=>hp.out j (by simpa using hj)⟩
 by_cases e:j=i
 ·subst e
  simp [hlt] at hj
  obtain ⟨rfl,rfl⟩:=hj
  have:=hp.rep j g _ hi
  cases g with
  | none=>exact ⟨by have:=this.1;omega,this.2⟩
  | some g =>
   obtain ⟨h0,cur,t,h1,h2,h3⟩:=this
   exact ⟨h0,cur,t,h1,by omega,fun a ha=>hF a ha _ _ _ _ (h3 a jO)⟩
 ·rw [List.getElem?_set_ne (Ne.symm e)] at hj
  exact hp.rep j q r hj
def qR (H:List (Option Nat×bp)) (js:List Nat):List (Option Nat×bp):=js.foldl (fun H j=>H.set j (none,.dead)) H
theorem sq:∀ (js:List Nat) (H:List (Option Nat×bp)),(qR H js).length=H.length
 | [],_=>rfl
 | j::js,H=>by
  have:=sq js (H.set j (none,.dead))
  rw [List.length_set] at this
  exact this
theorem AW:∀ (js:List Nat) (H:List (Option Nat×bp)) (q:Nat),q<H.length→(qR H js)[q]?=if q ∈ js then some (none,.dead) else H[q]?
 | [],_,_,_=>by simp [qR]
 | j::js,H,q,hq=>by
  have:=AW js (H.set j (none,.dead)) q (by simpa using hq)
  show (qR (H.set j (none,.dead)) js)[q]?=_
  rw [this]
  by_cases h1:q ∈ js
  ·rw [if_pos h1,if_pos (List.mem_cons_of_mem _ h1)]
  ·rw [if_neg h1]
   by_cases h2:q=j
   ·subst h2
    rw [if_pos List.mem_cons_self]
    simp [hq]
   ·rw [if_neg (by simp [h1,h2]),List.getElem?_set_ne (Ne.symm h2)]
theorem cH.closeN {al:List Addr} {St:Nat→Prop} {w:World} {base:Nat} {F0:Nat→Prop} {γ:Type} {gd:γ→Nat} {E:γ→List (Option Nat×bp)} {H:List (Option Nat×bp)} (x:γ) (i:Nat) (js:List Nat) (hnd:(i::js).Nodup) (hlt:∀ j ∈ i::js,j<H.length) (hE:gZ H (i::js)=E x) (h:cH al St w base F0 H) :
  cH al St w base F0 (qR (H.set i (lZ (gd x) gd E)) js):=by
 obtain ⟨fp,hp⟩:=h
 have hi:i<H.length:=hlt i List.mem_cons_self
 have hij:i ∉ js:=(List.nodup_cons.1 hnd).1
 refine ⟨fun q b=>if q=i then ∃ p:Nat,∃ j,(i::js)[p]?=some j∧fp j b else if q ∈ js then False else fp q b,fun q g r hq=>?_,fun p q b h1 h2=>?_,fun q b hq=>?_,fun q hq b hb=>?_⟩
 ·have hql:q<H.length:=by
   have:=(List.getElem?_eq_some_iff.1 hq).1
   rwa [sq,List.length_set] at this
  rw [AW _ _ _ (by simpa using hql)] at hq
  by_cases e:q=i
  ·subst e
   rw [if_neg hij] at hq
   simp [hi] at hq
   obtain ⟨rfl,rfl⟩:=hq
   simp only [if_true]
   refine ⟨x,rfl,fun p b=>∃ j,(q::js)[p]?=some j∧fp j b,fun p g r hp1=>?_,fun p1 p2 b h1 h2=>?_,fun p hp1 b hb=>?_,fun b=>Iff.rfl⟩
   ·rw [← hE,gZ,List.getElem?_map,Option.map_eq_some_iff] at hp1
    obtain ⟨j,hj,he⟩:=hp1
    have hjl:=hlt j (List.mem_of_getElem? hj)
    have e:(fun b=>∃ j,(q::js)[p]?=some j∧fp j b)=fp j:=funext fun b=>propext ⟨fun ⟨j',h1,h2⟩=>by rw [hj] at h1;cases h1;exact h2,fun h=>⟨j,hj,h⟩⟩
    show r.rep al St w (fun b=>∃ j,(q::js)[p]?=some j∧fp j b) g
    rw [e]
    refine hp.rep j g r ?_
    rw [List.getElem?_eq_getElem hjl]
    simpa [List.getD,hjl] using he
   ·obtain ⟨j1,a1,b1⟩:=h1
    obtain ⟨j2,a2,b2⟩:=h2
    have:=hp.dis _ _ b b1 b2
    subst this
    exact (List.getElem?_inj (List.getElem?_eq_some_iff.1 a1).1 hnd).1 (a1.trans a2.symm)
   ·obtain ⟨j,a,_⟩:=hb
    have:=(List.getElem?_eq_some_iff.1 a).1
    rw [← hE] at hp1
    simp only [gZ,List.length_map] at hp1
    omega
  ·by_cases e2:q ∈ js
   ·rw [if_pos e2] at hq
    cases hq
    simp only [e,e2,if_true,if_false]
    exact fun b hb=>hb
   ·rw [if_neg e2,List.getElem?_set_ne (Ne.symm e)] at hq
    simp only [e,e2,if_false]
    exact hp.rep q g r hq
 ·have mem:∀ {b:Nat},(∃ p:Nat,∃ j,(i::js)[p]?=some j∧fp j b)→∃ j,j ∈ i::js∧fp j b:=fun ⟨p,j,h1,h2⟩=>⟨j,List.mem_of_getElem? h1,h2⟩
  by_cases e1:p=i <;> by_cases e2:q=i
  ·rw [e1,e2]
  ·simp only [e1,e2,if_true,if_false] at h1 h2
   by_cases e3:q ∈ js
   ·simp only [e3,if_true] at h2
   ·simp only [e3,if_false] at h2
    obtain ⟨j,hj,hb⟩:=mem h1
    have:=hp.dis _ _ b hb h2
    subst this
    rcases List.mem_cons.1 hj with h|h
    ·exact absurd h e2
    ·exact absurd h e3
  ·simp only [e1,e2,if_true,if_false] at h1 h2
   by_cases e3:p ∈ js
   ·simp only [e3,if_true] at h1
   ·simp only [e3,if_false] at h1
    obtain ⟨j,hj,hb⟩:=mem h2
    have:=hp.dis _ _ b hb h1
    subst this
    rcases List.mem_cons.1 hj with h|h
    ·exact absurd h e1
    ·exact absurd h e3
  ·simp only [e1,e2,if_false] at h1 h2
   by_cases e3:p ∈ js
   ·simp only [e3,if_true] at h1
   ·by_cases e4:q ∈ js
    ·simp only [e4,if_true] at h2
    ·simp only [e3,e4,if_false] at h1 h2
     exact hp.dis _ _ b h1 h2
 ·by_cases e1:q=i
  ·simp only [e1,if_true] at hq
   obtain ⟨p,j,_,hb⟩:=hq
   exact hp.own _ b hb
  ·by_cases e2:q ∈ js
   ·simp only [e1,e2,if_true,if_false] at hq
   ·simp only [e1,e2,if_false] at hq
    exact hp.own _ b hq
 ·rw [sq,List.length_set] at hq
  have e1:q≠i:=by omega
  by_cases e2:q ∈ js
  ·simp only [e1,e2,if_true,if_false] at hb
  ·simp only [e1,e2,if_false] at hb
   exact hp.out q hq b hb
section
variable {P:Program} {G:Gh} {ops:Array Oper} {s:AS} {K:AS→Prop} {c:Code} {R:Exit→AS→Prop} {γ:Type} {gd:γ→Nat}
theorem nl (i m:Nat) (F:Nat→CV) {n:Nat} {g:Option Nat} {f:Nat→CV} (hi:s.H[i]?=some (g,.blk n f)) (hm:m≤n) (hF:∀ j,j<m→ab (f j) (F j)):cU G s ⟨s.env,s.b,s.H.set i (g,.blk m F)⟩:=cU.hrel fun h=>h.weak hi hm hF
theorem closeN {E:γ→List (Option Nat×bp)} (x:γ) (i:Nat) (js:List Nat) (hnd:(i::js).Nodup) (hlt:∀ j ∈ i::js,j<s.H.length) (hE:gZ s.H (i::js)=E x):cU G s ⟨s.env,s.b,qR (s.H.set i (lZ (gd x) gd E)) js⟩:=cU.hrel fun h=>h.closeN x i js hnd hlt hE
theorem dE {fn:Func} {Q:CV→List (Option Nat×bp)→Prop} {e:Exit} {γ:Type} {gd:γ→Nat} {E:γ→List (Option Nat×bp)} (he:e=.ret∨e=.normal) (v:CV) (z:γ) (l:List Nat) (hl:l.Nodup) (hH:gZ s.H l=E z++[]) (hres:kt P G fn s v) (hq:Q v [lZ (gd z) gd E]):k7 P G fn Q e s:=by
 have h:∃ r H',kt P G fn s r∧Q r H'∧∀ St a w,aC G St s a w→cH G.al St w G.w0.heap.size G.F0 H':=⟨v,_,hres,hq,fun _ _ _ hr=>(hr.hp.pick l hl hH).pack z⟩
 rcases he with rfl|rfl <;> exact h
theorem ib {fn:Func} {e:Exit} {γ:Type} {gd:γ→Nat} {E:γ→List (Option Nat×bp)} {v m:CV} (he:e=.ret∨e=.normal) (z:γ) (l:List Nat) (hl:l.Nodup) (hH:gZ s.H l=E z++[]) (hres:kt P G fn s v) (hv:ab v m):k7 P G fn (fun r H'=>r=m∧H'=[lZ (gd z) gd E]) e s:=dE he m z l hl hH (hres.ent hv) ⟨rfl,rfl⟩
theorem kZ {P:Program} {G:Gh} {c:Code} {s:AS} {R:Exit→AS→Prop} {φ:Prop} (hφ:∀ a w,wd G s a w→φ) (h:φ→bj P G c s R):bj P G c s R:=fun a w hr Q hQ=>h (hφ a w hr) a w hr Q hQ
theorem tW {G:Gh} {s:AS} (d:Nat) {i off:Nat} {g:Option Nat} (hl:look s.env s.b d=.op i g off):∀ a w,wd G s a w→∃ n,g=some n:=fun a w ⟨St,hr⟩=>by
 have:=ka hr (x:=.tmp d) hl
 obtain ⟨b,hb,_⟩:=this
 exact ⟨b,hb⟩
theorem bo {fn:Func} {Q:CV→List (Option Nat×bp)→Prop} {e:Exit} {v m:CV} {H':List (Option Nat×bp)} (he:e=.ret∨e=.normal) (l:List Nat) (hl:l.Nodup) (hH:gZ s.H l=H') (hres:kt P G fn s v) (hv:ab v m) (hq:Q m H'):k7 P G fn Q e s:=bQ he m H' l hl hH (hres.ent hv) hq
theorem ba {fn:Func} {e:Exit} {v m:CV} {x:Option Nat×bp} (he:e=.ret∨e=.normal) (hH:s.H[0]?=some x) (hres:kt P G fn s v) (hv:ab v m):k7 P G fn (fun r H'=>r=m∧H'=[x]) e s :=
 bQ he m [x] [0] jD (by simp [gZ,List.getD,hH]) (hres.ent hv) ⟨rfl,rfl⟩
end
end
end Am
end Go.Proofs.YthlpfjnkieaeeaaGreatDoor
