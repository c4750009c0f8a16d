/- What the law leans on, part 3: Am7, Am8, Am9, Ty, AmA, AmB, AmC, AmK -/
import Derived.Test.YtghminnpfnkbjaaGreatDoorM2RequestRead
import Derived.Laws.StructEq

set_option maxRecDepth 100000
namespace Go.Proofs.YtghminnpfnkbjaaGreatDoor
set_option linter.unusedVariables false
namespace Am
open Go.RowKit
section
variable {P:Program} {G:Gh} {ops:Array Oper} {o:Oper} {s:AS} {K:AS→Prop} {t u:TypeId} {x y:Operand} {k:IntKind}

theorem sK {ats:Array TypeId} (ho:o.op=.call ⟨.builtin .len,#[x],ats⟩) {a:Act} {v:Value} {w:World} (h:(Builtin.len_ ats o.type #[a.eval x]).run P w=.ok v w):(execOp a.eval o).run P w=.ok (.value v) w:=by
 simp [execOp,ho,resolve,invoke,builtin,h]
theorem QK {e:TypeId} {m n:Nat} {f:Nat→Nat→CV} (ho:o.op=.call ⟨.builtin .len,#[x],#[t]⟩) (hx:s.eval x=.rs m n f) (h1:P.underlying t=some (.slice e)):ci P G o s (.c (.int .i64 (n:Nat))):=fun St a w h=>by
 obtain ⟨ao,cap,e0,_⟩:=ji h hx
 exact ⟨_,fun W _=>sK ho (v:=.int .i64 (n:Nat)) (by rw [e0];simp [Builtin.len_,underlying,h1,goInt]),rfl⟩
theorem QL {e:TypeId} {i off m n:Nat} {g:Option Nat} (ho:o.op=.call ⟨.builtin .len,#[x],#[t]⟩) (hx:s.eval x=.os i g off n m) (h1:P.underlying t=some (.slice e)):ci P G o s (.c (.int .i64 (n:Nat))):=fun St a w h=>by
 obtain ⟨ao,cap,e0⟩:∃ ao cap,a.eval x=.slice ao n cap:=by
  have he:=ji h hx
  cases g with
  | none=>exact ⟨none,0,by rw [he.2,he.1]⟩
  | some b=>obtain ⟨cap,e0,_⟩:=he;exact ⟨_,cap,e0⟩
 exact ⟨_,fun W _=>sK ho (v:=.int .i64 (n:Nat)) (by rw [e0];simp [Builtin.len_,underlying,h1,goInt]),rfl⟩
theorem QJ {l:ByteArray} (ho:o.op=.call ⟨.builtin .len,#[x],#[t]⟩) (hx:s.eval x=.c (.string l)) (h1:P.underlying t=some .string):ci P G o s (.c (.int .i64 (l.size:Nat))):=fun St a w h =>
 ⟨_,fun W _=>sK ho (v:=.int .i64 (l.size:Nat)) (by rw [kM h hx];simp [Builtin.len_,underlying,h1,goInt]),rfl⟩
theorem QM {e:TypeId} (ho:o.op=.call ⟨.builtin .len,#[x],#[t]⟩) (hx:s.eval x=.c (.slice none 0 0)) (h1:P.underlying t=some (.slice e)):ci P G o s (.c (.int .i64 0)):=fun St a w h =>
 ⟨_,fun W _=>sK ho (v:=.int .i64 0) (by rw [kM h hx];simp [Builtin.len_,underlying,h1,goInt]),rfl⟩

theorem Gm {p q:Int} {ats:Array TypeId} (ho:o.op=.call ⟨.builtin .max,#[x,y],ats⟩) (hx:s.eval x=.c (.int k p)) (hy:s.eval y=.c (.int k q)):ci P G o s (.c (.int k (max p q))):=fun St a w h =>
 ⟨_,fun W _=>by
  have e:max p q=if q>p then q else p:=by split <;> omega
  simp [execOp,ho,resolve,invoke,builtin,kM h hx,kM h hy,Builtin.max_,Builtin.max2]
  rw [e],rfl⟩
theorem QH {p q:Int} {ats:Array TypeId} (ho:o.op=.call ⟨.builtin .min,#[x,y],ats⟩) (hx:s.eval x=.c (.int k p)) (hy:s.eval y=.c (.int k q)):ci P G o s (.c (.int k (min p q))):=fun St a w h =>
 ⟨_,fun W _=>by
  have e:min p q=if q<p then q else p:=by split <;> omega
  simp [execOp,ho,resolve,invoke,builtin,kM h hx,kM h hy,Builtin.min_,Builtin.min2]
  rw [e],rfl⟩

def Bd (s:AS) (d:Nat):Option Operand→Nat→Prop
 | none,n=>n=d
 | some x,n=>∃ (k:IntKind) (z:Int),s.eval x=.c (.int k z)∧z=(n:Int)
theorem bG (s:AS) (d:Nat):Bd s d none d:=rfl
theorem cw {d n:Nat} {z:Int} (hx:s.eval x=.c (.int k z)) (hz:z=(n:Int)):Bd s d (some x) n:=⟨k,z,hx,hz⟩

theorem iC {St:Nat→Prop} {a:Act} {w:World} (h:az G St s a w) {lo hi:Option Operand} {l u n cap:Nat} (h1:Bd s 0 lo l) (h2:Bd s n hi u) (hlu:l≤u) (hu:u≤n) (hn:n≤cap) (is:Bool) (W:World) :
  (Instr.sliceBounds is n cap (lo.map a.eval) (hi.map a.eval) none).run P W=.ok (l,u,cap) W:=by
 have hb:∀ (x:Operand) (k:IntKind) (z:Int) (m y:Nat) (code:BoundsCode),s.eval x=.c (.int k z)→z=(m:Int)→m≤y→(Instr.sliceBound (a.eval x) y code).run P W=.ok m W:=fun x k z m y code hx hz hm=>by
  rw [kM h hx,hz]
  simp [Instr.sliceBound,asIntOf,hm]
 cases lo with
 | none =>
  have h1:l=0:=h1
  subst h1
  cases hi with
  | none=>have h2:u=n:=h2;subst h2;simp [Instr.sliceBounds]
  | some y=>obtain ⟨k,z,hy,hz⟩:=h2;simp [Instr.sliceBounds,hb y k z u cap _ hy hz O]
 | some x =>
  obtain ⟨k1,z1,hx,hz1⟩:=h1
  cases hi with
  | none=>have h2:u=n:=h2;subst h2;simp [Instr.sliceBounds,hb x k1 z1 l u _ hx hz1 hlu]
  | some y=>obtain ⟨k,z,hy,hz⟩:=h2;simp [Instr.sliceBounds,hb y k z u cap _ hy hz O,hb x k1 z1 l u _ hx hz1 hlu]

theorem iH {lo hi:Option Operand} (ho:o.op=.slice t x lo hi none) {a:Act} {v:Value} {w:World} (h:(Instr.sliceAt t (a.eval x) (lo.map a.eval) (hi.map a.eval) none).run P w=.ok v w):(execOp a.eval o).run P w=.ok (.value v) w:=by
 simp only [execOp,ho]
 exact lY h

theorem pS {e:TypeId} {m n l v:Nat} {f:Nat→Nat→CV} {lo hi:Option Operand} (ho:o.op=.slice t x lo hi none) (hx:s.eval x=.rs m n f) (h1:P.underlying t=some (.slice e)) (h5:(P.info? e).map (·.size)=some m)
  (hl:Bd s 0 lo l) (hu:Bd s n hi v) (hlv:l≤v) (hvn:v≤n):ci P G o s (.rs m (v-l) fun i j=>f (l+i) j):=fun St a w h=>by
 obtain ⟨info,hi',hs⟩:=YM.1 h5
 obtain ⟨ao,cap,e0,h2,h3,h4,h6⟩:=ji h hx
 refine ⟨.slice (if cap=l then ao else ao.map (·.add (l * m))) (v-l) (cap-l),fun W _=>iH ho ?_,_,_,rfl,by omega,by omega,fun hn=>?_,fun ad had hn=>?_⟩
 ·rw [e0]
  simp [Instr.sliceAt,Instr.slice,underlying,h1,iC h hl hu hlv hvn h2,sizeOf,typeInfo,hi',hs]
 ·split at hn
  ·have:=h4 hn;omega
  ·have:ao=none:=by simpa using hn
   have:=h4 this;omega
 ·have hne:¬ cap=l:=by omega
  rw [YE hne] at had
  obtain ⟨ad0,rfl,rfl⟩:=YM.1 had
  obtain ⟨h7,h8,h9⟩:=h6 ad0 rfl O
  obtain ⟨b,q,sp⟩:=ad0
  simp only at h7 h8 h9
  subst h7
  rw [f9]
  refine ⟨rfl,h8,fun i j hi2 hj=>?_⟩
  obtain ⟨vv,hv,hr⟩:=h9 (l+i) j O hj
  refine ⟨vv,?_,hr⟩
  rw [← hv,adx]
  congr 2
  simp only
  omega
theorem yV {e:TypeId} {i off m n l v:Nat} {g:Option Nat} {lo hi:Option Operand} (ho:o.op=.slice t x lo hi none) (hx:s.eval x=.os i g off n m) (h1:P.underlying t=some (.slice e)) (h5:(P.info? e).map (·.size)=some m)
  (hl:Bd s 0 lo l) (hu:Bd s n hi v) (hlv:l≤v) (hvn:v≤n) (hln:l=0∨l<n):ci P G o s (.os i g (off+l * m) (v-l) m):=fun St a w h=>by
 obtain ⟨info,hi',hs⟩:=YM.1 h5
 have he:=ji h hx
 cases g with
 | none =>
  obtain ⟨h2,h3⟩:=he
  subst h2
  have hl0:l=0:=by omega
  have hv0:v=0:=by omega
  subst hl0 hv0
  refine ⟨.slice none 0 0,fun W _=>iH ho ?_,rfl,rfl⟩
  rw [h3]
  simp [Instr.sliceAt,Instr.slice,underlying,h1,iC h hl hu hlv hvn (YG _),sizeOf,typeInfo,hi']
 | some b =>
  obtain ⟨cap,e0,h2,h3,cur,ty,z,h4,h6⟩:=he
  refine ⟨.slice (some ⟨b,off+l * m,none⟩) (v-l) (cap-l),fun W _=>iH ho ?_,cap-l,rfl,by omega,by omega,cur,ty,z,h4,?_⟩
  ·rw [e0]
   have e1:(if cap=l then some (⟨b,off,none⟩:Addr) else some (Addr.add ⟨b,off,none⟩ (l * m)))=some ⟨b,off+l * m,none⟩:=by
    split
    ·have:l=0:=by omega
     subst this
     simp
    ·rw [f9]
   simp [Instr.sliceAt,Instr.slice,underlying,h1,iC h hl hu hlv hvn h2,sizeOf,typeInfo,hi',hs]
   exact e1
  ·have:l * m+(cap-l) * m=cap * m:=by rw [← adx];congr 1;omega
   omega
theorem iN {e:TypeId} {i off m n l v:Nat} {g:Option Nat} {lo hi:Option Operand} {N:Nat} {f:Nat→CV} (ho:o.op=.slice t x lo hi none) (hx:s.eval x=.op i g off) (hH:Holds s i g N f) (hN:off+n * m≤N) (h1:P.underlying t=some (.array n e)) (h5:(P.info? e).map (·.size)=some m)
  (hl:Bd s 0 lo l) (hu:Bd s n hi v) (hlv:l≤v) (hvn:v≤n) (hln:l<n) (hb:Nat.ble n 9223372036854775807=true):ci P G o s (.os i g (off+l * m) (v-l) m):=fun St a w h=>by
 obtain ⟨info,hi',hs⟩:=YM.1 h5
 obtain ⟨b,rfl,e0⟩:=ji h hx
 have hb:=YU hb
 obtain ⟨_,cur,ty,z,hh,hle,_⟩:=jJ h hH
 refine ⟨.slice (some ⟨b,off+l * m,none⟩) (v-l) (n-l),fun W _=>iH ho ?_,n-l,rfl,by omega,by omega,cur,ty,z,hh,?_⟩
 ·rw [e0]
  simp [Instr.sliceAt,underlying,h1,Instr.sureAddr,iC h hl hu hlv hvn (YG _),sizeOf,typeInfo,hi',hs,f9,show ¬ n=l by omega]
 ·have:l * m+(n-l) * m=n * m:=by rw [← adx];congr 1;omega
  omega
theorem Is {b:ByteArray} {l v:Nat} {lo hi:Option Operand} (ho:o.op=.slice t x lo hi none) (hx:s.eval x=.c (.string b)) (h1:P.underlying t=some .string)
  (hl:Bd s 0 lo l) (hu:Bd s b.size hi v) (hlv:l≤v) (hvn:v≤b.size):ci P G o s (.c (.string (b.extract l v))):=fun St a w h =>
 ⟨_,fun W _=>iH ho (by rw [kM h hx];simp [Instr.sliceAt,Instr.slice,underlying,h1,iC h hl hu hlv hvn (YG _)]),rfl⟩

theorem D1 (l:Z) (p q:Nat) (hpq:p≤q) (hq:q≤l.length):aa (.rs 1 (q-p) fun i _=>bc l (p+i)) (aV ((l.take q).drop p)):=by
 refine aa.rs (by simp;omega) fun i j hi hj=>aa.of_eq ?_
 simp [bc,List.getD,show p+i<q by omega]
theorem Sp (l:Z) (p:Nat) (hp:p≤l.length):aa (.rs 1 (l.length-p) fun i _=>bc l (p+i)) (aV (l.drop p)):=by
 refine aa.rs (by simp) fun i j hi hj=>aa.of_eq ?_
 simp [bc,List.getD]
theorem WX (l:Z) (q:Nat) (hq:q≤l.length):aa (.rs 1 (q-0) fun i _=>bc l (0+i)) (aV (l.take q)):=by
 have:=D1 l 0 q O hq
 simpa using this

theorem CF {g:FuncId} {cs:Array Operand} {n:Nat} (ho:o.op=.makeFunc (.func g) #[] cs) (hn:cs.size=n):ci P G o s (.fn g n (fl (cs.toList.map s.eval))):=fun St a w h =>
 ⟨.func (.func g) #[] (cs.map a.eval),fun W _=>by simp only [execOp,ho];exact lY (by simp [Instr.makeFunc]),_,rfl,by simp [hn],fun i hi=>by
  rw [dJ]
  simp [List.getD,show i<cs.size by omega]
  exact h.eval _⟩
theorem az.freshRS {St:Nat→Prop} {a:Act} {w w':World} (h:az G St s a w) (hb:Below w.heap.size w w') {g:Nat} (hg:w.heap.size≤g) (hlt:g<w'.heap.size):az G (fun b=>St b∨b=g) s a w':=by
 have h1:=h.ext hb
 have he:qS St w' w':=⟨fun _ _ _ _ _ h=>h,fun b cur t z h=>⟨cur,z,h,rfl⟩⟩
 have hs:∀ b,St b→St b∨b=g:=fun _ h=>.inl h
 obtain ⟨fp0,hp0⟩:=h.hp
 refine ⟨h1.df.grow hs,h1.sz,fun d=>ba.evo he hs _ _ (h1.env d),h1.un,fun b hb=>.inl (h1.s1 b hb),fun b hb=>?_,fun b hb=>?_,?_,h1.sn,fun g hg=>.inl (h1.sg.1 g hg),fun x hx=>.inl (h1.sg.2 x hx)⟩
 ·rcases hb with hb|rfl
  ·exact h1.s2 b hb
  ·exact .inr (.inl (Zd h.un.size hg))
 ·rcases hb with hb|rfl
  ·exact h1.s3 b hb
  ·exact hlt
 ·have he2:=qS.of_below hb h.s3
  refine ⟨fp0,fun i q r hi=>bi.rep_evo he2 hs (fun b hF=>hb.block b (hp0.own i b hF).1) (hp0.rep i q r hi),hp0.dis,fun i b hF=>?_,hp0.out⟩
  obtain ⟨h2,h3,h4⟩:=hp0.own i b hF
  exact ⟨Zf h2 hb.size,fun h=>h.elim h3 (fun e=>by omega),h4⟩

theorem JW {e:TypeId} {l:ByteArray} (ho:o.op=.convert t u x) (hx:s.eval x=.c (.string l)) (h1:P.underlying t=some .string) (h2:P.underlying u=some (.slice e)) (h3:P.underlying e=some (.int .u8)) (hl:l.size≤9223372036854775807) (hd:cq G o=true)
  (hK:K (s.with o.dst (aV l.data.toList) s.H)):kQ P G o s K:=fun St a w hr Q=>by
 have hlen:l.data.size=l.size:=rfl
 let cap:=grownCap w l.size 0 e
 have hgc:l.size≤cap∧cap≤9223372036854775807:=by
  have hlt:=Z0 (w.tape w.drawn (.appendCap l.size 0 e)) (show 0<2 ^ 63-l.size by omega)
  simp only [cap,grownCap,Question.cut]
  omega
 let cs:Array Value:=(l.data.map fun b=>.int .u8 (b.toNat:Nat))++Array.replicate (cap-l.size) (.int .u8 0)
 have hcs:cs.size=cap:=by simp [cs,hlen];omega
 let w1:=w.drew.alloc (.cells cs e)
 have hw1:w1.heap[w.heap.size]?=some (.cells cs e (0,0)):=heap_alloc_new w.drew _
 let w2:=w1.freeze { block:=w.heap.size,off:=cs.size } 1
 have hb1:Below w.heap.size w w1:=dB w _
 have hw2:w2.heap[w.heap.size]?=some (.cells cs e (cs.size,cs.size+1)):=by
  simp only [w2,World.freeze]
  rw [YE jD]
  simp only [aex,hw1,if_true,awx]
  simp
 have ye:Below w.heap.size w w2:=by
  refine ⟨?_,?_,?_,?_,fun k hk=>?_⟩
  ·simp only [w2,World.freeze];rw [YE jD];exact hb1.os
  ·simp only [w2,World.freeze];rw [YE jD];exact hb1.tape
  ·simp only [w2,World.freeze];rw [YE jD];exact hb1.output
  ·simp only [w2,World.freeze];rw [YE jD];simp;exact hb1.size
  ·simp only [w2,World.freeze]
   rw [YE jD]
   simp only [aex]
   rw [jK]
   exact hb1.block k hk
 have hrun:(execOp a.eval o).run P w=.ok (.value (.slice (some ⟨w.heap.size,0,none⟩) l.size cap)) w2:=by
  simp only [execOp,ho,kM hr hx]
  refine lY ?_
  have hch:(choose (.appendCap l.size 0 e)).run P w=.ok cap w.drew:=by simp [Question.forced,grownCap,cap]
  have hsh:w1.shape? w.heap.size=some (e,cs.size):=by simp [World.shape?,hw1]
  simp only [convert,underlying,Sem.run_bind,run_program,Result.andThen_ok,h1,h2,h3,Sem.run_pure,Conv.stringToBytes,hch,newRow,run_newObj,World.size_drew,World.alloc_eq]
  simp only [markStringish,Sem.run_bind,run_shape]
  show ((Result.ok (w1.shape? w.heap.size) w1).andThen _).andThen _=_
  rw [hsh]
  rfl
 unfold Oper.wp
 rw [hrun]
 refine ⟨ye,fun b=>St b∨b=w.heap.size,fun _ h=>.inl h,_,hK,?_⟩
 have h4:=(hr.freshRS ye (YG _) (Y4.1 hw2).1).put (dst:=o.dst) (v:=aV l.data.toList) (x:=.slice (some ⟨w.heap.size,0,none⟩) l.size cap) (eC hd) ⟨_,cap,by simp;rfl,by simp [hlen];exact hgc.1,hgc.2,(fun h=>by cases h),fun ad had _=>by
  have:=Y9 had
  subst this
  refine ⟨rfl,.inr rfl,fun i j hi hj=>?_⟩
  have hi:i<l.data.size:=by simpa using hi
  refine ⟨.int .u8 (l.data[i].toNat:Nat),?_,?_⟩
  ·show w2.cell? ⟨w.heap.size,0+(i * 1+j),none⟩=_
   rw [cell_of_row w2 w.heap.size _ cs e _ hw2,show 0+(i * 1+j)=i by omega]
   have e9:l.data[i]?=some l.data[i]:=YV hi
   have hi2:i<l.size:=hi
   simp [cs,Array.getElem?_append,hi2]
  ·have e9:l.data[i]?=some l.data[i]:=YV hi
   simp [bc,List.getD,e9]
   rfl⟩
 cases ho:o.dst with
 | none=>rw [ho] at h4;exact h4
 | some d=>rw [ho] at h4;exact h4
end
section
variable {P:Program} {G:Gh} {ops:Array Oper} {o:Oper} {s:AS} {r:List Oper} {K:AS→Prop} {R:Exit→AS→Prop} {Y:AS→Prop} {x y:Code}

theorem FJ {i j:Nat} (he:Nat.beq j i=true) (h:R .normal s):om i R (.exit j) s:=by
 show match Nat.beq j i with|true=>R .normal s|false=>R (.exit j) s
 rw [he];exact h
theorem D4 {i j:Nat} (he:Nat.beq j i=false) (h:R (.exit j) s):om i R (.exit j) s:=by
 show match Nat.beq j i with|true=>R .normal s|false=>R (.exit j) s
 rw [he];exact h
theorem FB {d:Operand} (hl:s.eval d=.c (.bool true)) (ht:bj P G x s R):bj P G (.cond d x y) s R:=t7 hl (fun _=>ht) (fun h=>by cases h)
theorem FE {d:Operand} (hl:s.eval d=.c (.bool false)) (hf:bj P G y s R):bj P G (.cond d x y) s R:=t7 hl (fun h=>by cases h) (fun _=>hf)

variable {env:List (Nat×CV)} {b0:Nat→CV} {H:List (Option Nat×bi)}
theorem Xr {d:Nat} {v:CV} (hw:br G ops o ⟨env,b0,H⟩ true) (hd:o.dst=some d) (hN:Nat.blt d G.N=true) (h:ci P G o ⟨env,b0,H⟩ v) (hk:cJ P G ops r ⟨(d,v)::env,b0,H⟩ K):cJ P G ops (o::r) ⟨env,b0,H⟩ K :=
 TM hw (by simp only [cq,hd];exact hN) h (by simp only [AS.put,hd];exact hk)
theorem We {d:Nat} {v:CV} (hw:br G ops o ⟨env,b0,H⟩ true) (hd:o.dst=some d) (hN:Nat.blt d G.N=true) (h:kF P G o ⟨env,b0,H⟩ v) (hk:cJ P G ops r ⟨(d,v)::env,b0,H⟩ K):cJ P G ops (o::r) ⟨env,b0,H⟩ K :=
 F9 hw (by simp only [cq,hd];exact hN) h (by simp only [AS.put,hd];exact hk)
theorem Uk {d:Nat} (hw:br G ops o ⟨env,b0,H⟩ false) (hd:o.dst=some d) (hN:Nat.blt d G.N=true) (hk:cJ P G ops r ⟨(d,.c undef)::env,b0,H⟩ K):cJ P G ops (o::r) ⟨env,b0,H⟩ K :=
 Lp hw (by simp only [cq,hd];exact hN) (by simp only [AS.put,hd];exact hk)
theorem Xg {d:Nat} {v:CV} {tr:eN} (hw:br G ops o ⟨env,b0,H⟩ true) (hd:o.dst=some d) (hN:Nat.blt d G.N=true) (h:ci P G o ⟨env,b0,H⟩ v) (hk:AX P G ops tr ⟨(d,v)::env,b0,H⟩ K):AX P G ops (.rd o tr) ⟨env,b0,H⟩ K :=
 Xh hw (by simp only [cq,hd];exact hN) h (by simp only [AS.put,hd];exact hk)
theorem VT {d:Nat} {v:CV} {tr:eN} (hw:br G ops o ⟨env,b0,H⟩ true) (hd:o.dst=some d) (hN:Nat.blt d G.N=true) (h:kF P G o ⟨env,b0,H⟩ v) (hk:AX P G ops tr ⟨(d,v)::env,b0,H⟩ K):AX P G ops (.rd o tr) ⟨env,b0,H⟩ K :=
 SK hw (by simp only [cq,hd];exact hN) h (by simp only [AS.put,hd];exact hk)
theorem VG {d:Nat} {v:CV} {tr:eN} (hw:br G ops o ⟨env,b0,H⟩ true) (hd:o.dst=some d) (hN:Nat.blt d G.N=true) (h:ci P G o ⟨env,b0,H⟩ v) (hk:AZ P G ops tr ⟨(d,v)::env,b0,H⟩ K):AZ P G ops (.rd o tr) ⟨env,b0,H⟩ K :=
 Xe hw (by simp only [cq,hd];exact hN) h (by simp only [AS.put,hd];exact hk)
theorem Kp {d:Nat} {v:CV} {tr:eN} (hw:br G ops o ⟨env,b0,H⟩ true) (hd:o.dst=some d) (hN:Nat.blt d G.N=true) (h:kF P G o ⟨env,b0,H⟩ v) (hk:AZ P G ops tr ⟨(d,v)::env,b0,H⟩ K):AZ P G ops (.one o tr) ⟨env,b0,H⟩ K :=
 Ps hw (by simp only [cq,hd];exact hN) h (by simp only [AS.put,hd];exact hk)
theorem Tu {d:Nat} {v:CV} {tr:eN} (hw:br G ops o ⟨env,b0,H⟩ true) (hd:o.dst=some d) (hN:Nat.blt d G.N=true) (hb:ownB ops o=true) (h:kF P G o ⟨env,b0,H⟩ v) (hk:AZ P G ops tr ⟨(d,v)::env,b0,H⟩ K):AZ P G ops (.rd o tr) ⟨env,b0,H⟩ K :=
 VR hw (by simp only [cq,hd];exact hN) hb h (by simp only [AS.put,hd];exact hk)
theorem Pr {d:Nat} {tr:eN} (hw:br G ops o ⟨env,b0,H⟩ false) (hd:o.dst=some d) (hN:Nat.blt d G.N=true) (hk:AZ P G ops tr ⟨(d,.c undef)::env,b0,H⟩ K):AZ P G ops (.rd o tr) ⟨env,b0,H⟩ K :=
 Tw hw (by simp only [cq,hd];exact hN) (by simp only [AS.put,hd];exact hk)
theorem TA {d:Nat} {tr:eN} (hw:br G ops o ⟨env,b0,H⟩ false) (hd:o.dst=some d) (hN:Nat.blt d G.N=true) (hk:AX P G ops tr ⟨(d,.c undef)::env,b0,H⟩ K):AX P G ops (.rd o tr) ⟨env,b0,H⟩ K :=
 TB hw (by simp only [cq,hd];exact hN) (by simp only [AS.put,hd];exact hk)
theorem Pz {d:Nat} {tr:eN} (hw:br G ops o ⟨env,b0,H⟩ false) (hd:o.dst=some d) (hN:Nat.blt d G.N=true) (hk:AX P G ops tr ⟨(d,.c undef)::env,b0,H⟩ K):AX P G ops (.one o tr) ⟨env,b0,H⟩ K :=
 PF hw (by simp only [cq,hd];exact hN) (by simp only [AS.put,hd];exact hk)

theorem kV {j d:Nat} {b:Bool} (h:o.guard=some (j,b)) (hd:(ops[j]?).bind (·.dst)=some d) (hN:Nat.blt d G.N=true) (hl:look s.env s.b d=.c undef):br G ops o s false:=fun St a w hr=>by
 have hlt:d<a.tmps.size:=by rw [hr.sz];exact YU hN
 have he:=hr.env d
 rw [hl] at he
 have he:a.tmps.getD d undef=undef:=he
 have hg:a.tmps[d]?=some undef:=by
  rw [YV hlt]
  congr 1
  simpa [hlt] using he
 simp only [Region.wanted,h,yielded,hd,Option.bind_some,hg]
 cases b <;> rfl
theorem pT {d:Nat} {t:Bool} (hN:Nat.blt d G.N=true) (hl:look s.env s.b d=.c (.bool t)) {b:Bool} (e:t=b):dh G s ⟨(d,.c (.bool b))::s.env,s.b,s.H⟩ :=
 dh.put hN fun St a w hr=>by
  have:=hr.env d
  rw [hl,e] at this
  exact this
theorem FD {d:Nat} {t:Bool} (hN:Nat.blt d G.N=true) (hl:look s.env s.b d=.c (.bool t)) (ht:t=true→bj P G x ⟨(d,.c (.bool true))::s.env,s.b,s.H⟩ R) (hf:t=false→bj P G y ⟨(d,.c (.bool false))::s.env,s.b,s.H⟩ R):bj P G (.cond (.tmp d) x y) s R :=
 t7 (t:=t) hl (fun e=>jE (pT hN hl e) (ht e)) (fun e=>jE (pT hN hl e) (hf e))
theorem HT {d:Nat} {t:Bool} (hN:Nat.blt d G.N=true) (hl:look s.env s.b d=.c (.bool t)) (ht:t=true→cJ P G ops r ⟨(d,.c (.bool true))::s.env,s.b,s.H⟩ K) (hf:t=false→cJ P G ops r ⟨(d,.c (.bool false))::s.env,s.b,s.H⟩ K):cJ P G ops r s K:=by
 cases e:t with
 | true=>exact aI (pT hN hl e) (ht e)
 | false=>exact aI (pT hN hl e) (hf e)
theorem PD {d:Nat} {t:Bool} {tr:eN} (hN:Nat.blt d G.N=true) (hl:look s.env s.b d=.c (.bool t)) (ht:t=true→AX P G ops tr ⟨(d,.c (.bool true))::s.env,s.b,s.H⟩ K) (hf:t=false→AX P G ops tr ⟨(d,.c (.bool false))::s.env,s.b,s.H⟩ K):AX P G ops tr s K:=by
 cases e:t with
 | true=>exact hZ (pT hN hl e) (ht e)
 | false=>exact hZ (pT hN hl e) (hf e)
theorem PE {t:eN} {v:CV} (hw:br G ops o s true) (hd:cq G o=true) (h:kF P G o s v) (hk:AX P G ops t (s.put o.dst v) K):AX P G ops (.one o t) s K :=
 SL hw fun St a w hr Q=>by
  obtain ⟨x,hx,hv⟩:=h St a w hr
  unfold Oper.wp
  rw [hx w (Below.refl _ _)]
  exact ⟨Below.refl _ _,St,fun _ h=>h,_,hk,hr.put (eC hd) hv⟩

theorem Py {d:Nat} {t:eN} {v:CV} (hw:br G ops o ⟨env,b0,H⟩ true) (hd:o.dst=some d) (hN:Nat.blt d G.N=true) (h:kF P G o ⟨env,b0,H⟩ v) (hk:AX P G ops t ⟨(d,v)::env,b0,H⟩ K):AX P G ops (.one o t) ⟨env,b0,H⟩ K :=
 PE hw (by simp only [cq,hd];exact hN) h (by simp only [AS.put,hd];exact hk)

def An:IntKind→Int→Prop
 | .i64,z=>-9223372036854775808≤z∧z≤9223372036854775807
 | .u64,z=>0≤z∧z≤18446744073709551615
 | .i32,z=>-2147483648≤z∧z≤2147483647
 | .u32,z=>0≤z∧z≤4294967295
 | .i16,z=>-32768≤z∧z≤32767
 | .u16,z=>0≤z∧z≤65535
 | .i8,z=>-128≤z∧z≤127
 | .u8,z=>0≤z∧z≤255
theorem cC {k:IntKind} {z:Int} (h:An k z):k.wrap z=z:=by
 cases k <;> simp only [An] at h <;> simp [IntKind.wrap,IntKind.bits,IntKind.signed] <;> omega
theorem wP {z:Int} (h:0≤z):z=(z.toNat:Int):=by omega

theorem cI {k:IntKind} {a b:Int} (h:a=b):aa (.c (.int k a)) (.c (.int k b)):=h ▸ I
theorem cB {a b:Bool} (h:a=b):aa (.c (.bool a)) (.c (.bool b)):=h ▸ I
theorem aa.str {a b:ByteArray} (h:a=b):aa (.c (.string a)) (.c (.string b)):=h ▸ I
theorem aa.err {a b:Nat} (h:a=b):aa (.err a) (.err b):=h ▸ I
theorem aa.bs {a b:Z} (h:a=b):aa (aV a) (aV b):=h ▸ I
theorem cN:aa (.c (.slice none 0 0)) (aV []):=aa.nilS _ _
theorem cT {a b c d:CV} (h1:aa a c) (h2:aa b d):aa (.tup 2 (fl [a,b])) (.tup 2 (fl [c,d])) :=
 aa.tup rfl fun i hi=>match i,hi with|0,_=>h1|1,_=>h2
theorem aa.tup3 {a b c d e f:CV} (h1:aa a d) (h2:aa b e) (h3:aa c f):aa (.tup 3 (fl [a,b,c])) (.tup 3 (fl [d,e,f])) :=
 aa.tup rfl fun i hi=>match i,hi with|0,_=>h1|1,_=>h2|2,_=>h3
def SE (G:Gh) (s:AS) (x:Operand) (c:CV):Prop:=∀ St a w,az G St s a w→ba G.al St w c (a.eval x)
theorem se {x:Operand} {c0 c:CV} (hx:s.eval x=c0) (h:aa c0 c):SE G s x c:=fun St a w hr=>h _ _ _ _ (ji hr hx)
theorem TP {x:Operand} {i off n m N:Nat} {g:Option Nat} {F:Nat→CV} (hx:s.eval x=.os i g off n m) (hH:s.H[i]?=some (g,.frz N F)) (hN:off+n * m≤N) (f:Nat→Nat→CV) (hf:∀ a b,a<n→b<m→aa (F (off+(a * m+b))) (f a b)):SE G s x (.rs m n f):=fun St a w hr=>by
 have he:=ji hr hx
 cases g with
 | none =>
  obtain ⟨h1,h2⟩:=he
  subst h1
  exact ⟨none,0,h2,YG _,by decide,fun _=>rfl,fun _ h=>by cases h⟩
 | some g =>
  obtain ⟨cap,h1,h2,h3,_⟩:=he
  obtain ⟨fp,hp⟩:=hr.hp
  obtain ⟨_,hg,cur,t,z,hh,hle,hc⟩:=hp.rep i (some g) _ hH
  refine ⟨_,cap,h1,h2,h3,(fun h=>by cases h),fun ad ha _=>?_⟩
  cases ha
  refine ⟨rfl,hg,fun p q hp' hq=>?_⟩
  have hb:p * m+q<n * m:=by
   have:p * m+m≤n * m:=by rw [← b5x];exact ZG _ hp'
   omega
  have hlt:off+(p * m+q)<cur.size:=by omega
  refine ⟨cur.getD (off+(p * m+q)) undef,?_,hf p q hp' hq _ _ _ _ (hc _ O)⟩
  show w.cell? ⟨g,off+(p * m+q),none⟩=_
  rw [cell_of_row w g _ cur t z hh];simp [hlt]
theorem rV {x:Operand} {i off n N:Nat} {g:Option Nat} {F:Nat→CV} (l:Z) (hx:s.eval x=.os i g off n 1) (hH:s.H[i]?=some (g,.frz N F)) (hn:n=l.length) (hN:off+n≤N) (hf:∀ a,a<n→aa (F (off+a)) (bc l a)):SE G s x (aV l):=by
 subst hn
 refine TP hx hH O _ fun a b ha hb=>?_
 rw [show off+(a * 1+b)=off+a by omega]
 exact hf a ha
inductive BU (G:Gh) (s:AS):List Operand→List CV→Prop where
 | nil:BU G s [] []
 | cons {x:Operand} {c:CV} {l:List Operand} {m:List CV} (h:SE G s x c) (t:BU G s l m):BU G s (x::l) (c::m)
theorem Qd {l:List Operand} {m:List CV} (h:BU G s l m):l.length=m.length:=by
 induction h with
 | nil=>rfl
 | cons _ _ ih=>simp [ih]
theorem Qe {l:List Operand} {m:List CV} (h:BU G s l m) {St:Nat→Prop} {a:Act} {w:World} (hr:az G St s a w):∀ i (hi:i<l.length),ba G.al St w (fl m i) (a.eval l[i]):=by
 induction h with
 | nil=>intro i hi;simp at hi
 | cons h1 _ ih =>
  intro i hi
  cases i with
  | zero=>exact h1 St a w hr
  | succ i=>exact ih i (by simpa using hi)

def cc (gs:List Nat) (P:Program) (f:FuncId) (args:List CV) (m:CV):Prop:=AC gs P f [] args fun r H=>r=m∧H=[]

theorem BN {xs:Array Operand} {args:List CV} (he:BU G s xs.toList args) {St:Nat→Prop} {a:Act} {w:World} (h:az G St s a w):(xs.map a.eval).size=args.length∧∀ i,ba G.al St w (fl args i) ((xs.map a.eval).getD i undef):=by
 have hl:=Qd he
 simp at hl
 refine ⟨by simp [hl],fun i=>?_⟩
 by_cases hi:i<xs.size
 ·have:=Qe he h i (by simpa using hi)
  simpa [hi] using this
 ·rw [qj args i O]
  trivial
theorem DA {f:FuncId} {xs:Array Operand} {ats:Array TypeId} {args:List CV} {Q:CV→List (Option Nat×bi)→Prop} (ho:o.op=.call ⟨.value (.func f),xs,ats⟩) (hc:bA P f=true) (hA:AC G.gs P f [] args Q) (he:BU G s xs.toList args) (hd:cq G o=true)
  (hK:∀ r H',Q r H'→K (s.with o.dst r (s.H++H'))):kQ P G o s K:=fun St a w hr Q'=>by
 unfold Oper.wp
 rw [tU ho hc]
 obtain ⟨h1,h2⟩:=BN he hr
 refine (hA G.al w St _ _ (Ow hr) h1 h2).mono ?_
 rintro e w' ⟨v,r,H',St',rfl,hq,hv,hu,h3,h4,h5,h6⟩
 refine ⟨hu.below,St',h3,_,hK r H' hq,?_⟩
 have:=(hr.after hu h3 h4 h5 h6).put (dst:=o.dst) (eC hd) hv
 cases ho:o.dst with
 | none=>rw [ho] at this;exact this
 | some d=>rw [ho] at this;exact this
theorem Oq {f:FuncId} {xs:Array Operand} {ats:Array TypeId} {args:List CV} {m:CV} (ho:o.op=.call ⟨.value (.func f),xs,ats⟩) (hc:bA P f=true) (hA:cc G.gs P f args m) (he:BU G s xs.toList args) (hd:cq G o=true)
  (hK:K (s.with o.dst m (s.H++[]))):kQ P G o s K:=DA ho hc hA he hd (by rintro _ _ ⟨rfl,rfl⟩;exact hK)

def El (P:Program) (G:Gh) (s:AS) (rv:ResultVar) (c:CV):Prop:=∀ St a w,az G St s a w→∃ v,(match rv with|.tmp t=>pure (a.tmps.getD t undef)|.cell d t=>do loadVar t (← asAddr (a.tmps.getD d undef)):Sem Value).run P w=.ok v w∧ba G.al St w c v
theorem ak {t:Nat} {c:CV} (h:look s.env s.b t=c):El P G s (.tmp t) c:=fun St a w hr=>⟨_,rfl,h ▸ hr.env t⟩
theorem Pa {d:Nat} {t:TypeId} {i off n:Nat} {g:Option Nat} {f:Nat→CV} {c:CV} {ds:TypeDesc} (h:look s.env s.b d=.op i g off) (hH:Holds s i g n f) (h1:P.underlying t=some ds) (ha:iw P t=false) (hn:off<n) (hc:f off=c):El P G s (.cell d t) c:=fun St a w hr=>by
 have he:=hr.env d
 rw [h] at he
 obtain ⟨b,rfl,he⟩:=he
 obtain ⟨hg,cur,ty,z,hh,hle,hcell⟩:=jJ hr hH
 have hlt:off<cur.size:=by omega
 have hcc:w.cell? ⟨b,off,none⟩=some (cur.getD off undef):=by
  rw [cell_of_row w b off cur ty z hh];simp [hlt]
 refine ⟨_,?_,hc ▸ hcell off hn⟩
 simp only [he,asAddr,Sem.run_bind,Sem.run_pure,Result.andThen_ok]
 exact kY h1 ha hcc
theorem Aj {d:Nat} {t:TypeId} {i off n m:Nat} {g:Option Nat} {f:Nat→CV} {ds:TypeDesc} (h:look s.env s.b d=.op i g off) (hH:Holds s i g n f) (h1:P.underlying t=some ds) (ha:iw P t=true) (h5:(P.info? t).map (·.size)=some m) (hn:off+m≤n):El P G s (.cell d t) (.agg m fun j=>f (off+j)):=fun St a w hr=>by
 obtain ⟨info,h5i,h6⟩:=YM.1 h5
 have he:=hr.env d
 rw [h] at he
 obtain ⟨b,rfl,he⟩:=he
 obtain ⟨hg,cur,ty,z,hh,hle,hcell⟩:=jJ hr hH
 subst h6
 have hrun:=kX h1 ha h5i (w:=w) (b:=b) (q:=off) (g:=fun j=>cur.getD (off+j) undef) (fun j hj=>by
  have hlt:off+j<cur.size:=by omega
  rw [cell_of_row w b (off+j) cur ty z hh];simp [hlt])
 refine ⟨.agg ((List.range info.size).map fun j=>cur.getD (off+j) undef).toArray,?_,_,rfl,by simp,fun j hj=>?_⟩
 ·simp only [he,asAddr,Sem.run_bind,Sem.run_pure,Result.andThen_ok]
  exact hrun
 ·have:=hcell (off+j) O
  simp [hj] at this ⊢
  exact this
theorem Ib {α β:Type} (f:α→Sem β) {a1:α} {b1:β} {w:World} (h1:(f a1).run P w=.ok b1 w):((#[a1]:Array α).mapM f).run P w=.ok #[b1] w:=by
 simp [h1]
theorem Ia {α β:Type} (f:α→Sem β) {a1 a2:α} {b1 b2:β} {w:World} (h1:(f a1).run P w=.ok b1 w) (h2:(f a2).run P w=.ok b2 w):((#[a1,a2]:Array α).mapM f).run P w=.ok #[b1,b2] w:=by
 simp [h1,h2]
theorem H9 {α β:Type} (f:α→Sem β) {a1 a2 a3:α} {b1 b2 b3:β} {w:World} (h1:(f a1).run P w=.ok b1 w) (h2:(f a2).run P w=.ok b2 w) (h3:(f a3).run P w=.ok b3 w):((#[a1,a2,a3]:Array α).mapM f).run P w=.ok #[b1,b2,b3] w:=by
 simp [h1,h2,h3]
theorem H8 {α β:Type} (f:α→Sem β) {a1 a2 a3 a4:α} {b1 b2 b3 b4:β} {w:World} (h1:(f a1).run P w=.ok b1 w) (h2:(f a2).run P w=.ok b2 w) (h3:(f a3).run P w=.ok b3 w) (h4:(f a4).run P w=.ok b4 w):((#[a1,a2,a3,a4]:Array α).mapM f).run P w=.ok #[b1,b2,b3,b4] w:=by
 simp [h1,h2,h3,h4]
theorem vb {fn:Func} {tmps:Array Value} {vs:Array Value} {w:World} (h:(fn.results.mapM fun|.tmp t=>pure (tmps.getD t undef)|.cell a t=>do loadVar t (← asAddr (tmps.getD a undef)):Sem (Array Value)).run P w=.ok vs w):(results fn tmps).run P w=.ok (if h:vs.size=1 then vs[0] else .tuple vs) w:=by
 unfold results
 rw [Sem.run_bind]
 have h':=h
 refine (Y3 (fun r=>Result.andThen r _) h').trans ?_
 rfl
theorem av {fn:Func} {r1:ResultVar} {v:CV} (h:fn.results=#[r1]) (h1:El P G s r1 v):lX P G fn s v:=fun St a w hr=>by
 obtain ⟨x1,e1,q1⟩:=h1 St a w hr
 exact ⟨x1,vb (vs:=#[x1]) (by rw [h];exact Ib _ e1),q1⟩
theorem bB {fn:Func} {r1 r2:ResultVar} {v1 v2:CV} (h:fn.results=#[r1,r2]) (h1:El P G s r1 v1) (h2:El P G s r2 v2):lX P G fn s (.tup 2 (fl [v1,v2])):=fun St a w hr=>by
 obtain ⟨x1,e1,q1⟩:=h1 St a w hr
 obtain ⟨x2,e2,q2⟩:=h2 St a w hr
 exact ⟨.tuple #[x1,x2],vb (vs:=#[x1,x2]) (by rw [h];exact Ia _ e1 e2),_,rfl,rfl,fun i hi=>match i,hi with|0,_=>q1|1,_=>q2⟩
theorem il {fn:Func} {r1 r2 r3:ResultVar} {v1 v2 v3:CV} (h:fn.results=#[r1,r2,r3]) (h1:El P G s r1 v1) (h2:El P G s r2 v2) (h3:El P G s r3 v3):lX P G fn s (.tup 3 (fl [v1,v2,v3])):=fun St a w hr=>by
 obtain ⟨x1,e1,q1⟩:=h1 St a w hr
 obtain ⟨x2,e2,q2⟩:=h2 St a w hr
 obtain ⟨x3,e3,q3⟩:=h3 St a w hr
 exact ⟨.tuple #[x1,x2,x3],vb (vs:=#[x1,x2,x3]) (by rw [h];exact H9 _ e1 e2 e3),_,rfl,rfl,fun i hi=>match i,hi with|0,_=>q1|1,_=>q2|2,_=>q3⟩
theorem V7 {fn:Func} {r1 r2 r3 r4:ResultVar} {v1 v2 v3 v4:CV} (h:fn.results=#[r1,r2,r3,r4]) (h1:El P G s r1 v1) (h2:El P G s r2 v2) (h3:El P G s r3 v3) (h4:El P G s r4 v4):lX P G fn s (.tup 4 (fl [v1,v2,v3,v4])):=fun St a w hr=>by
 obtain ⟨x1,e1,q1⟩:=h1 St a w hr
 obtain ⟨x2,e2,q2⟩:=h2 St a w hr
 obtain ⟨x3,e3,q3⟩:=h3 St a w hr
 obtain ⟨x4,e4,q4⟩:=h4 St a w hr
 exact ⟨.tuple #[x1,x2,x3,x4],vb (vs:=#[x1,x2,x3,x4]) (by rw [h];exact H8 _ e1 e2 e3 e4),_,rfl,rfl,fun i hi=>match i,hi with|0,_=>q1|1,_=>q2|2,_=>q3|3,_=>q4⟩
theorem cM {fn:Func} (h:fn.results=#[]):lX P G fn s (.c (.tuple #[])):=fun St a w hr=>⟨.tuple #[],by simp [results,h],rfl⟩

theorem R7 {fn:Func} {e:Exit} {v m:CV} (he:e=.ret∨e=.normal) (hres:lX P G fn s v) (hv:aa v m):mz P G fn (fun r H=>r=m∧H=[]) e s:=Oz he m (hres.ent hv) ⟨rfl,rfl⟩
variable {t u:TypeId} {p q:Operand} {k:IntKind}
theorem II {e:TypeId} (ho:o.op=.convert t u p) (hx:s.eval p=.c (.slice none 0 0)) (h1:P.underlying t=some (.slice e)) (h2:P.underlying e=some (.int .u8)) (h3:P.underlying u=some .string):ci P G o s (.c (.string ⟨#[]⟩)):=fun St a w h=>by
 refine ⟨_,fun W _=>?_,rfl⟩
 simp only [execOp,ho,kM h hx]
 exact lY (ik (Bs.nil W) _ _ _ h1 h2 h3)
theorem OZ {St:Nat→Prop} {a:Act} {w:World} (h:az G St s a w) {x:Operand} {i off n N:Nat} {g:Option Nat} {F:Nat→CV} {l:Z} (hx:s.eval x=.os i g off n 1) (hH:Holds s i g N F) (hn:n=l.length) (hN:off+n≤N) (hf:∀ a,a<n→aa (F (off+a)) (bc l a)):Bs w (a.eval x) l:=by
 subst hn
 have he:=ji h hx
 cases g with
 | none =>
  obtain ⟨h1,h2⟩:=he
  rw [h2,Y1 h1]
  exact Bs.nil w
 | some g =>
  obtain ⟨cap,h1,h2,h3,_⟩:=he
  rw [h1]
  obtain ⟨hg,cur,ty,z,hh,hle,hcell⟩:=jJ h hH
  refine Bs.of_cells h2 h3 fun j hj=>?_
  have hlt:off+j<cur.size:=by omega
  rw [cell_of_row w g _ cur ty z hh]
  have:=hf j hj _ _ _ _ (hcell (off+j) O)
  have e:cur.getD (off+j) undef=.int .u8 ((l.getD j 0).toNat:Nat):=this
  rw [← e]
  simp [hlt]
theorem IH {e:TypeId} {i off n N:Nat} {g:Option Nat} {F:Nat→CV} (l:Z) (ho:o.op=.convert t u p) (hx:s.eval p=.os i g off n 1) (hH:Holds s i g N F) (hn:n=l.length) (hN:off+n≤N) (hf:∀ a,a<n→aa (F (off+a)) (bc l a))
  (h1:P.underlying t=some (.slice e)) (h2:P.underlying e=some (.int .u8)) (h3:P.underlying u=some .string):kF P G o s (.c (.string ⟨l.toArray⟩)):=fun St a w h=>by
 refine ⟨_,fun W hW=>?_,rfl⟩
 have hb:=(OZ h hx hH hn hN hf).below hW
 obtain ⟨ao,cap,e0,_⟩:=id hb
 simp only [execOp,ho,e0]
 rw [e0] at hb
 exact lY (ik hb _ _ _ h1 h2 h3)

theorem Iu {e:TypeId} {a b:Operand} {z1 z2:Int} {k1 k2:IntKind} {l v:Nat} {bl:Z} (ho:o.op=.slice t p (some a) (some b) none) (hx:s.eval p=aV bl) (h1:P.underlying t=some (.slice e)) (h5:(P.info? e).map (·.size)=some 1)
  (ha:s.eval a=.c (.int k1 z1)) (hz1:z1=(l:Int)) (hb:s.eval b=.c (.int k2 z2)) (hz2:z2=(v:Int)) (hlv:l≤v) (hvn:v≤bl.length):ci P G o s (aV ((bl.take v).drop l)) :=
 (pS ho hx h1 h5 (cw ha hz1) (cw hb hz2) hlv hvn).ent (D1 bl l v hlv hvn)
theorem wA {e:TypeId} {a:Operand} {z1:Int} {k1:IntKind} {l:Nat} {bl:Z} (ho:o.op=.slice t p (some a) none none) (hx:s.eval p=aV bl) (h1:P.underlying t=some (.slice e)) (h5:(P.info? e).map (·.size)=some 1)
  (ha:s.eval a=.c (.int k1 z1)) (hz1:z1=(l:Int)) (hlv:l≤bl.length):ci P G o s (aV (bl.drop l)) :=
 (pS ho hx h1 h5 (cw ha hz1) (bG _ _) hlv (YG _)).ent (Sp bl l hlv)
theorem AV {e:TypeId} {b:Operand} {z2:Int} {k2:IntKind} {v:Nat} {bl:Z} (ho:o.op=.slice t p none (some b) none) (hx:s.eval p=aV bl) (h1:P.underlying t=some (.slice e)) (h5:(P.info? e).map (·.size)=some 1)
  (hb:s.eval b=.c (.int k2 z2)) (hz2:z2=(v:Int)) (hvn:v≤bl.length):ci P G o s (aV (bl.take v)) :=
 (pS ho hx h1 h5 (bG _ _) (cw hb hz2) (YT _) hvn).ent (WX bl v hvn)

theorem QP (ho:o.op=.binOp .eql 37 p (.const .nilIface) u) (hx:s.eval p=.c .nilIface):ci Tryz.prog G o s (.c (.bool (decide ((0:Nat)=0)))):=fun St a w h=>by
 have hs:a.eval p=ev G.al 0:=(kM h hx).trans (G2 _).symm
 refine ⟨.bool (decide ((0:Nat)=0)),fun W _=>?_,rfl⟩
 simp only [execOp,ho,hs]
 refine lY ?_
 show (do eqGuard .eql _ _ _ (ev G.al 0) .nilIface;binOp .eql _ (ev G.al 0) .nilIface:Sem Value).run _ W=_
 rw [jj]
 exact o7 G.al 0 W
theorem QE (ho:o.op=.binOp .neq 37 p (.const .nilIface) u) (hx:s.eval p=.c .nilIface):ci Tryz.prog G o s (.c (.bool (decide ((0:Nat)≠0)))):=fun St a w h=>by
 have hs:a.eval p=ev G.al 0:=(kM h hx).trans (G2 _).symm
 refine ⟨.bool (decide ((0:Nat)≠0)),fun W _=>?_,rfl⟩
 simp only [execOp,ho,hs]
 refine lY ?_
 show (do eqGuard .neq _ _ _ (ev G.al 0) .nilIface;binOp .neq _ (ev G.al 0) .nilIface:Sem Value).run _ W=_
 rw [jj]
 have:=o5 G.al 0 W
 rw [← decide_not] at this
 exact this
theorem R4 (op:BinOp) (t:TypeId) (x y:Operand) (a b:Option Addr) (W:World):(eqGuard op t x y (.pointer a) (.pointer b)).run P W=.ok () W:=by
 unfold eqGuard
 split <;> simp
theorem Cq {e:TypeId} (ht:P.underlying t=some (.pointer e)) (a:Addr) (W:World):(Op.equal t (.pointer (some a)) (.pointer none)).run P W=.ok false W:=by
 show (Op.equalIn 10000 t (.pointer (some a)) (.pointer none)).run P W=_
 rw [show (10000:Nat)=9999+1 from rfl,Op.equalIn]
 simp only [underlying,Sem.run_bind,run_program,Result.andThen_ok,ht,Sem.run_pure]
theorem LZ {e:TypeId} {i off:Nat} {g:Option Nat} (ho:o.op=.binOp .eql t p q u) (hx:s.eval p=.op i g off) (hy:s.eval q=.c (.pointer none)) (ht:P.underlying t=some (.pointer e)):ci P G o s (.c (.bool false)):=fun St a w h=>by
 obtain ⟨b,rfl,e0⟩:=ji h hx
 refine ⟨_,fun W _=>?_,rfl⟩
 simp only [execOp,ho,e0,kM h hy]
 refine lY ?_
 simp [R4,binOp,Cq ht]
def fV {α:Type} (k:Nat) (e:α→Nat→CV) (d:α) (l:List α) (j:Nat):CV:=e (l.getD (j / k) d) (j % k)
theorem iy {α:Type} {k:Nat} {e:α→Nat→CV} {d:α} {l:List α} {i j:Nat} (hj:j<k):fV k e d l (i * k+j)=e (l.getD i d) j:=by
 unfold fV
 rw [a0x i k,Nat.mul_add_div O,Nat.div_eq_of_lt hj,Zt,Nat.mul_add_mod,Z8 hj]
theorem FG {l l2:Z} {h:Nat→CV} (hh:∀ j,j<l2.length→aa (h j) (bc l2 j)):∀ j,j<(l.length+l2.length) * 1→aa (u5 (l.length * 1) (bc l) h j) (bc (l++l2) j):=fun j hj=>by
 unfold u5
 by_cases h1:j<l.length * 1
 ·rw [YF h1]
  refine aa.of_eq ?_
  simp only [bc,YH,YL (show j<l.length by omega)]
 ·rw [YE h1]
  refine aa.trans (hh _ O) (aa.of_eq ?_)
  simp only [bc,YH,YX (show l.length≤j by omega),Ze]

theorem E9 {e:TypeId} {z:Value} {i N:Nat} {g:Option Nat} {f h:Nat→CV} {l l2:Z} {m:Nat} (ho:o.op=.call ⟨.builtin .append,#[p,q],#[t,u]⟩) (hx:s.eval p=.os i g 0 l.length 1) (hH:s.H[i]?=some (g,.blk N f)) (hN:l.length≤N) (hf:∀ j,j<l.length→aa (f j) (bc l j))
  (hsrc:uf P G s q 1 m h) (hm:m=l2.length) (hh:∀ j,j<l2.length→aa (h j) (bc l2 j)) (h1:P.underlying t=some (.slice e)) (hu:eL P u=true) (h5:(P.info? e).map (·.size)=some 1) (hz:(P.info? e).map (·.zero)=some (some z)) (hby:(P.info? e).map (·.bytes)=some 1) (hzk:z.cells.size=1)
  (h63:l.length+l2.length≤140737488355328) (hleaf:∀ j,j<m * 1→iS (h j)=true) (hd:cq G o=true)
  (hK:∀ g',K (s.with o.dst (.os i g' 0 (l++l2).length 1) (s.H.set i (g',.blk (l++l2).length (bc (l++l2)))))):ug P G o s K:=by
 subst hm
 refine zl ho hx hH O hsrc h1 hu h5 hz hby O O hzk (bc (l++l2)) (fun j hj=>?_) hleaf hd (fun g'=>?_)
 ·refine aa.trans ?_ (FG hh j hj)
  unfold u5
  split
  ·exact hf j O
  ·exact I
 ·have:=hK g'
  rw [YI] at this
  rw [Ze]
  exact this

variable {env:List (Nat×CV)} {b0:Nat→CV} {H:List (Option Nat×bi)}
theorem dG {d:Nat} {v:CV} {H':List (Option Nat×bi)} (hd:o.dst=some d):(⟨env,b0,H⟩:AS).with o.dst v H'=⟨(d,v)::env,b0,H'⟩:=by simp only [AS.with,AS.put,hd]
theorem yx {v:CV} {H':List (Option Nat×bi)} (hd:o.dst=none):(⟨env,b0,H⟩:AS).with o.dst v H'=⟨env,b0,H'⟩:=by simp only [AS.with,AS.put,hd]
theorem kN {d:Nat} (hd:o.dst=some d) (hN:Nat.blt d G.N=true):cq G o=true:=by simp only [cq,hd];exact hN
theorem To (hd:o.dst=none):cq G o=true:=by simp only [cq,hd]

theorem Sc {z:Value} {n d:Nat} (ho:o.op=.alloc t) (hz:(P.info? t).map (·.zero)=some (some z)) (hn:z.cells.size=n) (hd:o.dst=some d) (hN:Nat.blt d G.N=true)
  (hK:∀ g,K ⟨(d,.op H.length g 0)::env,b0,H++[(g,.blk n fun j=>.c (z.cells.getD j undef))]⟩):kQ P G o ⟨env,b0,H⟩ K :=
 Ot ho hz hn (kN hd hN) fun g=>by rw [dG hd];exact hK g
theorem WO {n d:Nat} {c:CV} {l:List CV} (ho:o.op=.box t p) (hx:(⟨env,b0,H⟩:AS).eval p=c) (hl:fA c=some l) (hn:l.length=n) (hd:o.dst=some d) (hN:Nat.blt d G.N=true)
  (hK:∀ g,K ⟨(d,.op H.length g 0)::env,b0,H++[(g,.blk n (fl l))]⟩):kQ P G o ⟨env,b0,H⟩ K :=
 U7 ho hx hl hn (kN hd hN) fun g=>by rw [dG hd];exact hK g
theorem BB {e:TypeId} {z:Value} {len m:Nat} {parts:Array (Nat×Operand)} {l:List CV} {n d:Nat} (ho:o.op=.buildSlice t len parts) (h1:P.underlying t=some (.slice e)) (h5:(P.info? e).map (·.size)=some m) (hz:(P.info? e).map (·.zero)=some (some z))
  (hm:Nat.ble (len * m) 16777216=true) (hlen:Nat.ble len 16777216=true) (hf:sE (fun i=>some (i * m,m)) ((List.range (len * m)).map fun i=>.c (z.cells[i % z.cells.size]!)) (parts.toList.map fun p=>(p.1,(⟨env,b0,H⟩:AS).eval p.2))=some l) (hn:l.length=n) (hle:n=len * m) (hd:o.dst=some d) (hN:Nat.blt d G.N=true)
  (hK:∀ g,K ⟨(d,.os H.length g 0 len m)::env,b0,H++[(g,.blk n (fl l))]⟩):kQ P G o ⟨env,b0,H⟩ K :=
 yg ho h1 h5 hz hm hlen hf hn hle (kN hd hN) fun g=>by rw [dG hd];exact hK g
theorem OD {e:TypeId} {l:ByteArray} {d:Nat} (ho:o.op=.convert t u p) (hx:(⟨env,b0,H⟩:AS).eval p=.c (.string l)) (h1:P.underlying t=some .string) (h2:P.underlying u=some (.slice e)) (h3:P.underlying e=some (.int .u8)) (hl:l.size≤9223372036854775807) (hd:o.dst=some d) (hN:Nat.blt d G.N=true)
  (hK:K ⟨(d,aV l.data.toList)::env,b0,H⟩):kQ P G o ⟨env,b0,H⟩ K :=
 JW ho hx h1 h2 h3 hl (kN hd hN) (by rw [dG hd];exact hK)
theorem Sa {f:FuncId} {xs:Array Operand} {ats:Array TypeId} {args:List CV} {m:CV} {d:Nat} (ho:o.op=.call ⟨.value (.func f),xs,ats⟩) (hc:bA P f=true) (hA:cc G.gs P f args m) (he:BU G ⟨env,b0,H⟩ xs.toList args) (hd:o.dst=some d) (hN:Nat.blt d G.N=true)
  (hK:K ⟨(d,m)::env,b0,H⟩):kQ P G o ⟨env,b0,H⟩ K:=Oq ho hc hA he (kN hd hN) (by rw [dG hd,ZH];exact hK)
theorem G4 {f:FuncId} {xs:Array Operand} {ats:Array TypeId} {args:List CV} {Q:CV→List (Option Nat×bi)→Prop} {d:Nat} (ho:o.op=.call ⟨.value (.func f),xs,ats⟩) (hc:bA P f=true) (hA:AC G.gs P f [] args Q) (he:BU G ⟨env,b0,H⟩ xs.toList args) (hd:o.dst=some d) (hN:Nat.blt d G.N=true)
  (hK:∀ r H',Q r H'→K ⟨(d,r)::env,b0,H++H'⟩):kQ P G o ⟨env,b0,H⟩ K:=DA ho hc hA he (kN hd hN) (fun r H' hq=>by rw [dG hd];exact hK r H' hq)
theorem ld {f:FuncId} {v:Operand} {n d:Nat} {fv:Nat→CV} {xs:Array Operand} {ats:Array TypeId} {args:List CV} {Q:CV→List (Option Nat×bi)→Prop} (ho:o.op=.call ⟨.value v,xs,ats⟩) (hv:(⟨env,b0,H⟩:AS).eval v=.fn f n fv) (hc:bA P f=true) (hA:AC G.gs P f [] args Q) (he:oQ (xs.toList.map (⟨env,b0,H⟩:AS).eval++(List.range n).map fv) args) (hd:o.dst=some d) (hN:Nat.blt d G.N=true)
  (hK:∀ r H',Q r H'→K ⟨(d,r)::env,b0,H++H'⟩):kQ P G o ⟨env,b0,H⟩ K:=Oo ho hv hc he hA (kN hd hN) (fun r H' hq=>by rw [dG hd];exact hK r H' hq)
theorem GE {i off n m:Nat} {g:Option Nat} {f:Nat→CV} {c:CV} {l:List CV} (ho:o.op=.store t p q) (hx:(⟨env,b0,H⟩:AS).eval p=.op i g off) (hH:H[i]?=some (g,.blk n f)) (hy:(⟨env,b0,H⟩:AS).eval q=c) (hl:fA c=some l) (h5:(P.info? t).map (·.size)=some m) (hm:l.length=m) (hleaf:l.all iS=true) (hn:off+m≤n)
  (F:Nat→CV) (hF:∀ j,j<n→aa (gT f off l j) (F j)) (hd:o.dst=none) (hK:K ⟨env,b0,H.set i (g,.blk n F)⟩):ug P G o ⟨env,b0,H⟩ K :=
 MT ho hx hH hy hl h5 hm hleaf hn F hF (To hd) (by rw [yx hd];exact hK)
theorem MZ {e:TypeId} {z:Value} {i n m k N by_ n' N' d:Nat} {g:Option Nat} {f h:Nat→CV} (ho:o.op=.call ⟨.builtin .append,#[p,q],#[t,u]⟩) (hx:(⟨env,b0,H⟩:AS).eval p=.os i g 0 n k) (hH:H[i]?=some (g,.blk N f)) (hN:n * k≤N)
  (hsrc:uf P G ⟨env,b0,H⟩ q k m h) (h1:P.underlying t=some (.slice e)) (hu:eL P u=true) (h5:(P.info? e).map (·.size)=some k) (hz:(P.info? e).map (·.zero)=some (some z)) (hby:(P.info? e).map (·.bytes)=some by_)
  (h63:n+m≤9223372036854775807) (h48:(n+m) * by_≤140737488355328) (hzk:z.cells.size=k)
  (F:Nat→CV) (hF:∀ j,j<(n+m) * k→aa (u5 (n * k) f h j) (F j)) (hleaf:∀ j,j<m * k→iS (h j)=true) (hd:o.dst=some d) (hdN:Nat.blt d G.N=true) (hn':n+m=n') (hN':(n+m) * k=N')
  (hK:∀ g',K ⟨(d,.os i g' 0 n' k)::env,b0,H.set i (g',.blk N' F)⟩):ug P G o ⟨env,b0,H⟩ K :=
 zl ho hx hH hN hsrc h1 hu h5 hz hby h63 h48 hzk F hF hleaf (kN hd hdN) fun g'=>by subst hn';subst hN';rw [dG hd];exact hK g'
theorem aR {e:TypeId} {z:Value} {i N d:Nat} {g:Option Nat} {f h:Nat→CV} {l l2:Z} {m:Nat} (ho:o.op=.call ⟨.builtin .append,#[p,q],#[t,u]⟩) (hx:(⟨env,b0,H⟩:AS).eval p=.os i g 0 l.length 1) (hH:H[i]?=some (g,.blk N f)) (hN:l.length≤N) (hf:∀ j,j<l.length→aa (f j) (bc l j))
  (hsrc:uf P G ⟨env,b0,H⟩ q 1 m h) (hm:m=l2.length) (hh:∀ j,j<l2.length→aa (h j) (bc l2 j)) (h1:P.underlying t=some (.slice e)) (hu:eL P u=true) (h5:(P.info? e).map (·.size)=some 1) (hz:(P.info? e).map (·.zero)=some (some z)) (hby:(P.info? e).map (·.bytes)=some 1) (hzk:z.cells.size=1)
  (h63:l.length+l2.length≤140737488355328) (hleaf:∀ j,j<m * 1→iS (h j)=true) (hd:o.dst=some d) (hdN:Nat.blt d G.N=true)
  (hK:∀ g',K ⟨(d,.os i g' 0 (l++l2).length 1)::env,b0,H.set i (g',.blk (l++l2).length (bc (l++l2)))⟩):ug P G o ⟨env,b0,H⟩ K :=
 E9 ho hx hH hN hf hsrc hm hh h1 hu h5 hz hby hzk h63 hleaf (kN hd hdN) fun g'=>by rw [dG hd];exact hK g'
theorem ax {c:Code} {α:Type} (D:List Nat) (M:α→List (Nat×CV)) (Hp:α→List (Option Nat×bi)) (φ:α→Prop) (μ:α→Nat) (p0:α) (h0:φ p0) (hM:∀ p,((M p).all fun x=>D.any (Nat.beq x.1))=true) (he:bz env b0 (M p0)) (hH:aP H (Hp p0))
  (hr:∀ p,φ p→bj P G c ⟨M p,uA D env b0,Hp p⟩ (rM (fun s'=>∃ p',φ p'∧μ p'<μ p∧Ao D (uA D env b0) s'.b∧(s'.env.all fun x=>D.any (Nat.beq x.1))=true∧bz s'.env s'.b (M p')∧(Hp p').length≤s'.H.length∧aP (s'.H.take (Hp p').length) (Hp p')) R)):bj P G (.loop c) ⟨env,b0,H⟩ R :=
 Fy (s:=⟨env,b0,H⟩) D M Hp φ μ p0 h0 hM he hH hr
end
section
variable {P:Program} {G:Gh} {ops:Array Oper} {o:Oper} {s:AS} {K:AS→Prop} {t u:TypeId} {p q:Operand} {k:IntKind}
variable {env:List (Nat×CV)} {b0:Nat→CV} {H:List (Option Nat×bi)}

theorem az.afterH {St St':Nat→Prop} {a:Act} {w w':World} (h:az G St s a w) {fp:Nat→Nat→Prop} (hp:Ef G.al St w G.w0.heap.size G.F0 s.H fp) {i:Nat} (hi:i<s.H.length) {x:Option Nat×bi} (hu:jr (fp i) w w') (h1:∀ b,St b→St' b) (h2:∀ b,St' b→St b∨w.heap.size≤b∨fp i b) (h3:∀ b,St' b→b<w'.heap.size) (hp':dr G.al St' w' w.heap.size (fp i) [x]) :
  az G St' ⟨s.env,s.b,s.H.set i x⟩ a w':=by
 have hst:∀ b,St b→w'.heap[b]?=w.heap[b]?:=fun b hb=>hu.block b (h.s3 b hb) fun hf=>(hp.own i b hf).2.1 hb
 have he:qS St w w':=⟨fun b cur t z hb hc=>(hst b hb).trans hc,hu.sh⟩
 obtain ⟨fp',hp'⟩:=hp'
 refine ⟨h.df.keep h1 hst,h.sz,fun d=>ba.evo he h1 _ _ (h.env d),⟨hu.os.trans h.un.os,hu.tape.trans h.un.tape,hu.output.trans h.un.output,Zd h.un.size hu.size,fun k hk hF=>?_,fun b cur ty z hb=>?_⟩,fun b hs=>h1 b (h.s1 b hs),fun b hs=>?_,h3,?_,?_,fun g hg=>h1 g (h.sg.1 g hg),fun y hy=>h1 _ (h.sg.2 y hy)⟩
 ·refine (hu.block k (Zf hk h.un.size) fun hf=>?_).trans (h.un.block k hk hF)
  rcases (hp.own i k hf).2.2 with h4|h4
  ·omega
  ·exact hF h4
 ·obtain ⟨cur',z',h4,h5⟩:=h.un.sh b cur ty z hb
  obtain ⟨cur2,z2,h6,h7⟩:=hu.sh b cur' ty z' h4
  exact ⟨cur2,z2,h6,h7.trans h5⟩
 ·rcases h2 b hs with hs|hs|hs
  ·exact h.s2 b hs
  ·exact .inr (.inl (Zd h.un.size hs))
  ·exact .inr (hp.own i b hs).2.2
 ·have old:∀ j b,j≠i→fp j b→w'.heap[b]?=w.heap[b]?:=fun j b hj hb=>hu.block b (hp.own j b hb).1 fun hf=>hj (hp.dis j i b hb hf)
  refine ⟨fun j b=>if j=i then fp' 0 b else fp j b,fun j q r hj=>?_,fun j l b hj hl=>?_,fun j b hj=>?_,fun j hj b hb=>?_⟩
  ·by_cases e:j=i
   ·subst e
    simp [hi] at hj
    have e2:(fun b=>if j=j then fp' 0 b else fp j b)=fp' 0:=funext fun b=>by simp
    show r.rep G.al St' w' (fun b=>if j=j then fp' 0 b else fp j b) q
    rw [e2]
    exact hp'.rep 0 q r (by simp [hj])
   ·rw [YZ (Ne.symm e)] at hj
    have e2:(fun b=>if j=i then fp' 0 b else fp j b)=fp j:=funext fun b=>by simp [e]
    show r.rep G.al St' w' (fun b=>if j=i then fp' 0 b else fp j b) q
    rw [e2]
    exact bi.rep_evo he h1 (fun b hF=>old j b e hF) (hp.rep j q r hj)
  ·have apart:∀ l b,l≠i→fp l b→fp' 0 b→False:=fun l b hl h4 h5=>by
    rcases (hp'.own 0 b h5).2.2 with h6|h6
    ·have:=(hp.own l b h4).1;omega
    ·exact hl (hp.dis l i b h4 h6)
   by_cases e1:j=i <;> by_cases e2:l=i
   ·omega
   ·simp only [e1,e2,if_true,if_false] at hj hl;exact (apart l b e2 hl hj).elim
   ·simp only [e1,e2,if_true,if_false] at hj hl;exact (apart j b e1 hj hl).elim
   ·simp only [e1,e2,if_false] at hj hl;exact hp.dis j l b hj hl
  ·by_cases e:j=i
   ·simp only [e,if_true] at hj
    obtain ⟨h4,h5,h6⟩:=hp'.own 0 b hj
    refine ⟨h4,h5,?_⟩
    rcases h6 with h6|h6
    ·exact .inl (Zd h.un.size h6)
    ·exact (hp.own i b h6).2.2
   ·simp only [e,if_false] at hj
    obtain ⟨h4,h5,h6⟩:=hp.own j b hj
    refine ⟨Zf h4 hu.size,fun hs=>?_,h6⟩
    rcases h2 b hs with hs|hs|hs
    ·exact h5 hs
    ·omega
    ·exact e (hp.dis j i b hj hs)
  ·have hj':s.H.length≤j:=by simpa using hj
   have e:j≠i:=by omega
   simp only [e,if_false] at hb
   exact hp.out j hj' b hb
 ·exact gc.keep h.sn (fun q hq=>hst q (h.sg.1 q hq)) (fun y hy=>hst _ (h.sg.2 y hy))

theorem Ro {f:FuncId} {xs:Array Operand} {ats:Array TypeId} {args:List CV} {Q:CV→List (Option Nat×bi)→Prop} {i d:Nat} {x0:Option Nat×bi} (ho:o.op=.call ⟨.value (.func f),xs,ats⟩) (hc:bA P f=true) (hi:H[i]?=some x0) (hA:AC G.gs P f [x0] args Q) (he:BU G ⟨env,b0,H⟩ xs.toList args) (hd:o.dst=some d) (hN:Nat.blt d G.N=true)
  (hK:∀ r H',Q r H'→∃ x r',H'=[x]∧aa r r'∧K ⟨(d,r')::env,b0,H.set i x⟩):ug P G o ⟨env,b0,H⟩ K:=fun St a w hr Q'=>by
 unfold Oper.wp
 rw [tU ho hc]
 obtain ⟨h1,h2⟩:=BN he hr
 obtain ⟨fp,hp⟩:=hr.hp
 have hlt:i<H.length:=(YJ.1 hi).1
 obtain ⟨g0,r0⟩:=x0
 have hent:uR G.gs G.al St (fp i) [(g0,r0)] w:=by
  refine ⟨hr.s3,hr.sn,hr.sg,⟨fun j b=>j=0∧fp i b,fun j g r hj=>?_,fun j l b hj hl=>by omega,fun j b hj=>⟨(hp.own i b hj.2).1,(hp.own i b hj.2).2.1,.inr hj.2⟩,fun j hj b hb=>by simp at hj;omega⟩,fun b hb=>(hp.own i b hb).2.1⟩
  match j,hj with
  | 0,hj =>
   simp at hj
   obtain ⟨rfl,rfl⟩:=hj
   have e:(fun b=>(0:Nat)=0∧fp i b)=fp i:=funext fun b=>by simp
   show r0.rep G.al St w (fun b=>(0:Nat)=0∧fp i b) g0
   rw [e]
   exact hp.rep i g0 r0 hi
  | j+1,hj=>simp at hj
 refine (hA G.al w St _ _ hent h1 h2).mono ?_
 rintro e w' ⟨v,r,H',St',rfl,hq,hv,hu,h3,h4,h5,h6⟩
 obtain ⟨x,r',rfl,hce,hk⟩:=hK r H' hq
 refine ⟨fun b hb=>hu.block b (hr.s3 b hb) fun hf=>(hp.own i b hf).2.1 hb,St',h3,_,hk,?_⟩
 have h7:=(hr.afterH hp hlt hu h3 h4 h5 h6).put (dst:=o.dst) (v:=r') (x:=v) (by intro d' hd';rw [hd] at hd';cases hd';exact YU hN) (hce _ _ _ _ hv)
 rw [hd] at h7 ⊢
 exact h7
theorem cO {i j:Nat} {g:Option Nat} {off n m k:Nat} (h:n=m):aa (.os i g off n k) (.os j g off m k):=by
 subst h
 cases g <;> exact fun _ _ _ _ h=>h
theorem cP {i j off:Nat} {g:Option Nat}:aa (.op i g off) (.op j g off):=fun _ _ _ _ h=>h
def sV (n k N:Nat) (F:Nat→CV):CV→List (Option Nat×bi)→Prop:=fun r H'=>∃ g,r=.os 0 g 0 n k∧H'=[(g,.blk N F)]
theorem Ox {d:Nat} {v v':CV} (h:aa v v'):dh G ⟨(d,v)::env,b0,H⟩ ⟨(d,v')::env,b0,H⟩:=fun St a w hr=>by
 refine ⟨St,fun _ h=>h,hr.df,hr.sz,fun e=>?_,hr.un,hr.s1,hr.s2,hr.s3,hr.hp,hr.sn,hr.sg⟩
 have:=hr.env e
 by_cases hde:d=e
 ·subst hde
  rw [fu] at this ⊢
  exact h _ _ _ _ this
 ·rw [dy _ _ _ hde] at this ⊢;exact this
theorem kQ.ent {K':AS→Prop} (h:kQ P G o s K') (hK:∀ s',K' s'→∃ s'',dh G s' s''∧K s''):kQ P G o s K:=fun St a w hr Q=>Oper.wp_mono (fun a' w' ⟨hb,St',hs,s',h1,h2⟩=>by
 obtain ⟨s'',h3,h4⟩:=hK s' h1
 obtain ⟨S2,h5,h6⟩:=h3 St' a' w' h2
 exact ⟨hb,S2,fun b hb=>h5 b (hs b hb),s'',h4,h6⟩) (h St a w hr Q)
theorem Sb {f:FuncId} {xs:Array Operand} {ats:Array TypeId} {args:List CV} {n m N:Nat} {F:Nat→CV} {d:Nat} (ho:o.op=.call ⟨.value (.func f),xs,ats⟩) (hc:bA P f=true) (hA:AC G.gs P f [] args (sV n m N F)) (he:BU G ⟨env,b0,H⟩ xs.toList args) (hd:o.dst=some d) (hN:Nat.blt d G.N=true)
  (hK:∀ g,K ⟨(d,.os H.length g 0 n m)::env,b0,H++[(g,.blk N F)]⟩):kQ P G o ⟨env,b0,H⟩ K :=
 kQ.ent (K':=fun s'=>∃ g,s'=⟨(d,.os 0 g 0 n m)::env,b0,H++[(g,.blk N F)]⟩) (G4 ho hc hA he hd hN fun r H' ⟨g,h1,h2⟩=>⟨g,by rw [h1,h2]⟩) fun s' ⟨g,hs⟩=>⟨_,by rw [hs];exact Ox (cO (j:=H.length) rfl),hK g⟩
theorem oE {fn:Func} {e:Exit} {n m k N M:Nat} {g:Option Nat} {F F':Nat→CV} (i:Nat) (he:e=.ret∨e=.normal) (hres:lX P G fn s (.os i g 0 n k)) (hH:s.H[i]?=some (g,.blk N F)) (hn:n=m) (hN:M≤N) (hg:g=none→M=N) (hF:∀ j,j<M→aa (F j) (F' j)):mz P G fn (sV m k M F') e s:=by
 have h:∃ r H',lX P G fn s r∧sV m k M F' r H'∧∀ St a w,az G St s a w→dr G.al St w G.w0.heap.size G.F0 H':=by
  refine ⟨.os 0 g 0 m k,[(g,.blk M F')],hres.ent (cO hn),⟨g,rfl,rfl⟩,fun St a w hr=>?_⟩
  obtain ⟨fp,hp⟩:=hr.hp
  have hr0:=hp.rep i g _ hH
  refine ⟨fun j b=>j=0∧fp i b,fun j q r hj=>?_,fun j l b hj hl=>by omega,fun j b hj=>hp.own i b hj.2,fun j hj b hb=>by simp at hj;omega⟩
  match j,hj with
  | 0,hj =>
   simp at hj
   obtain ⟨rfl,rfl⟩:=hj
   have e:(fun b=>(0:Nat)=0∧fp i b)=fp i:=funext fun b=>by simp
   show bi.rep G.al St w (fun b=>(0:Nat)=0∧fp i b) g (.blk M F')
   rw [e]
   cases g with
   | none=>exact ⟨by rw [hg rfl];exact hr0.1,hr0.2⟩
   | some g =>
    obtain ⟨h1,cur,ty,h2,h3,h4⟩:=hr0
    exact ⟨h1,cur,ty,h2,by omega,fun l hl=>hF l hl _ _ _ _ (h4 l O)⟩
  | j+1,hj=>simp at hj
 rcases he with rfl|rfl <;> exact h

theorem mj (d k:Nat) (f:Nat→CV) (hl:look s.env s.b d=.c (.slice none 0 0)):dh G s ⟨(d,.os s.H.length none 0 0 k)::s.env,s.b,s.H++[(none,.blk 0 f)]⟩:=fun St a w hr=>by
 refine ⟨St,fun _ h=>h,hr.df,hr.sz,fun e=>?_,hr.un,hr.s1,hr.s2,hr.s3,?_,hr.sn,hr.sg⟩
 ·by_cases hde:d=e
  ·subst hde
   rw [fu]
   have:=hr.env d
   rw [hl] at this
   exact ⟨rfl,this⟩
  ·rw [dy _ _ _ hde];exact hr.env e
 ·obtain ⟨fp,hp⟩:=hr.hp
  refine ⟨fp,fun j g r hj=>?_,hp.dis,hp.own,fun j hj=>hp.out j (by simp at hj;omega)⟩
  rcases Z1 j s.H.length with h1|h1
  ·rw [YL h1] at hj;exact hp.rep j g r hj
  ·rw [YX h1] at hj
   have h2:=(YJ.1 hj).1
   simp at h2
   have h3:j=s.H.length:=by omega
   subst h3
   simp at hj
   obtain ⟨rfl,rfl⟩:=hj
   exact ⟨rfl,fun b hb=>hp.out _ (YG _) b hb⟩
theorem rU {x:Operand} {i k off:Nat} (hx:s.eval x=.c (.slice none 0 0)):SE G s x (.os i none off 0 k):=fun St a w hr=>⟨rfl,kM hr hx⟩
theorem gL (f:Nat→CV):dh G s ⟨s.env,s.b,s.H++[(none,.blk 0 f)]⟩:=fun St a w hr=>by
 refine ⟨St,fun _ h=>h,hr.df,hr.sz,hr.env,hr.un,hr.s1,hr.s2,hr.s3,?_,hr.sn,hr.sg⟩
 obtain ⟨fp,hp⟩:=hr.hp
 refine ⟨fp,fun j g r hj=>?_,hp.dis,hp.own,fun j hj=>hp.out j (by simp at hj;omega)⟩
 rcases Z1 j s.H.length with h1|h1
 ·rw [YL h1] at hj;exact hp.rep j g r hj
 ·rw [YX h1] at hj
  have h2:=(YJ.1 hj).1
  simp at h2
  have h3:j=s.H.length:=by omega
  subst h3
  simp at hj
  obtain ⟨rfl,rfl⟩:=hj
  exact ⟨rfl,fun b hb=>hp.out _ (YG _) b hb⟩
theorem eE (i:Nat) {g:Option Nat} {n m:Nat} {f F:Nat→CV} (hH:s.H[i]?=some (g,.blk n f)) (hn:m≤n) (hg:g=none→m=n) (hF:∀ j,j<m→aa (f j) (F j)):dh G s ⟨s.env,s.b,s.H.set i (g,.blk m F)⟩:=fun St a w hr=>by
 refine ⟨St,fun _ h=>h,hr.df,hr.sz,hr.env,hr.un,hr.s1,hr.s2,hr.s3,?_,hr.sn,hr.sg⟩
 obtain ⟨fp,hp⟩:=hr.hp
 have hlt:i<s.H.length:=(YJ.1 hH).1
 refine ⟨fp,fun j q r hj=>?_,hp.dis,hp.own,fun j hj=>hp.out j (by simpa using hj)⟩
 by_cases e:j=i
 ·subst e
  simp [hlt] at hj
  obtain ⟨rfl,rfl⟩:=hj
  have:=hp.rep j g _ hH
  cases g with
  | none=>exact ⟨by rw [hg rfl];exact this.1,this.2⟩
  | some g =>
   obtain ⟨h1,cur,ty,h2,h3,h4⟩:=this
   exact ⟨h1,cur,ty,h2,by omega,fun l hl=>hF l hl _ _ _ _ (h4 l O)⟩
 ·rw [YZ (Ne.symm e)] at hj
  exact hp.rep j q r hj

theorem aa.agg2 {f g:Nat→CV} (h0:aa (f 0) (g 0)) (h1:aa (f 1) (g 1)):aa (.agg 2 f) (.agg 2 g):=aa.agg rfl fun i hi=>match i,hi with|0,_=>h0|1,_=>h1
theorem aa.agg3 {f g:Nat→CV} (h0:aa (f 0) (g 0)) (h1:aa (f 1) (g 1)) (h2:aa (f 2) (g 2)):aa (.agg 3 f) (.agg 3 g):=aa.agg rfl fun i hi=>match i,hi with|0,_=>h0|1,_=>h1|2,_=>h2
def qC (l:List Int) (i:Nat):CV:=.c (.int .i64 (l.getD i 0))
def Ju (l:List Int):CV:=.rs 1 l.length fun i _=>qC l i
theorem GY (L:List Int) (j:Nat) (hj:j<L.length):aa (fl (L.map fun z=>.c (.int .i64 z)) j) (qC L j):=aa.of_eq (by
 rw [dJ]
 simp [List.getD,hj,qC])
theorem Oh (L:Z) (j:Nat) (hj:j<L.length):aa (fl (L.map fun z=>.c (.int .u8 (z.toNat:Nat))) j) (bc L j):=aa.of_eq (by
 rw [dJ]
 simp [List.getD,hj,bc])
inductive Pn (P:Program) (f g:Nat→CV):List Field→Prop→Prop where
 | nil:Pn P f g [] True
 | int {fd : Field} {fs : List Field} {k k' : IntKind} {a b : Int} {p : Prop} (h : P.underlying fd.type = some (.int k')) (hn : fd.name ≠ "_") (hf : f fd.offset = .c (.int k a)) (hg : g fd.offset = .c (.int k b)) (t : Pn P f g fs p) : Pn P f g (fd :: fs) (a = b ∧ p)
 | bool {fd : Field} {fs : List Field} {a b : Bool} {p : Prop} (h : P.underlying fd.type = some .bool) (hn : fd.name ≠ "_") (hf : f fd.offset = .c (.bool a)) (hg : g fd.offset = .c (.bool b)) (t : Pn P f g fs p) : Pn P f g (fd :: fs) (a = b ∧ p)
 | str {fd : Field} {fs : List Field} {a b : ByteArray} {p : Prop} (h : P.underlying fd.type = some .string) (hn : fd.name ≠ "_") (hf : f fd.offset = .c (.string a)) (hg : g fd.offset = .c (.string b)) (t : Pn P f g fs p) : Pn P f g (fd :: fs) (a = b ∧ p)
theorem kj {d:TypeDesc} {t:TypeId} (h:P.underlying t=some d) (ha:iw P t=false) {cs:Array Value} {i:Nat} {v:Value} (hv:cs[i]?=some v) (W:World):(part t cs i).run P W=.ok v W:=by
 simp [part,lh h,ha,hv]
theorem nI {f g:Nat→CV} {fs:List Field} {p:Prop} (h:Pn P f g fs p) {al:List Addr} {St:Nat→Prop} {w:World} {xs ys:Array Value} {n:Nat} (hx:xs.size=n) (hy:ys.size=n) (hf:∀ i,i<n→ba al St w (f i) (xs.getD i undef)) (hg:∀ i,i<n→ba al St w (g i) (ys.getD i undef))
  (hoff:(fs.all fun fd=>Nat.blt fd.offset n)=true) (d:Nat) (W:World):∃ r:Bool,(Op.eqFields (d+1) xs ys fs).run P W=.ok r W∧(r=true↔p):=by
 have get:∀ (c:Array Value) (q:Nat→CV) (i:Nat) (v:Value),c.size=n→i<n→(∀ i,i<n→ba al St w (q i) (c.getD i undef))→q i=.c v→c[i]?=some v:=fun c q i v hc hi hq he=>by
  have:=hq i hi
  rw [he] at this
  have:c.getD i undef=v:=this
  rw [← this]
  have:i<c.size:=by omega
  simp [this]
 induction h with
 | nil=>exact ⟨true,by simp [Op.eqFields],by simp⟩
 | @int fd fs k k' a b p h hn h1 h2 _ ih =>
  simp only [Z6,YK] at hoff
  obtain ⟨r,hr,hp⟩:=ih hoff.2
  have hlt:fd.offset<n:=YU hoff.1
  have ha:iw P fd.type=false:=by unfold iw;rw [h]
  have e1:=kj h ha (get xs f _ _ hx hlt hf h1) W
  have e2:=kj h ha (get ys g _ _ hy hlt hg h2) W
  simp only [Op.eqFields,ne_eq,hn,bAx,if_true,Sem.run_bind,e1,e2,Result.andThen_ok,run_equalIn_int W d fd.type k k' a b h,Sem.run_ite]
  by_cases hab:a=b
  ·subst hab;exact ⟨r,by simp [hr],by simp [hp]⟩
  ·exact ⟨false,by simp [hab],by simp [hab]⟩
 | @bool fd fs a b p h hn h1 h2 _ ih =>
  simp only [Z6,YK] at hoff
  obtain ⟨r,hr,hp⟩:=ih hoff.2
  have hlt:fd.offset<n:=YU hoff.1
  have ha:iw P fd.type=false:=by unfold iw;rw [h]
  have e1:=kj h ha (get xs f _ _ hx hlt hf h1) W
  have e2:=kj h ha (get ys g _ _ hy hlt hg h2) W
  simp only [Op.eqFields,ne_eq,hn,bAx,if_true,Sem.run_bind,e1,e2,Result.andThen_ok,run_equalIn_bool' W d fd.type a b h,Sem.run_ite]
  by_cases hab:a=b
  ·subst hab;exact ⟨r,by simp [hr],by simp [hp]⟩
  ·exact ⟨false,by simp [hab],by simp [hab]⟩
 | @str fd fs a b p h hn h1 h2 _ ih =>
  simp only [Z6,YK] at hoff
  obtain ⟨r,hr,hp⟩:=ih hoff.2
  have hlt:fd.offset<n:=YU hoff.1
  have ha:iw P fd.type=false:=by unfold iw;rw [h]
  have e1:=kj h ha (get xs f _ _ hx hlt hf h1) W
  have e2:=kj h ha (get ys g _ _ hy hlt hg h2) W
  simp only [Op.eqFields,ne_eq,hn,bAx,if_true,Sem.run_bind,e1,e2,Result.andThen_ok,run_equalIn_string W d fd.type a b h,Sem.run_ite]
  by_cases hab:a=b
  ·subst hab;exact ⟨r,by simp [hr],by simp [hp]⟩
  ·exact ⟨false,by simp [hab,qX],by simp [hab]⟩
theorem CG {n:Nat} {f g:Nat→CV} {fs:Array Field} {p:Prop} [Decidable p] {t u:TypeId} {x y:Operand} (ho:o.op=.binOp .eql t x y u) (hx:s.eval x=.agg n f) (hy:s.eval y=.agg n g) (hS:P.underlying t=some (.struct fs)) (hp:P.stoodInHeld t=false) (hG:P.eqGuardType P.depth t=false) (hE:Pn P f g fs.toList p) (hoff:(fs.toList.all fun fd=>Nat.blt fd.offset n)=true):ci P G o s (.c (.bool (decide p))):=fun St a w h=>by
 obtain ⟨xs,ex,hx1,NU⟩:=ji h hx
 obtain ⟨ys,ey,hy1,hy2⟩:=ji h hy
 have hfs:P.fieldsOf t=fs:=by simp [Program.fieldsOf,hS]
 refine ⟨.bool (decide p),fun W _=>?_,rfl⟩
 obtain ⟨r,hr,hiff⟩:=nI hE hx1 hy1 NU hy2 hoff 9998 W
 simp only [execOp,ho,ex,ey]
 refine lY ?_
 simp only [Sem.run_bind,run_eqGuard_agg _ _ _ _ _ _ _ hG,Result.andThen_ok,run_eql_struct]
 rw [show (10000:Nat)=9999+1 from rfl,run_equalIn_agg W 9999 t xs ys (by rw [hfs];exact hS) hp,hfs,hr]
 have:r=decide p:=by rw [axx,hiff];simp
 simp [this]
theorem LU {n:Nat} {f g:Nat→CV} {fs:Array Field} {p:Prop} [Decidable p] {t u:TypeId} {x y:Operand} (ho:o.op=.binOp .neq t x y u) (hx:s.eval x=.agg n f) (hy:s.eval y=.agg n g) (hS:P.underlying t=some (.struct fs)) (hp:P.stoodInHeld t=false) (hG:P.eqGuardType P.depth t=false) (hE:Pn P f g fs.toList p) (hoff:(fs.toList.all fun fd=>Nat.blt fd.offset n)=true):ci P G o s (.c (.bool (decide (¬ p)))):=fun St a w h=>by
 obtain ⟨xs,ex,hx1,NU⟩:=ji h hx
 obtain ⟨ys,ey,hy1,hy2⟩:=ji h hy
 have hfs:P.fieldsOf t=fs:=by simp [Program.fieldsOf,hS]
 refine ⟨.bool (decide (¬ p)),fun W _=>?_,rfl⟩
 obtain ⟨r,hr,hiff⟩:=nI hE hx1 hy1 NU hy2 hoff 9998 W
 simp only [execOp,ho,ex,ey]
 refine lY ?_
 simp only [Sem.run_bind,run_eqGuard_agg _ _ _ _ _ _ _ hG,Result.andThen_ok,run_neq_struct]
 rw [show (10000:Nat)=9999+1 from rfl,run_equalIn_agg W 9999 t xs ys (by rw [hfs];exact hS) hp,hfs,hr]
 have:r=decide p:=by rw [axx,hiff];simp
 simp [this]

theorem Oi {cs:List CV} {j:Nat} (hj:j<cs.length):fl cs j=cs[j]:=by rw [dJ];simp [List.getD,hj]
theorem vr {cs ds:List CV} (h:oQ cs ds):cs.length=ds.length∧∀ j,aa (fl cs j) (fl ds j):=by
 induction h with
 | nil=>exact ⟨rfl,fun _=>I⟩
 | cons h _ ih=>exact ⟨by simp [ih.1],fun j=>match j with|0=>h|j+1=>ih.2 j⟩
theorem ck {cs:List CV} {l2:Z} (h:oQ cs (l2.map fun c=>.c (.int .u8 (c.toNat:Nat)))):∀ j,j<l2.length→aa (fl cs (0+j)) (bc l2 j):=fun j hj=>by
 rw [Nat.zero_add]
 exact ((vr h).2 j).trans (Oh l2 j hj)
theorem dz {cs:List CV} {m:Nat} (h:cs.all iS=true) (hm:m * 1=cs.length):∀ j,j<m * 1→iS (fl cs (0+j))=true:=fun j hj=>by
 rw [Nat.zero_add,Oi O]
 exact Y8.1 h _ (ZS ..)

theorem Pj {gs:List Nat} {al:List Addr} {f:FuncId} {args:List CV} {m:CV} {w:World} {vals:Array Value} (hA:cc gs P f args m) (hS:gc w gs al) (hs:vals.size=args.length) (hv:∀ i,ba al (fun b=>b<w.heap.size) w (fl args i) (vals.getD i undef)) :
  Calls P f vals w fun e w'=>∃ v St',e=.returned v∧ba al St' w' m v∧Below w.heap.size w w':=by
 have hg:∀ g ∈ pn gs,g<w.heap.size:=hS.lt
 have ha:∀ a ∈ al,a.block<w.heap.size:=fun a ha=>by
  obtain ⟨c,t,hc⟩:=hS.row a ha
  exact (Y4.1 hc).1
 refine (hA al w (fun b=>b<w.heap.size) (fun _=>False) vals ⟨fun _ h=>h,hS,⟨hg,ha⟩,⟨fun _ _=>False,fun i g r hi=>by simp at hi,fun _ _ _ h=>h.elim,fun _ _ h=>h.elim,fun _ _ _ h=>h⟩,fun _ h=>h.elim⟩ hs hv).mono ?_
 rintro e w' ⟨v,r,H',St',he,⟨rfl,rfl⟩,hr,hu,_⟩
 exact ⟨v,St',he,hr,hu.below⟩
theorem law_calls {gs:List Nat} {al:List Addr} {f:FuncId} {args:List CV} {w:World} {vals:Array Value} (hA:cc gs P f args (.c (.bool true))) (hS:gc w gs al) (hs:vals.size=args.length) (hv:∀ i,ba al (fun b=>b<w.heap.size) w (fl args i) (vals.getD i undef)) :
  Calls P f vals w fun e w'=>e=.returned (.bool true)∧Below w.heap.size w w' :=
 (Pj hA hS hs hv).mono fun e w' ⟨v,St',he,hr,hb⟩=>⟨by rw [he];exact Y3 _ hr,hb⟩
theorem Vi {al:List Addr} {w:World} {v:Value} {l:Z} (h:Bs w v l):ba al (fun b=>b<w.heap.size) w (aV l) v:=by
 obtain ⟨ao,cap,h1,h2,h3,h4,h5⟩:=h
 refine ⟨ao,cap,h1,h2,h3,h4,fun a ha hn=>?_⟩
 obtain ⟨h6,h7⟩:=h5 a ha
 refine ⟨h6 hn,World.block_lt_of_cell? w ⟨a.block,a.off+0,none⟩ (h7 0 hn),fun i j hi hj=>⟨_,?_,rfl⟩⟩
 rw [show i * 1+j=i by omega]
 exact h7 i hi

theorem ot {gs:List Nat} {f:FuncId} {args:List CV} {r:Value} (h:∀ (al:List Addr) (w:World) (St:Nat→Prop) (vals:Array Value),gc w gs al→vals.size=args.length→(∀ i,ba al St w (fl args i) (vals.getD i undef))→Calls P f vals w fun e w'=>e=.returned r∧Below w.heap.size w w'):cc gs P f args (.c r) :=
 fun al w St F0 vals he hs hv=>(h al w St vals he.sn hs hv).mono fun e w' ⟨h1,h2⟩=>by
  refine ⟨r,.c r,[],St,h1,⟨rfl,rfl⟩,rfl,⟨h2.os,h2.tape,h2.output,h2.size,fun k hk _=>h2.block k hk,fun b cur t z hb=>⟨cur,z,(h2.block b (Y4.1 hb).1).trans hb,rfl⟩⟩,fun _ h=>h,fun _ h=>.inl h,fun b hb=>Zf (he.s3 b hb) h2.size,dr.none _ _ _ _ _⟩
theorem KC {vals:Array Value} (h:vals.size=1):vals=#[vals.getD 0 undef]:=by
 apply Array.ext
 ·simp [h]
 ·intro i h1 h2
  have:i=0:=by omega
  subst this
  simp [h]
theorem ui {vals:Array Value} (h:vals.size=2):vals=#[vals.getD 0 undef,vals.getD 1 undef]:=by
 apply Array.ext
 ·simp [h]
 ·intro i h1 h2
  have:i=0∨i=1:=by omega
  rcases this with e|e <;> subst e <;> simp [h]
theorem EI {e:TypeId} {j n i:Nat} {g:Option Nat} {z:Int} {t:TypeId} {x y:Operand} {k:IntKind} (ho:o.op=.indexAddr t x y) (hx:s.eval x=.os j g 0 n 1) (hy:s.eval y=.c (.int k z)) (h1:P.underlying t=some (.slice e))
  (h5:(P.info? e).map (·.size)=some 1) (hz:z=(i:Int)) (hi:i<n):ci P G o s (.op j g i):=by
 have:=gh (G:=G) ho hx hy h1 h5 hz hi
 rwa [Nat.zero_add,Ze] at this
theorem bh {e:TypeId} {j n i:Nat} {g:Option Nat} {z:Int} {t:TypeId} {x y:Operand} {k:IntKind} (ho:o.op=.indexAddr t x y) (hx:s.eval x=.op j g 0) (hy:s.eval y=.c (.int k z)) (h1:P.underlying t=some (.array n e))
  (h5:(P.info? e).map (·.size)=some 1) (hz:z=(i:Int)) (hi:i<n):ci P G o s (.op j g i):=by
 have:=ID (G:=G) ho hx hy h1 h5 hz hi
 rwa [Nat.zero_add,Ze] at this
theorem Qw {al:List Addr} {St:Nat→Prop} {w:World}:∀ i,ba al St w (fl [] i) ((List.toArray ([]:List Value)).getD i undef):=fun _=>trivial
theorem LK {al:List Addr} {St:Nat→Prop} {w:World} {c:CV} {cs:List CV} {v:Value} {vs:List Value} (h:ba al St w c v) (t:∀ i,ba al St w (fl cs i) ((List.toArray vs).getD i undef)):∀ i,ba al St w (fl (c::cs) i) ((List.toArray (v::vs)).getD i undef)
 | 0=>h
 | i+1=>by
  have:=t i
  simpa [fl,ZD] using this
theorem ia (d:Nat) {i n N:Nat} {g:Option Nat} {F:Nat→CV} (l:Z) (hl:look s.env s.b d=.os i g 0 n 1) (hH:s.H[i]?=some (g,.frz N F)) (hn:n=l.length) (hF:(N,F)=(l.length,bc l)) :
  dh G s ⟨(d,aV l)::s.env,s.b,s.H⟩:=by
 cases hF
 subst hn
 exact kg d (fun a _=>bc l a) hl hH O (fun a b ha hb=>aa.of_eq (by rw [show 0+(a * 1+b)=a by omega]))
def FR {α:Type} (k:Nat) (C:List α→Nat→CV):Prop:=∀ l l2 j,j<(l.length+l2.length) * k→(if j<l.length * k then C l j else C l2 (j-l.length * k))=C (l++l2) j
theorem pP:FR 1 qC:=fun l l2 j hj=>by
 simp only [qC,YH]
 split
 ·rw [YL O]
 ·rw [YX O,Ze]
theorem fW {α:Type} (k:Nat) (e:α→Nat→CV) (d:α):FR k (fV k e d):=fun l l2 j hj=>by
 rcases arx k with h0|h0
 ·subst h0;simp at hj
 split
 ·rename_i h1
  have h2:j / k<l.length:=bix (by rw [a0x];exact h1)
  simp only [fV,YH,YL h2]
 ·rename_i h1
  rw [adx] at hj
  obtain ⟨q,rfl⟩:∃ q,j=l.length * k+q:=⟨j-l.length * k,by omega⟩
  rw [Z2]
  unfold fV
  rw [a0x l.length k,Nat.mul_add_div h0,Nat.mul_add_mod,YH,YH,YX (Nat.le_add_right _ _),Z2]
theorem aF {α:Type} {C:List α→Nat→CV} {k:Nat} (hC:FR k C) {e:TypeId} {z:Value} {i n N N' by_ d:Nat} {t u:TypeId} {p q:Operand} {env:List (Nat×CV)} {b0:Nat→CV} {H:List (Option Nat×bi)} {K:AS→Prop} {g:Option Nat} {f h:Nat→CV} {l l2:List α} {m:Nat} (ho:o.op=.call ⟨.builtin .append,#[p,q],#[t,u]⟩) (hx:(⟨env,b0,H⟩:AS).eval p=.os i g 0 n k) (hn:n=l.length) (hH:H[i]?=some (g,.blk N f)) (hN:l.length * k≤N) (hf:∀ j,j<l.length * k→aa (f j) (C l j))
  (hsrc:uf P G ⟨env,b0,H⟩ q k m h) (hm:m=l2.length) (hh:∀ j,j<l2.length * k→aa (h j) (C l2 j)) (h1:P.underlying t=some (.slice e)) (hu:eL P u=true) (h5:(P.info? e).map (·.size)=some k) (hz:(P.info? e).map (·.zero)=some (some z)) (hby:(P.info? e).map (·.bytes)=some by_) (hzk:z.cells.size=k)
  (h63:l.length+l2.length≤9223372036854775807) (h48:(l.length+l2.length) * by_≤140737488355328) (hleaf:∀ j,j<m * k→iS (h j)=true) (hd:o.dst=some d) (hdN:Nat.blt d G.N=true) (hN':(l++l2).length * k=N')
  (hK:∀ g',K ⟨(d,.os i g' 0 (l++l2).length k)::env,b0,H.set i (g',.blk N' (C (l++l2)))⟩):ug P G o ⟨env,b0,H⟩ K:=by
 subst hm hn
 refine MZ ho hx hH hN hsrc h1 hu h5 hz hby h63 h48 hzk (C (l++l2)) (fun j hj=>?_) hleaf hd hdN YI.symm (by rw [← YI];exact hN') hK
 rw [← hC l l2 j hj]
 unfold u5
 split
 ·rename_i h;exact hf j h
 ·rename_i h
  refine hh _ ?_
  rw [adx] at hj
  omega
theorem Br {cs:List CV} {l2:List Int} (h:oQ cs (l2.map fun c=>.c (.int .i64 c))):∀ j,j<l2.length * 1→aa (fl cs (0+j)) (qC l2 j):=fun j hj=>by
 rw [Nat.zero_add]
 exact ((vr h).2 j).trans (GY l2 j O)
theorem bC {cs:List CV} {m k:Nat} (h:cs.all iS=true) (hm:m * k=cs.length):∀ j,j<m * k→iS (fl cs (0+j))=true:=fun j hj=>by
 rw [Nat.zero_add,Oi O]
 exact Y8.1 h _ (ZS ..)
end
theorem PZ:(Tryz.prog.info? 3).map (·.size)=some 1:=by kernel_rfl
theorem So:(Tryz.prog.info? 3).map (·.bytes)=some 8:=by kernel_rfl
theorem uh:(Tryz.prog.info? 3).map (·.zero)=some (some (.int .i64 0)):=by kernel_rfl
theorem X8:(Tryz.prog.info? 4).map (·.zero)=some (some (.bool false)):=by kernel_rfl
theorem ix:(Tryz.prog.info? 5).map (·.size)=some 1:=by kernel_rfl
theorem mx:(Tryz.prog.info? 5).map (·.bytes)=some 1:=by kernel_rfl
theorem er:(Tryz.prog.info? 5).map (·.zero)=some (some (.int .u8 0)):=by kernel_rfl
theorem PY:(Tryz.prog.info? 9).map (·.size)=some 1:=by kernel_rfl
theorem WV:(Tryz.prog.info? 9).map (·.bytes)=some 16:=by kernel_rfl
theorem Ye:eL Tryz.prog 9=true:=by kernel_rfl
theorem Eg:(Tryz.prog.info? 9).map (·.zero)=some (some (.string ByteArray.empty)):=by kernel_rfl
theorem nC:(Tryz.prog.info? 23).map (·.size)=some 1:=by kernel_rfl
theorem ol:(Tryz.prog.info? 23).map (·.bytes)=some 24:=by kernel_rfl
theorem fY:eL Tryz.prog 23=true:=by kernel_rfl
theorem eK:(Tryz.prog.info? 23).map (·.zero)=some (some (.slice none 0 0)):=by kernel_rfl
theorem MG:eL Tryz.prog 27=true:=by kernel_rfl
theorem oR:(Tryz.prog.info? 31).map (·.zero)=some (some (.agg #[.int .i64 0,.string ByteArray.empty,.string ByteArray.empty])):=by kernel_rfl
theorem CJ:oJ Tryz.prog 31=some [(0,1),(1,1),(2,1)]:=by kernel_rfl
theorem kR:(Tryz.prog.info? 33).map (·.zero)=some (some (.agg #[.int .i64 0,.string ByteArray.empty,.string ByteArray.empty,.string ByteArray.empty,.int .i64 0,.int .i64 0,.slice none 0 0])):=by kernel_rfl
theorem rZ:oJ Tryz.prog 33=some [(0,3),(3,1),(4,1),(5,1),(6,1)]:=by kernel_rfl
theorem VJ:(Tryz.prog.info? 37).map (·.zero)=some (some (.nilIface)):=by kernel_rfl
theorem Wm:eL Tryz.prog 57=true:=by kernel_rfl
theorem Xd:(Tryz.prog.info? 60).map (·.zero)=some (some (.agg #[.slice none 0 0,.slice none 0 0])):=by kernel_rfl
theorem Xt:oJ Tryz.prog 60=some [(0,1),(1,1)]:=by kernel_rfl
theorem VI:(Tryz.prog.info? 66).map (·.zero)=some (some (.agg #[.string ByteArray.empty,.int .i64 0,.string ByteArray.empty,.string ByteArray.empty,.string ByteArray.empty,.int .i64 0,.int .i64 0,.slice none 0 0])):=by kernel_rfl
theorem Wg:oJ Tryz.prog 66=some [(0,1),(1,7)]:=by kernel_rfl
theorem Xv:eL Tryz.prog 81=true:=by kernel_rfl
theorem VH:(Tryz.prog.info? 83).map (·.zero)=some (some (.agg #[.slice none 0 0,.slice none 0 0,.nilIface])):=by kernel_rfl
theorem Wf:oJ Tryz.prog 83=some [(0,1),(1,1),(2,1)]:=by kernel_rfl
theorem sd:eL Tryz.prog 106=true:=by kernel_rfl
theorem Kq:(Tryz.prog.info? 106).map (·.zero)=some (some (.slice none 0 0)):=by kernel_rfl
theorem eQ:(Tryz.prog.info? 112).map (·.zero)=some (some (.agg #[.int .i64 0,.int .i64 0,.bool false,.slice none 0 0,.string ByteArray.empty])):=by kernel_rfl
theorem ib:oJ Tryz.prog 112=some [(0,1),(1,1),(2,1),(3,1),(4,1)]:=by kernel_rfl
theorem iK:(Tryz.prog.info? 121).map (·.zero)=some (some (.agg #[.int .i64 0,.int .i64 0,.int .i64 0,.int .i64 0])):=by kernel_rfl
theorem iP:oJ Tryz.prog 121=some [(0,1),(1,1),(2,1),(3,1)]:=by kernel_rfl
theorem VM:(Tryz.prog.info? 128).map (·.zero)=some (some (.agg #[.map none,.map none])):=by kernel_rfl
theorem Wl:oJ Tryz.prog 128=some [(0,1),(1,1)]:=by kernel_rfl
theorem iJ:(Tryz.prog.info? 129).map (·.zero)=some (some (.agg #[.int .u8 0,.int .u8 0,.int .u8 0,.int .u8 0,.int .u8 0,.int .u8 0,.int .u8 0,.int .u8 0,.int .u8 0,.int .u8 0,.int .u8 0,.int .u8 0,.int .u8 0,.int .u8 0,.int .u8 0,.int .u8 0,.int .u8 0,.int .u8 0,.int .u8 0,.int .u8 0,.int .u8 0,.int .u8 0,.int .u8 0,.int .u8 0,.int .u8 0,.int .u8 0,.int .u8 0,.int .u8 0,.int .u8 0,.int .u8 0,.int .u8 0,.int .u8 0])):=by kernel_rfl
theorem SO:(Tryz.prog.info? 133).map (·.size)=some 2:=by kernel_rfl
theorem Tp:(Tryz.prog.info? 133).map (·.bytes)=some 40:=by kernel_rfl
theorem yp:(Tryz.prog.info? 133).map (·.zero)=some (some (.agg #[.string ByteArray.empty,.slice none 0 0])):=by kernel_rfl
theorem Wk:oJ Tryz.prog 133=some [(0,1),(1,1)]:=by kernel_rfl
theorem jf:eL Tryz.prog 138=true:=by kernel_rfl
theorem V2:(Tryz.prog.info? 151).map (·.size)=some 2:=by kernel_rfl
theorem WW:(Tryz.prog.info? 151).map (·.bytes)=some 32:=by kernel_rfl
theorem FT:(Tryz.prog.info? 151).map (·.zero)=some (some (.agg #[.int .i64 0,.slice none 0 0])):=by kernel_rfl
theorem Wj:oJ Tryz.prog 151=some [(0,1),(1,1)]:=by kernel_rfl
theorem uy:eL Tryz.prog 152=true:=by kernel_rfl
theorem uk:(Tryz.prog.info? 158).map (·.size)=some 2:=by kernel_rfl
theorem uJ:(Tryz.prog.info? 158).map (·.bytes)=some 32:=by kernel_rfl
theorem ec:(Tryz.prog.info? 158).map (·.zero)=some (some (.agg #[.string ByteArray.empty,.string ByteArray.empty])):=by kernel_rfl
theorem qL:oJ Tryz.prog 158=some [(0,1),(1,1)]:=by kernel_rfl
theorem VL:(Tryz.prog.info? 168).map (·.zero)=some (some (.agg #[.slice none 0 0,.nilIface])):=by kernel_rfl
theorem Wi:oJ Tryz.prog 168=some [(0,1),(1,1)]:=by kernel_rfl
theorem gy:(Tryz.prog.info? 170).map (·.zero)=some (some (.agg #[.int .i64 0,.slice none 0 0])):=by kernel_rfl
theorem qK:oJ Tryz.prog 170=some [(0,1),(1,1)]:=by kernel_rfl
theorem VK:(Tryz.prog.info? 194).map (·.zero)=some (some (.agg #[.slice none 0 0,.int .i64 0])):=by kernel_rfl
theorem Wh:oJ Tryz.prog 194=some [(0,1),(1,1)]:=by kernel_rfl
theorem yo:(Tryz.prog.info? 204).map (·.zero)=some (some (.agg #[.string ByteArray.empty,.string ByteArray.empty])):=by kernel_rfl
theorem Mh:oJ Tryz.prog 204=some [(0,1),(1,1)]:=by kernel_rfl
theorem fm:(Tryz.prog.info? 257).map (·.size)=some 1:=by kernel_rfl
theorem SI:(Tryz.prog.info? 293).map (·.zero)=some (some (.agg #[.int .u32 0,.int .u32 0,.int .u32 0,.int .u32 0,.int .u32 0,.int .u32 0,.int .u32 0,.int .u32 0])):=by kernel_rfl
theorem vz:(Tryz.prog.info? 295).map (·.zero)=some (some (.agg #[.int .u32 0,.int .u32 0,.int .u32 0,.int .u32 0,.int .u32 0,.int .u32 0,.int .u32 0,.int .u32 0,.slice none 0 0,.int .i64 0])):=by kernel_rfl
theorem wE:oJ Tryz.prog 295=some [(0,8),(8,1),(9,1)]:=by kernel_rfl
theorem SH:(Tryz.prog.info? 315).map (·.zero)=some (some (.agg #[.int .u32 0,.int .u32 0,.int .u32 0,.int .u32 0,.int .u32 0,.int .u32 0,.int .u32 0,.int .u32 0,.int .u32 0,.int .u32 0,.int .u32 0,.int .u32 0,.int .u32 0,.int .u32 0,.int .u32 0,.int .u32 0,.int .u32 0,.int .u32 0,.int .u32 0,.int .u32 0,.int .u32 0,.int .u32 0,.int .u32 0,.int .u32 0,.int .u32 0,.int .u32 0,.int .u32 0,.int .u32 0,.int .u32 0,.int .u32 0,.int .u32 0,.int .u32 0,.int .u32 0,.int .u32 0,.int .u32 0,.int .u32 0,.int .u32 0,.int .u32 0,.int .u32 0,.int .u32 0,.int .u32 0,.int .u32 0,.int .u32 0,.int .u32 0,.int .u32 0,.int .u32 0,.int .u32 0,.int .u32 0,.int .u32 0,.int .u32 0,.int .u32 0,.int .u32 0,.int .u32 0,.int .u32 0,.int .u32 0,.int .u32 0,.int .u32 0,.int .u32 0,.int .u32 0,.int .u32 0,.int .u32 0,.int .u32 0,.int .u32 0,.int .u32 0])):=by kernel_rfl
theorem mQ (f:Nat→CV) (off:Nat) (x:CV) (j:Nat):gT f off [x] j=if j=off then x else f j:=by
 rw [dE]
 by_cases h:j=off
 ·subst h;rw [YF (by simp),YF rfl,aNx];rfl
 ·rw [YE (by simp;omega),YE h]
section
variable {P:Program} {G:Gh} {ops:Array Oper} {o:Oper} {s:AS} {r:List Oper} {K:AS→Prop} {t u:TypeId} {x y:Operand} {env:List (Nat×CV)} {b0:Nat→CV} {H:List (Option Nat×bi)}

theorem fC {gs:List Nat} {P:Program} {f:FuncId} {H:List (Option Nat×bi)} {args:List CV} {Q:CV→List (Option Nat×bi)→Prop} (j:Nat) {k n:Nat} {F:Nat→Nat→CV} (hj:fl args j=.rs k n F) (h:n≤9223372036854775807→AC gs P f H args Q):AC gs P f H args Q:=fun al w St F0 vals he hs hv=>by
 have h1:=hv j
 rw [hj] at h1
 obtain ⟨ao,cap,_,h2,h3,_⟩:=id h1
 exact h O al w St F0 vals he hs hv
theorem aa.nilS' {n k:Nat} {f:Nat→Nat→CV} (h:n=0):aa (.c (.slice none 0 0)) (.rs k n f):=by subst h;exact aa.nilS k f
theorem Dv {cs:List CV} {l2:Z} (h:oQ cs (l2.map fun c=>.c (.int .u8 (c.toNat:Nat)))):∀ j,j<l2.length→aa (fl cs j) (bc l2 j):=fun j hj=>by
 have:=ck h j hj
 rwa [Nat.zero_add] at this
theorem JY (op:BinOp) (t:TypeId) (x y:Operand) (a b:Option Addr) (n c n' c':Nat) (W:World):(eqGuard op t x y (.slice a n c) (.slice b n' c')).run P W=.ok () W:=by
 unfold eqGuard
 split <;> simp
theorem xX {e:TypeId} (ht:P.underlying t=some (.slice e)) (a:Option Addr) (n c:Nat) (W:World):(Op.equal t (.slice a n c) (.slice none 0 0)).run P W=.ok a.isNone W:=by
 show (Op.equalIn 10000 t (.slice a n c) (.slice none 0 0)).run P W=_
 rw [show (10000:Nat)=9999+1 from rfl,Op.equalIn]
 cases a <;> simp only [underlying,Sem.run_bind,run_program,Result.andThen_ok,ht,Sem.run_pure] <;> rfl
theorem mq {e:TypeId} (ho:o.op=.binOp .eql t x y u) {a:Act} {ao:Option Addr} {n c:Nat} (hx:a.eval x=.slice ao n c) (hy:a.eval y=.slice none 0 0) (ht:P.underlying t=some (.slice e)) (W:World):(execOp a.eval o).run P W=.ok (.value (.bool ao.isNone)) W:=by
 simp only [execOp,ho,hx,hy]
 refine lY ?_
 simp [JY,binOp,xX ht]
theorem QO {e:TypeId} (ho:o.op=.binOp .eql t x y u) (hx:s.eval x=.c (.slice none 0 0)) (hy:s.eval y=.c (.slice none 0 0)) (ht:P.underlying t=some (.slice e)):ci P G o s (.c (.bool true)):=fun St a w h =>
 ⟨_,fun W _=>mq ho (kM h hx) (kM h hy) ht W,rfl⟩
theorem Gn {e:TypeId} {i off n k:Nat} {g:Option Nat} (ho:o.op=.binOp .eql t x y u) (hx:s.eval x=.os i g off n k) (hy:s.eval y=.c (.slice none 0 0)) (ht:P.underlying t=some (.slice e)):ci P G o s (.c (.bool g.isNone)):=fun St a w h=>by
 have he:=ji h hx
 cases g with
 | none=>exact ⟨_,fun W _=>mq ho he.2 (kM h hy) ht W,rfl⟩
 | some b=>obtain ⟨cap,e0,_⟩:=he;exact ⟨_,fun W _=>mq ho e0 (kM h hy) ht W,rfl⟩
theorem pN {e:TypeId} {k n d:Nat} {f:Nat→Nat→CV} (hw:br G ops o ⟨env,b0,H⟩ true) (ho:o.op=.binOp .eql t x y u) (hx:(⟨env,b0,H⟩:AS).eval x=.rs k n f) (hy:(⟨env,b0,H⟩:AS).eval y=.c (.slice none 0 0)) (ht:P.underlying t=some (.slice e)) (hd:o.dst=some d) (hN:Nat.blt d G.N=true)
  (h1:n=0→cJ P G ops r ⟨(d,.c (.bool true))::env,b0,H⟩ K) (h2:cJ P G ops r ⟨(d,.c (.bool false))::env,b0,H⟩ K):cJ P G ops (o::r) ⟨env,b0,H⟩ K:=fun a w ⟨St,hr⟩ Q hQ=>by
 unfold mP
 rw [YF (hw St a w hr)]
 obtain ⟨ao,cap,e0,h3,h4,h5,h6⟩:=ji hr hx
 refine .inl ?_
 unfold Oper.wp
 rw [mq ho e0 (kM hr hy) ht w]
 have put:∀ b:Bool,az G St ⟨(d,.c (.bool b))::env,b0,H⟩ (a.put o.dst (.bool b)) w:=fun b=>by
  have:=hr.put (dst:=o.dst) (v:=.c (.bool b)) (x:=.bool b) (eC (kN hd hN)) rfl
  rwa [hd] at this ⊢
 cases ao with
 | none=>exact h1 (by have:=h5 rfl;omega) _ _ ⟨St,put true⟩ Q hQ
 | some ad=>exact h2 _ _ ⟨St,put false⟩ Q hQ

theorem jC (d:Nat) {i n N:Nat} {g:Option Nat} {cs:List CV} (l:Z) (hl:look s.env s.b d=.os i g 0 n 1) (hH:s.H[i]?=some (g,.frz N (fl cs))) (hn:n=l.length) (hN:Nat.ble n N=true) (he:oQ cs (l.map fun c=>.c (.int .u8 (c.toNat:Nat)))) :
  dh G s ⟨(d,aV l)::s.env,s.b,s.H⟩:=by
 subst hn
 have hN:=YU hN
 exact kg d (fun a _=>bc l a) hl hH O (fun a b ha hb=>by
  have:=ck he a ha
  rwa [show 0+(a * 1+b)=0+a by omega])
theorem oV (d:Nat) {i n N:Nat} {g:Option Nat} {F:Nat→CV} (l:List Int) (hl:look s.env s.b d=.os i g 0 n 1) (hH:s.H[i]?=some (g,.frz N F)) (hn:n=l.length) (hN:Nat.ble n N=true) (he:∀ j,j<l.length→aa (F j) (qC l j)) :
  dh G s ⟨(d,Ju l)::s.env,s.b,s.H⟩:=by
 subst hn
 have hN:=YU hN
 exact kg d (fun a _=>qC l a) hl hH O (fun a b ha hb=>by
  have:=he a ha
  rwa [show 0+(a * 1+b)=a by omega])
def B4:IntKind→Bool|.i8=>false|_=>true
theorem vL {k:IntKind} (h:B4 k=true) {z:Int} (h0:0≤z) (h1:z<256):k.wrap z=z:=by
 cases k <;> first|(simp [B4] at h;done)|(refine cC ?_;show _∧_;omega)
theorem L0 {c:UInt8} {k':IntKind} {d:TypeDesc} (ho:o.op=.convert t u x) (hx:s.eval x=.c (.int .u8 ((c.toNat:Nat):Int))) (h1:P.underlying t=some d) (h2:P.underlying u=some (.int k')) (hk:B4 k'=true):ci P G o s (.c (.int k' ((c.toNat:Nat):Int))) :=
 cG ho hx h1 h2 _ (vL hk O (by have:=c.toNat_lt;omega))
theorem BA {e:TypeId} {z:Value} {n c k by_ d:Nat} {kn kc:IntKind} {zn zc:Int} {F:Nat→CV} (ho:o.op=.makeSlice t x y) (hx:(⟨env,b0,H⟩:AS).eval x=.c (.int kn zn)) (hy:(⟨env,b0,H⟩:AS).eval y=.c (.int kc zc)) (hn:zn=(n:Int)) (hc:zc=(c:Int)) (hnc:n≤c) (h1:P.underlying t=some (.slice e)) (h5:(P.info? e).map (·.size)=some k) (hz:(P.info? e).map (·.zero)=some (some z)) (hby:(P.info? e).map (·.bytes)=some by_)
  (h48:c * by_≤140737488355328) (h63:c≤9223372036854775807) (hF:∀ j,j<n * k→aa (.c (z.cells[j % z.cells.size]!)) (F j)) (hd:o.dst=some d) (hN:Nat.blt d G.N=true)
  (hK:∀ g,K ⟨(d,.os H.length g 0 n k)::env,b0,H++[(g,.blk (n * k) F)]⟩):kQ P G o ⟨env,b0,H⟩ K :=
 kQ.new (kN hd hN) (fun g=>.os H.length g 0 n k) (fun St a w hr=>by
  obtain ⟨info,hi,h6⟩:=YM.1 h5
  obtain ⟨info',hi',hz⟩:=YM.1 hz
  obtain rfl:=Y9 (hi.symm.trans hi')
  obtain ⟨info',hi',hby⟩:=YM.1 hby
  obtain rfl:=Y9 (hi.symm.trans hi')
  subst hn hc
  have hb':(info.bytes:Int) * (c:Int)≤281474976710656:=by
   have h:((info.bytes * c:Nat):Int)≤281474976710656:=by rw [a0x,hby];omega
   rwa [bQx] at h
  have hr':=run_make (P:=P) w t e info z h1 hi hz kn kc n c O O hb' O
  simp only [azx] at hr'
  have hsz:(madeCells z.cells (c * info.size)).size=c * k:=by rw [h6];simp [madeCells]
  refine ⟨w.alloc (.cells (madeCells z.cells (c * info.size)) e),w.heap.size,_,e,.slice (some ⟨w.heap.size,0,none⟩) n c,?_,eu w _,YG _,heap_alloc_new w _,?_,fun j hj=>?_,c,rfl,hnc,h63,_,e,(0,0),heap_alloc_new w _,?_⟩
  ·simp only [execOp,ho,kM hr hx,kM hr hy]
   exact lY hr'
  ·rw [hsz];exact ZG _ hnc
  ·refine hF j hj _ _ _ _ ?_
   have hj2:j<c * k:=Zf hj (ZG _ hnc)
   show _=_
   rw [h6]
   simp [madeCells,hj2]
  ·rw [hsz];omega) (fun g=>by rw [dG hd];exact hK g)
theorem On {ats:Array TypeId} (ho:o.op=.call ⟨.builtin .cap,#[x],ats⟩) {a:Act} {v:Value} {w:World} (h:(Builtin.cap_ ats o.type #[a.eval x]).run P w=.ok v w):(execOp a.eval o).run P w=.ok (.value v) w:=by
 simp [execOp,ho,resolve,invoke,builtin,h]
theorem Gp {e:TypeId} (ho:o.op=.call ⟨.builtin .cap,#[x],#[t]⟩) (hx:s.eval x=.c (.slice none 0 0)) (h1:P.underlying t=some (.slice e)):ci P G o s (.c (.int .i64 0)):=fun St a w h =>
 ⟨_,fun W _=>On ho (v:=.int .i64 0) (by rw [kM h hx];simp [Builtin.cap_,underlying,h1,goInt]),rfl⟩
theorem It {e:TypeId} {m l v:Nat} {lo hi:Option Operand} (ho:o.op=.slice t x lo hi none) (hx:s.eval x=.c (.slice none 0 0)) (h1:P.underlying t=some (.slice e)) (h5:(P.info? e).map (·.size)=some m)
  (hl:Bd s 0 lo l) (hu:Bd s 0 hi v) (hlv:l≤v) (hvn:v≤0):ci P G o s (.c (.slice none 0 0)):=fun St a w h=>by
 obtain ⟨info,hi',hs⟩:=YM.1 h5
 have hl0:l=0:=by omega
 have hv0:v=0:=by omega
 subst hl0 hv0
 refine ⟨.slice none 0 0,fun W _=>iH ho ?_,rfl⟩
 rw [kM h hx]
 simp [Instr.sliceAt,Instr.slice,underlying,h1,iC h hl hu hlv hvn (YG _),sizeOf,typeInfo,hi']
theorem AL {e ty:TypeId} {info:TypeInfo} {z:Value} {n:Nat} {w:World} (h1:P.underlying t=some (.slice e)) (hu:P.underlying u=some (.int .i64)) (hi:P.info? e=some info) (hz:info.zero=some z) (hk:0<info.size) (hn:0<n) (h63:n≤9223372036854775807) (h48:n * info.bytes≤140737488355328) :
  (Builtin.append_ #[t,u] ty #[.slice none 0 0,.int .i64 (n:Nat)]).run P w=.ok (.slice (some ⟨w.heap.size,0,none⟩) n (grownCap w n 0 e)) (w.drew.alloc (.cells (#[]++Builtin.zeroCells z.cells n++Builtin.zeroCells z.cells (grownCap w n 0 e-n)) e)):=by
 have hw:IntKind.i64.wrap (n:Int)=(n:Int):=cC (k:=.i64) (by show _∧_;omega)
 have hneg:¬ ((n:Int)<0):=by omega
 have hb:¬ ((n:Int) * (info.bytes:Int)>2 ^ 48):=by
  have h:((n * info.bytes:Nat):Int)≤140737488355328:=by omega
  rw [bQx] at h;omega
 have hnot:¬ (0+n≤0):=by omega
 have hfit:=growslice_fits (need:=n) (old:=0) O h48
 have h49:¬ (Builtin.nextslicecap n 0 * info.bytes>2 ^ 48):=by omega
 have h64:¬ (((n:Nat):Int)>IntKind.i64.max∧(true=true∨info.bytes=0)):=by simp [IntKind.max,IntKind.bits,IntKind.signed];omega
 have hch:(choose (.appendCap n 0 e)).run P w=.ok (grownCap w n 0 e) w.drew:=by simp [Question.forced,grownCap]
 have hns:¬ (n * info.size=0):=by have:=Nat.mul_pos hn hk;omega
 simp only [Builtin.append_,asx,ZK,ajx,underlying,Sem.run_bind,run_program,Result.andThen_ok,h1,hu,Sem.run_pure,sizeOf,typeInfo,hi,asInt,asIntOf,hw,YE hneg,YE hb,azx,Nat.zero_add,if_true,YE (show ¬ n≤0 by omega),zeroValue,Builtin.firstCells,Bool.not_true,aOx,if_false,YE hns,newRow]
 rw [YE (by simp [IntKind.max,IntKind.bits,IntKind.signed];omega)]
 simp only [Sem.run_bind,run_program,Result.andThen_ok,Sem.run_pure,hi,hz,YE h49,hch,run_askRoom,run_newObj,World.alloc_eq,World.size_drew]
theorem Vb {e:TypeId} {z:Value} {n k by_ d:Nat} {zn:Int} {F:Nat→CV} (ho:o.op=.call ⟨.builtin .append,#[x,y],#[t,u]⟩) (hx:(⟨env,b0,H⟩:AS).eval x=.c (.slice none 0 0)) (hy:(⟨env,b0,H⟩:AS).eval y=.c (.int .i64 zn)) (hn:zn=(n:Int)) (hn0:0<n) (h1:P.underlying t=some (.slice e)) (hu:P.underlying u=some (.int .i64)) (h5:(P.info? e).map (·.size)=some k) (hk0:0<k) (hz:(P.info? e).map (·.zero)=some (some z)) (hby:(P.info? e).map (·.bytes)=some by_)
  (h48:n * by_≤140737488355328) (h63:n≤4611686018427387904) (hzk:z.cells.size=k) (hd:o.dst=some d) (hN:Nat.blt d G.N=true)
  (hK:∀ g,K ⟨(d,.os H.length g 0 n k)::env,b0,H++[(g,.blk 0 F)]⟩):kQ P G o ⟨env,b0,H⟩ K :=
 kQ.new (kN hd hN) (fun g=>.os H.length g 0 n k) (fun St a w hr=>by
  obtain ⟨info,hi,h6⟩:=YM.1 h5
  obtain ⟨info',hi',hz⟩:=YM.1 hz
  obtain rfl:=Y9 (hi.symm.trans hi')
  obtain ⟨info',hi',hby⟩:=YM.1 hby
  obtain rfl:=Y9 (hi.symm.trans hi')
  subst hn
  have hrun:=AL (P:=P) (t:=t) (u:=u) (ty:=o.type) (w:=w) h1 hu hi hz O hn0 O (by rw [hby];exact h48)
  have hgc:n≤grownCap w n 0 e∧grownCap w n 0 e≤9223372036854775807:=by
   have hlt:=Z0 (w.tape w.drawn (.appendCap n 0 e)) (show 0<2 ^ 63-n by omega)
   simp only [grownCap,Question.cut]
   omega
  have hsz:(#[]++Builtin.zeroCells z.cells n++Builtin.zeroCells z.cells (grownCap w n 0 e-n)).size=grownCap w n 0 e * k:=by
   simp [Builtin.zeroCells,hzk]
   rw [← adx]
   congr 1
   omega
  have hargs:(#[x,y]:Array Operand).map a.eval=#[a.eval x,a.eval y]:=by simp
  refine ⟨w.drew.alloc (.cells (#[]++Builtin.zeroCells z.cells n++Builtin.zeroCells z.cells (grownCap w n 0 e-n)) e),w.heap.size,_,e,.slice (some ⟨w.heap.size,0,none⟩) n (grownCap w n 0 e),?_,dB w _,YG _,heap_alloc_new w.drew _,YT _,fun j hj=>absurd hj (YW j),grownCap w n 0 e,rfl,hgc.1,hgc.2,_,e,(0,0),heap_alloc_new w.drew _,?_⟩
  ·exact gJ ho (by rw [hargs,kM hr hx,kM hr hy];exact hrun)
  ·rw [hsz];omega) (fun g=>by rw [dG hd];exact hK g)
end
theorem aa.nilE {n:Nat} (h:n=0):aa (.c .nilIface) (.err n):=by subst h;exact aa.nil
def C9 (ls:YD):CV:=.rs 1 ls.length fun i _=>aV (ls.getD i [])
theorem qY {G:Gh} {s:AS} (d:Nat) {i n N:Nat} {g:Option Nat} {cs:List CV} (ls:YD) (hl:look s.env s.b d=.os i g 0 n 1) (hH:s.H[i]?=some (g,.frz N (fl cs))) (hn:n=ls.length) (hN:Nat.ble n N=true) (he:oQ cs (ls.map aV)) :
  dh G s ⟨(d,C9 ls)::s.env,s.b,s.H⟩:=by
 subst hn
 have hN:=YU hN
 exact kg d (fun a _=>aV (ls.getD a [])) hl hH O (fun a b ha hb=>by
  have:=(vr he).2 a
  rw [Oi (cs:=ls.map aV) (by simpa using ha)] at this
  obtain rfl:b=0:=by omega
  rw [show 0+(a * 1+0)=a by omega]
  simpa [List.getD,ha] using this)
def cp (ls:YD):Nat:=(ls.map List.length).sum
theorem rP (a b:YD):cp (a++b)=cp a+cp b:=by simp only [cp,Z3,List.sum_append]
theorem pH {ls:YD} {i:Nat} (h:i<ls.length):cp (ls.take (i+1))=cp (ls.take i)+(ls.getD i []).length:=by
 rw [YO h,rP]
 simp only [cp,Zc,aAx,bEx,List.sum_nil,List.getD,YR h,Zw,Zt]
theorem AB (ls:YD) (i:Nat):cp (ls.take i)≤cp ls:=by
 have h:=rP (ls.take i) (ls.drop i)
 rw [Zu] at h
 omega
theorem zU {ls:YD} {i:Nat} (h:i<ls.length):(ls.take (i+1)).flatten=(ls.take i).flatten++ls.getD i []:=by
 rw [YO h,ZY,List.flatten_singleton]
 simp only [List.getD,YR h,Zw]
theorem sB (ls:YD):ls.flatten.length=cp ls:=by simp [cp,List.length_flatten]
structure W3 (al:List Addr) (St:Nat→Prop) (w:World) (F:Nat→Prop) (E:List (Option Nat×bi)) (fp:Nat→Nat→Prop):Prop where
 rep:∀ (i:Nat) (g:Option Nat) (r:bi),E[i]?=some (g,r)→r.rep al St w (fp i) g
 dis:∀ i j b,fp i b→fp j b→i=j
 out:∀ i,E.length≤i→∀ b,¬ fp i b
 all:∀ b,F b↔∃ i,fp i b
def Up {γ:Type} (gd:γ→Nat) (E:γ→List (Option Nat×bi)):OP where
 p al St w g F:=∃ x,gd x=g∧∃ fp,W3 al St w F (E x) fp
 st:=fun he hs hF ⟨x,hx,fp,h⟩=>⟨x,hx,fp,fun i g r hi=>bi.rep_evo he hs (fun b hb=>hF b ((h.all b).2 ⟨i,hb⟩)) (h.rep i g r hi),h.dis,h.out,h.all⟩
def mJ {γ:Type} (g:Nat) (gd:γ→Nat) (E:γ→List (Option Nat×bi)):Option Nat×bi:=(some g,.obj (Up gd E))

theorem dr.pack {al:List Addr} {St:Nat→Prop} {w:World} {base:Nat} {F0:Nat→Prop} {γ:Type} {gd:γ→Nat} {E:γ→List (Option Nat×bi)} (x:γ) {B:List (Option Nat×bi)} (h:dr al St w base F0 (E x++B)):dr al St w base F0 (mJ (gd x) gd E::B):=by
 obtain ⟨fp,hp⟩:=h
 refine ⟨fun j b=>match j with|0=>∃ i,i<(E x).length∧fp i b|j+1=>fp ((E x).length+j) b,fun j g r hj=>?_,fun i j b hi hj=>?_,fun i b hi=>?_,fun i hi b hb=>?_⟩
 ·cases j with
  | zero =>
   simp only [mJ,ZK,Zi,b3x] at hj
   obtain ⟨rfl,rfl⟩:=hj
   refine ⟨x,rfl,fun i b=>i<(E x).length∧fp i b,fun i g r hi=>?_,fun i j b hi hj=>hp.dis i j b hi.2 hj.2,fun i hi b hb=>by omega,fun b=>Iff.rfl⟩
   have hlt:=(YJ.1 hi).1
   have e:(fun b=>i<(E x).length∧fp i b)=fp i:=funext fun b=>propext ⟨fun h=>h.2,fun h=>⟨hlt,h⟩⟩
   show r.rep al St w (fun b=>i<(E x).length∧fp i b) g
   rw [e]
   exact hp.rep i g r (by rw [YL hlt];exact hi)
  | succ j =>
   simp only [ajx] at hj
   exact hp.rep _ g r (by rw [YX O,Z2];exact hj)
 ·cases i with
  | zero =>
   cases j with
   | zero=>rfl
   | succ j=>obtain ⟨k,hk,hf⟩:=hi;have:=hp.dis _ _ b hf hj;omega
  | succ i =>
   cases j with
   | zero=>obtain ⟨k,hk,hf⟩:=hj;have:=hp.dis _ _ b hf hi;omega
   | succ j=>have:=hp.dis _ _ b hi hj;omega
 ·cases i with
  | zero=>obtain ⟨k,hk,hf⟩:=hi;exact hp.own _ b hf
  | succ i=>exact hp.own _ b hi
 ·cases i with
  | zero=>simp at hi
  | succ i=>exact hp.out _ (by simp at hi ⊢;omega) b hb
theorem dr.unpack {al:List Addr} {St:Nat→Prop} {w:World} {base:Nat} {F0:Nat→Prop} {γ:Type} {gd:γ→Nat} {e0:γ→Option Nat×bi} {tl:γ→List (Option Nat×bi)} {H:List (Option Nat×bi)} {i g:Nat} (hH:H[i]?=some (mJ g gd fun x=>e0 x::tl x)) (h:dr al St w base F0 H) :
  ∃ x,gd x=g∧dr al St w base F0 (H.set i (e0 x)++tl x):=by
 obtain ⟨fp,hp⟩:=h
 have hlt:=(YJ.1 hH).1
 obtain ⟨x,hx,fe,he⟩:=hp.rep i _ _ hH
 refine ⟨x,hx,fun j b=>if j<H.length then (if j=i then fe 0 b else fp j b) else fe (j-H.length+1) b,fun j q r hj=>?_,fun j k b hj hk=>?_,fun j b hj=>?_,fun j hj b hb=>?_⟩
 ·by_cases h1:j<H.length
  ·rw [YL (by simpa using h1)] at hj
   by_cases h2:j=i
   ·subst h2
    simp [h1] at hj
    simp only [h1,if_true]
    exact he.rep 0 q r (by simp [hj])
   ·rw [YZ (Ne.symm h2)] at hj
    simp only [h1,h2,if_true,if_false]
    exact hp.rep j q r hj
  ·rw [YX (by simp;omega)] at hj
   simp only [h1,if_false]
   refine he.rep (j-H.length+1) q r ?_
   simpa using hj
 ·have qC:∀ q b,fe q b→fp i b:=fun q b hq=>(he.all b).2 ⟨q,hq⟩
  by_cases h1:j<H.length <;> by_cases h2:k<H.length <;> simp only [h1,h2,if_true,if_false] at hj hk
  ·by_cases h3:j=i <;> by_cases h4:k=i <;> simp only [h3,h4,if_true,if_false] at hj hk
   ·omega
   ·exact absurd (hp.dis _ _ b (qC _ _ hj) hk).symm h4
   ·exact absurd (hp.dis _ _ b hj (qC _ _ hk)) h3
   ·exact hp.dis _ _ b hj hk
  ·by_cases h3:j=i <;> simp only [h3,if_true,if_false] at hj
   ·have:=he.dis _ _ b hj hk;omega
   ·exact absurd (hp.dis _ _ b hj (qC _ _ hk)) h3
  ·by_cases h4:k=i <;> simp only [h4,if_true,if_false] at hk
   ·have:=he.dis _ _ b hj hk;omega
   ·exact absurd (hp.dis _ _ b hk (qC _ _ hj)) h4
  ·have:=he.dis _ _ b hj hk;omega
 ·have qC:∀ q b,fe q b→fp i b:=fun q b hq=>(he.all b).2 ⟨q,hq⟩
  by_cases h1:j<H.length <;> simp only [h1,if_true,if_false] at hj
  ·by_cases h3:j=i <;> simp only [h3,if_true,if_false] at hj
   ·exact hp.own i b (qC _ _ hj)
   ·exact hp.own j b hj
  ·exact hp.own i b (qC _ _ hj)
 ·have h1:¬ j<H.length:=by simp at hj;omega
  simp only [h1,if_false] at hb
  exact he.out _ (by simp at hj ⊢;omega) b hb
section
variable {P:Program} {G:Gh} {ops:Array Oper} {s:AS} {K:AS→Prop} {c:Code} {R:Exit→AS→Prop} {γ:Type} {gd:γ→Nat} {e0:γ→Option Nat×bi} {tl:γ→List (Option Nat×bi)}
theorem dh.hrel {H':List (Option Nat×bi)} (h:∀ {al St w base F0},dr al St w base F0 s.H→dr al St w base F0 H'):dh G s ⟨s.env,s.b,H'⟩:=fun St _ _ hr =>
 ⟨St,fun _ h=>h,hr.df,hr.sz,hr.env,hr.un,hr.s1,hr.s2,hr.s3,h hr.hp,hr.sn,hr.sg⟩
theorem Mn {E:γ→List (Option Nat×bi)} (x:γ) {B:List (Option Nat×bi)} (l:List Nat) (hl:l.Nodup) (hH:im s.H l=E x++B):dh G s ⟨s.env,s.b,mJ (gd x) gd E::B⟩:=dh.hrel fun h=>(h.pick l hl hH).pack x
theorem cn {H':List (Option Nat×bi)} (l:List Nat) (hl:l.Nodup) (hH:im s.H l=H'):dh G s ⟨s.env,s.b,H'⟩:=dh.hrel fun h=>h.pick l hl hH
theorem B8 {i g:Nat} (hH:s.H[i]?=some (mJ g gd fun x=>e0 x::tl x)) {St:Nat→Prop} {a:Act} {w:World} (hr:az G St s a w):∃ x,gd x=g∧az G St ⟨s.env,s.b,s.H.set i (e0 x)++tl x⟩ a w:=by
 obtain ⟨x,hx,h2⟩:=hr.hp.unpack hH
 exact ⟨x,hx,hr.df,hr.sz,hr.env,hr.un,hr.s1,hr.s2,hr.s3,h2,hr.sn,hr.sg⟩
theorem Hv {i g:Nat} (hH:s.H[i]?=some (mJ g gd fun x=>e0 x::tl x)) {a:Act} {w:World} (h:vy G s a w):∃ x,gd x=g∧vy G ⟨s.env,s.b,s.H.set i (e0 x)++tl x⟩ a w:=by
 obtain ⟨St,hr⟩:=h
 obtain ⟨x,hx,h2⟩:=B8 hH hr
 exact ⟨x,hx,St,h2⟩
theorem mw (i:Nat) {g:Nat} (hH:s.H[i]?=some (mJ g gd fun x=>e0 x::tl x)) (h:∀ x,gd x=g→bj P G c ⟨s.env,s.b,s.H.set i (e0 x)++tl x⟩ R):bj P G c s R:=fun a w hr Q hQ=>by
 obtain ⟨x,hx,h2⟩:=Hv hH hr
 exact h x hx a w h2 Q hQ
end
theorem dr.weak {al:List Addr} {St:Nat→Prop} {w:World} {base:Nat} {F0:Nat→Prop} {H:List (Option Nat×bi)} {i n m:Nat} {g:Option Nat} {f F:Nat→CV} (hi:H[i]?=some (g,.blk n f)) (hm:m≤n) (hF:∀ j,j<m→aa (f j) (F j)) (h:dr al St w base F0 H):dr al St w base F0 (H.set i (g,.blk m F)):=by
 obtain ⟨fp,hp⟩:=h
 have hlt:=(YJ.1 hi).1
 refine ⟨fp,fun j q r hj=>?_,hp.dis,hp.own,fun j hj=>hp.out j (by simpa using hj)⟩
 by_cases e:j=i
 ·subst e
  simp [hlt] at hj
  obtain ⟨rfl,rfl⟩:=hj
  have:=hp.rep j g _ hi
  cases g with
  | none=>exact ⟨by have:=this.1;omega,this.2⟩
  | some g =>
   obtain ⟨h0,cur,t,h1,h2,h3⟩:=this
   exact ⟨h0,cur,t,h1,by omega,fun a ha=>hF a ha _ _ _ _ (h3 a O)⟩
 ·rw [YZ (Ne.symm e)] at hj
  exact hp.rep j q r hj
def lJ (H:List (Option Nat×bi)) (js:List Nat):List (Option Nat×bi):=js.foldl (fun H j=>H.set j (none,.dead)) H
theorem tB:∀ (js:List Nat) (H:List (Option Nat×bi)),(lJ H js).length=H.length
 | [],_=>rfl
 | j::js,H=>by
  have:=tB js (H.set j (none,.dead))
  rw [ZW] at this
  exact this
theorem Dc:∀ (js:List Nat) (H:List (Option Nat×bi)) (q:Nat),q<H.length→(lJ H js)[q]?=if q ∈ js then some (none,.dead) else H[q]?
 | [],_,_,_=>by simp [lJ]
 | j::js,H,q,hq=>by
  have:=Dc js (H.set j (none,.dead)) q (by simpa using hq)
  show (lJ (H.set j (none,.dead)) js)[q]?=_
  rw [this]
  by_cases h1:q ∈ js
  ·rw [YF h1,YF (Y7 _ h1)]
  ·rw [YE h1]
   by_cases h2:q=j
   ·subst h2
    rw [YF Y2]
    simp [hq]
   ·rw [YE (by simp [h1,h2]),YZ (Ne.symm h2)]
theorem dr.closeN {al:List Addr} {St:Nat→Prop} {w:World} {base:Nat} {F0:Nat→Prop} {γ:Type} {gd:γ→Nat} {E:γ→List (Option Nat×bi)} {H:List (Option Nat×bi)} (x:γ) (i:Nat) (js:List Nat) (hnd:(i::js).Nodup) (hlt:∀ j ∈ i::js,j<H.length) (hE:im H (i::js)=E x) (h:dr al St w base F0 H) :
  dr al St w base F0 (lJ (H.set i (mJ (gd x) gd E)) js):=by
 obtain ⟨fp,hp⟩:=h
 have hi:i<H.length:=hlt i Y2
 have hij:i ∉ js:=(aQx.1 hnd).1
 refine ⟨fun q b=>if q=i then ∃ p:Nat,∃ j,(i::js)[p]?=some j∧fp j b else if q ∈ js then False else fp q b,fun q g r hq=>?_,fun p q b h1 h2=>?_,fun q b hq=>?_,fun q hq b hb=>?_⟩
 ·have hql:q<H.length:=by
   have:=(YJ.1 hq).1
   rwa [tB,ZW] at this
  rw [Dc _ _ _ (by simpa using hql)] at hq
  by_cases e:q=i
  ·subst e
   rw [YE hij] at hq
   simp [hi] at hq
   obtain ⟨rfl,rfl⟩:=hq
   simp only [if_true]
   refine ⟨x,rfl,fun p b=>∃ j,(q::js)[p]?=some j∧fp j b,fun p g r hp1=>?_,fun p1 p2 b h1 h2=>?_,fun p hp1 b hb=>?_,fun b=>Iff.rfl⟩
   ·rw [← hE,im,ZB,YM] at hp1
    obtain ⟨j,hj,he⟩:=hp1
    have hjl:=hlt j (ZF hj)
    have e:(fun b=>∃ j,(q::js)[p]?=some j∧fp j b)=fp j:=funext fun b=>propext ⟨fun ⟨j',h1,h2⟩=>by rw [hj] at h1;cases h1;exact h2,fun h=>⟨j,hj,h⟩⟩
    show r.rep al St w (fun b=>∃ j,(q::js)[p]?=some j∧fp j b) g
    rw [e]
    refine hp.rep j g r ?_
    rw [YR hjl]
    simpa [List.getD,hjl] using he
   ·obtain ⟨j1,a1,b1⟩:=h1
    obtain ⟨j2,a2,b2⟩:=h2
    have:=hp.dis _ _ b b1 b2
    subst this
    exact (bzx (YJ.1 a1).1 hnd).1 (a1.trans a2.symm)
   ·obtain ⟨j,a,_⟩:=hb
    have:=(YJ.1 a).1
    rw [← hE] at hp1
    simp only [im,Zy] at hp1
    omega
  ·by_cases e2:q ∈ js
   ·rw [YF e2] at hq
    cases hq
    simp only [e,e2,if_true,if_false]
    exact fun b hb=>hb
   ·rw [YE e2,YZ (Ne.symm e)] at hq
    simp only [e,e2,if_false]
    exact hp.rep q g r hq
 ·have mem:∀ {b:Nat},(∃ p:Nat,∃ j,(i::js)[p]?=some j∧fp j b)→∃ j,j ∈ i::js∧fp j b:=fun ⟨p,j,h1,h2⟩=>⟨j,ZF h1,h2⟩
  by_cases e1:p=i <;> by_cases e2:q=i
  ·rw [e1,e2]
  ·simp only [e1,e2,if_true,if_false] at h1 h2
   by_cases e3:q ∈ js
   ·simp only [e3,if_true] at h2
   ·simp only [e3,if_false] at h2
    obtain ⟨j,hj,hb⟩:=mem h1
    have:=hp.dis _ _ b hb h2
    subst this
    rcases Zg.1 hj with h|h
    ·exact absurd h e2
    ·exact absurd h e3
  ·simp only [e1,e2,if_true,if_false] at h1 h2
   by_cases e3:p ∈ js
   ·simp only [e3,if_true] at h1
   ·simp only [e3,if_false] at h1
    obtain ⟨j,hj,hb⟩:=mem h2
    have:=hp.dis _ _ b hb h1
    subst this
    rcases Zg.1 hj with h|h
    ·exact absurd h e1
    ·exact absurd h e3
  ·simp only [e1,e2,if_false] at h1 h2
   by_cases e3:p ∈ js
   ·simp only [e3,if_true] at h1
   ·by_cases e4:q ∈ js
    ·simp only [e4,if_true] at h2
    ·simp only [e3,e4,if_false] at h1 h2
     exact hp.dis _ _ b h1 h2
 ·by_cases e1:q=i
  ·simp only [e1,if_true] at hq
   obtain ⟨p,j,_,hb⟩:=hq
   exact hp.own _ b hb
  ·by_cases e2:q ∈ js
   ·simp only [e1,e2,if_true,if_false] at hq
   ·simp only [e1,e2,if_false] at hq
    exact hp.own _ b hq
 ·rw [tB,ZW] at hq
  have e1:q≠i:=by omega
  by_cases e2:q ∈ js
  ·simp only [e1,e2,if_true,if_false] at hb
  ·simp only [e1,e2,if_false] at hb
   exact hp.out q hq b hb
section
variable {P:Program} {G:Gh} {ops:Array Oper} {s:AS} {K:AS→Prop} {c:Code} {R:Exit→AS→Prop} {γ:Type} {gd:γ→Nat}
theorem cW (i m:Nat) (F:Nat→CV) {n:Nat} {g:Option Nat} {f:Nat→CV} (hi:s.H[i]?=some (g,.blk n f)) (hm:m≤n) (hF:∀ j,j<m→aa (f j) (F j)):dh G s ⟨s.env,s.b,s.H.set i (g,.blk m F)⟩:=dh.hrel fun h=>h.weak hi hm hF
theorem closeN {E:γ→List (Option Nat×bi)} (x:γ) (i:Nat) (js:List Nat) (hnd:(i::js).Nodup) (hlt:∀ j ∈ i::js,j<s.H.length) (hE:im s.H (i::js)=E x):dh G s ⟨s.env,s.b,lJ (s.H.set i (mJ (gd x) gd E)) js⟩:=dh.hrel fun h=>h.closeN x i js hnd hlt hE
theorem bO {fn:Func} {Q:CV→List (Option Nat×bi)→Prop} {e:Exit} {γ:Type} {gd:γ→Nat} {E:γ→List (Option Nat×bi)} (he:e=.ret∨e=.normal) (v:CV) (z:γ) (l:List Nat) (hl:l.Nodup) (hH:im s.H l=E z++[]) (hres:lX P G fn s v) (hq:Q v [mJ (gd z) gd E]):mz P G fn Q e s:=by
 have h:∃ r H',lX P G fn s r∧Q r H'∧∀ St a w,az G St s a w→dr G.al St w G.w0.heap.size G.F0 H':=⟨v,_,hres,hq,fun _ _ _ hr=>(hr.hp.pick l hl hH).pack z⟩
 rcases he with rfl|rfl <;> exact h
theorem iU {fn:Func} {e:Exit} {γ:Type} {gd:γ→Nat} {E:γ→List (Option Nat×bi)} {v m:CV} (he:e=.ret∨e=.normal) (z:γ) (l:List Nat) (hl:l.Nodup) (hH:im s.H l=E z++[]) (hres:lX P G fn s v) (hv:aa v m):mz P G fn (fun r H'=>r=m∧H'=[mJ (gd z) gd E]) e s:=bO he m z l hl hH (hres.ent hv) ⟨rfl,rfl⟩
theorem cL {P:Program} {G:Gh} {c:Code} {s:AS} {R:Exit→AS→Prop} {φ:Prop} (hφ:∀ a w,vy G s a w→φ) (h:φ→bj P G c s R):bj P G c s R:=fun a w hr Q hQ=>h (hφ a w hr) a w hr Q hQ
theorem gW {G:Gh} {s:AS} (d:Nat) {i off:Nat} {g:Option Nat} (hl:look s.env s.b d=.op i g off):∀ a w,vy G s a w→∃ n,g=some n:=fun a w ⟨St,hr⟩=>by
 have:=ji hr (x:=.tmp d) hl
 obtain ⟨b,hb,_⟩:=this
 exact ⟨b,hb⟩
theorem bu {fn:Func} {Q:CV→List (Option Nat×bi)→Prop} {e:Exit} {v m:CV} {H':List (Option Nat×bi)} (he:e=.ret∨e=.normal) (l:List Nat) (hl:l.Nodup) (hH:im s.H l=H') (hres:lX P G fn s v) (hv:aa v m) (hq:Q m H'):mz P G fn Q e s:=bV he m H' l hl hH (hres.ent hv) hq
theorem aJ {fn:Func} {e:Exit} {v m:CV} {x:Option Nat×bi} (he:e=.ret∨e=.normal) (hH:s.H[0]?=some x) (hres:lX P G fn s v) (hv:aa v m):mz P G fn (fun r H'=>r=m∧H'=[x]) e s :=
 bV he m [x] [0] jD (by simp [im,List.getD,hH]) (hres.ent hv) ⟨rfl,rfl⟩
end
end Am
end Go.Proofs.YtghminnpfnkbjaaGreatDoor
