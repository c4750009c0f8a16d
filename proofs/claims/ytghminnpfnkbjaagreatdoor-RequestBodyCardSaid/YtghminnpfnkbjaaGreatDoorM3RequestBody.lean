/- What the law leans on, part 3 -/
import Derived.Test.YtghminnpfnkbjaaGreatDoorM2RequestBody
import Derived.Laws.StructEq
set_option maxRecDepth 100000
variable {gs:List Nat}
open Go.Proofs.Tryz
namespace Go.Proofs.YtghminnpfnkbjaaGreatDoor
set_option linter.unusedVariables false
namespace Am
open Go.RowKit
section
variable {P:Program} {G:Gh} {ops:Array Oper} {o:Oper} {s:AS} {K:AS→Prop} {t u:TypeId} {x y:Operand} {k:IntKind}
theorem tJ {ats:Array TypeId} (ho:o.op=.call ⟨.builtin .len,#[x],ats⟩) {a:Act} {v:Value} {w:World} (h:(Builtin.len_ ats o.type #[a.eval x]).run P w=.ok v w):(execOp a.eval o).run P w=.ok (.value v) w:=by
 simp [execOp,ho,resolve,invoke,builtin,h]
theorem Rl {e:TypeId} {m n:Nat} {f:Nat→Nat→CV} (ho:o.op=.call ⟨.builtin .len,#[x],#[t]⟩) (hx:s.eval x=.rs m n f) (h1:P.underlying t=some (.slice e)):cj P G o s (.c (.int .i64 (n:Nat))):=fun St a w h=>by
 have ⟨ao,cap,e0,_⟩:=iY h hx
 exact ⟨_,fun W _=>tJ ho (v:=.int .i64 (n:Nat)) (by rw [e0];simp [Builtin.len_,underlying,h1,goInt]),rfl⟩
theorem Rm {e:TypeId} {i off m n:Nat} {g:Option Nat} (ho:o.op=.call ⟨.builtin .len,#[x],#[t]⟩) (hx:s.eval x=.os i g off n m) (h1:P.underlying t=some (.slice e)):cj P G o s (.c (.int .i64 (n:Nat))):=fun St a w h=>by
 obtain ⟨ao,cap,e0⟩:∃ ao cap,a.eval x=.slice ao n cap:=by
  have he:=iY h hx
  cases g with
  | none=>exact ⟨none,0,by rw [he.2,he.1]⟩
  | some b=>have ⟨cap,e0,_⟩:=he;exact ⟨_,cap,e0⟩
 exact ⟨_,fun W _=>tJ ho (v:=.int .i64 (n:Nat)) (by rw [e0];simp [Builtin.len_,underlying,h1,goInt]),rfl⟩
theorem Rk {l:ByteArray} (ho:o.op=.call ⟨.builtin .len,#[x],#[t]⟩) (hx:s.eval x=.c (.string l)) (h1:P.underlying t=some .string):cj P G o s (.c (.int .i64 (l.size:Nat))):=fun St a w h =>
 ⟨_,fun W _=>tJ ho (v:=.int .i64 (l.size:Nat)) (by rw [kZ h hx];simp [Builtin.len_,underlying,h1,goInt]),rfl⟩
theorem Rn {e:TypeId} (ho:o.op=.call ⟨.builtin .len,#[x],#[t]⟩) (hx:s.eval x=.c (.slice none 0 0)) (h1:P.underlying t=some (.slice e)):cj P G o s (.c (.int .i64 0)):=fun St a w h =>
 ⟨_,fun W _=>tJ ho (v:=.int .i64 0) (by rw [kZ h hx];simp [Builtin.len_,underlying,h1,goInt]),rfl⟩
theorem Hn {p q:Int} {ats:Array TypeId} (ho:o.op=.call ⟨.builtin .max,#[x,y],ats⟩) (hx:s.eval x=.c (.int k p)) (hy:s.eval y=.c (.int k q)):cj P G o s (.c (.int k (max p q))):=fun St a w h =>
 ⟨_,fun W _=>by
  have e:max p q=if q>p then q else p:=by split<;>omega
  simp [execOp,ho,resolve,invoke,builtin,kZ h hx,kZ h hy,Builtin.max_,Builtin.max2]
  rw [e],rfl⟩
theorem Ri {p q:Int} {ats:Array TypeId} (ho:o.op=.call ⟨.builtin .min,#[x,y],ats⟩) (hx:s.eval x=.c (.int k p)) (hy:s.eval y=.c (.int k q)):cj P G o s (.c (.int k (min p q))):=fun St a w h =>
 ⟨_,fun W _=>by
  have e:min p q=if q<p then q else p:=by split<;>omega
  simp [execOp,ho,resolve,invoke,builtin,kZ h hx,kZ h hy,Builtin.min_,Builtin.min2]
  rw [e],rfl⟩
def Bd (s:AS) (d:Nat):Option Operand→Nat→Prop
 | none,n=>n=d
 | some x,n=>∃ (k:IntKind) (z:Int),s.eval x=.c (.int k z)∧z=(n:Int)
theorem bv (s:AS) (d:Nat):Bd s d none d:=rfl
theorem ci {d n:Nat} {z:Int} (hx:s.eval x=.c (.int k z)) (hz:z=(n:Int)):Bd s d (some x) n:=⟨k,z,hx,hz⟩
theorem iI {St:Nat→Prop} {a:Act} {w:World} (h:ax G St s a w) {lo hi:Option Operand} {l u n cap:Nat} (h1:Bd s 0 lo l) (h2:Bd s n hi u) (hlu:l≤u) (hu:u≤n) (hn:n≤cap) (is:Bool) (W:World) :
  (Instr.sliceBounds is n cap (lo.map a.eval) (hi.map a.eval) none).run P W=.ok (l,u,cap) W:=by
 have hb:∀ (x:Operand) (k:IntKind) (z:Int) (m y:Nat) (code:BoundsCode),s.eval x=.c (.int k z)→z=(m:Int)→m≤y→(Instr.sliceBound (a.eval x) y code).run P W=.ok m W:=fun x k z m y code hx hz hm=>by
  rw [kZ h hx,hz]
  simp [Instr.sliceBound,asIntOf,hm]
 cases lo with
 | none =>
  have h1:l=0:=h1
  subst h1
  cases hi with
  | none=>have h2:u=n:=h2;subst h2;simp [Instr.sliceBounds]
  | some y=>have ⟨k,z,hy,hz⟩:=h2;simp [Instr.sliceBounds,hb y k z u cap _ hy hz O]
 | some x =>
  have ⟨k1,z1,hx,hz1⟩:=h1
  cases hi with
  | none=>have h2:u=n:=h2;subst h2;simp [Instr.sliceBounds,hb x k1 z1 l u _ hx hz1 hlu]
  | some y=>have ⟨k,z,hy,hz⟩:=h2;simp [Instr.sliceBounds,hb y k z u cap _ hy hz O,hb x k1 z1 l u _ hx hz1 hlu]
theorem iO {lo hi:Option Operand} (ho:o.op=.slice t x lo hi none) {a:Act} {v:Value} {w:World} (h:(Instr.sliceAt t (a.eval x) (lo.map a.eval) (hi.map a.eval) none).run P w=.ok v w):(execOp a.eval o).run P w=.ok (.value v) w:=by
 simp only [execOp,ho]
 exact ma h
theorem qp {e:TypeId} {m n l v:Nat} {f:Nat→Nat→CV} {lo hi:Option Operand} (ho:o.op=.slice t x lo hi none) (hx:s.eval x=.rs m n f) (h1:P.underlying t=some (.slice e)) (h5:(P.info? e).map (·.size)=some m)
  (hl:Bd s 0 lo l) (hu:Bd s n hi v) (hlv:l≤v) (hvn:v≤n):cj P G o s (.rs m (v-l) fun i j=>f (l+i) j):=fun St a w h=>by
 have ⟨info,hi',hs⟩:=ZG.1 h5
 have ⟨ao,cap,e0,h2,h3,h4,h6⟩:=iY h hx
 refine ⟨.slice (if cap=l then ao else ao.map (·.add (l * m))) (v-l) (cap-l),fun W _=>iO ho ?_,_,_,rfl,by omega,by omega,fun hn=>?_,fun ad had hn=>?_⟩
 ·rw [e0]
  simp [Instr.sliceAt,Instr.slice,underlying,h1,iI h hl hu hlv hvn h2,sizeOf,typeInfo,hi',hs]
 ·split at hn
  ·have:=h4 hn;omega
  ·have:ao=none:=by simpa using hn
   have:=h4 this;omega
 ·have hne:¬ cap=l:=by omega
  rw [Zy hne] at had
  obtain ⟨ad0,rfl,rfl⟩:=ZG.1 had
  have ⟨h7,h8,h9⟩:=h6 ad0 rfl O
  have ⟨b,q,sp⟩:=ad0
  simp only at h7 h8 h9
  subst h7
  rw [fE]
  refine ⟨rfl,h8,fun i j hi2 hj=>?_⟩
  obtain ⟨vv,hv,hr⟩:=h9 (l+i) j O hj
  refine ⟨vv,?_,hr⟩
  rw [← hv,aRx]
  congr 2
  simp only
  omega
theorem zW {e:TypeId} {i off m n l v:Nat} {g:Option Nat} {lo hi:Option Operand} (ho:o.op=.slice t x lo hi none) (hx:s.eval x=.os i g off n m) (h1:P.underlying t=some (.slice e)) (h5:(P.info? e).map (·.size)=some m)
  (hl:Bd s 0 lo l) (hu:Bd s n hi v) (hlv:l≤v) (hvn:v≤n) (hln:l=0∨l<n):cj P G o s (.os i g (off+l * m) (v-l) m):=fun St a w h=>by
 have ⟨info,hi',hs⟩:=ZG.1 h5
 have he:=iY h hx
 cases g with
 | none =>
  have ⟨h2,h3⟩:=he
  subst h2
  have hl0:l=0:=by omega
  have hv0:v=0:=by omega
  subst hl0 hv0
  refine ⟨.slice none 0 0,fun W _=>iO ho ?_,rfl,rfl⟩
  rw [h3]
  simp [Instr.sliceAt,Instr.slice,underlying,h1,iI h hl hu hlv hvn (ZA _),sizeOf,typeInfo,hi']
 | some b =>
  have ⟨cap,e0,h2,h3,cur,ty,z,h4,h6⟩:=he
  refine ⟨.slice (some ⟨b,off+l * m,none⟩) (v-l) (cap-l),fun W _=>iO ho ?_,cap-l,rfl,by omega,by omega,cur,ty,z,h4,?_⟩
  ·rw [e0]
   have e1:(if cap=l then some (⟨b,off,none⟩:Addr) else some (Addr.add ⟨b,off,none⟩ (l * m)))=some ⟨b,off+l * m,none⟩:=by
    split
    ·have:l=0:=by omega
     subst this
     simp
    ·rw [fE]
   simp [Instr.sliceAt,Instr.slice,underlying,h1,iI h hl hu hlv hvn h2,sizeOf,typeInfo,hi',hs]
   exact e1
  ·have:l * m+(cap-l) * m=cap * m:=by rw [← aRx];congr 1;omega
   omega
theorem iT {e:TypeId} {i off m n l v:Nat} {g:Option Nat} {lo hi:Option Operand} {N:Nat} {f:Nat→CV} (ho:o.op=.slice t x lo hi none) (hx:s.eval x=.op i g off) (hH:Holds s i g N f) (hN:off+n * m≤N) (h1:P.underlying t=some (.array n e)) (h5:(P.info? e).map (·.size)=some m)
  (hl:Bd s 0 lo l) (hu:Bd s n hi v) (hlv:l≤v) (hvn:v≤n) (hln:l<n) (hb:Nat.ble n 9223372036854775807=true):cj P G o s (.os i g (off+l * m) (v-l) m):=fun St a w h=>by
 have ⟨info,hi',hs⟩:=ZG.1 h5
 obtain ⟨b,rfl,e0⟩:=iY h hx
 have hb:=ZN hb
 have ⟨_,cur,ty,z,hh,hle,_⟩:=iW h hH
 refine ⟨.slice (some ⟨b,off+l * m,none⟩) (v-l) (n-l),fun W _=>iO ho ?_,n-l,rfl,by omega,by omega,cur,ty,z,hh,?_⟩
 ·rw [e0]
  simp [Instr.sliceAt,underlying,h1,Instr.sureAddr,iI h hl hu hlv hvn (ZA _),sizeOf,typeInfo,hi',hs,fE,show ¬ n=l by omega]
 ·have:l * m+(n-l) * m=n * m:=by rw [← aRx];congr 1;omega
  omega
theorem Jq {b:ByteArray} {l v:Nat} {lo hi:Option Operand} (ho:o.op=.slice t x lo hi none) (hx:s.eval x=.c (.string b)) (h1:P.underlying t=some .string)
  (hl:Bd s 0 lo l) (hu:Bd s b.size hi v) (hlv:l≤v) (hvn:v≤b.size):cj P G o s (.c (.string (b.extract l v))):=fun St a w h =>
 ⟨_,fun W _=>iO ho (by rw [kZ h hx];simp [Instr.sliceAt,Instr.slice,underlying,h1,iI h hl hu hlv hvn (ZA _)]),rfl⟩
theorem EW (l:I) (p q:Nat) (hpq:p≤q) (hq:q≤l.length):aa (.rs 1 (q-p) fun i _=>aV l (p+i)) (bc ((l.take q).drop p)):=by
 refine aa.rs (by simp;omega) fun i j hi hj=>aa.of_eq ?_
 simp [aV,List.getD,show p+i<q by omega]
theorem S0 (l:I) (p:Nat) (hp:p≤l.length):aa (.rs 1 (l.length-p) fun i _=>aV l (p+i)) (bc (l.drop p)):=by
 refine aa.rs (by simp) fun i j hi hj=>aa.of_eq ?_
 simp [aV,List.getD]
theorem XL (l:I) (q:Nat) (hq:q≤l.length):aa (.rs 1 (q-0) fun i _=>aV l (0+i)) (bc (l.take q)):=by
 have:=EW l 0 q O hq
 simpa using this
theorem Dv {g:FuncId} {cs:Array Operand} {n:Nat} (ho:o.op=.makeFunc (.func g) #[] cs) (hn:cs.size=n):cj P G o s (.fn g n (fl (cs.toList.map s.eval))):=fun St a w h =>
 ⟨.func (.func g) #[] (cs.map a.eval),fun W _=>by simp only [execOp,ho];exact ma (by simp [Instr.makeFunc]),_,rfl,by simp [hn],fun i hi=>by
  rw [dK]
  simp [List.getD,show i<cs.size by omega]
  exact h.eval _⟩
theorem ax.freshRS {St:Nat→Prop} {a:Act} {w w':World} (h:ax G St s a w) (hb:Below w.heap.size w w') {g:Nat} (hg:w.heap.size≤g) (hlt:g<w'.heap.size):ax G (fun b=>St b∨b=g) s a w':=by
 have h1:=h.ext hb
 have he:rc St w' w':=⟨fun _ _ _ _ _ h=>h,fun b cur t z h=>⟨cur,z,h,rfl⟩⟩
 have hs:∀ b,St b→St b∨b=g:=fun _ h=>.inl h
 have ⟨fp0,hp0⟩:=h.hp
 refine ⟨h1.df.grow hs,h1.sz,fun d=>aP.evo he hs _ _ (h1.env d),h1.un,fun b hb=>.inl (h1.s1 b hb),fun b hb=>?_,fun b hb=>?_,?_,h1.sn,fun g hg=>.inl (h1.sg.1 g hg),fun x hx=>.inl (h1.sg.2 x hx)⟩
 ·rcases hb with hb|rfl
  exact h1.s2 b hb
  exact .inr (.inl (Z7 h.un.size hg))
 ·rcases hb with hb|rfl
  exact h1.s3 b hb
  exact hlt
 ·have he2:=rc.of_below hb h.s3
  refine ⟨fp0,fun i q r hi=>aW.rep_evo he2 hs (fun b hF=>hb.block b (hp0.own i b hF).1) (hp0.rep i q r hi),hp0.dis,fun i b hF=>?_,hp0.out⟩
  have ⟨h2,h3,h4⟩:=hp0.own i b hF
  exact ⟨Z4 h2 hb.size,fun h=>h.elim h3 (fun e=>by omega),h4⟩
theorem KQ {e:TypeId} {l:ByteArray} (ho:o.op=.convert t u x) (hx:s.eval x=.c (.string l)) (h1:P.underlying t=some .string) (h2:P.underlying u=some (.slice e)) (h3:P.underlying e=some (.int .u8)) (hl:l.size≤9223372036854775807) (hd:bY G o=true)
  (hK:K (s.with o.dst (bc l.data.toList) s.H)):kP P G o s K:=fun St a w hr Q=>by
 have hlen:l.data.size=l.size:=rfl
 let cap:=grownCap w l.size 0 e
 have hgc:l.size≤cap∧cap≤9223372036854775807:=by
  have hlt:=aNx (w.tape w.drawn (.appendCap l.size 0 e)) (show 0<2 ^ 63-l.size by omega)
  simp only [cap,grownCap,Question.cut]
  omega
 let cs:Array Value:=(l.data.map fun b=>.int .u8 (b.toNat:Nat))++Array.replicate (cap-l.size) (.int .u8 0)
 have hcs:cs.size=cap:=by simp [cs,hlen];omega
 let w1:=w.drew.alloc (.cells cs e)
 have hw1:w1.heap[w.heap.size]?=some (.cells cs e (0,0)):=heap_alloc_new w.drew _
 let w2:=w1.freeze { block:=w.heap.size,off:=cs.size } 1
 have hb1:Below w.heap.size w w1:=co w _
 have hw2:w2.heap[w.heap.size]?=some (.cells cs e (cs.size,cs.size+1)):=by
  simp only [w2,World.freeze]
  rw [Zy jD]
  simp only [bex,hw1,if_true,bzx]
  simp
 have CF:Below w.heap.size w w2:=by
  refine ⟨?_,?_,?_,?_,fun k hk=>?_⟩
  ·simp only [w2,World.freeze];rw [Zy jD];exact hb1.os
  ·simp only [w2,World.freeze];rw [Zy jD];exact hb1.tape
  ·simp only [w2,World.freeze];rw [Zy jD];exact hb1.output
  ·simp only [w2,World.freeze];rw [Zy jD];simp;exact hb1.size
  ·simp only [w2,World.freeze]
   rw [Zy jD]
   simp only [bex]
   rw [jK]
   exact hb1.block k hk
 have hrun:(execOp a.eval o).run P w=.ok (.value (.slice (some ⟨w.heap.size,0,none⟩) l.size cap)) w2:=by
  simp only [execOp,ho,kZ hr hx]
  refine ma ?_
  have hch:(choose (.appendCap l.size 0 e)).run P w=.ok cap w.drew:=by simp [Question.forced,grownCap,cap]
  have hsh:w1.shape? w.heap.size=some (e,cs.size):=by simp [World.shape?,hw1]
  simp only [convert,underlying,Sem.run_bind,run_program,Result.andThen_ok,h1,h2,h3,Sem.run_pure,Conv.stringToBytes,hch,newRow,run_newObj,World.size_drew,World.alloc_eq]
  simp only [markStringish,Sem.run_bind,run_shape]
  show ((Result.ok (w1.shape? w.heap.size) w1).andThen _).andThen _=_
  rw [hsh]
  rfl
 unfold Oper.wp
 rw [hrun]
 refine ⟨CF,fun b=>St b∨b=w.heap.size,fun _ h=>.inl h,_,hK,?_⟩
 have h4:=(hr.freshRS CF (ZA _) (ZX.1 hw2).1).put (dst:=o.dst) (v:=bc l.data.toList) (x:=.slice (some ⟨w.heap.size,0,none⟩) l.size cap) (dB hd) ⟨_,cap,by simp;rfl,by simp [hlen];exact hgc.1,hgc.2,(fun h=>by cases h),fun ad had _=>by
  have:=Z3 had
  subst this
  refine ⟨rfl,.inr rfl,fun i j hi hj=>?_⟩
  have hi:i<l.data.size:=by simpa using hi
  refine ⟨.int .u8 (l.data[i].toNat:Nat),?_,?_⟩
  ·show w2.cell? ⟨w.heap.size,0+(i * 1+j),none⟩=_
   rw [cell_of_row w2 w.heap.size _ cs e _ hw2,show 0+(i * 1+j)=i by omega]
   have e9:l.data[i]?=some l.data[i]:=ZP hi
   have hi2:i<l.size:=hi
   simp [cs,Array.getElem?_append,hi2]
  ·have e9:l.data[i]?=some l.data[i]:=ZP hi
   simp [aV,List.getD,e9]
   rfl⟩
 cases ho:o.dst with
 | none=>rw [ho] at h4;exact h4
 | some d=>rw [ho] at h4;exact h4
end
section
variable {P:Program} {G:Gh} {ops:Array Oper} {o:Oper} {s:AS} {r:List Oper} {K:AS→Prop} {R:Exit→AS→Prop} {Y:AS→Prop} {x y:Code}
theorem GL {i j:Nat} (he:Nat.beq j i=true) (h:R .normal s):oG i R (.exit j) s:=by
 show match Nat.beq j i with|true=>R .normal s|false=>R (.exit j) s
 rw [he];exact h
theorem EY {i j:Nat} (he:Nat.beq j i=false) (h:R (.exit j) s):oG i R (.exit j) s:=by
 show match Nat.beq j i with|true=>R .normal s|false=>R (.exit j) s
 rw [he];exact h
theorem GF {d:Operand} (hl:s.eval d=.c (.bool true)) (ht:aY P G x s R):aY P G (.cond d x y) s R:=vi hl (fun _=>ht) (fun h=>by cases h)
theorem GH {d:Operand} (hl:s.eval d=.c (.bool false)) (hf:aY P G y s R):aY P G (.cond d x y) s R:=vi hl (fun h=>by cases h) (fun _=>hf)
variable {env:List (Nat×CV)} {b0:Nat→CV} {H:List (Option Nat×aW)}
theorem Yp {d:Nat} {v:CV} (hw:aS G ops o ⟨env,b0,H⟩ true) (hd:o.dst=some d) (hN:Nat.blt d G.N=true) (h:cj P G o ⟨env,b0,H⟩ v) (hk:cQ P G ops r ⟨(d,v)::env,b0,H⟩ K):cQ P G ops (o::r) ⟨env,b0,H⟩ K :=
 Ut hw (by simp only [bY,hd];exact hN) h (by simp only [AS.put,hd];exact hk)
theorem WP {d:Nat} {v:CV} (hw:aS G ops o ⟨env,b0,H⟩ true) (hd:o.dst=some d) (hN:Nat.blt d G.N=true) (h:kf P G o ⟨env,b0,H⟩ v) (hk:cQ P G ops r ⟨(d,v)::env,b0,H⟩ K):cQ P G ops (o::r) ⟨env,b0,H⟩ K :=
 Hb hw (by simp only [bY,hd];exact hN) h (by simp only [AS.put,hd];exact hk)
theorem UZ {d:Nat} (hw:aS G ops o ⟨env,b0,H⟩ false) (hd:o.dst=some d) (hN:Nat.blt d G.N=true) (hk:cQ P G ops r ⟨(d,.c undef)::env,b0,H⟩ K):cQ P G ops (o::r) ⟨env,b0,H⟩ K :=
 Mt hw (by simp only [bY,hd];exact hN) (by simp only [AS.put,hd];exact hk)
theorem X7 {d:Nat} {v:CV} {tr:dT} (hw:aS G ops o ⟨env,b0,H⟩ true) (hd:o.dst=some d) (hN:Nat.blt d G.N=true) (h:cj P G o ⟨env,b0,H⟩ v) (hk:AX P G ops tr ⟨(d,v)::env,b0,H⟩ K):AX P G ops (.rd o tr) ⟨env,b0,H⟩ K :=
 X8 hw (by simp only [bY,hd];exact hN) h (by simp only [AS.put,hd];exact hk)
theorem Ww {d:Nat} {v:CV} {tr:dT} (hw:aS G ops o ⟨env,b0,H⟩ true) (hd:o.dst=some d) (hN:Nat.blt d G.N=true) (h:kf P G o ⟨env,b0,H⟩ v) (hk:AX P G ops tr ⟨(d,v)::env,b0,H⟩ K):AX P G ops (.rd o tr) ⟨env,b0,H⟩ K :=
 Ts hw (by simp only [bY,hd];exact hN) h (by simp only [AS.put,hd];exact hk)
theorem Wg {d:Nat} {v:CV} {tr:dT} (hw:aS G ops o ⟨env,b0,H⟩ true) (hd:o.dst=some d) (hN:Nat.blt d G.N=true) (h:cj P G o ⟨env,b0,H⟩ v) (hk:AZ P G ops tr ⟨(d,v)::env,b0,H⟩ K):AZ P G ops (.rd o tr) ⟨env,b0,H⟩ K :=
 X5 hw (by simp only [bY,hd];exact hN) h (by simp only [AS.put,hd];exact hk)
theorem Lx {d:Nat} {v:CV} {tr:dT} (hw:aS G ops o ⟨env,b0,H⟩ true) (hd:o.dst=some d) (hN:Nat.blt d G.N=true) (h:kf P G o ⟨env,b0,H⟩ v) (hk:AZ P G ops tr ⟨(d,v)::env,b0,H⟩ K):AZ P G ops (.one o tr) ⟨env,b0,H⟩ K :=
 P8 hw (by simp only [bY,hd];exact hN) h (by simp only [AS.put,hd];exact hk)
theorem T8 {d:Nat} {v:CV} {tr:dT} (hw:aS G ops o ⟨env,b0,H⟩ true) (hd:o.dst=some d) (hN:Nat.blt d G.N=true) (hb:ownB ops o=true) (h:kf P G o ⟨env,b0,H⟩ v) (hk:AZ P G ops tr ⟨(d,v)::env,b0,H⟩ K):AZ P G ops (.rd o tr) ⟨env,b0,H⟩ K :=
 Wu hw (by simp only [bY,hd];exact hN) hb h (by simp only [AS.put,hd];exact hk)
theorem P6 {d:Nat} {tr:dT} (hw:aS G ops o ⟨env,b0,H⟩ false) (hd:o.dst=some d) (hN:Nat.blt d G.N=true) (hk:AZ P G ops tr ⟨(d,.c undef)::env,b0,H⟩ K):AZ P G ops (.rd o tr) ⟨env,b0,H⟩ K :=
 Ud hw (by simp only [bY,hd];exact hN) (by simp only [AS.put,hd];exact hk)
theorem Ug {d:Nat} {tr:dT} (hw:aS G ops o ⟨env,b0,H⟩ false) (hd:o.dst=some d) (hN:Nat.blt d G.N=true) (hk:AX P G ops tr ⟨(d,.c undef)::env,b0,H⟩ K):AX P G ops (.rd o tr) ⟨env,b0,H⟩ K :=
 Ui hw (by simp only [bY,hd];exact hN) (by simp only [AS.put,hd];exact hk)
theorem Qf {d:Nat} {tr:dT} (hw:aS G ops o ⟨env,b0,H⟩ false) (hd:o.dst=some d) (hN:Nat.blt d G.N=true) (hk:AX P G ops tr ⟨(d,.c undef)::env,b0,H⟩ K):AX P G ops (.one o tr) ⟨env,b0,H⟩ K :=
 Ql hw (by simp only [bY,hd];exact hN) (by simp only [AS.put,hd];exact hk)
theorem lb {j d:Nat} {b:Bool} (h:o.guard=some (j,b)) (hd:(ops[j]?).bind (·.dst)=some d) (hN:Nat.blt d G.N=true) (hl:look s.env s.b d=.c undef):aS G ops o s false:=fun St a w hr=>by
 have hlt:d<a.tmps.size:=by rw [hr.sz];exact ZN hN
 have he:=hr.env d
 rw [hl] at he
 have he:a.tmps.getD d undef=undef:=he
 have hg:a.tmps[d]?=some undef:=by
  rw [ZP hlt]
  congr 1
  simpa [hlt] using he
 simp only [Region.wanted,h,yielded,hd,Option.bind_some,hg]
 cases b<;>rfl
theorem qt {d:Nat} {t:Bool} (hN:Nat.blt d G.N=true) (hl:look s.env s.b d=.c (.bool t)) {b:Bool} (e:t=b):cJ G s ⟨(d,.c (.bool b))::s.env,s.b,s.H⟩ :=
 cJ.put hN fun St a w hr=>by
  have:=hr.env d
  rw [hl,e] at this
  exact this
theorem GG {d:Nat} {t:Bool} (hN:Nat.blt d G.N=true) (hl:look s.env s.b d=.c (.bool t)) (ht:t=true→aY P G x ⟨(d,.c (.bool true))::s.env,s.b,s.H⟩ R) (hf:t=false→aY P G y ⟨(d,.c (.bool false))::s.env,s.b,s.H⟩ R):aY P G (.cond (.tmp d) x y) s R :=
 vi (t:=t) hl (fun e=>jE (qt hN hl e) (ht e)) (fun e=>jE (qt hN hl e) (hf e))
theorem IT {d:Nat} {t:Bool} (hN:Nat.blt d G.N=true) (hl:look s.env s.b d=.c (.bool t)) (ht:t=true→cQ P G ops r ⟨(d,.c (.bool true))::s.env,s.b,s.H⟩ K) (hf:t=false→cQ P G ops r ⟨(d,.c (.bool false))::s.env,s.b,s.H⟩ K):cQ P G ops r s K:=by
 cases e:t with
 | true=>exact aA (qt hN hl e) (ht e)
 | false=>exact aA (qt hN hl e) (hf e)
theorem Qj {d:Nat} {t:Bool} {tr:dT} (hN:Nat.blt d G.N=true) (hl:look s.env s.b d=.c (.bool t)) (ht:t=true→AX P G ops tr ⟨(d,.c (.bool true))::s.env,s.b,s.H⟩ K) (hf:t=false→AX P G ops tr ⟨(d,.c (.bool false))::s.env,s.b,s.H⟩ K):AX P G ops tr s K:=by
 cases e:t with
 | true=>exact ij (qt hN hl e) (ht e)
 | false=>exact ij (qt hN hl e) (hf e)
theorem Qk {t:dT} {v:CV} (hw:aS G ops o s true) (hd:bY G o=true) (h:kf P G o s v) (hk:AX P G ops t (s.put o.dst v) K):AX P G ops (.one o t) s K :=
 Tt hw fun St a w hr Q=>by
  have ⟨x,hx,hv⟩:=h St a w hr
  unfold Oper.wp
  rw [hx w (Below.refl _ _)]
  exact ⟨Below.refl _ _,St,fun _ h=>h,_,hk,hr.put (dB hd) hv⟩
theorem Qe {d:Nat} {t:dT} {v:CV} (hw:aS G ops o ⟨env,b0,H⟩ true) (hd:o.dst=some d) (hN:Nat.blt d G.N=true) (h:kf P G o ⟨env,b0,H⟩ v) (hk:AX P G ops t ⟨(d,v)::env,b0,H⟩ K):AX P G ops (.one o t) ⟨env,b0,H⟩ K :=
 Qk hw (by simp only [bY,hd];exact hN) h (by simp only [AS.put,hd];exact hk)
def Be:IntKind→Int→Prop
 | .i64,z=>-9223372036854775808≤z∧z≤9223372036854775807
 | .u64,z=>0≤z∧z≤18446744073709551615
 | .i32,z=>-2147483648≤z∧z≤2147483647
 | .u32,z=>0≤z∧z≤4294967295
 | .i16,z=>-32768≤z∧z≤32767
 | .u16,z=>0≤z∧z≤65535
 | .i8,z=>-128≤z∧z≤127
 | .u8,z=>0≤z∧z≤255
theorem cU {k:IntKind} {z:Int} (h:Be k z):k.wrap z=z:=by
 cases k<;>simp only [Be] at h<;>simp [IntKind.wrap,IntKind.bits,IntKind.signed]<;>omega
theorem xQ {z:Int} (h:0≤z):z=(z.toNat:Int):=by omega
theorem cI {k:IntKind} {a b:Int} (h:a=b):aa (.c (.int k a)) (.c (.int k b)):=h ▸ Z
theorem cB {a b:Bool} (h:a=b):aa (.c (.bool a)) (.c (.bool b)):=h ▸ Z
theorem aa.str {a b:ByteArray} (h:a=b):aa (.c (.string a)) (.c (.string b)):=h ▸ Z
theorem aa.err {a b:Nat} (h:a=b):aa (.err a) (.err b):=h ▸ Z
theorem aa.bs {a b:I} (h:a=b):aa (bc a) (bc b):=h ▸ Z
theorem cN:aa (.c (.slice none 0 0)) (bc []):=aa.nilS _ _
theorem cT {a b c d:CV} (h1:aa a c) (h2:aa b d):aa (.tup 2 (fl [a,b])) (.tup 2 (fl [c,d])) :=
 aa.tup rfl fun i hi=>match i,hi with|0,_=>h1|1,_=>h2
theorem aa.tup3 {a b c d e f:CV} (h1:aa a d) (h2:aa b e) (h3:aa c f):aa (.tup 3 (fl [a,b,c])) (.tup 3 (fl [d,e,f])) :=
 aa.tup rfl fun i hi=>match i,hi with|0,_=>h1|1,_=>h2|2,_=>h3
def SE (G:Gh) (s:AS) (x:Operand) (c:CV):Prop:=∀ St a w,ax G St s a w→aP G.al St w c (a.eval x)
theorem se {x:Operand} {c0 c:CV} (hx:s.eval x=c0) (h:aa c0 c):SE G s x c:=fun St a w hr=>h _ _ _ _ (iY hr hx)
theorem Uw {x:Operand} {i off n m N:Nat} {g:Option Nat} {F:Nat→CV} (hx:s.eval x=.os i g off n m) (hH:s.H[i]?=some (g,.frz N F)) (hN:off+n * m≤N) (f:Nat→Nat→CV) (hf:∀ a b,a<n→b<m→aa (F (off+(a * m+b))) (f a b)):SE G s x (.rs m n f):=fun St a w hr=>by
 have he:=iY hr hx
 cases g with
 | none =>
  have ⟨h1,h2⟩:=he
  subst h1
  exact ⟨none,0,h2,ZA _,by decide,fun _=>rfl,fun _ h=>by cases h⟩
 | some g =>
  have ⟨cap,h1,h2,h3,_⟩:=he
  have ⟨fp,hp⟩:=hr.hp
  obtain ⟨_,hg,cur,t,z,hh,hle,hc⟩:=hp.rep i (some g) _ hH
  refine ⟨_,cap,h1,h2,h3,(fun h=>by cases h),fun ad ha _=>?_⟩
  cases ha
  refine ⟨rfl,hg,fun p q hp' hq=>?_⟩
  have hb:p * m+q<n * m:=by
   have:p * m+m≤n * m:=by rw [← c8x];exact aox _ hp'
   omega
  have hlt:off+(p * m+q)<cur.size:=by omega
  refine ⟨cur.getD (off+(p * m+q)) undef,?_,hf p q hp' hq _ _ _ _ (hc _ O)⟩
  show w.cell? ⟨g,off+(p * m+q),none⟩=_
  rw [cell_of_row w g _ cur t z hh];simp [hlt]
theorem sP {x:Operand} {i off n N:Nat} {g:Option Nat} {F:Nat→CV} (l:I) (hx:s.eval x=.os i g off n 1) (hH:s.H[i]?=some (g,.frz N F)) (hn:n=l.length) (hN:off+n≤N) (hf:∀ a,a<n→aa (F (off+a)) (aV l a)):SE G s x (bc l):=by
 subst hn
 refine Uw hx hH O _ fun a b ha hb=>?_
 rw [show off+(a * 1+b)=off+a by omega]
 exact hf a ha
inductive CI (G:Gh) (s:AS):List Operand→List CV→Prop where
 | nil:CI G s [] []
 | cons {x:Operand} {c:CV} {l:List Operand} {m:List CV} (h:SE G s x c) (t:CI G s l m):CI G s (x::l) (c::m)
theorem QN {l:List Operand} {m:List CV} (h:CI G s l m):l.length=m.length:=by
 induction h with
 | nil=>rfl
 | cons _ _ ih=>simp [ih]
theorem QO {l:List Operand} {m:List CV} (h:CI G s l m) {St:Nat→Prop} {a:Act} {w:World} (hr:ax G St s a w):∀ i (hi:i<l.length),aP G.al St w (fl m i) (a.eval l[i]):=by
 induction h with
 | nil=>intro i hi;simp at hi
 | cons h1 _ ih =>
  intro i hi
  cases i with
  | zero=>exact h1 St a w hr
  | succ i=>exact ih i (by simpa using hi)
def cd (gs:List Nat) (P:Program) (f:FuncId) (args:List CV) (m:CV):Prop:=AC gs P f [] args fun r H=>r=m∧H=[]
theorem Cw {xs:Array Operand} {args:List CV} (he:CI G s xs.toList args) {St:Nat→Prop} {a:Act} {w:World} (h:ax G St s a w):(xs.map a.eval).size=args.length∧∀ i,aP G.al St w (fl args i) ((xs.map a.eval).getD i undef):=by
 have hl:=QN he
 simp at hl
 refine ⟨by simp [hl],fun i=>?_⟩
 by_cases hi:i<xs.size
 ·have:=QO he h i (by simpa using hi)
  simpa [hi] using this
 ·rw [qK args i O]
  trivial
theorem Eu {f:FuncId} {xs:Array Operand} {ats:Array TypeId} {args:List CV} {Q:CV→List (Option Nat×aW)→Prop} (ho:o.op=.call ⟨.value (.func f),xs,ats⟩) (hc:bA P f=true) (hA:AC G.gs P f [] args Q) (he:CI G s xs.toList args) (hd:bY G o=true)
  (hK:∀ r H',Q r H'→K (s.with o.dst r (s.H++H'))):kP P G o s K:=fun St a w hr Q'=>by
 unfold Oper.wp
 rw [vb ho hc]
 have ⟨h1,h2⟩:=Cw he hr
 refine (hA G.al w St _ _ (Pb hr) h1 h2).mono ?_
 rintro e w' ⟨v,r,H',St',rfl,hq,hv,hu,h3,h4,h5,h6⟩
 refine ⟨hu.below,St',h3,_,hK r H' hq,?_⟩
 have:=(hr.after hu h3 h4 h5 h6).put (dst:=o.dst) (dB hd) hv
 cases ho:o.dst with
 | none=>rw [ho] at this;exact this
 | some d=>rw [ho] at this;exact this
theorem O7 {f:FuncId} {xs:Array Operand} {ats:Array TypeId} {args:List CV} {m:CV} (ho:o.op=.call ⟨.value (.func f),xs,ats⟩) (hc:bA P f=true) (hA:cd G.gs P f args m) (he:CI G s xs.toList args) (hd:bY G o=true)
  (hK:K (s.with o.dst m (s.H++[]))):kP P G o s K:=Eu ho hc hA he hd (by rintro _ _ ⟨rfl,rfl⟩;exact hK)
def Fh (P:Program) (G:Gh) (s:AS) (rv:ResultVar) (c:CV):Prop:=∀ St a w,ax G St s a w→∃ v,(match rv with|.tmp t=>pure (a.tmps.getD t undef)|.cell d t=>do loadVar t (← asAddr (a.tmps.getD d undef)):Sem Value).run P w=.ok v w∧aP G.al St w c v
theorem ai {t:Nat} {c:CV} (h:look s.env s.b t=c):Fh P G s (.tmp t) c:=fun St a w hr=>⟨_,rfl,h ▸ hr.env t⟩
theorem PK {d:Nat} {t:TypeId} {i off n:Nat} {g:Option Nat} {f:Nat→CV} {c:CV} {ds:TypeDesc} (h:look s.env s.b d=.op i g off) (hH:Holds s i g n f) (h1:P.underlying t=some ds) (ha:iB P t=false) (hn:off<n) (hc:f off=c):Fh P G s (.cell d t) c:=fun St a w hr=>by
 have he:=hr.env d
 rw [h] at he
 obtain ⟨b,rfl,he⟩:=he
 have ⟨hg,cur,ty,z,hh,hle,hcell⟩:=iW hr hH
 have hlt:off<cur.size:=by omega
 have hcc:w.cell? ⟨b,off,none⟩=some (cur.getD off undef):=by
  rw [cell_of_row w b off cur ty z hh];simp [hlt]
 refine ⟨_,?_,hc ▸ hcell off hn⟩
 simp only [he,asAddr,Sem.run_bind,Sem.run_pure,Result.andThen_ok]
 exact je h1 ha hcc
theorem Ba {d:Nat} {t:TypeId} {i off n m:Nat} {g:Option Nat} {f:Nat→CV} {ds:TypeDesc} (h:look s.env s.b d=.op i g off) (hH:Holds s i g n f) (h1:P.underlying t=some ds) (ha:iB P t=true) (h5:(P.info? t).map (·.size)=some m) (hn:off+m≤n):Fh P G s (.cell d t) (.agg m fun j=>f (off+j)):=fun St a w hr=>by
 have ⟨info,h5i,h6⟩:=ZG.1 h5
 have he:=hr.env d
 rw [h] at he
 obtain ⟨b,rfl,he⟩:=he
 have ⟨hg,cur,ty,z,hh,hle,hcell⟩:=iW hr hH
 subst h6
 have hrun:=ld h1 ha h5i (w:=w) (b:=b) (q:=off) (g:=fun j=>cur.getD (off+j) undef) (fun j hj=>by
  have hlt:off+j<cur.size:=by omega
  rw [cell_of_row w b (off+j) cur ty z hh];simp [hlt])
 refine ⟨.agg ((List.range info.size).map fun j=>cur.getD (off+j) undef).toArray,?_,_,rfl,by simp,fun j hj=>?_⟩
 ·simp only [he,asAddr,Sem.run_bind,Sem.run_pure,Result.andThen_ok]
  exact hrun
 ·have:=hcell (off+j) O
  simp [hj] at this ⊢
  exact this
theorem Jb {α β:Type} (f:α→Sem β) {a1:α} {b1:β} {w:World} (h1:(f a1).run P w=.ok b1 w):((#[a1]:Array α).mapM f).run P w=.ok #[b1] w:=by
 simp [h1]
theorem Ja {α β:Type} (f:α→Sem β) {a1 a2:α} {b1 b2:β} {w:World} (h1:(f a1).run P w=.ok b1 w) (h2:(f a2).run P w=.ok b2 w):((#[a1,a2]:Array α).mapM f).run P w=.ok #[b1,b2] w:=by
 simp [h1,h2]
theorem I9 {α β:Type} (f:α→Sem β) {a1 a2 a3:α} {b1 b2 b3:β} {w:World} (h1:(f a1).run P w=.ok b1 w) (h2:(f a2).run P w=.ok b2 w) (h3:(f a3).run P w=.ok b3 w):((#[a1,a2,a3]:Array α).mapM f).run P w=.ok #[b1,b2,b3] w:=by
 simp [h1,h2,h3]
theorem I8 {α β:Type} (f:α→Sem β) {a1 a2 a3 a4:α} {b1 b2 b3 b4:β} {w:World} (h1:(f a1).run P w=.ok b1 w) (h2:(f a2).run P w=.ok b2 w) (h3:(f a3).run P w=.ok b3 w) (h4:(f a4).run P w=.ok b4 w):((#[a1,a2,a3,a4]:Array α).mapM f).run P w=.ok #[b1,b2,b3,b4] w:=by
 simp [h1,h2,h3,h4]
theorem wv {fn:Func} {tmps:Array Value} {vs:Array Value} {w:World} (h:(fn.results.mapM fun|.tmp t=>pure (tmps.getD t undef)|.cell a t=>do loadVar t (← asAddr (tmps.getD a undef)):Sem (Array Value)).run P w=.ok vs w):(results fn tmps).run P w=.ok (if h:vs.size=1 then vs[0] else .tuple vs) w:=by
 unfold results
 rw [Sem.run_bind]
 have h':=h
 refine (ZV (fun r=>Result.andThen r _) h').trans ?_
 rfl
theorem aK {fn:Func} {r1:ResultVar} {v:CV} (h:fn.results=#[r1]) (h1:Fh P G s r1 v):lp P G fn s v:=fun St a w hr=>by
 have ⟨x1,e1,q1⟩:=h1 St a w hr
 exact ⟨x1,wv (vs:=#[x1]) (by rw [h];exact Jb _ e1),q1⟩
theorem di {fn:Func} {r1 r2:ResultVar} {v1 v2:CV} (h:fn.results=#[r1,r2]) (h1:Fh P G s r1 v1) (h2:Fh P G s r2 v2):lp P G fn s (.tup 2 (fl [v1,v2])):=fun St a w hr=>by
 have ⟨x1,e1,q1⟩:=h1 St a w hr
 have ⟨x2,e2,q2⟩:=h2 St a w hr
 exact ⟨.tuple #[x1,x2],wv (vs:=#[x1,x2]) (by rw [h];exact Ja _ e1 e2),_,rfl,rfl,fun i hi=>match i,hi with|0,_=>q1|1,_=>q2⟩
theorem eP {fn:Func} {r1 r2 r3:ResultVar} {v1 v2 v3:CV} (h:fn.results=#[r1,r2,r3]) (h1:Fh P G s r1 v1) (h2:Fh P G s r2 v2) (h3:Fh P G s r3 v3):lp P G fn s (.tup 3 (fl [v1,v2,v3])):=fun St a w hr=>by
 have ⟨x1,e1,q1⟩:=h1 St a w hr
 have ⟨x2,e2,q2⟩:=h2 St a w hr
 have ⟨x3,e3,q3⟩:=h3 St a w hr
 exact ⟨.tuple #[x1,x2,x3],wv (vs:=#[x1,x2,x3]) (by rw [h];exact I9 _ e1 e2 e3),_,rfl,rfl,fun i hi=>match i,hi with|0,_=>q1|1,_=>q2|2,_=>q3⟩
theorem WI {fn:Func} {r1 r2 r3 r4:ResultVar} {v1 v2 v3 v4:CV} (h:fn.results=#[r1,r2,r3,r4]) (h1:Fh P G s r1 v1) (h2:Fh P G s r2 v2) (h3:Fh P G s r3 v3) (h4:Fh P G s r4 v4):lp P G fn s (.tup 4 (fl [v1,v2,v3,v4])):=fun St a w hr=>by
 have ⟨x1,e1,q1⟩:=h1 St a w hr
 have ⟨x2,e2,q2⟩:=h2 St a w hr
 have ⟨x3,e3,q3⟩:=h3 St a w hr
 have ⟨x4,e4,q4⟩:=h4 St a w hr
 exact ⟨.tuple #[x1,x2,x3,x4],wv (vs:=#[x1,x2,x3,x4]) (by rw [h];exact I8 _ e1 e2 e3 e4),_,rfl,rfl,fun i hi=>match i,hi with|0,_=>q1|1,_=>q2|2,_=>q3|3,_=>q4⟩
theorem br {fn:Func} (h:fn.results=#[]):lp P G fn s (.c (.tuple #[])):=fun St a w hr=>⟨.tuple #[],by simp [results,h],rfl⟩
theorem SK {fn:Func} {e:Exit} {v m:CV} (he:e=.ret∨e=.normal) (hres:lp P G fn s v) (hv:aa v m):lW P G fn (fun r H=>r=m∧H=[]) e s:=Pd he m (hres.ent hv) ⟨rfl,rfl⟩
variable {t u:TypeId} {p q:Operand} {k:IntKind}
theorem JI {e:TypeId} (ho:o.op=.convert t u p) (hx:s.eval p=.c (.slice none 0 0)) (h1:P.underlying t=some (.slice e)) (h2:P.underlying e=some (.int .u8)) (h3:P.underlying u=some .string):cj P G o s (.c (.string ⟨#[]⟩)):=fun St a w h=>by
 refine ⟨_,fun W _=>?_,rfl⟩
 simp only [execOp,ho,kZ h hx]
 exact ma (mO (Bs.nil W) _ _ _ h1 h2 h3)
theorem PA {St:Nat→Prop} {a:Act} {w:World} (h:ax G St s a w) {x:Operand} {i off n N:Nat} {g:Option Nat} {F:Nat→CV} {l:I} (hx:s.eval x=.os i g off n 1) (hH:Holds s i g N F) (hn:n=l.length) (hN:off+n≤N) (hf:∀ a,a<n→aa (F (off+a)) (aV l a)):Bs w (a.eval x) l:=by
 subst hn
 have he:=iY h hx
 cases g with
 | none =>
  have ⟨h1,h2⟩:=he
  rw [h2,Z5 h1]
  exact Bs.nil w
 | some g =>
  have ⟨cap,h1,h2,h3,_⟩:=he
  rw [h1]
  have ⟨hg,cur,ty,z,hh,hle,hcell⟩:=iW h hH
  refine Bs.of_cells h2 h3 fun j hj=>?_
  have hlt:off+j<cur.size:=by omega
  rw [cell_of_row w g _ cur ty z hh]
  have:=hf j hj _ _ _ _ (hcell (off+j) O)
  have e:cur.getD (off+j) undef=.int .u8 ((l.getD j 0).toNat:Nat):=this
  rw [← e]
  simp [hlt]
theorem JH {e:TypeId} {i off n N:Nat} {g:Option Nat} {F:Nat→CV} (l:I) (ho:o.op=.convert t u p) (hx:s.eval p=.os i g off n 1) (hH:Holds s i g N F) (hn:n=l.length) (hN:off+n≤N) (hf:∀ a,a<n→aa (F (off+a)) (aV l a))
  (h1:P.underlying t=some (.slice e)) (h2:P.underlying e=some (.int .u8)) (h3:P.underlying u=some .string):kf P G o s (.c (.string ⟨l.toArray⟩)):=fun St a w h=>by
 refine ⟨_,fun W hW=>?_,rfl⟩
 have hb:=(PA h hx hH hn hN hf).below hW
 have ⟨ao,cap,e0,_⟩:=id hb
 simp only [execOp,ho,e0]
 rw [e0] at hb
 exact ma (mO hb _ _ _ h1 h2 h3)
theorem Js {e:TypeId} {a b:Operand} {z1 z2:Int} {k1 k2:IntKind} {l v:Nat} {bl:I} (ho:o.op=.slice t p (some a) (some b) none) (hx:s.eval p=bc bl) (h1:P.underlying t=some (.slice e)) (h5:(P.info? e).map (·.size)=some 1)
  (ha:s.eval a=.c (.int k1 z1)) (hz1:z1=(l:Int)) (hb:s.eval b=.c (.int k2 z2)) (hz2:z2=(v:Int)) (hlv:l≤v) (hvn:v≤bl.length):cj P G o s (bc ((bl.take v).drop l)) :=
 (qp ho hx h1 h5 (ci ha hz1) (ci hb hz2) hlv hvn).ent (EW bl l v hlv hvn)
theorem xz {e:TypeId} {a:Operand} {z1:Int} {k1:IntKind} {l:Nat} {bl:I} (ho:o.op=.slice t p (some a) none none) (hx:s.eval p=bc bl) (h1:P.underlying t=some (.slice e)) (h5:(P.info? e).map (·.size)=some 1)
  (ha:s.eval a=.c (.int k1 z1)) (hz1:z1=(l:Int)) (hlv:l≤bl.length):cj P G o s (bc (bl.drop l)) :=
 (qp ho hx h1 h5 (ci ha hz1) (bv _ _) hlv (ZA _)).ent (S0 bl l hlv)
theorem BK {e:TypeId} {b:Operand} {z2:Int} {k2:IntKind} {v:Nat} {bl:I} (ho:o.op=.slice t p none (some b) none) (hx:s.eval p=bc bl) (h1:P.underlying t=some (.slice e)) (h5:(P.info? e).map (·.size)=some 1)
  (hb:s.eval b=.c (.int k2 z2)) (hz2:z2=(v:Int)) (hvn:v≤bl.length):cj P G o s (bc (bl.take v)) :=
 (qp ho hx h1 h5 (bv _ _) (ci hb hz2) (ZL _) hvn).ent (XL bl v hvn)
theorem Rq (ho:o.op=.binOp .eql 37 p (.const .nilIface) u) (hx:s.eval p=.c .nilIface):cj prog G o s (.c (.bool (decide ((0:Nat)=0)))):=fun St a w h=>by
 have hs:a.eval p=ev G.al 0:=(kZ h hx).trans (Ie _).symm
 refine ⟨.bool (decide ((0:Nat)=0)),fun W _=>?_,rfl⟩
 simp only [execOp,ho,hs]
 refine ma ?_
 show (do eqGuard .eql _ _ _ (ev G.al 0) .nilIface;binOp .eql _ (ev G.al 0) .nilIface:Sem Value).run _ W=_
 rw [jn]
 exact pk G.al 0 W
theorem Rg (ho:o.op=.binOp .neq 37 p (.const .nilIface) u) (hx:s.eval p=.c .nilIface):cj prog G o s (.c (.bool (decide ((0:Nat)≠0)))):=fun St a w h=>by
 have hs:a.eval p=ev G.al 0:=(kZ h hx).trans (Ie _).symm
 refine ⟨.bool (decide ((0:Nat)≠0)),fun W _=>?_,rfl⟩
 simp only [execOp,ho,hs]
 refine ma ?_
 show (do eqGuard .neq _ _ _ (ev G.al 0) .nilIface;binOp .neq _ (ev G.al 0) .nilIface:Sem Value).run _ W=_
 rw [jn]
 have:=pi G.al 0 W
 rw [← decide_not] at this
 exact this
theorem SH (op:BinOp) (t:TypeId) (x y:Operand) (a b:Option Addr) (W:World):(eqGuard op t x y (.pointer a) (.pointer b)).run P W=.ok () W:=by
 unfold eqGuard
 split<;>simp
theorem Dg {e:TypeId} (ht:P.underlying t=some (.pointer e)) (a:Addr) (W:World):(Op.equal t (.pointer (some a)) (.pointer none)).run P W=.ok false W:=by
 show (Op.equalIn 10000 t (.pointer (some a)) (.pointer none)).run P W=_
 rw [show (10000:Nat)=9999+1 from rfl,Op.equalIn]
 simp only [underlying,Sem.run_bind,run_program,Result.andThen_ok,ht,Sem.run_pure]
theorem MY {e:TypeId} {i off:Nat} {g:Option Nat} (ho:o.op=.binOp .eql t p q u) (hx:s.eval p=.op i g off) (hy:s.eval q=.c (.pointer none)) (ht:P.underlying t=some (.pointer e)):cj P G o s (.c (.bool false)):=fun St a w h=>by
 obtain ⟨b,rfl,e0⟩:=iY h hx
 refine ⟨_,fun W _=>?_,rfl⟩
 simp only [execOp,ho,e0,kZ h hy]
 refine ma ?_
 simp [SH,binOp,Dg ht]
def gv {α:Type} (k:Nat) (e:α→Nat→CV) (d:α) (l:List α) (j:Nat):CV:=e (l.getD (j / k) d) (j % k)
theorem kh {α:Type} {k:Nat} {e:α→Nat→CV} {d:α} {l:List α} {i j:Nat} (hj:j<k):gv k e d l (i * k+j)=e (l.getD i d) j:=by
 unfold gv
 rw [b4x i k,Nat.mul_add_div O,Nat.div_eq_of_lt hj,afx,Nat.mul_add_mod,aQx hj]
theorem GJ {l l2:I} {h:Nat→CV} (hh:∀ j,j<l2.length→aa (h j) (aV l2 j)):∀ j,j<(l.length+l2.length) * 1→aa (pV (l.length * 1) (aV l) h j) (aV (l++l2) j):=fun j hj=>by
 unfold pV
 by_cases h1:j<l.length * 1
 ·rw [Zz h1]
  refine aa.of_eq ?_
  simp only [aV,ZB,ZF (show j<l.length by omega)]
 ·rw [Zy h1]
  refine aa.trans (hh _ O) (aa.of_eq ?_)
  simp only [aV,ZB,ZR (show l.length≤j by omega),ZS]
theorem F5 {e:TypeId} {z:Value} {i N:Nat} {g:Option Nat} {f h:Nat→CV} {l l2:I} {m:Nat} (ho:o.op=.call ⟨.builtin .append,#[p,q],#[t,u]⟩) (hx:s.eval p=.os i g 0 l.length 1) (hH:s.H[i]?=some (g,.blk N f)) (hN:l.length≤N) (hf:∀ j,j<l.length→aa (f j) (aV l j))
  (hsrc:rl P G s q 1 m h) (hm:m=l2.length) (hh:∀ j,j<l2.length→aa (h j) (aV l2 j)) (h1:P.underlying t=some (.slice e)) (hu:dR P u=true) (h5:(P.info? e).map (·.size)=some 1) (hz:(P.info? e).map (·.zero)=some (some z)) (hby:(P.info? e).map (·.bytes)=some 1) (hzk:z.cells.size=1)
  (h63:l.length+l2.length≤140737488355328) (hleaf:∀ j,j<m * 1→fO (h j)=true) (hd:bY G o=true)
  (hK:∀ g',K (s.with o.dst (.os i g' 0 (l++l2).length 1) (s.H.set i (g',.blk (l++l2).length (aV (l++l2)))))):vn P G o s K:=by
 subst hm
 refine Al ho hx hH O hsrc h1 hu h5 hz hby O O hzk (aV (l++l2)) (fun j hj=>?_) hleaf hd (fun g'=>?_)
 ·refine aa.trans ?_ (GJ hh j hj)
  unfold pV
  split
  exact hf j O
  exact Z
 ·have:=hK g'
  rw [ZD] at this
  rw [ZS]
  exact this
variable {env:List (Nat×CV)} {b0:Nat→CV} {H:List (Option Nat×aW)}
theorem dv {d:Nat} {v:CV} {H':List (Option Nat×aW)} (hd:o.dst=some d):(⟨env,b0,H⟩:AS).with o.dst v H'=⟨(d,v)::env,b0,H'⟩:=by simp only [AS.with,AS.put,hd]
theorem ug {v:CV} {H':List (Option Nat×aW)} (hd:o.dst=none):(⟨env,b0,H⟩:AS).with o.dst v H'=⟨env,b0,H'⟩:=by simp only [AS.with,AS.put,hd]
theorem kK {d:Nat} (hd:o.dst=some d) (hN:Nat.blt d G.N=true):bY G o=true:=by simp only [bY,hd];exact hN
theorem Pi (hd:o.dst=none):bY G o=true:=by simp only [bY,hd]
theorem SO {z:Value} {n d:Nat} (ho:o.op=.alloc t) (hz:(P.info? t).map (·.zero)=some (some z)) (hn:z.cells.size=n) (hd:o.dst=some d) (hN:Nat.blt d G.N=true)
  (hK:∀ g,K ⟨(d,.op H.length g 0)::env,b0,H++[(g,.blk n fun j=>.c (z.cells.getD j undef))]⟩):kP P G o ⟨env,b0,H⟩ K :=
 O8 ho hz hn (kK hd hN) fun g=>by rw [dv hd];exact hK g
theorem XE {n d:Nat} {c:CV} {l:List CV} (ho:o.op=.box t p) (hx:(⟨env,b0,H⟩:AS).eval p=c) (hl:eH c=some l) (hn:l.length=n) (hd:o.dst=some d) (hN:Nat.blt d G.N=true)
  (hK:∀ g,K ⟨(d,.op H.length g 0)::env,b0,H++[(g,.blk n (fl l))]⟩):kP P G o ⟨env,b0,H⟩ K :=
 VH ho hx hl hn (kK hd hN) fun g=>by rw [dv hd];exact hK g
theorem Cj {e:TypeId} {z:Value} {len m:Nat} {parts:Array (Nat×Operand)} {l:List CV} {n d:Nat} (ho:o.op=.buildSlice t len parts) (h1:P.underlying t=some (.slice e)) (h5:(P.info? e).map (·.size)=some m) (hz:(P.info? e).map (·.zero)=some (some z))
  (hm:Nat.ble (len * m) 16777216=true) (hlen:Nat.ble len 16777216=true) (hf:tF (fun i=>some (i * m,m)) ((List.range (len * m)).map fun i=>.c (z.cells[i % z.cells.size]!)) (parts.toList.map fun p=>(p.1,(⟨env,b0,H⟩:AS).eval p.2))=some l) (hn:l.length=n) (hle:n=len * m) (hd:o.dst=some d) (hN:Nat.blt d G.N=true)
  (hK:∀ g,K ⟨(d,.os H.length g 0 len m)::env,b0,H++[(g,.blk n (fl l))]⟩):kP P G o ⟨env,b0,H⟩ K :=
 zk ho h1 h5 hz hm hlen hf hn hle (kK hd hN) fun g=>by rw [dv hd];exact hK g
theorem Pg {e:TypeId} {l:ByteArray} {d:Nat} (ho:o.op=.convert t u p) (hx:(⟨env,b0,H⟩:AS).eval p=.c (.string l)) (h1:P.underlying t=some .string) (h2:P.underlying u=some (.slice e)) (h3:P.underlying e=some (.int .u8)) (hl:l.size≤9223372036854775807) (hd:o.dst=some d) (hN:Nat.blt d G.N=true)
  (hK:K ⟨(d,bc l.data.toList)::env,b0,H⟩):kP P G o ⟨env,b0,H⟩ K :=
 KQ ho hx h1 h2 h3 hl (kK hd hN) (by rw [dv hd];exact hK)
theorem SM {f:FuncId} {xs:Array Operand} {ats:Array TypeId} {args:List CV} {m:CV} {d:Nat} (ho:o.op=.call ⟨.value (.func f),xs,ats⟩) (hc:bA P f=true) (hA:cd G.gs P f args m) (he:CI G ⟨env,b0,H⟩ xs.toList args) (hd:o.dst=some d) (hN:Nat.blt d G.N=true)
  (hK:K ⟨(d,m)::env,b0,H⟩):kP P G o ⟨env,b0,H⟩ K:=O7 ho hc hA he (kK hd hN) (by rw [dv hd,aMx];exact hK)
theorem If {f:FuncId} {xs:Array Operand} {ats:Array TypeId} {args:List CV} {Q:CV→List (Option Nat×aW)→Prop} {d:Nat} (ho:o.op=.call ⟨.value (.func f),xs,ats⟩) (hc:bA P f=true) (hA:AC G.gs P f [] args Q) (he:CI G ⟨env,b0,H⟩ xs.toList args) (hd:o.dst=some d) (hN:Nat.blt d G.N=true)
  (hK:∀ r H',Q r H'→K ⟨(d,r)::env,b0,H++H'⟩):kP P G o ⟨env,b0,H⟩ K:=Eu ho hc hA he (kK hd hN) (fun r H' hq=>by rw [dv hd];exact hK r H' hq)
theorem ln {f:FuncId} {v:Operand} {n d:Nat} {fv:Nat→CV} {xs:Array Operand} {ats:Array TypeId} {args:List CV} {Q:CV→List (Option Nat×aW)→Prop} (ho:o.op=.call ⟨.value v,xs,ats⟩) (hv:(⟨env,b0,H⟩:AS).eval v=.fn f n fv) (hc:bA P f=true) (hA:AC G.gs P f [] args Q) (he:o6 (xs.toList.map (⟨env,b0,H⟩:AS).eval++(List.range n).map fv) args) (hd:o.dst=some d) (hN:Nat.blt d G.N=true)
  (hK:∀ r H',Q r H'→K ⟨(d,r)::env,b0,H++H'⟩):kP P G o ⟨env,b0,H⟩ K:=O6 ho hv hc he hA (kK hd hN) (fun r H' hq=>by rw [dv hd];exact hK r H' hq)
theorem HE {i off n m:Nat} {g:Option Nat} {f:Nat→CV} {c:CV} {l:List CV} (ho:o.op=.store t p q) (hx:(⟨env,b0,H⟩:AS).eval p=.op i g off) (hH:H[i]?=some (g,.blk n f)) (hy:(⟨env,b0,H⟩:AS).eval q=c) (hl:eH c=some l) (h5:(P.info? t).map (·.size)=some m) (hm:l.length=m) (hleaf:l.all fO=true) (hn:off+m≤n)
  (F:Nat→CV) (hF:∀ j,j<n→aa (fX f off l j) (F j)) (hd:o.dst=none) (hK:K ⟨env,b0,H.set i (g,.blk n F)⟩):vn P G o ⟨env,b0,H⟩ K :=
 NM ho hx hH hy hl h5 hm hleaf hn F hF (Pi hd) (by rw [ug hd];exact hK)
theorem NS {e:TypeId} {z:Value} {i n m k N by_ n' N' d:Nat} {g:Option Nat} {f h:Nat→CV} (ho:o.op=.call ⟨.builtin .append,#[p,q],#[t,u]⟩) (hx:(⟨env,b0,H⟩:AS).eval p=.os i g 0 n k) (hH:H[i]?=some (g,.blk N f)) (hN:n * k≤N)
  (hsrc:rl P G ⟨env,b0,H⟩ q k m h) (h1:P.underlying t=some (.slice e)) (hu:dR P u=true) (h5:(P.info? e).map (·.size)=some k) (hz:(P.info? e).map (·.zero)=some (some z)) (hby:(P.info? e).map (·.bytes)=some by_)
  (h63:n+m≤9223372036854775807) (h48:(n+m) * by_≤140737488355328) (hzk:z.cells.size=k)
  (F:Nat→CV) (hF:∀ j,j<(n+m) * k→aa (pV (n * k) f h j) (F j)) (hleaf:∀ j,j<m * k→fO (h j)=true) (hd:o.dst=some d) (hdN:Nat.blt d G.N=true) (hn':n+m=n') (hN':(n+m) * k=N')
  (hK:∀ g',K ⟨(d,.os i g' 0 n' k)::env,b0,H.set i (g',.blk N' F)⟩):vn P G o ⟨env,b0,H⟩ K :=
 Al ho hx hH hN hsrc h1 hu h5 hz hby h63 h48 hzk F hF hleaf (kK hd hdN) fun g'=>by subst hn';subst hN';rw [dv hd];exact hK g'
theorem ay {e:TypeId} {z:Value} {i N d:Nat} {g:Option Nat} {f h:Nat→CV} {l l2:I} {m:Nat} (ho:o.op=.call ⟨.builtin .append,#[p,q],#[t,u]⟩) (hx:(⟨env,b0,H⟩:AS).eval p=.os i g 0 l.length 1) (hH:H[i]?=some (g,.blk N f)) (hN:l.length≤N) (hf:∀ j,j<l.length→aa (f j) (aV l j))
  (hsrc:rl P G ⟨env,b0,H⟩ q 1 m h) (hm:m=l2.length) (hh:∀ j,j<l2.length→aa (h j) (aV l2 j)) (h1:P.underlying t=some (.slice e)) (hu:dR P u=true) (h5:(P.info? e).map (·.size)=some 1) (hz:(P.info? e).map (·.zero)=some (some z)) (hby:(P.info? e).map (·.bytes)=some 1) (hzk:z.cells.size=1)
  (h63:l.length+l2.length≤140737488355328) (hleaf:∀ j,j<m * 1→fO (h j)=true) (hd:o.dst=some d) (hdN:Nat.blt d G.N=true)
  (hK:∀ g',K ⟨(d,.os i g' 0 (l++l2).length 1)::env,b0,H.set i (g',.blk (l++l2).length (aV (l++l2)))⟩):vn P G o ⟨env,b0,H⟩ K :=
 F5 ho hx hH hN hf hsrc hm hh h1 hu h5 hz hby hzk h63 hleaf (kK hd hdN) fun g'=>by rw [dv hd];exact hK g'
theorem ar {c:Code} {α:Type} (D:List Nat) (M:α→List (Nat×CV)) (Hp:α→List (Option Nat×aW)) (φ:α→Prop) (μ:α→Nat) (p0:α) (h0:φ p0) (hM:∀ p,((M p).all fun x=>D.any (Nat.beq x.1))=true) (he:bh env b0 (M p0)) (hH:aD H (Hp p0))
  (hr:∀ p,φ p→aY P G c ⟨M p,vD D env b0,Hp p⟩ (sB (fun s'=>∃ p',φ p'∧μ p'<μ p∧Bf D (vD D env b0) s'.b∧(s'.env.all fun x=>D.any (Nat.beq x.1))=true∧bh s'.env s'.b (M p')∧(Hp p').length≤s'.H.length∧aD (s'.H.take (Hp p').length) (Hp p')) R)):aY P G (.loop c) ⟨env,b0,H⟩ R :=
 GB (s:=⟨env,b0,H⟩) D M Hp φ μ p0 h0 hM he hH hr
end
section
variable {P:Program} {G:Gh} {ops:Array Oper} {o:Oper} {s:AS} {K:AS→Prop} {t u:TypeId} {p q:Operand} {k:IntKind}
variable {env:List (Nat×CV)} {b0:Nat→CV} {H:List (Option Nat×aW)}
theorem ax.afterH {St St':Nat→Prop} {a:Act} {w w':World} (h:ax G St s a w) {fp:Nat→Nat→Prop} (hp:Fb G.al St w G.w0.heap.size G.F0 s.H fp) {i:Nat} (hi:i<s.H.length) {x:Option Nat×aW} (hu:jw (fp i) w w') (h1:∀ b,St b→St' b) (h2:∀ b,St' b→St b∨w.heap.size≤b∨fp i b) (h3:∀ b,St' b→b<w'.heap.size) (hp':cY G.al St' w' w.heap.size (fp i) [x]) :
  ax G St' ⟨s.env,s.b,s.H.set i x⟩ a w':=by
 have hst:∀ b,St b→w'.heap[b]?=w.heap[b]?:=fun b hb=>hu.block b (h.s3 b hb) fun hf=>(hp.own i b hf).2.1 hb
 have he:rc St w w':=⟨fun b cur t z hb hc=>(hst b hb).trans hc,hu.sh⟩
 have ⟨fp',hp'⟩:=hp'
 refine ⟨h.df.keep h1 hst,h.sz,fun d=>aP.evo he h1 _ _ (h.env d),⟨hu.os.trans h.un.os,hu.tape.trans h.un.tape,hu.output.trans h.un.output,Z7 h.un.size hu.size,fun k hk hF=>?_,fun b cur ty z hb=>?_⟩,fun b hs=>h1 b (h.s1 b hs),fun b hs=>?_,h3,?_,?_,fun g hg=>h1 g (h.sg.1 g hg),fun y hy=>h1 _ (h.sg.2 y hy)⟩
 ·refine (hu.block k (Z4 hk h.un.size) fun hf=>?_).trans (h.un.block k hk hF)
  rcases (hp.own i k hf).2.2 with h4|h4
  omega
  exact hF h4
 ·have ⟨cur',z',h4,h5⟩:=h.un.sh b cur ty z hb
  have ⟨cur2,z2,h6,h7⟩:=hu.sh b cur' ty z' h4
  exact ⟨cur2,z2,h6,h7.trans h5⟩
 ·rcases h2 b hs with hs|hs|hs
  exact h.s2 b hs
  exact .inr (.inl (Z7 h.un.size hs))
  exact .inr (hp.own i b hs).2.2
 ·have old:∀ j b,j≠i→fp j b→w'.heap[b]?=w.heap[b]?:=fun j b hj hb=>hu.block b (hp.own j b hb).1 fun hf=>hj (hp.dis j i b hb hf)
  refine ⟨fun j b=>if j=i then fp' 0 b else fp j b,fun j q r hj=>?_,fun j l b hj hl=>?_,fun j b hj=>?_,fun j hj b hb=>?_⟩
  ·by_cases e:j=i
   ·subst e
    simp [hi] at hj
    have e2:(fun b=>if j=j then fp' 0 b else fp j b)=fp' 0:=funext fun b=>by simp
    show r.rep G.al St' w' (fun b=>if j=j then fp' 0 b else fp j b) q
    rw [e2]
    exact hp'.rep 0 q r (by simp [hj])
   ·rw [ZQ (Ne.symm e)] at hj
    have e2:(fun b=>if j=i then fp' 0 b else fp j b)=fp j:=funext fun b=>by simp [e]
    show r.rep G.al St' w' (fun b=>if j=i then fp' 0 b else fp j b) q
    rw [e2]
    exact aW.rep_evo he h1 (fun b hF=>old j b e hF) (hp.rep j q r hj)
  ·have apart:∀ l b,l≠i→fp l b→fp' 0 b→False:=fun l b hl h4 h5=>by
    rcases (hp'.own 0 b h5).2.2 with h6|h6
    ·have:=(hp.own l b h4).1;omega
    exact hl (hp.dis l i b h4 h6)
   by_cases e1:j=i<;>by_cases e2:l=i
   omega
   ·simp only [e1,e2,if_true,if_false] at hj hl;exact (apart l b e2 hl hj).elim
   ·simp only [e1,e2,if_true,if_false] at hj hl;exact (apart j b e1 hj hl).elim
   ·simp only [e1,e2,if_false] at hj hl;exact hp.dis j l b hj hl
  ·by_cases e:j=i
   ·simp only [e,if_true] at hj
    obtain ⟨h4,h5,h6⟩:=hp'.own 0 b hj
    refine ⟨h4,h5,?_⟩
    rcases h6 with h6|h6
    exact .inl (Z7 h.un.size h6)
    exact (hp.own i b h6).2.2
   ·simp only [e,if_false] at hj
    have ⟨h4,h5,h6⟩:=hp.own j b hj
    refine ⟨Z4 h4 hu.size,fun hs=>?_,h6⟩
    rcases h2 b hs with hs|hs|hs
    exact h5 hs
    omega
    exact e (hp.dis j i b hj hs)
  ·have hj':s.H.length≤j:=by simpa using hj
   have e:j≠i:=by omega
   simp only [e,if_false] at hb
   exact hp.out j hj' b hb
 exact gc.keep h.sn (fun q hq=>hst q (h.sg.1 q hq)) (fun y hy=>hst _ (h.sg.2 y hy))
theorem RZ {f:FuncId} {xs:Array Operand} {ats:Array TypeId} {args:List CV} {Q:CV→List (Option Nat×aW)→Prop} {i d:Nat} {x0:Option Nat×aW} (ho:o.op=.call ⟨.value (.func f),xs,ats⟩) (hc:bA P f=true) (hi:H[i]?=some x0) (hA:AC G.gs P f [x0] args Q) (he:CI G ⟨env,b0,H⟩ xs.toList args) (hd:o.dst=some d) (hN:Nat.blt d G.N=true)
  (hK:∀ r H',Q r H'→∃ x r',H'=[x]∧aa r r'∧K ⟨(d,r')::env,b0,H.set i x⟩):vn P G o ⟨env,b0,H⟩ K:=fun St a w hr Q'=>by
 unfold Oper.wp
 rw [vb ho hc]
 have ⟨h1,h2⟩:=Cw he hr
 have ⟨fp,hp⟩:=hr.hp
 have hlt:i<H.length:=(ZC.1 hi).1
 have ⟨g0,r0⟩:=x0
 have hent:vW G.gs G.al St (fp i) [(g0,r0)] w:=by
  refine ⟨hr.s3,hr.sn,hr.sg,⟨fun j b=>j=0∧fp i b,fun j g r hj=>?_,fun j l b hj hl=>by omega,fun j b hj=>⟨(hp.own i b hj.2).1,(hp.own i b hj.2).2.1,.inr hj.2⟩,fun j hj b hb=>by simp at hj;omega⟩,fun b hb=>(hp.own i b hb).2.1⟩
  match j,hj with
  | 0,hj =>
   simp at hj
   obtain ⟨rfl,rfl⟩:=hj
   have e:(fun b=>(0:Nat)=0∧fp i b)=fp i:=funext fun b=>by simp
   show r0.rep G.al St w (fun b=>(0:Nat)=0∧fp i b) g0
   rw [e]
   exact hp.rep i g0 r0 hi
  | j+1,hj=>simp at hj
 refine (hA G.al w St _ _ hent h1 h2).mono ?_
 rintro e w' ⟨v,r,H',St',rfl,hq,hv,hu,h3,h4,h5,h6⟩
 obtain ⟨x,r',rfl,hce,hk⟩:=hK r H' hq
 refine ⟨fun b hb=>hu.block b (hr.s3 b hb) fun hf=>(hp.own i b hf).2.1 hb,St',h3,_,hk,?_⟩
 have h7:=(hr.afterH hp hlt hu h3 h4 h5 h6).put (dst:=o.dst) (v:=r') (x:=v) (by intro d' hd';rw [hd] at hd';cases hd';exact ZN hN) (hce _ _ _ _ hv)
 rw [hd] at h7 ⊢
 exact h7
theorem cO {i j:Nat} {g:Option Nat} {off n m k:Nat} (h:n=m):aa (.os i g off n k) (.os j g off m k):=by
 subst h
 cases g<;>exact fun _ _ _ _ h=>h
theorem cP {i j off:Nat} {g:Option Nat}:aa (.op i g off) (.op j g off):=fun _ _ _ _ h=>h
def ss (n k N:Nat) (F:Nat→CV):CV→List (Option Nat×aW)→Prop:=fun r H'=>∃ g,r=.os 0 g 0 n k∧H'=[(g,.blk N F)]
theorem Pc {d:Nat} {v v':CV} (h:aa v v'):cJ G ⟨(d,v)::env,b0,H⟩ ⟨(d,v')::env,b0,H⟩:=fun St a w hr=>by
 refine ⟨St,fun _ h=>h,hr.df,hr.sz,fun e=>?_,hr.un,hr.s1,hr.s2,hr.s3,hr.hp,hr.sn,hr.sg⟩
 have:=hr.env e
 by_cases hde:d=e
 ·subst hde
  rw [fx] at this ⊢
  exact h _ _ _ _ this
 ·rw [dr _ _ _ hde] at this ⊢;exact this
theorem kP.ent {K':AS→Prop} (h:kP P G o s K') (hK:∀ s',K' s'→∃ s'',cJ G s' s''∧K s''):kP P G o s K:=fun St a w hr Q=>Oper.wp_mono (fun a' w' ⟨hb,St',hs,s',h1,h2⟩=>by
 have ⟨s'',h3,h4⟩:=hK s' h1
 have ⟨S2,h5,h6⟩:=h3 St' a' w' h2
 exact ⟨hb,S2,fun b hb=>h5 b (hs b hb),s'',h4,h6⟩) (h St a w hr Q)
theorem SN {f:FuncId} {xs:Array Operand} {ats:Array TypeId} {args:List CV} {n m N:Nat} {F:Nat→CV} {d:Nat} (ho:o.op=.call ⟨.value (.func f),xs,ats⟩) (hc:bA P f=true) (hA:AC G.gs P f [] args (ss n m N F)) (he:CI G ⟨env,b0,H⟩ xs.toList args) (hd:o.dst=some d) (hN:Nat.blt d G.N=true)
  (hK:∀ g,K ⟨(d,.os H.length g 0 n m)::env,b0,H++[(g,.blk N F)]⟩):kP P G o ⟨env,b0,H⟩ K :=
 kP.ent (K':=fun s'=>∃ g,s'=⟨(d,.os 0 g 0 n m)::env,b0,H++[(g,.blk N F)]⟩) (If ho hc hA he hd hN fun r H' ⟨g,h1,h2⟩=>⟨g,by rw [h1,h2]⟩) fun s' ⟨g,hs⟩=>⟨_,by rw [hs];exact Pc (cO (j:=H.length) rfl),hK g⟩
theorem nA {fn:Func} {e:Exit} {n m k N M:Nat} {g:Option Nat} {F F':Nat→CV} (i:Nat) (he:e=.ret∨e=.normal) (hres:lp P G fn s (.os i g 0 n k)) (hH:s.H[i]?=some (g,.blk N F)) (hn:n=m) (hN:M≤N) (hg:g=none→M=N) (hF:∀ j,j<M→aa (F j) (F' j)):lW P G fn (ss m k M F') e s:=by
 have h:∃ r H',lp P G fn s r∧ss m k M F' r H'∧∀ St a w,ax G St s a w→cY G.al St w G.w0.heap.size G.F0 H':=by
  refine ⟨.os 0 g 0 m k,[(g,.blk M F')],hres.ent (cO hn),⟨g,rfl,rfl⟩,fun St a w hr=>?_⟩
  have ⟨fp,hp⟩:=hr.hp
  have hr0:=hp.rep i g _ hH
  refine ⟨fun j b=>j=0∧fp i b,fun j q r hj=>?_,fun j l b hj hl=>by omega,fun j b hj=>hp.own i b hj.2,fun j hj b hb=>by simp at hj;omega⟩
  match j,hj with
  | 0,hj =>
   simp at hj
   obtain ⟨rfl,rfl⟩:=hj
   have e:(fun b=>(0:Nat)=0∧fp i b)=fp i:=funext fun b=>by simp
   show aW.rep G.al St w (fun b=>(0:Nat)=0∧fp i b) g (.blk M F')
   rw [e]
   cases g with
   | none=>exact ⟨by rw [hg rfl];exact hr0.1,hr0.2⟩
   | some g =>
    have ⟨h1,cur,ty,h2,h3,h4⟩:=hr0
    exact ⟨h1,cur,ty,h2,by omega,fun l hl=>hF l hl _ _ _ _ (h4 l O)⟩
  | j+1,hj=>simp at hj
 rcases he with rfl|rfl<;>exact h
theorem mw (d k:Nat) (f:Nat→CV) (hl:look s.env s.b d=.c (.slice none 0 0)):cJ G s ⟨(d,.os s.H.length none 0 0 k)::s.env,s.b,s.H++[(none,.blk 0 f)]⟩:=fun St a w hr=>by
 refine ⟨St,fun _ h=>h,hr.df,hr.sz,fun e=>?_,hr.un,hr.s1,hr.s2,hr.s3,?_,hr.sn,hr.sg⟩
 ·by_cases hde:d=e
  ·subst hde
   rw [fx]
   have:=hr.env d
   rw [hl] at this
   exact ⟨rfl,this⟩
  ·rw [dr _ _ _ hde];exact hr.env e
 ·have ⟨fp,hp⟩:=hr.hp
  refine ⟨fp,fun j g r hj=>?_,hp.dis,hp.own,fun j hj=>hp.out j (by simp at hj;omega)⟩
  rcases aVx j s.H.length with h1|h1
  ·rw [ZF h1] at hj;exact hp.rep j g r hj
  ·rw [ZR h1] at hj
   have h2:=(ZC.1 hj).1
   simp at h2
   have h3:j=s.H.length:=by omega
   subst h3
   simp at hj
   obtain ⟨rfl,rfl⟩:=hj
   exact ⟨rfl,fun b hb=>hp.out _ (ZA _) b hb⟩
theorem sO {x:Operand} {i k off:Nat} (hx:s.eval x=.c (.slice none 0 0)):SE G s x (.os i none off 0 k):=fun St a w hr=>⟨rfl,kZ hr hx⟩
theorem f8 (f:Nat→CV):cJ G s ⟨s.env,s.b,s.H++[(none,.blk 0 f)]⟩:=fun St a w hr=>by
 refine ⟨St,fun _ h=>h,hr.df,hr.sz,hr.env,hr.un,hr.s1,hr.s2,hr.s3,?_,hr.sn,hr.sg⟩
 have ⟨fp,hp⟩:=hr.hp
 refine ⟨fp,fun j g r hj=>?_,hp.dis,hp.own,fun j hj=>hp.out j (by simp at hj;omega)⟩
 rcases aVx j s.H.length with h1|h1
 ·rw [ZF h1] at hj;exact hp.rep j g r hj
 ·rw [ZR h1] at hj
  have h2:=(ZC.1 hj).1
  simp at h2
  have h3:j=s.H.length:=by omega
  subst h3
  simp at hj
  obtain ⟨rfl,rfl⟩:=hj
  exact ⟨rfl,fun b hb=>hp.out _ (ZA _) b hb⟩
theorem dt (i:Nat) {g:Option Nat} {n m:Nat} {f F:Nat→CV} (hH:s.H[i]?=some (g,.blk n f)) (hn:m≤n) (hg:g=none→m=n) (hF:∀ j,j<m→aa (f j) (F j)):cJ G s ⟨s.env,s.b,s.H.set i (g,.blk m F)⟩:=fun St a w hr=>by
 refine ⟨St,fun _ h=>h,hr.df,hr.sz,hr.env,hr.un,hr.s1,hr.s2,hr.s3,?_,hr.sn,hr.sg⟩
 have ⟨fp,hp⟩:=hr.hp
 have hlt:i<s.H.length:=(ZC.1 hH).1
 refine ⟨fp,fun j q r hj=>?_,hp.dis,hp.own,fun j hj=>hp.out j (by simpa using hj)⟩
 by_cases e:j=i
 ·subst e
  simp [hlt] at hj
  obtain ⟨rfl,rfl⟩:=hj
  have:=hp.rep j g _ hH
  cases g with
  | none=>exact ⟨by rw [hg rfl];exact this.1,this.2⟩
  | some g =>
   have ⟨h1,cur,ty,h2,h3,h4⟩:=this
   exact ⟨h1,cur,ty,h2,by omega,fun l hl=>hF l hl _ _ _ _ (h4 l O)⟩
 ·rw [ZQ (Ne.symm e)] at hj
  exact hp.rep j q r hj
theorem aa.agg2 {f g:Nat→CV} (h0:aa (f 0) (g 0)) (h1:aa (f 1) (g 1)):aa (.agg 2 f) (.agg 2 g):=aa.agg rfl fun i hi=>match i,hi with|0,_=>h0|1,_=>h1
theorem aa.agg3 {f g:Nat→CV} (h0:aa (f 0) (g 0)) (h1:aa (f 1) (g 1)) (h2:aa (f 2) (g 2)):aa (.agg 3 f) (.agg 3 g):=aa.agg rfl fun i hi=>match i,hi with|0,_=>h0|1,_=>h1|2,_=>h2
theorem aa.agg6 {f g:Nat→CV} (h0:aa (f 0) (g 0)) (h1:aa (f 1) (g 1)) (h2:aa (f 2) (g 2)) (h3:aa (f 3) (g 3)) (h4:aa (f 4) (g 4)) (h5:aa (f 5) (g 5)):aa (.agg 6 f) (.agg 6 g):=aa.agg rfl fun i hi=>match i,hi with|0,_=>h0|1,_=>h1|2,_=>h2|3,_=>h3|4,_=>h4|5,_=>h5
def qG (l:List Int) (i:Nat):CV:=.c (.int .i64 (l.getD i 0))
def CE (l:List Int):CV:=.rs 1 l.length fun i _=>qG l i
theorem tB (L:List Int) (j:Nat) (hj:j<L.length):aa (fl (L.map fun z=>.c (.int .i64 z)) j) (qG L j):=aa.of_eq (by
 rw [dK]
 simp [List.getD,hj,qG])
theorem O1 (L:I) (j:Nat) (hj:j<L.length):aa (fl (L.map fun z=>.c (.int .u8 (z.toNat:Nat))) j) (aV L j):=aa.of_eq (by
 rw [dK]
 simp [List.getD,hj,aV])
inductive PZ (P:Program) (f g:Nat→CV):List Field→Prop→Prop where
 | nil:PZ P f g [] True
 | int {fd : Field} {fs : List Field} {k k' : IntKind} {a b : Int} {p : Prop} (h : P.underlying fd.type = some (.int k')) (hn : fd.name ≠ "_") (hf : f fd.offset = .c (.int k a)) (hg : g fd.offset = .c (.int k b)) (t : PZ P f g fs p) : PZ P f g (fd :: fs) (a = b ∧ p)
 | bool {fd : Field} {fs : List Field} {a b : Bool} {p : Prop} (h : P.underlying fd.type = some .bool) (hn : fd.name ≠ "_") (hf : f fd.offset = .c (.bool a)) (hg : g fd.offset = .c (.bool b)) (t : PZ P f g fs p) : PZ P f g (fd :: fs) (a = b ∧ p)
 | str {fd : Field} {fs : List Field} {a b : ByteArray} {p : Prop} (h : P.underlying fd.type = some .string) (hn : fd.name ≠ "_") (hf : f fd.offset = .c (.string a)) (hg : g fd.offset = .c (.string b)) (t : PZ P f g fs p) : PZ P f g (fd :: fs) (a = b ∧ p)
theorem kx {d:TypeDesc} {t:TypeId} (h:P.underlying t=some d) (ha:iB P t=false) {cs:Array Value} {i:Nat} {v:Value} (hv:cs[i]?=some v) (W:World):(part t cs i).run P W=.ok v W:=by
 simp [part,m9 h,ha,hv]
theorem nQ {f g:Nat→CV} {fs:List Field} {p:Prop} (h:PZ P f g fs p) {al:List Addr} {St:Nat→Prop} {w:World} {xs ys:Array Value} {n:Nat} (hx:xs.size=n) (hy:ys.size=n) (hf:∀ i,i<n→aP al St w (f i) (xs.getD i undef)) (hg:∀ i,i<n→aP al St w (g i) (ys.getD i undef))
  (hoff:(fs.all fun fd=>Nat.blt fd.offset n)=true) (d:Nat) (W:World):∃ r:Bool,(Op.eqFields (d+1) xs ys fs).run P W=.ok r W∧(r=true↔p):=by
 have get:∀ (c:Array Value) (q:Nat→CV) (i:Nat) (v:Value),c.size=n→i<n→(∀ i,i<n→aP al St w (q i) (c.getD i undef))→q i=.c v→c[i]?=some v:=fun c q i v hc hi hq he=>by
  have:=hq i hi
  rw [he] at this
  have:c.getD i undef=v:=this
  rw [← this]
  have:i<c.size:=by omega
  simp [this]
 induction h with
 | nil=>exact ⟨true,by simp [Op.eqFields],by simp⟩
 | @int fd fs k k' a b p h hn h1 h2 _ ih =>
  simp only [a4x,ZE] at hoff
  have ⟨r,hr,hp⟩:=ih hoff.2
  have hlt:fd.offset<n:=ZN hoff.1
  have ha:iB P fd.type=false:=by unfold iB;rw [h]
  have e1:=kx h ha (get xs f _ _ hx hlt hf h1) W
  have e2:=kx h ha (get ys g _ _ hy hlt hg h2) W
  simp only [Op.eqFields,ne_eq,hn,cDx,if_true,Sem.run_bind,e1,e2,Result.andThen_ok,run_equalIn_int W d fd.type k k' a b h,Sem.run_ite]
  by_cases hab:a=b
  ·subst hab;exact ⟨r,by simp [hr],by simp [hp]⟩
  exact ⟨false,by simp [hab],by simp [hab]⟩
 | @bool fd fs a b p h hn h1 h2 _ ih =>
  simp only [a4x,ZE] at hoff
  have ⟨r,hr,hp⟩:=ih hoff.2
  have hlt:fd.offset<n:=ZN hoff.1
  have ha:iB P fd.type=false:=by unfold iB;rw [h]
  have e1:=kx h ha (get xs f _ _ hx hlt hf h1) W
  have e2:=kx h ha (get ys g _ _ hy hlt hg h2) W
  simp only [Op.eqFields,ne_eq,hn,cDx,if_true,Sem.run_bind,e1,e2,Result.andThen_ok,run_equalIn_bool' W d fd.type a b h,Sem.run_ite]
  by_cases hab:a=b
  ·subst hab;exact ⟨r,by simp [hr],by simp [hp]⟩
  exact ⟨false,by simp [hab],by simp [hab]⟩
 | @str fd fs a b p h hn h1 h2 _ ih =>
  simp only [a4x,ZE] at hoff
  have ⟨r,hr,hp⟩:=ih hoff.2
  have hlt:fd.offset<n:=ZN hoff.1
  have ha:iB P fd.type=false:=by unfold iB;rw [h]
  have e1:=kx h ha (get xs f _ _ hx hlt hf h1) W
  have e2:=kx h ha (get ys g _ _ hy hlt hg h2) W
  simp only [Op.eqFields,ne_eq,hn,cDx,if_true,Sem.run_bind,e1,e2,Result.andThen_ok,run_equalIn_string W d fd.type a b h,Sem.run_ite]
  by_cases hab:a=b
  ·subst hab;exact ⟨r,by simp [hr],by simp [hp]⟩
  exact ⟨false,by simp [hab,rH],by simp [hab]⟩
theorem Dw {n:Nat} {f g:Nat→CV} {fs:Array Field} {p:Prop} [Decidable p] {t u:TypeId} {x y:Operand} (ho:o.op=.binOp .eql t x y u) (hx:s.eval x=.agg n f) (hy:s.eval y=.agg n g) (hS:P.underlying t=some (.struct fs)) (hp:P.stoodInHeld t=false) (hG:P.eqGuardType P.depth t=false) (hE:PZ P f g fs.toList p) (hoff:(fs.toList.all fun fd=>Nat.blt fd.offset n)=true):cj P G o s (.c (.bool (decide p))):=fun St a w h=>by
 have ⟨xs,ex,hx1,OD⟩:=iY h hx
 have ⟨ys,ey,hy1,hy2⟩:=iY h hy
 have hfs:P.fieldsOf t=fs:=by simp [Program.fieldsOf,hS]
 refine ⟨.bool (decide p),fun W _=>?_,rfl⟩
 obtain ⟨r,hr,hiff⟩:=nQ hE hx1 hy1 OD hy2 hoff 9998 W
 simp only [execOp,ho,ex,ey]
 refine ma ?_
 simp only [Sem.run_bind,run_eqGuard_agg _ _ _ _ _ _ _ hG,Result.andThen_ok,run_eql_struct]
 rw [show (10000:Nat)=9999+1 from rfl,run_equalIn_agg W 9999 t xs ys (by rw [hfs];exact hS) hp,hfs,hr]
 have:r=decide p:=by rw [bmx,hiff];simp
 simp [this]
theorem MT {n:Nat} {f g:Nat→CV} {fs:Array Field} {p:Prop} [Decidable p] {t u:TypeId} {x y:Operand} (ho:o.op=.binOp .neq t x y u) (hx:s.eval x=.agg n f) (hy:s.eval y=.agg n g) (hS:P.underlying t=some (.struct fs)) (hp:P.stoodInHeld t=false) (hG:P.eqGuardType P.depth t=false) (hE:PZ P f g fs.toList p) (hoff:(fs.toList.all fun fd=>Nat.blt fd.offset n)=true):cj P G o s (.c (.bool (decide (¬ p)))):=fun St a w h=>by
 have ⟨xs,ex,hx1,OD⟩:=iY h hx
 have ⟨ys,ey,hy1,hy2⟩:=iY h hy
 have hfs:P.fieldsOf t=fs:=by simp [Program.fieldsOf,hS]
 refine ⟨.bool (decide (¬ p)),fun W _=>?_,rfl⟩
 obtain ⟨r,hr,hiff⟩:=nQ hE hx1 hy1 OD hy2 hoff 9998 W
 simp only [execOp,ho,ex,ey]
 refine ma ?_
 simp only [Sem.run_bind,run_eqGuard_agg _ _ _ _ _ _ _ hG,Result.andThen_ok,run_neq_struct]
 rw [show (10000:Nat)=9999+1 from rfl,run_equalIn_agg W 9999 t xs ys (by rw [hfs];exact hS) hp,hfs,hr]
 have:r=decide p:=by rw [bmx,hiff];simp
 simp [this]
theorem O2 {cs:List CV} {j:Nat} (hj:j<cs.length):fl cs j=cs[j]:=by rw [dK];simp [List.getD,hj]
theorem wI {cs ds:List CV} (h:o6 cs ds):cs.length=ds.length∧∀ j,aa (fl cs j) (fl ds j):=by
 induction h with
 | nil=>exact ⟨rfl,fun _=>Z⟩
 | cons h _ ih=>exact ⟨by simp [ih.1],fun j=>match j with|0=>h|j+1=>ih.2 j⟩
theorem bz {cs:List CV} {l2:I} (h:o6 cs (l2.map fun c=>.c (.int .u8 (c.toNat:Nat)))):∀ j,j<l2.length→aa (fl cs (0+j)) (aV l2 j):=fun j hj=>by
 rw [Nat.zero_add]
 exact ((wI h).2 j).trans (O1 l2 j hj)
theorem cp {cs:List CV} {m:Nat} (h:cs.all fO=true) (hm:m * 1=cs.length):∀ j,j<m * 1→fO (fl cs (0+j))=true:=fun j hj=>by
 rw [Nat.zero_add,O2 O]
 exact Z1.1 h _ (aAx ..)
theorem PT {al:List Addr} {f:FuncId} {args:List CV} {m:CV} {w:World} {vals:Array Value} (hA:cd gs P f args m) (hS:gc w gs al) (hs:vals.size=args.length) (hv:∀ i,aP al (fun b=>b<w.heap.size) w (fl args i) (vals.getD i undef)) :
  Calls P f vals w fun e w'=>∃ v St',e=.returned v∧aP al St' w' m v∧Below w.heap.size w w':=by
 have hg:∀ g ∈ pF gs,g<w.heap.size:=hS.lt
 have ha:∀ a ∈ al,a.block<w.heap.size:=fun a ha=>by
  have ⟨c,t,hc⟩:=hS.row a ha
  exact (ZX.1 hc).1
 refine (hA al w (fun b=>b<w.heap.size) (fun _=>False) vals ⟨fun _ h=>h,hS,⟨hg,ha⟩,⟨fun _ _=>False,fun i g r hi=>by simp at hi,fun _ _ _ h=>h.elim,fun _ _ h=>h.elim,fun _ _ _ h=>h⟩,fun _ h=>h.elim⟩ hs hv).mono ?_
 rintro e w' ⟨v,r,H',St',he,⟨rfl,rfl⟩,hr,hu,_⟩
 exact ⟨v,St',he,hr,hu.below⟩
theorem law_calls {al:List Addr} {f:FuncId} {args:List CV} {w:World} {vals:Array Value} (hA:cd gs P f args (.c (.bool true))) (hS:gc w gs al) (hs:vals.size=args.length) (hv:∀ i,aP al (fun b=>b<w.heap.size) w (fl args i) (vals.getD i undef)) :
  Calls P f vals w fun e w'=>e=.returned (.bool true)∧Below w.heap.size w w' :=
 (PT hA hS hs hv).mono fun e w' ⟨v,St',he,hr,hb⟩=>⟨by rw [he];exact ZV _ hr,hb⟩
theorem pX {f:FuncId} {args:List CV} {r:Value} (h:∀ (al:List Addr) (w:World) (St:Nat→Prop) (vals:Array Value),gc w gs al→vals.size=args.length→(∀ i,aP al St w (fl args i) (vals.getD i undef))→Calls P f vals w fun e w'=>e=.returned r∧Below w.heap.size w w'):cd gs P f args (.c r) :=
 fun al w St F0 vals he hs hv=>(h al w St vals he.sn hs hv).mono fun e w' ⟨h1,h2⟩=>by
  refine ⟨r,.c r,[],St,h1,⟨rfl,rfl⟩,rfl,⟨h2.os,h2.tape,h2.output,h2.size,fun k hk _=>h2.block k hk,fun b cur t z hb=>⟨cur,z,(h2.block b (ZX.1 hb).1).trans hb,rfl⟩⟩,fun _ h=>h,fun _ h=>.inl h,fun b hb=>Z4 (he.s3 b hb) h2.size,cY.none _ _ _ _ _⟩
theorem Tw {vals:Array Value} (h:vals.size=1):vals=#[vals.getD 0 undef]:=by
 apply Array.ext
 ·simp [h]
 ·intro i h1 h2
  have:i=0:=by omega
  subst this
  simp [h]
theorem wW {vals:Array Value} (h:vals.size=2):vals=#[vals.getD 0 undef,vals.getD 1 undef]:=by
 apply Array.ext
 ·simp [h]
 ·intro i h1 h2
  have:i=0∨i=1:=by omega
  rcases this with e|e<;>subst e<;>simp [h]
theorem FG {e:TypeId} {j n i:Nat} {g:Option Nat} {z:Int} {t:TypeId} {x y:Operand} {k:IntKind} (ho:o.op=.indexAddr t x y) (hx:s.eval x=.os j g 0 n 1) (hy:s.eval y=.c (.int k z)) (h1:P.underlying t=some (.slice e))
  (h5:(P.info? e).map (·.size)=some 1) (hz:z=(i:Int)) (hi:i<n):cj P G o s (.op j g i):=by
 have:=gm (G:=G) ho hx hy h1 h5 hz hi
 rwa [Nat.zero_add,ZS] at this
theorem aZ {e:TypeId} {j n i:Nat} {g:Option Nat} {z:Int} {t:TypeId} {x y:Operand} {k:IntKind} (ho:o.op=.indexAddr t x y) (hx:s.eval x=.op j g 0) (hy:s.eval y=.c (.int k z)) (h1:P.underlying t=some (.array n e))
  (h5:(P.info? e).map (·.size)=some 1) (hz:z=(i:Int)) (hi:i<n):cj P G o s (.op j g i):=by
 have:=JD (G:=G) ho hx hy h1 h5 hz hi
 rwa [Nat.zero_add,ZS] at this
theorem Q8 {al:List Addr} {St:Nat→Prop} {w:World}:∀ i,aP al St w (fl [] i) ((List.toArray ([]:List Value)).getD i undef):=fun _=>trivial
theorem MK {al:List Addr} {St:Nat→Prop} {w:World} {c:CV} {cs:List CV} {v:Value} {vs:List Value} (h:aP al St w c v) (t:∀ i,aP al St w (fl cs i) ((List.toArray vs).getD i undef)):∀ i,aP al St w (fl (c::cs) i) ((List.toArray (v::vs)).getD i undef)
 | 0=>h
 | i+1=>by
  have:=t i
  simpa [fl,ayx] using this
theorem er (d:Nat) {i n N:Nat} {g:Option Nat} {F:Nat→CV} (l:I) (hl:look s.env s.b d=.os i g 0 n 1) (hH:s.H[i]?=some (g,.frz N F)) (hn:n=l.length) (hF:(N,F)=(l.length,aV l)) :
  cJ G s ⟨(d,bc l)::s.env,s.b,s.H⟩:=by
 cases hF
 subst hn
 exact iG d (fun a _=>aV l a) hl hH O (fun a b ha hb=>aa.of_eq (by rw [show 0+(a * 1+b)=a by omega]))
def Cy {α:Type} (k:Nat) (C:List α→Nat→CV):Prop:=∀ l l2 j,j<(l.length+l2.length) * k→(if j<l.length * k then C l j else C l2 (j-l.length * k))=C (l++l2) j
theorem lf:Cy 1 qG:=fun l l2 j hj=>by
 simp only [qG,ZB]
 split
 ·rw [ZF O]
 ·rw [ZR O,ZS]
theorem gO {α:Type} (k:Nat) (e:α→Nat→CV) (d:α):Cy k (gv k e d):=fun l l2 j hj=>by
 rcases btx k with h0|h0
 ·subst h0;simp at hj
 split
 ·rename_i h1
  have h2:j / k<l.length:=b0x (by rw [b4x];exact h1)
  simp only [gv,ZB,ZF h2]
 ·rename_i h1
  rw [aRx] at hj
  obtain ⟨q,rfl⟩:∃ q,j=l.length * k+q:=⟨j-l.length * k,by omega⟩
  rw [aWx]
  unfold gv
  rw [b4x l.length k,Nat.mul_add_div h0,Nat.mul_add_mod,ZB,ZB,ZR (Nat.le_add_right _ _),aWx]
theorem aB {α:Type} {C:List α→Nat→CV} {k:Nat} (hC:Cy k C) {e:TypeId} {z:Value} {i n N N' by_ d:Nat} {t u:TypeId} {p q:Operand} {env:List (Nat×CV)} {b0:Nat→CV} {H:List (Option Nat×aW)} {K:AS→Prop} {g:Option Nat} {f h:Nat→CV} {l l2:List α} {m:Nat} (ho:o.op=.call ⟨.builtin .append,#[p,q],#[t,u]⟩) (hx:(⟨env,b0,H⟩:AS).eval p=.os i g 0 n k) (hn:n=l.length) (hH:H[i]?=some (g,.blk N f)) (hN:l.length * k≤N) (hf:∀ j,j<l.length * k→aa (f j) (C l j))
  (hsrc:rl P G ⟨env,b0,H⟩ q k m h) (hm:m=l2.length) (hh:∀ j,j<l2.length * k→aa (h j) (C l2 j)) (h1:P.underlying t=some (.slice e)) (hu:dR P u=true) (h5:(P.info? e).map (·.size)=some k) (hz:(P.info? e).map (·.zero)=some (some z)) (hby:(P.info? e).map (·.bytes)=some by_) (hzk:z.cells.size=k)
  (h63:l.length+l2.length≤9223372036854775807) (h48:(l.length+l2.length) * by_≤140737488355328) (hleaf:∀ j,j<m * k→fO (h j)=true) (hd:o.dst=some d) (hdN:Nat.blt d G.N=true) (hN':(l++l2).length * k=N')
  (hK:∀ g',K ⟨(d,.os i g' 0 (l++l2).length k)::env,b0,H.set i (g',.blk N' (C (l++l2)))⟩):vn P G o ⟨env,b0,H⟩ K:=by
 subst hm hn
 refine NS ho hx hH hN hsrc h1 hu h5 hz hby h63 h48 hzk (C (l++l2)) (fun j hj=>?_) hleaf hd hdN ZD.symm (by rw [← ZD];exact hN') hK
 rw [← hC l l2 j hj]
 unfold pV
 split
 ·rename_i h;exact hf j h
 ·rename_i h
  refine hh _ ?_
  rw [aRx] at hj
  omega
theorem qH {cs:List CV} {l2:List Int} (h:o6 cs (l2.map fun c=>.c (.int .i64 c))):∀ j,j<l2.length * 1→aa (fl cs (0+j)) (qG l2 j):=fun j hj=>by
 rw [Nat.zero_add]
 exact ((wI h).2 j).trans (tB l2 j O)
theorem bw {cs:List CV} {m k:Nat} (h:cs.all fO=true) (hm:m * k=cs.length):∀ j,j<m * k→fO (fl cs (0+j))=true:=fun j hj=>by
 rw [Nat.zero_add,O2 O]
 exact Z1.1 h _ (aAx ..)
end
theorem Ls:(prog.info? 3).map (·.size)=some 1:=by kernel_rfl
theorem Lv:(prog.info? 3).map (·.bytes)=some 8:=by kernel_rfl
theorem rm:(prog.info? 3).map (·.zero)=some (some (.int .i64 0)):=by kernel_rfl
theorem Y6:(prog.info? 4).map (·.zero)=some (some (.bool false)):=by kernel_rfl
theorem fR:(prog.info? 5).map (·.size)=some 1:=by kernel_rfl
theorem jt:(prog.info? 5).map (·.bytes)=some 1:=by kernel_rfl
theorem da:(prog.info? 5).map (·.zero)=some (some (.int .u8 0)):=by kernel_rfl
theorem P0:(prog.info? 9).map (·.size)=some 1:=by kernel_rfl
theorem Wd:(prog.info? 9).map (·.bytes)=some 16:=by kernel_rfl
theorem Y9:dR prog 9=true:=by kernel_rfl
theorem CC:(prog.info? 9).map (·.zero)=some (some (.string ByteArray.empty)):=by kernel_rfl
theorem mM:(prog.info? 23).map (·.size)=some 1:=by kernel_rfl
theorem mX:(prog.info? 23).map (·.bytes)=some 24:=by kernel_rfl
theorem dV:dR prog 23=true:=by kernel_rfl
theorem eC:(prog.info? 23).map (·.zero)=some (some (.slice none 0 0)):=by kernel_rfl
theorem JX:dR prog 27=true:=by kernel_rfl
theorem CJ:(prog.info? 31).map (·.zero)=some (some (.agg #[.int .i64 0,.string ByteArray.empty,.string ByteArray.empty])):=by kernel_rfl
theorem RC:oX prog 31=some [(0,1),(1,1),(2,1)]:=by kernel_rfl
theorem ue:(prog.info? 33).map (·.zero)=some (some (.agg #[.int .i64 0,.string ByteArray.empty,.string ByteArray.empty,.string ByteArray.empty,.int .i64 0,.int .i64 0,.slice none 0 0])):=by kernel_rfl
theorem Dz:oX prog 33=some [(0,3),(3,1),(4,1),(5,1),(6,1)]:=by kernel_rfl
theorem Wj:(prog.info? 37).map (·.zero)=some (some (.nilIface)):=by kernel_rfl
theorem W3:dR prog 57=true:=by kernel_rfl
theorem X4:(prog.info? 60).map (·.zero)=some (some (.agg #[.slice none 0 0,.slice none 0 0])):=by kernel_rfl
theorem Yr:oX prog 60=some [(0,1),(1,1)]:=by kernel_rfl
theorem Wi:(prog.info? 66).map (·.zero)=some (some (.agg #[.string ByteArray.empty,.int .i64 0,.string ByteArray.empty,.string ByteArray.empty,.string ByteArray.empty,.int .i64 0,.int .i64 0,.slice none 0 0])):=by kernel_rfl
theorem WW:oX prog 66=some [(0,1),(1,7)]:=by kernel_rfl
theorem Yu:dR prog 81=true:=by kernel_rfl
theorem Wh:(prog.info? 83).map (·.zero)=some (some (.agg #[.slice none 0 0,.slice none 0 0,.nilIface])):=by kernel_rfl
theorem WV:oX prog 83=some [(0,1),(1,1),(2,1)]:=by kernel_rfl
theorem oN:dR prog 106=true:=by kernel_rfl
theorem Lz:(prog.info? 106).map (·.zero)=some (some (.slice none 0 0)):=by kernel_rfl
theorem TH:dR prog 107=true:=by kernel_rfl
theorem Wm:(prog.info? 109).map (·.zero)=some (some (.agg #[.slice none 0 0,.slice none 0 0,.int .i64 0])):=by kernel_rfl
theorem W2:oX prog 109=some [(0,1),(1,1),(2,1)]:=by kernel_rfl
theorem mf:(prog.info? 112).map (·.zero)=some (some (.agg #[.int .i64 0,.int .i64 0,.bool false,.slice none 0 0,.string ByteArray.empty])):=by kernel_rfl
theorem mr:oX prog 112=some [(0,1),(1,1),(2,1),(3,1),(4,1)]:=by kernel_rfl
theorem Wl:(prog.info? 128).map (·.zero)=some (some (.agg #[.map none,.map none])):=by kernel_rfl
theorem W1:oX prog 128=some [(0,1),(1,1)]:=by kernel_rfl
theorem iQ:(prog.info? 129).map (·.zero)=some (some (.agg #[.int .u8 0,.int .u8 0,.int .u8 0,.int .u8 0,.int .u8 0,.int .u8 0,.int .u8 0,.int .u8 0,.int .u8 0,.int .u8 0,.int .u8 0,.int .u8 0,.int .u8 0,.int .u8 0,.int .u8 0,.int .u8 0,.int .u8 0,.int .u8 0,.int .u8 0,.int .u8 0,.int .u8 0,.int .u8 0,.int .u8 0,.int .u8 0,.int .u8 0,.int .u8 0,.int .u8 0,.int .u8 0,.int .u8 0,.int .u8 0,.int .u8 0,.int .u8 0])):=by kernel_rfl
theorem Tz:(prog.info? 133).map (·.size)=some 2:=by kernel_rfl
theorem T1:(prog.info? 133).map (·.bytes)=some 40:=by kernel_rfl
theorem zw:(prog.info? 133).map (·.zero)=some (some (.agg #[.string ByteArray.empty,.slice none 0 0])):=by kernel_rfl
theorem W0:oX prog 133=some [(0,1),(1,1)]:=by kernel_rfl
theorem Tx:(prog.info? 138).map (·.size)=some 1:=by kernel_rfl
theorem T0:(prog.info? 138).map (·.bytes)=some 24:=by kernel_rfl
theorem ix:dR prog 138=true:=by kernel_rfl
theorem GU:(prog.info? 138).map (·.zero)=some (some (.slice none 0 0)):=by kernel_rfl
theorem WE:(prog.info? 151).map (·.size)=some 2:=by kernel_rfl
theorem XK:(prog.info? 151).map (·.bytes)=some 32:=by kernel_rfl
theorem GT:(prog.info? 151).map (·.zero)=some (some (.agg #[.int .i64 0,.slice none 0 0])):=by kernel_rfl
theorem WZ:oX prog 151=some [(0,1),(1,1)]:=by kernel_rfl
theorem xK:dR prog 152=true:=by kernel_rfl
theorem w9:(prog.info? 158).map (·.size)=some 2:=by kernel_rfl
theorem yE:(prog.info? 158).map (·.bytes)=some 32:=by kernel_rfl
theorem eO:(prog.info? 158).map (·.zero)=some (some (.agg #[.string ByteArray.empty,.string ByteArray.empty])):=by kernel_rfl
theorem sX:oX prog 158=some [(0,1),(1,1)]:=by kernel_rfl
theorem Wk:(prog.info? 168).map (·.zero)=some (some (.agg #[.slice none 0 0,.nilIface])):=by kernel_rfl
theorem WY:oX prog 168=some [(0,1),(1,1)]:=by kernel_rfl
theorem gH:(prog.info? 170).map (·.zero)=some (some (.agg #[.int .i64 0,.slice none 0 0])):=by kernel_rfl
theorem ro:oX prog 170=some [(0,1),(1,1)]:=by kernel_rfl
theorem zu:(prog.info? 204).map (·.zero)=some (some (.agg #[.string ByteArray.empty,.string ByteArray.empty])):=by kernel_rfl
theorem Na:oX prog 204=some [(0,1),(1,1)]:=by kernel_rfl
theorem Ly:(prog.info? 244).map (·.zero)=some (some (.agg #[.int .i64 0,.int .i64 0,.int .i64 0,.int .i64 0,.int .i64 0,.int .i64 0])):=by kernel_rfl
theorem WX:oX prog 244=some [(0,1),(1,1),(2,1),(3,1),(4,1),(5,1)]:=by kernel_rfl
theorem ft:(prog.info? 257).map (·.size)=some 1:=by kernel_rfl
theorem Tp:(prog.info? 293).map (·.zero)=some (some (.agg #[.int .u32 0,.int .u32 0,.int .u32 0,.int .u32 0,.int .u32 0,.int .u32 0,.int .u32 0,.int .u32 0])):=by kernel_rfl
theorem wP:(prog.info? 295).map (·.zero)=some (some (.agg #[.int .u32 0,.int .u32 0,.int .u32 0,.int .u32 0,.int .u32 0,.int .u32 0,.int .u32 0,.int .u32 0,.slice none 0 0,.int .i64 0])):=by kernel_rfl
theorem xC:oX prog 295=some [(0,8),(8,1),(9,1)]:=by kernel_rfl
theorem To:(prog.info? 315).map (·.zero)=some (some (.agg #[.int .u32 0,.int .u32 0,.int .u32 0,.int .u32 0,.int .u32 0,.int .u32 0,.int .u32 0,.int .u32 0,.int .u32 0,.int .u32 0,.int .u32 0,.int .u32 0,.int .u32 0,.int .u32 0,.int .u32 0,.int .u32 0,.int .u32 0,.int .u32 0,.int .u32 0,.int .u32 0,.int .u32 0,.int .u32 0,.int .u32 0,.int .u32 0,.int .u32 0,.int .u32 0,.int .u32 0,.int .u32 0,.int .u32 0,.int .u32 0,.int .u32 0,.int .u32 0,.int .u32 0,.int .u32 0,.int .u32 0,.int .u32 0,.int .u32 0,.int .u32 0,.int .u32 0,.int .u32 0,.int .u32 0,.int .u32 0,.int .u32 0,.int .u32 0,.int .u32 0,.int .u32 0,.int .u32 0,.int .u32 0,.int .u32 0,.int .u32 0,.int .u32 0,.int .u32 0,.int .u32 0,.int .u32 0,.int .u32 0,.int .u32 0,.int .u32 0,.int .u32 0,.int .u32 0,.int .u32 0,.int .u32 0,.int .u32 0,.int .u32 0,.int .u32 0])):=by kernel_rfl
theorem kq (f:Nat→CV) (off:Nat) (x:CV) (j:Nat):fX f off [x] j=if j=off then x else f j:=by
 rw [db]
 by_cases h:j=off
 ·subst h;rw [Zz (by simp),Zz rfl,bAx];rfl
 ·rw [Zy (by simp;omega),Zy h]
section
variable {P:Program} {G:Gh} {ops:Array Oper} {o:Oper} {s:AS} {r:List Oper} {K:AS→Prop} {t u:TypeId} {x y:Operand} {env:List (Nat×CV)} {b0:Nat→CV} {H:List (Option Nat×aW)}
theorem fF {P:Program} {f:FuncId} {H:List (Option Nat×aW)} {args:List CV} {Q:CV→List (Option Nat×aW)→Prop} (j:Nat) {k n:Nat} {F:Nat→Nat→CV} (hj:fl args j=.rs k n F) (h:n≤9223372036854775807→AC gs P f H args Q):AC gs P f H args Q:=fun al w St F0 vals he hs hv=>by
 have h1:=hv j
 rw [hj] at h1
 have ⟨ao,cap,_,h2,h3,_⟩:=id h1
 exact h O al w St F0 vals he hs hv
theorem aa.nilS' {n k:Nat} {f:Nat→Nat→CV} (h:n=0):aa (.c (.slice none 0 0)) (.rs k n f):=by subst h;exact aa.nilS k f
theorem AR {cs:List CV} {l2:I} (h:o6 cs (l2.map fun c=>.c (.int .u8 (c.toNat:Nat)))):∀ j,j<l2.length→aa (fl cs j) (aV l2 j):=fun j hj=>by
 have:=bz h j hj
 rwa [Nat.zero_add] at this
theorem KS (op:BinOp) (t:TypeId) (x y:Operand) (a b:Option Addr) (n c n' c':Nat) (W:World):(eqGuard op t x y (.slice a n c) (.slice b n' c')).run P W=.ok () W:=by
 unfold eqGuard
 split<;>simp
theorem y7 {e:TypeId} (ht:P.underlying t=some (.slice e)) (a:Option Addr) (n c:Nat) (W:World):(Op.equal t (.slice a n c) (.slice none 0 0)).run P W=.ok a.isNone W:=by
 show (Op.equalIn 10000 t (.slice a n c) (.slice none 0 0)).run P W=_
 rw [show (10000:Nat)=9999+1 from rfl,Op.equalIn]
 cases a<;>simp only [underlying,Sem.run_bind,run_program,Result.andThen_ok,ht,Sem.run_pure]<;>rfl
theorem mA {e:TypeId} (ho:o.op=.binOp .eql t x y u) {a:Act} {ao:Option Addr} {n c:Nat} (hx:a.eval x=.slice ao n c) (hy:a.eval y=.slice none 0 0) (ht:P.underlying t=some (.slice e)) (W:World):(execOp a.eval o).run P W=.ok (.value (.bool ao.isNone)) W:=by
 simp only [execOp,ho,hx,hy]
 refine ma ?_
 simp [KS,binOp,y7 ht]
theorem Rp {e:TypeId} (ho:o.op=.binOp .eql t x y u) (hx:s.eval x=.c (.slice none 0 0)) (hy:s.eval y=.c (.slice none 0 0)) (ht:P.underlying t=some (.slice e)):cj P G o s (.c (.bool true)):=fun St a w h =>
 ⟨_,fun W _=>mA ho (kZ h hx) (kZ h hy) ht W,rfl⟩
theorem Ho {e:TypeId} {i off n k:Nat} {g:Option Nat} (ho:o.op=.binOp .eql t x y u) (hx:s.eval x=.os i g off n k) (hy:s.eval y=.c (.slice none 0 0)) (ht:P.underlying t=some (.slice e)):cj P G o s (.c (.bool g.isNone)):=fun St a w h=>by
 have he:=iY h hx
 cases g with
 | none=>exact ⟨_,fun W _=>mA ho he.2 (kZ h hy) ht W,rfl⟩
 | some b=>have ⟨cap,e0,_⟩:=he;exact ⟨_,fun W _=>mA ho e0 (kZ h hy) ht W,rfl⟩
theorem qj {e:TypeId} {k n d:Nat} {f:Nat→Nat→CV} (hw:aS G ops o ⟨env,b0,H⟩ true) (ho:o.op=.binOp .eql t x y u) (hx:(⟨env,b0,H⟩:AS).eval x=.rs k n f) (hy:(⟨env,b0,H⟩:AS).eval y=.c (.slice none 0 0)) (ht:P.underlying t=some (.slice e)) (hd:o.dst=some d) (hN:Nat.blt d G.N=true)
  (h1:n=0→cQ P G ops r ⟨(d,.c (.bool true))::env,b0,H⟩ K) (h2:cQ P G ops r ⟨(d,.c (.bool false))::env,b0,H⟩ K):cQ P G ops (o::r) ⟨env,b0,H⟩ K:=fun a w ⟨St,hr⟩ Q hQ=>by
 unfold m7
 rw [Zz (hw St a w hr)]
 have ⟨ao,cap,e0,h3,h4,h5,h6⟩:=iY hr hx
 refine .inl ?_
 unfold Oper.wp
 rw [mA ho e0 (kZ hr hy) ht w]
 have put:∀ b:Bool,ax G St ⟨(d,.c (.bool b))::env,b0,H⟩ (a.put o.dst (.bool b)) w:=fun b=>by
  have:=hr.put (dst:=o.dst) (v:=.c (.bool b)) (x:=.bool b) (dB (kK hd hN)) rfl
  rwa [hd] at this ⊢
 cases ao with
 | none=>exact h1 (by have:=h5 rfl;omega) _ _ ⟨St,put true⟩ Q hQ
 | some ad=>exact h2 _ _ ⟨St,put false⟩ Q hQ
theorem ja (d:Nat) {i n N:Nat} {g:Option Nat} {cs:List CV} (l:I) (hl:look s.env s.b d=.os i g 0 n 1) (hH:s.H[i]?=some (g,.frz N (fl cs))) (hn:n=l.length) (hN:Nat.ble n N=true) (he:o6 cs (l.map fun c=>.c (.int .u8 (c.toNat:Nat)))) :
  cJ G s ⟨(d,bc l)::s.env,s.b,s.H⟩:=by
 subst hn
 have hN:=ZN hN
 exact iG d (fun a _=>aV l a) hl hH O (fun a b ha hb=>by
  have:=bz he a ha
  rwa [show 0+(a * 1+b)=0+a by omega])
theorem wZ (d:Nat) {i n N:Nat} {g:Option Nat} {F:Nat→CV} (l:List Int) (hl:look s.env s.b d=.os i g 0 n 1) (hH:s.H[i]?=some (g,.frz N F)) (hn:n=l.length) (hN:Nat.ble n N=true) (he:∀ j,j<l.length→aa (F j) (qG l j)) :
  cJ G s ⟨(d,CE l)::s.env,s.b,s.H⟩:=by
 subst hn
 have hN:=ZN hN
 exact iG d (fun a _=>qG l a) hl hH O (fun a b ha hb=>by
  have:=he a ha
  rwa [show 0+(a * 1+b)=a by omega])
def CQ:IntKind→Bool|.i8=>false|_=>true
theorem wV {k:IntKind} (h:CQ k=true) {z:Int} (h0:0≤z) (h1:z<256):k.wrap z=z:=by
 cases k<;>first|(simp [CQ] at h;done)|(refine cU ?_;show _∧_;omega)
theorem MZ {c:UInt8} {k':IntKind} {d:TypeDesc} (ho:o.op=.convert t u x) (hx:s.eval x=.c (.int .u8 ((c.toNat:Nat):Int))) (h1:P.underlying t=some d) (h2:P.underlying u=some (.int k')) (hk:CQ k'=true):cj P G o s (.c (.int k' ((c.toNat:Nat):Int))) :=
 cC ho hx h1 h2 _ (wV hk O (by have:=c.toNat_lt;omega))
theorem yu {e:TypeId} {z:Value} {n c k by_ d:Nat} {kn kc:IntKind} {zn zc:Int} {F:Nat→CV} (ho:o.op=.makeSlice t x y) (hx:(⟨env,b0,H⟩:AS).eval x=.c (.int kn zn)) (hy:(⟨env,b0,H⟩:AS).eval y=.c (.int kc zc)) (hn:zn=(n:Int)) (hc:zc=(c:Int)) (hnc:n≤c) (h1:P.underlying t=some (.slice e)) (h5:(P.info? e).map (·.size)=some k) (hz:(P.info? e).map (·.zero)=some (some z)) (hby:(P.info? e).map (·.bytes)=some by_)
  (h48:c * by_≤140737488355328) (h63:c≤9223372036854775807) (hF:∀ j,j<n * k→aa (.c (z.cells[j % z.cells.size]!)) (F j)) (hd:o.dst=some d) (hN:Nat.blt d G.N=true)
  (hK:∀ g,K ⟨(d,.os H.length g 0 n k)::env,b0,H++[(g,.blk (n * k) F)]⟩):kP P G o ⟨env,b0,H⟩ K :=
 kP.new (kK hd hN) (fun g=>.os H.length g 0 n k) (fun St a w hr=>by
  have ⟨info,hi,h6⟩:=ZG.1 h5
  have ⟨info',hi',hz⟩:=ZG.1 hz
  obtain rfl:=Z3 (hi.symm.trans hi')
  have ⟨info',hi',hby⟩:=ZG.1 hby
  obtain rfl:=Z3 (hi.symm.trans hi')
  subst hn hc
  have hb':(info.bytes:Int) * (c:Int)≤281474976710656:=by
   have h:((info.bytes * c:Nat):Int)≤281474976710656:=by rw [b4x,hby];omega
   rwa [cRx] at h
  have hr':=run_make (P:=P) w t e info z h1 hi hz kn kc n c O O hb' O
  simp only [bXx] at hr'
  have hsz:(madeCells z.cells (c * info.size)).size=c * k:=by rw [h6];simp [madeCells]
  refine ⟨w.alloc (.cells (madeCells z.cells (c * info.size)) e),w.heap.size,_,e,.slice (some ⟨w.heap.size,0,none⟩) n c,?_,ew w _,ZA _,heap_alloc_new w _,?_,fun j hj=>?_,c,rfl,hnc,h63,_,e,(0,0),heap_alloc_new w _,?_⟩
  ·simp only [execOp,ho,kZ hr hx,kZ hr hy]
   exact ma hr'
  ·rw [hsz];exact aox _ hnc
  ·refine hF j hj _ _ _ _ ?_
   have hj2:j<c * k:=Z4 hj (aox _ hnc)
   show _=_
   rw [h6]
   simp [madeCells,hj2]
  ·rw [hsz];omega) (fun g=>by rw [dv hd];exact hK g)
theorem O5 {ats:Array TypeId} (ho:o.op=.call ⟨.builtin .cap,#[x],ats⟩) {a:Act} {v:Value} {w:World} (h:(Builtin.cap_ ats o.type #[a.eval x]).run P w=.ok v w):(execOp a.eval o).run P w=.ok (.value v) w:=by
 simp [execOp,ho,resolve,invoke,builtin,h]
theorem Hq {e:TypeId} (ho:o.op=.call ⟨.builtin .cap,#[x],#[t]⟩) (hx:s.eval x=.c (.slice none 0 0)) (h1:P.underlying t=some (.slice e)):cj P G o s (.c (.int .i64 0)):=fun St a w h =>
 ⟨_,fun W _=>O5 ho (v:=.int .i64 0) (by rw [kZ h hx];simp [Builtin.cap_,underlying,h1,goInt]),rfl⟩
theorem Jr {e:TypeId} {m l v:Nat} {lo hi:Option Operand} (ho:o.op=.slice t x lo hi none) (hx:s.eval x=.c (.slice none 0 0)) (h1:P.underlying t=some (.slice e)) (h5:(P.info? e).map (·.size)=some m)
  (hl:Bd s 0 lo l) (hu:Bd s 0 hi v) (hlv:l≤v) (hvn:v≤0):cj P G o s (.c (.slice none 0 0)):=fun St a w h=>by
 have ⟨info,hi',hs⟩:=ZG.1 h5
 have hl0:l=0:=by omega
 have hv0:v=0:=by omega
 subst hl0 hv0
 refine ⟨.slice none 0 0,fun W _=>iO ho ?_,rfl⟩
 rw [kZ h hx]
 simp [Instr.sliceAt,Instr.slice,underlying,h1,iI h hl hu hlv hvn (ZA _),sizeOf,typeInfo,hi']
theorem Bz {e ty:TypeId} {info:TypeInfo} {z:Value} {n:Nat} {w:World} (h1:P.underlying t=some (.slice e)) (hu:P.underlying u=some (.int .i64)) (hi:P.info? e=some info) (hz:info.zero=some z) (hk:0<info.size) (hn:0<n) (h63:n≤9223372036854775807) (h48:n * info.bytes≤140737488355328) :
  (Builtin.append_ #[t,u] ty #[.slice none 0 0,.int .i64 (n:Nat)]).run P w=.ok (.slice (some ⟨w.heap.size,0,none⟩) n (grownCap w n 0 e)) (w.drew.alloc (.cells (#[]++Builtin.zeroCells z.cells n++Builtin.zeroCells z.cells (grownCap w n 0 e-n)) e)):=by
 have hw:IntKind.i64.wrap (n:Int)=(n:Int):=cU (k:=.i64) (by show _∧_;omega)
 have hneg:¬ ((n:Int)<0):=by omega
 have hb:¬ ((n:Int) * (info.bytes:Int)>2 ^ 48):=by
  have h:((n * info.bytes:Nat):Int)≤140737488355328:=by omega
  rw [cRx] at h;omega
 have hnot:¬ (0+n≤0):=by omega
 have hfit:=growslice_fits (need:=n) (old:=0) O h48
 have h49:¬ (Builtin.nextslicecap n 0 * info.bytes>2 ^ 48):=by omega
 have h64:¬ (((n:Nat):Int)>IntKind.i64.max∧(true=true∨info.bytes=0)):=by simp [IntKind.max,IntKind.bits,IntKind.signed];omega
 have hch:(choose (.appendCap n 0 e)).run P w=.ok (grownCap w n 0 e) w.drew:=by simp [Question.forced,grownCap]
 have hns:¬ (n * info.size=0):=by have:=Nat.mul_pos hn hk;omega
 simp only [Builtin.append_,bux,aFx,blx,underlying,Sem.run_bind,run_program,Result.andThen_ok,h1,hu,Sem.run_pure,sizeOf,typeInfo,hi,asInt,asIntOf,hw,Zy hneg,Zy hb,bXx,Nat.zero_add,if_true,Zy (show ¬ n≤0 by omega),zeroValue,Builtin.firstCells,Bool.not_true,aYx,if_false,Zy hns,newRow]
 rw [Zy (by simp [IntKind.max,IntKind.bits,IntKind.signed];omega)]
 simp only [Sem.run_bind,run_program,Result.andThen_ok,Sem.run_pure,hi,hz,Zy h49,hch,run_askRoom,run_newObj,World.alloc_eq,World.size_drew]
theorem VL {e:TypeId} {z:Value} {n k by_ d:Nat} {zn:Int} {F:Nat→CV} (ho:o.op=.call ⟨.builtin .append,#[x,y],#[t,u]⟩) (hx:(⟨env,b0,H⟩:AS).eval x=.c (.slice none 0 0)) (hy:(⟨env,b0,H⟩:AS).eval y=.c (.int .i64 zn)) (hn:zn=(n:Int)) (hn0:0<n) (h1:P.underlying t=some (.slice e)) (hu:P.underlying u=some (.int .i64)) (h5:(P.info? e).map (·.size)=some k) (hk0:0<k) (hz:(P.info? e).map (·.zero)=some (some z)) (hby:(P.info? e).map (·.bytes)=some by_)
  (h48:n * by_≤140737488355328) (h63:n≤4611686018427387904) (hzk:z.cells.size=k) (hd:o.dst=some d) (hN:Nat.blt d G.N=true)
  (hK:∀ g,K ⟨(d,.os H.length g 0 n k)::env,b0,H++[(g,.blk 0 F)]⟩):kP P G o ⟨env,b0,H⟩ K :=
 kP.new (kK hd hN) (fun g=>.os H.length g 0 n k) (fun St a w hr=>by
  have ⟨info,hi,h6⟩:=ZG.1 h5
  have ⟨info',hi',hz⟩:=ZG.1 hz
  obtain rfl:=Z3 (hi.symm.trans hi')
  have ⟨info',hi',hby⟩:=ZG.1 hby
  obtain rfl:=Z3 (hi.symm.trans hi')
  subst hn
  have hrun:=Bz (P:=P) (t:=t) (u:=u) (ty:=o.type) (w:=w) h1 hu hi hz O hn0 O (by rw [hby];exact h48)
  have hgc:n≤grownCap w n 0 e∧grownCap w n 0 e≤9223372036854775807:=by
   have hlt:=aNx (w.tape w.drawn (.appendCap n 0 e)) (show 0<2 ^ 63-n by omega)
   simp only [grownCap,Question.cut]
   omega
  have hsz:(#[]++Builtin.zeroCells z.cells n++Builtin.zeroCells z.cells (grownCap w n 0 e-n)).size=grownCap w n 0 e * k:=by
   simp [Builtin.zeroCells,hzk]
   rw [← aRx]
   congr 1
   omega
  have hargs:(#[x,y]:Array Operand).map a.eval=#[a.eval x,a.eval y]:=by simp
  refine ⟨w.drew.alloc (.cells (#[]++Builtin.zeroCells z.cells n++Builtin.zeroCells z.cells (grownCap w n 0 e-n)) e),w.heap.size,_,e,.slice (some ⟨w.heap.size,0,none⟩) n (grownCap w n 0 e),?_,co w _,ZA _,heap_alloc_new w.drew _,ZL _,fun j hj=>absurd hj (ZO j),grownCap w n 0 e,rfl,hgc.1,hgc.2,_,e,(0,0),heap_alloc_new w.drew _,?_⟩
  exact eu ho (by rw [hargs,kZ hr hx,kZ hr hy];exact hrun)
  ·rw [hsz];omega) (fun g=>by rw [dv hd];exact hK g)
end
theorem aa.nilE {n:Nat} (h:n=0):aa (.c .nilIface) (.err n):=by subst h;exact aa.nil
def we (ls:Zx):CV:=.rs 1 ls.length fun i _=>bc (ls.getD i [])
theorem rI {G:Gh} {s:AS} (d:Nat) {i n N:Nat} {g:Option Nat} {cs:List CV} (ls:Zx) (hl:look s.env s.b d=.os i g 0 n 1) (hH:s.H[i]?=some (g,.frz N (fl cs))) (hn:n=ls.length) (hN:Nat.ble n N=true) (he:o6 cs (ls.map bc)) :
  cJ G s ⟨(d,we ls)::s.env,s.b,s.H⟩:=by
 subst hn
 have hN:=ZN hN
 exact iG d (fun a _=>bc (ls.getD a [])) hl hH O (fun a b ha hb=>by
  have:=(wI he).2 a
  rw [O2 (cs:=ls.map bc) (by simpa using ha)] at this
  obtain rfl:b=0:=by omega
  rw [show 0+(a * 1+0)=a by omega]
  simpa [List.getD,ha] using this)
def cw (ls:Zx):Nat:=(ls.map List.length).sum
theorem sH (a b:Zx):cw (a++b)=cw a+cw b:=by simp only [cw,a0x,List.sum_append]
theorem jI {ls:Zx} {i:Nat} (h:i<ls.length):cw (ls.take (i+1))=cw (ls.take i)+(ls.getD i []).length:=by
 rw [ZH h,sH]
 simp only [cw,Z6,bqx,cIx,List.sum_nil,List.getD,ZM h,asx,afx]
theorem qc (ls:Zx) (i:Nat):cw (ls.take i)≤cw ls:=by
 have h:=sH (ls.take i) (ls.drop i)
 rw [amx] at h
 omega
theorem iX {ls:Zx} {i:Nat} (h:i<ls.length):(ls.take (i+1)).flatten=(ls.take i).flatten++ls.getD i []:=by
 rw [ZH h,aSx,List.flatten_singleton]
 simp only [List.getD,ZM h,asx]
theorem gW (ls:Zx):ls.flatten.length=cw ls:=by simp [cw,List.length_flatten]
structure XU (al:List Addr) (St:Nat→Prop) (w:World) (F:Nat→Prop) (E:List (Option Nat×aW)) (fp:Nat→Nat→Prop):Prop where
 rep:∀ (i:Nat) (g:Option Nat) (r:aW),E[i]?=some (g,r)→r.rep al St w (fp i) g
 dis:∀ i j b,fp i b→fp j b→i=j
 out:∀ i,E.length≤i→∀ b,¬ fp i b
 all:∀ b,F b↔∃ i,fp i b
def U4 {γ:Type} (gd:γ→Nat) (E:γ→List (Option Nat×aW)):OP where
 p al St w g F:=∃ x,gd x=g∧∃ fp,XU al St w F (E x) fp
 st:=fun he hs hF ⟨x,hx,fp,h⟩=>⟨x,hx,fp,fun i g r hi=>aW.rep_evo he hs (fun b hb=>hF b ((h.all b).2 ⟨i,hb⟩)) (h.rep i g r hi),h.dis,h.out,h.all⟩
def lK {γ:Type} (g:Nat) (gd:γ→Nat) (E:γ→List (Option Nat×aW)):Option Nat×aW:=(some g,.obj (U4 gd E))
theorem cY.pack {al:List Addr} {St:Nat→Prop} {w:World} {base:Nat} {F0:Nat→Prop} {γ:Type} {gd:γ→Nat} {E:γ→List (Option Nat×aW)} (x:γ) {B:List (Option Nat×aW)} (h:cY al St w base F0 (E x++B)):cY al St w base F0 (lK (gd x) gd E::B):=by
 have ⟨fp,hp⟩:=h
 refine ⟨fun j b=>match j with|0=>∃ i,i<(E x).length∧fp i b|j+1=>fp ((E x).length+j) b,fun j g r hj=>?_,fun i j b hi hj=>?_,fun i b hi=>?_,fun i hi b hb=>?_⟩
 ·cases j with
  | zero =>
   simp only [lK,aFx,adx,c6x] at hj
   obtain ⟨rfl,rfl⟩:=hj
   refine ⟨x,rfl,fun i b=>i<(E x).length∧fp i b,fun i g r hi=>?_,fun i j b hi hj=>hp.dis i j b hi.2 hj.2,fun i hi b hb=>by omega,fun b=>Iff.rfl⟩
   have hlt:=(ZC.1 hi).1
   have e:(fun b=>i<(E x).length∧fp i b)=fp i:=funext fun b=>propext ⟨fun h=>h.2,fun h=>⟨hlt,h⟩⟩
   show r.rep al St w (fun b=>i<(E x).length∧fp i b) g
   rw [e]
   exact hp.rep i g r (by rw [ZF hlt];exact hi)
  | succ j =>
   simp only [blx] at hj
   exact hp.rep _ g r (by rw [ZR O,aWx];exact hj)
 ·cases i with
  | zero =>
   cases j with
   | zero=>rfl
   | succ j=>have ⟨k,hk,hf⟩:=hi;have:=hp.dis _ _ b hf hj;omega
  | succ i =>
   cases j with
   | zero=>have ⟨k,hk,hf⟩:=hj;have:=hp.dis _ _ b hf hi;omega
   | succ j=>have:=hp.dis _ _ b hi hj;omega
 ·cases i with
  | zero=>have ⟨k,hk,hf⟩:=hi;exact hp.own _ b hf
  | succ i=>exact hp.own _ b hi
 ·cases i with
  | zero=>simp at hi
  | succ i=>exact hp.out _ (by simp at hi ⊢;omega) b hb
theorem cY.unpack {al:List Addr} {St:Nat→Prop} {w:World} {base:Nat} {F0:Nat→Prop} {γ:Type} {gd:γ→Nat} {e0:γ→Option Nat×aW} {tl:γ→List (Option Nat×aW)} {H:List (Option Nat×aW)} {i g:Nat} (hH:H[i]?=some (lK g gd fun x=>e0 x::tl x)) (h:cY al St w base F0 H) :
  ∃ x,gd x=g∧cY al St w base F0 (H.set i (e0 x)++tl x):=by
 have ⟨fp,hp⟩:=h
 have hlt:=(ZC.1 hH).1
 obtain ⟨x,hx,fe,he⟩:=hp.rep i _ _ hH
 refine ⟨x,hx,fun j b=>if j<H.length then (if j=i then fe 0 b else fp j b) else fe (j-H.length+1) b,fun j q r hj=>?_,fun j k b hj hk=>?_,fun j b hj=>?_,fun j hj b hb=>?_⟩
 ·by_cases h1:j<H.length
  ·rw [ZF (by simpa using h1)] at hj
   by_cases h2:j=i
   ·subst h2
    simp [h1] at hj
    simp only [h1,if_true]
    exact he.rep 0 q r (by simp [hj])
   ·rw [ZQ (Ne.symm h2)] at hj
    simp only [h1,h2,if_true,if_false]
    exact hp.rep j q r hj
  ·rw [ZR (by simp;omega)] at hj
   simp only [h1,if_false]
   refine he.rep (j-H.length+1) q r ?_
   simpa using hj
 ·have qG:∀ q b,fe q b→fp i b:=fun q b hq=>(he.all b).2 ⟨q,hq⟩
  by_cases h1:j<H.length<;>by_cases h2:k<H.length<;>simp only [h1,h2,if_true,if_false] at hj hk
  ·by_cases h3:j=i<;>by_cases h4:k=i<;>simp only [h3,h4,if_true,if_false] at hj hk
   omega
   exact absurd (hp.dis _ _ b (qG _ _ hj) hk).symm h4
   exact absurd (hp.dis _ _ b hj (qG _ _ hk)) h3
   exact hp.dis _ _ b hj hk
  ·by_cases h3:j=i<;>simp only [h3,if_true,if_false] at hj
   ·have:=he.dis _ _ b hj hk;omega
   exact absurd (hp.dis _ _ b hj (qG _ _ hk)) h3
  ·by_cases h4:k=i<;>simp only [h4,if_true,if_false] at hk
   ·have:=he.dis _ _ b hj hk;omega
   exact absurd (hp.dis _ _ b hk (qG _ _ hj)) h4
  ·have:=he.dis _ _ b hj hk;omega
 ·have qG:∀ q b,fe q b→fp i b:=fun q b hq=>(he.all b).2 ⟨q,hq⟩
  by_cases h1:j<H.length<;>simp only [h1,if_true,if_false] at hj
  ·by_cases h3:j=i<;>simp only [h3,if_true,if_false] at hj
   exact hp.own i b (qG _ _ hj)
   exact hp.own j b hj
  exact hp.own i b (qG _ _ hj)
 ·have h1:¬ j<H.length:=by simp at hj;omega
  simp only [h1,if_false] at hb
  exact he.out _ (by simp at hj ⊢;omega) b hb
section
variable {P:Program} {G:Gh} {ops:Array Oper} {s:AS} {K:AS→Prop} {c:Code} {R:Exit→AS→Prop} {γ:Type} {gd:γ→Nat} {e0:γ→Option Nat×aW} {tl:γ→List (Option Nat×aW)}
theorem cJ.hrel {H':List (Option Nat×aW)} (h:∀ {al St w base F0},cY al St w base F0 s.H→cY al St w base F0 H'):cJ G s ⟨s.env,s.b,H'⟩:=fun St _ _ hr =>
 ⟨St,fun _ h=>h,hr.df,hr.sz,hr.env,hr.un,hr.s1,hr.s2,hr.s3,h hr.hp,hr.sn,hr.sg⟩
theorem Ni {E:γ→List (Option Nat×aW)} (x:γ) {B:List (Option Nat×aW)} (l:List Nat) (hl:l.Nodup) (hH:il s.H l=E x++B):cJ G s ⟨s.env,s.b,lK (gd x) gd E::B⟩:=cJ.hrel fun h=>(h.pick l hl hH).pack x
theorem ce {H':List (Option Nat×aW)} (l:List Nat) (hl:l.Nodup) (hH:il s.H l=H'):cJ G s ⟨s.env,s.b,H'⟩:=cJ.hrel fun h=>h.pick l hl hH
theorem CT {i g:Nat} (hH:s.H[i]?=some (lK g gd fun x=>e0 x::tl x)) {St:Nat→Prop} {a:Act} {w:World} (hr:ax G St s a w):∃ x,gd x=g∧ax G St ⟨s.env,s.b,s.H.set i (e0 x)++tl x⟩ a w:=by
 have ⟨x,hx,h2⟩:=hr.hp.unpack hH
 exact ⟨x,hx,hr.df,hr.sz,hr.env,hr.un,hr.s1,hr.s2,hr.s3,h2,hr.sn,hr.sg⟩
theorem IE {i g:Nat} (hH:s.H[i]?=some (lK g gd fun x=>e0 x::tl x)) {a:Act} {w:World} (h:wm G s a w):∃ x,gd x=g∧wm G ⟨s.env,s.b,s.H.set i (e0 x)++tl x⟩ a w:=by
 have ⟨St,hr⟩:=h
 have ⟨x,hx,h2⟩:=CT hH hr
 exact ⟨x,hx,St,h2⟩
theorem kM (i:Nat) {g:Nat} (hH:s.H[i]?=some (lK g gd fun x=>e0 x::tl x)) (h:∀ x,gd x=g→aY P G c ⟨s.env,s.b,s.H.set i (e0 x)++tl x⟩ R):aY P G c s R:=fun a w hr Q hQ=>by
 have ⟨x,hx,h2⟩:=IE hH hr
 exact h x hx a w h2 Q hQ
end
theorem cY.weak {al:List Addr} {St:Nat→Prop} {w:World} {base:Nat} {F0:Nat→Prop} {H:List (Option Nat×aW)} {i n m:Nat} {g:Option Nat} {f F:Nat→CV} (hi:H[i]?=some (g,.blk n f)) (hm:m≤n) (hF:∀ j,j<m→aa (f j) (F j)) (h:cY al St w base F0 H):cY al St w base F0 (H.set i (g,.blk m F)):=by
 have ⟨fp,hp⟩:=h
 have hlt:=(ZC.1 hi).1
 refine ⟨fp,fun j q r hj=>?_,hp.dis,hp.own,fun j hj=>hp.out j (by simpa using hj)⟩
 by_cases e:j=i
 ·subst e
  simp [hlt] at hj
  obtain ⟨rfl,rfl⟩:=hj
  have:=hp.rep j g _ hi
  cases g with
  | none=>exact ⟨by have:=this.1;omega,this.2⟩
  | some g =>
   have ⟨h0,cur,t,h1,h2,h3⟩:=this
   exact ⟨h0,cur,t,h1,by omega,fun a ha=>hF a ha _ _ _ _ (h3 a O)⟩
 ·rw [ZQ (Ne.symm e)] at hj
  exact hp.rep j q r hj
def kX (H:List (Option Nat×aW)) (js:List Nat):List (Option Nat×aW):=js.foldl (fun H j=>H.set j (none,.dead)) H
theorem uR:∀ (js:List Nat) (H:List (Option Nat×aW)),(kX H js).length=H.length
 | [],_=>rfl
 | j::js,H=>by
  have:=uR js (H.set j (none,.dead))
  rw [aPx] at this
  exact this
theorem DZ:∀ (js:List Nat) (H:List (Option Nat×aW)) (q:Nat),q<H.length→(kX H js)[q]?=if q ∈ js then some (none,.dead) else H[q]?
 | [],_,_,_=>by simp [kX]
 | j::js,H,q,hq=>by
  have:=DZ js (H.set j (none,.dead)) q (by simpa using hq)
  show (kX (H.set j (none,.dead)) js)[q]?=_
  rw [this]
  by_cases h1:q ∈ js
  ·rw [Zz h1,Zz (Z2 _ h1)]
  ·rw [Zy h1]
   by_cases h2:q=j
   ·subst h2
    rw [Zz ZU]
    simp [hq]
   ·rw [Zy (by simp [h1,h2]),ZQ (Ne.symm h2)]
theorem cY.closeN {al:List Addr} {St:Nat→Prop} {w:World} {base:Nat} {F0:Nat→Prop} {γ:Type} {gd:γ→Nat} {E:γ→List (Option Nat×aW)} {H:List (Option Nat×aW)} (x:γ) (i:Nat) (js:List Nat) (hnd:(i::js).Nodup) (hlt:∀ j ∈ i::js,j<H.length) (hE:il H (i::js)=E x) (h:cY al St w base F0 H) :
  cY al St w base F0 (kX (H.set i (lK (gd x) gd E)) js):=by
 have ⟨fp,hp⟩:=h
 have hi:i<H.length:=hlt i ZU
 have hij:i ∉ js:=(bQx.1 hnd).1
 refine ⟨fun q b=>if q=i then ∃ p:Nat,∃ j,(i::js)[p]?=some j∧fp j b else if q ∈ js then False else fp q b,fun q g r hq=>?_,fun p q b h1 h2=>?_,fun q b hq=>?_,fun q hq b hb=>?_⟩
 ·have hql:q<H.length:=by
   have:=(ZC.1 hq).1
   rwa [uR,aPx] at this
  rw [DZ _ _ _ (by simpa using hql)] at hq
  by_cases e:q=i
  ·subst e
   rw [Zy hij] at hq
   simp [hi] at hq
   obtain ⟨rfl,rfl⟩:=hq
   simp only [if_true]
   refine ⟨x,rfl,fun p b=>∃ j,(q::js)[p]?=some j∧fp j b,fun p g r hp1=>?_,fun p1 p2 b h1 h2=>?_,fun p hp1 b hb=>?_,fun b=>Iff.rfl⟩
   ·rw [← hE,il,aBx,ZG] at hp1
    have ⟨j,hj,he⟩:=hp1
    have hjl:=hlt j (azx hj)
    have e:(fun b=>∃ j,(q::js)[p]?=some j∧fp j b)=fp j:=funext fun b=>propext ⟨fun ⟨j',h1,h2⟩=>by rw [hj] at h1;cases h1;exact h2,fun h=>⟨j,hj,h⟩⟩
    show r.rep al St w (fun b=>∃ j,(q::js)[p]?=some j∧fp j b) g
    rw [e]
    refine hp.rep j g r ?_
    rw [ZM hjl]
    simpa [List.getD,hjl] using he
   ·have ⟨j1,a1,b1⟩:=h1
    have ⟨j2,a2,b2⟩:=h2
    have:=hp.dis _ _ b b1 b2
    subst this
    exact (cCx (ZC.1 a1).1 hnd).1 (a1.trans a2.symm)
   ·have ⟨j,a,_⟩:=hb
    have:=(ZC.1 a).1
    rw [← hE] at hp1
    simp only [il,axx] at hp1
    omega
  ·by_cases e2:q ∈ js
   ·rw [Zz e2] at hq
    cases hq
    simp only [e,e2,if_true,if_false]
    exact fun b hb=>hb
   ·rw [Zy e2,ZQ (Ne.symm e)] at hq
    simp only [e,e2,if_false]
    exact hp.rep q g r hq
 ·have mem:∀ {b:Nat},(∃ p:Nat,∃ j,(i::js)[p]?=some j∧fp j b)→∃ j,j ∈ i::js∧fp j b:=fun ⟨p,j,h1,h2⟩=>⟨j,azx h1,h2⟩
  by_cases e1:p=i<;>by_cases e2:q=i
  ·rw [e1,e2]
  ·simp only [e1,e2,if_true,if_false] at h1 h2
   by_cases e3:q ∈ js
   ·simp only [e3,if_true] at h2
   ·simp only [e3,if_false] at h2
    have ⟨j,hj,hb⟩:=mem h1
    have:=hp.dis _ _ b hb h2
    subst this
    rcases Z9.1 hj with h|h
    exact absurd h e2
    exact absurd h e3
  ·simp only [e1,e2,if_true,if_false] at h1 h2
   by_cases e3:p ∈ js
   ·simp only [e3,if_true] at h1
   ·simp only [e3,if_false] at h1
    have ⟨j,hj,hb⟩:=mem h2
    have:=hp.dis _ _ b hb h1
    subst this
    rcases Z9.1 hj with h|h
    exact absurd h e1
    exact absurd h e3
  ·simp only [e1,e2,if_false] at h1 h2
   by_cases e3:p ∈ js
   ·simp only [e3,if_true] at h1
   ·by_cases e4:q ∈ js
    ·simp only [e4,if_true] at h2
    ·simp only [e3,e4,if_false] at h1 h2
     exact hp.dis _ _ b h1 h2
 ·by_cases e1:q=i
  ·simp only [e1,if_true] at hq
   have ⟨p,j,_,hb⟩:=hq
   exact hp.own _ b hb
  ·by_cases e2:q ∈ js
   ·simp only [e1,e2,if_true,if_false] at hq
   ·simp only [e1,e2,if_false] at hq
    exact hp.own _ b hq
 ·rw [uR,aPx] at hq
  have e1:q≠i:=by omega
  by_cases e2:q ∈ js
  ·simp only [e1,e2,if_true,if_false] at hb
  ·simp only [e1,e2,if_false] at hb
   exact hp.out q hq b hb
section
variable {P:Program} {G:Gh} {ops:Array Oper} {s:AS} {K:AS→Prop} {c:Code} {R:Exit→AS→Prop} {γ:Type} {gd:γ→Nat}
theorem cE (i m:Nat) (F:Nat→CV) {n:Nat} {g:Option Nat} {f:Nat→CV} (hi:s.H[i]?=some (g,.blk n f)) (hm:m≤n) (hF:∀ j,j<m→aa (f j) (F j)):cJ G s ⟨s.env,s.b,s.H.set i (g,.blk m F)⟩:=cJ.hrel fun h=>h.weak hi hm hF
theorem closeN {E:γ→List (Option Nat×aW)} (x:γ) (i:Nat) (js:List Nat) (hnd:(i::js).Nodup) (hlt:∀ j ∈ i::js,j<s.H.length) (hE:il s.H (i::js)=E x):cJ G s ⟨s.env,s.b,kX (s.H.set i (lK (gd x) gd E)) js⟩:=cJ.hrel fun h=>h.closeN x i js hnd hlt hE
theorem bK {fn:Func} {Q:CV→List (Option Nat×aW)→Prop} {e:Exit} {γ:Type} {gd:γ→Nat} {E:γ→List (Option Nat×aW)} (he:e=.ret∨e=.normal) (v:CV) (z:γ) (l:List Nat) (hl:l.Nodup) (hH:il s.H l=E z++[]) (hres:lp P G fn s v) (hq:Q v [lK (gd z) gd E]):lW P G fn Q e s:=by
 have h:∃ r H',lp P G fn s r∧Q r H'∧∀ St a w,ax G St s a w→cY G.al St w G.w0.heap.size G.F0 H':=⟨v,_,hres,hq,fun _ _ _ hr=>(hr.hp.pick l hl hH).pack z⟩
 rcases he with rfl|rfl<;>exact h
theorem iZ {fn:Func} {e:Exit} {γ:Type} {gd:γ→Nat} {E:γ→List (Option Nat×aW)} {v m:CV} (he:e=.ret∨e=.normal) (z:γ) (l:List Nat) (hl:l.Nodup) (hH:il s.H l=E z++[]) (hres:lp P G fn s v) (hv:aa v m):lW P G fn (fun r H'=>r=m∧H'=[lK (gd z) gd E]) e s:=bK he m z l hl hH (hres.ent hv) ⟨rfl,rfl⟩
theorem cL {P:Program} {G:Gh} {c:Code} {s:AS} {R:Exit→AS→Prop} {φ:Prop} (hφ:∀ a w,wm G s a w→φ) (h:φ→aY P G c s R):aY P G c s R:=fun a w hr Q hQ=>h (hφ a w hr) a w hr Q hQ
theorem ig {G:Gh} {s:AS} (d:Nat) {i off:Nat} {g:Option Nat} (hl:look s.env s.b d=.op i g off):∀ a w,wm G s a w→∃ n,g=some n:=fun a w ⟨St,hr⟩=>by
 have:=iY hr (x:=.tmp d) hl
 have ⟨b,hb,_⟩:=this
 exact ⟨b,hb⟩
theorem bL {fn:Func} {Q:CV→List (Option Nat×aW)→Prop} {e:Exit} {v m:CV} {H':List (Option Nat×aW)} (he:e=.ret∨e=.normal) (l:List Nat) (hl:l.Nodup) (hH:il s.H l=H') (hres:lp P G fn s v) (hv:aa v m) (hq:Q m H'):lW P G fn Q e s:=bi he m H' l hl hH (hres.ent hv) hq
theorem bR {fn:Func} {e:Exit} {v m:CV} {x:Option Nat×aW} (he:e=.ret∨e=.normal) (hH:s.H[0]?=some x) (hres:lp P G fn s v) (hv:aa v m):lW P G fn (fun r H'=>r=m∧H'=[x]) e s :=
 bi he m [x] [0] jD (by simp [il,List.getD,hH]) (hres.ent hv) ⟨rfl,rfl⟩
end
end Am
end Go.Proofs.YtghminnpfnkbjaaGreatDoor
