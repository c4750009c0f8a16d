/- What the law leans on, part 4: AmD, AmE, AmF, AmG, AmH, AmI, AmJ, AmM -/
import Derived.Test.YthlpfjnkieaeeaaGreatDoorM3ObjectsOthers
import Derived.Laws.RangeString
import Derived.Shelf.Abstract

set_option maxRecDepth 100000
namespace Go.Proofs.YthlpfjnkieaeeaaGreatDoor
set_option linter.unusedVariables false
namespace Am
open Go.RowKit
section
def iterOP (l:ByteArray) (pos:Nat):OP where
 p al St w g F:=(∀ b,F b↔b=g)∧w.heap[g]?=some (.stringIter l pos)
 st:=fun he hs hF ⟨h1,h2⟩=>⟨h1,(hF _ ((h1 _).2 rfl)).trans h2⟩
section
variable {P:Program} {G:Gh} {ops:Array Oper} {o:Oper} {s:AS} {r:List Oper} {K:AS→Prop} {t u:TypeId} {x y:Operand} {env:List (Nat×CV)} {b0:Nat→CV} {H:List (Option Nat×Res)}
theorem under_below {w w':World} (h:Below w.heap.size w w'):Under (fun _=>False) w w':=(Under.refl _ w).then h
theorem RelSt.freshObj {St:Nat→Prop} {a:Act} {w w':World} {g:Nat} {p:OP} (h:RelSt G St s a w) (hb:Below w.heap.size w w') (h1:w.heap.size≤g) (h2:g<w'.heap.size) (hp:p.p G.al St w' g (fun b=>b=g)):RelSt G St ⟨s.env,s.b,s.H++[(some g,.obj p)]⟩ a w':=by
 refine h.after (under_below hb) (fun _ h=>h) (fun b h=>.inl h) (fun b hs=>Nat.lt_of_lt_of_le (h.s3 b hs) hb.size) ⟨fun i b=>i=0∧b=g,fun i q r hi=>?_,fun i j b hi hj=>by omega,fun i b hi=>?_,fun i hi b hb=>by simp at hi;omega⟩
 ·match i,hi with
  | 0,hi =>
   simp at hi
   obtain ⟨rfl,rfl⟩:=hi
   have e:(fun b=>(0:Nat)=0∧b=g)=fun b=>b=g:=funext fun b=>by simp
   show p.p G.al St w' g (fun b=>(0:Nat)=0∧b=g)
   rw [e]
   exact hp
  | i+1,hi=>simp at hi
 ·obtain ⟨_,rfl⟩:=hi
  exact ⟨h2,fun hs=>by have:=h.s3 _ hs;omega,.inl h1⟩
theorem RelSt.turnObj {St:Nat→Prop} {a:Act} {w w':World} {i g:Nat} {p p':OP} (h:RelSt G St s a w) (hH:s.H[i]?=some (some g,.obj p)) (hF:∀ F,p.p G.al St w g F→(∀ b,F b↔b=g)) (hno:∀ cur t z,w.heap[g]?≠some (.cells cur t z))
  (ho:w'.os=w.os) (ht:w'.tape=w.tape) (hout:w'.output=w.output) (hsz:w'.heap.size=w.heap.size) (hold:∀ b,b≠g→w'.heap[b]?=w.heap[b]?) (hp':p'.p G.al St w' g (fun b=>b=g)):RelSt G St ⟨s.env,s.b,s.H.set i (some g,.obj p')⟩ a w':=by
 obtain ⟨fp,hp⟩:=h.hp
 have hlt:i<s.H.length:=(List.getElem?_eq_some_iff.1 hH).1
 have hrep:p.p G.al St w g (fp i):=hp.rep i (some g) _ hH
 have hfi:=hF _ hrep
 have hg:fp i g:=(hfi g).2 rfl
 obtain ⟨hg1,hg2,hg3⟩:=hp.own i g hg
 have he:Evo St w w':=⟨fun b cu ct cz hb hcu=>(hold b (fun e=>hg2 (e ▸ hb))).trans hcu,fun b cu t z hb=>⟨cu,z,(hold b (fun e=>hno cu t z (e ▸ hb))).trans hb,rfl⟩⟩
 refine ⟨h.df.keep (fun _ h=>h) (fun b hb=>hold b (fun e=>hg2 (e ▸ hb))),h.sz,fun d=>RepC.evo he (fun _ x=>x) _ _ (h.env d),⟨ho.trans h.un.os,ht.trans h.un.tape,hout.trans h.un.output,by rw [hsz];exact h.un.size,fun k hk hFk=>?_,fun b cu t z hb=>?_⟩,h.s1,h.s2,fun b hb=>by rw [hsz];exact h.s3 b hb,?_,?_,h.sg⟩
 ·refine (hold k (fun e=>?_)).trans (h.un.block k hk hFk)
  subst e
  rcases hg3 with h1|h1
  ·omega
  ·exact hFk h1
 ·obtain ⟨cur',z',h1,h2⟩:=h.un.sh b cu t z hb
  obtain ⟨cur2,z2,h3,h4⟩:=he.sh b cur' t z' h1
  exact ⟨cur2,z2,h3,h4.trans h2⟩
 ·refine ⟨fp,fun j q r hj=>?_,hp.dis,fun j b hb=>by rw [hsz];exact hp.own j b hb,fun j hj=>hp.out j (by simpa using hj)⟩
  by_cases e:j=i
  ·subst e
   simp [hlt] at hj
   obtain ⟨rfl,rfl⟩:=hj
   have e2:fp j=fun b=>b=g:=funext fun b=>propext (hfi b)
   show p'.p G.al St w' g (fp j)
   rw [e2]
   exact hp'
  ·rw [List.getElem?_set_ne (Ne.symm e)] at hj
   exact Res.rep_evo he (fun _ x=>x) (fun b hFb=>hold b (fun e2=>e (hp.dis j i b hFb (e2 ▸ hg)))) (hp.rep j q r hj)
 ·exact SentL.keep h.sn (fun q hq=>hold q (fun e=>hg2 (e ▸ h.sg.1 q hq))) (fun q hq=>hold _ (fun e=>hg2 (e ▸ h.sg.2 q hq)))

theorem e_range {l:ByteArray} {d:Nat} (ho:o.op=.range t x) (hx:(⟨env,b0,H⟩:AS).eval x=.c (.string l)) (h1:P.underlying t=some .string) (hd:o.dst=some d) (hN:Nat.blt d G.N=true)
  (hK:∀ g,K ⟨(d,.op H.length (some g) 0)::env,b0,H++[(some g,.obj (iterOP l 0))]⟩):AEx P G o ⟨env,b0,H⟩ K:=fun St a w hr Q=>by
 have hrun:(execOp a.eval o).run P w=.ok (.value (.pointer (some ⟨w.heap.size,0,none⟩))) (w.iter l 0):=by
  simp only [execOp,ho,evC hr hx]
  exact vOk (run_range_string w t l h1)
 unfold Oper.wp
 rw [hrun]
 have hb:Below w.heap.size w (w.iter l 0):=below_alloc w _
 refine ⟨hb,St,fun _ h=>h,_,hK w.heap.size,?_⟩
 have h2:=hr.freshObj (g:=w.heap.size) (p:=iterOP l 0) hb (Nat.le_refl _) (by show _<(w.heap.push _).size;simp) ⟨fun b=>Iff.rfl,World.iter_heap w l 0⟩
 have:=h2.put (dst:=o.dst) (v:=.op H.length (some w.heap.size) 0) (x:=.pointer (some ⟨w.heap.size,0,none⟩)) (by intro d' hd';rw [hd] at hd';cases hd';exact Nat.le_of_ble_eq_true hN) ⟨_,rfl,rfl⟩
 rw [hd] at this ⊢
 exact this
theorem run_next_any {l:ByteArray} {pos g:Nat} {w:World} (ty:TypeId) (hg:w.heap[g]?=some (.stringIter l pos)) (h:pos<l.size) :
  (Instr.next (.pointer (some ⟨g,0,none⟩)) true ty).run P w=.ok (.tuple #[.bool true,.int .i64 pos,.int .i32 (Utf8.decode l pos).1]) { w with heap:=w.heap.setIfInBounds g (.stringIter l (pos+(Utf8.decode l pos).2)) }:=by
 simp [Instr.next,getObj,setObj,Sem.run,hg,h,goInt]
theorem run_next_over {l:ByteArray} {pos g:Nat} {w:World} (ty:TypeId) (hg:w.heap[g]?=some (.stringIter l pos)) (h:¬ pos<l.size) :
  (Instr.next (.pointer (some ⟨g,0,none⟩)) true ty).run P w=.ok (.tuple #[.bool false]) w:=by
 simp [Instr.next,getObj,Sem.run,hg,h]
theorem m_next {l:ByteArray} {pos i g d:Nat} (ho:o.op=.next x true) (hx:(⟨env,b0,H⟩:AS).eval x=.op i (some g) 0) (hH:H[i]?=some (some g,.obj (iterOP l pos))) (hd:o.dst=some d) (hN:Nat.blt d G.N=true)
  (h1:pos<l.size→K ⟨(d,.tup 3 (fl [.c (.bool true),.c (.int .i64 (pos:Nat)),.c (.int .i32 ((Utf8.decode l pos).1:Nat))]))::env,b0,H.set i (some g,.obj (iterOP l (pos+(Utf8.decode l pos).2)))⟩)
  (h2:¬ pos<l.size→K ⟨(d,.tup 1 (fl [.c (.bool false)]))::env,b0,H⟩):AMd P G o ⟨env,b0,H⟩ K:=fun St a w hr Q=>by
 obtain ⟨b,hb,e0⟩:=evR hr hx
 cases hb
 obtain ⟨fp,hp⟩:=id hr.hp
 obtain ⟨hF,hg⟩:=hp.rep i _ _ hH
 have dlt:∀ d',o.dst=some d'→d'<G.N:=by intro d' hd';rw [hd] at hd';cases hd';exact Nat.le_of_ble_eq_true hN
 by_cases h:pos<l.size
 ·have hrun:(execOp a.eval o).run P w=.ok (.value (.tuple #[.bool true,.int .i64 pos,.int .i32 (Utf8.decode l pos).1])) { w with heap:=w.heap.setIfInBounds g (.stringIter l (pos+(Utf8.decode l pos).2)) }:=by
   simp only [execOp,ho,e0]
   exact vOk (run_next_any _ hg h)
  unfold Oper.wp
  rw [hrun]
  refine ⟨fun b hb=>?_,St,fun _ h=>h,_,h1 h,?_⟩
  ·have hne:b≠g:=fun e=>(hp.own i g ((hF g).2 rfl)).2.1 (e ▸ hb)
   simp [Array.getElem?_setIfInBounds_ne (Ne.symm hne)]
  have hlt:g<w.heap.size:=(Array.getElem?_eq_some_iff.1 hg).1
  have h3:=hr.turnObj (p:=iterOP l pos) (p':=iterOP l (pos+(Utf8.decode l pos).2)) (w':={ w with heap:=w.heap.setIfInBounds g (.stringIter l (pos+(Utf8.decode l pos).2)) }) hH (fun F h=>h.1) (fun cur t z he=>by rw [hg] at he;cases he) rfl rfl rfl (by simp) (fun b hb=>by simp [Array.getElem?_setIfInBounds_ne (Ne.symm hb)]) ⟨fun b=>Iff.rfl,by simp [hlt]⟩
  have:=h3.put (dst:=o.dst) (v:=.tup 3 (fl [.c (.bool true),.c (.int .i64 (pos:Nat)),.c (.int .i32 ((Utf8.decode l pos).1:Nat))])) (x:=.tuple #[.bool true,.int .i64 pos,.int .i32 (Utf8.decode l pos).1]) dlt ⟨_,rfl,rfl,fun j hj=>match j,hj with|0,_=>rfl|1,_=>rfl|2,_=>rfl⟩
  rw [hd] at this ⊢
  exact this
 ·have hrun:(execOp a.eval o).run P w=.ok (.value (.tuple #[.bool false])) w:=by
   simp only [execOp,ho,e0]
   exact vOk (run_next_over _ hg h)
  unfold Oper.wp
  rw [hrun]
  refine ⟨KeepS.refl _ _,St,fun _ h=>h,_,h2 h,?_⟩
  have:=hr.put (dst:=o.dst) (v:=.tup 1 (fl [.c (.bool false)])) (x:=.tuple #[.bool false]) dlt ⟨_,rfl,rfl,fun j hj=>match j,hj with|0,_=>rfl⟩
  rw [hd] at this ⊢
  exact this
end
end
section
def strC (l:List UInt8):CV:=.c (.string ⟨l.toArray⟩)
theorem ba_inj {a b:List UInt8}:((⟨a.toArray⟩:ByteArray)=⟨b.toArray⟩)↔a=b:=by
 constructor
 ·intro h
  have:=congrArg (fun x:ByteArray=>x.data.toList) h
  simpa using this
 ·rintro rfl;rfl
theorem ba_list (s:ByteArray):∃ l:List UInt8,s=⟨l.toArray⟩:=⟨s.data.toList,by cases s;simp⟩
theorem ba_toList (a:List UInt8):(⟨a.toArray⟩:ByteArray).toList=a:=by rw [Go.ByteArray.toList_eq]
theorem ba_app (l r:List UInt8):(⟨l.toArray⟩++⟨r.toArray⟩:ByteArray)=⟨(l++r).toArray⟩:=by
 apply ByteArray.ext
 simp
theorem ba_ext (l:List UInt8) (i j:Nat):(⟨l.toArray⟩:ByteArray).extract i j=⟨((l.take j).drop i).toArray⟩:=by
 apply ByteArray.ext
 simp [List.drop_take]
section
variable {P:Program} {G:Gh} {ops:Array Oper} {o:Oper} {s:AS} {r:List Oper} {K:AS→Prop} {t u:TypeId} {x y:Operand} {env:List (Nat×CV)} {b0:Nat→CV} {H:List (Option Nat×Res)} {k:IntKind} {a b:List UInt8}
theorem rd_eqL (ho:o.op=.binOp .eql t x y u) (hx:s.eval x=strC a) (hy:s.eval y=strC b):ARd P G o s (.c (.bool (decide (a=b)))):=by
 have:=rd_eqS (P:=P) (G:=G) ho hx hy
 rwa [show decide ((⟨a.toArray⟩:ByteArray)=⟨b.toArray⟩)=decide (a=b) from decide_eq_decide.2 ba_inj] at this
theorem rd_neL (ho:o.op=.binOp .neq t x y u) (hx:s.eval x=strC a) (hy:s.eval y=strC b):ARd P G o s (.c (.bool (decide (a≠b)))):=by
 have:=rd_neS (P:=P) (G:=G) ho hx hy
 rwa [show decide ((⟨a.toArray⟩:ByteArray)≠⟨b.toArray⟩)=decide (a≠b) from decide_eq_decide.2 (not_congr ba_inj)] at this
theorem rd_ltL (ho:o.op=.binOp .lss t x y u) (hx:s.eval x=strC a) (hy:s.eval y=strC b):ARd P G o s (.c (.bool (Op.bytesLess a b))):=by
 have:=rd_ltS (P:=P) (G:=G) ho hx hy
 rwa [ba_toList,ba_toList] at this
theorem rd_gtL (ho:o.op=.binOp .gtr t x y u) (hx:s.eval x=strC a) (hy:s.eval y=strC b):ARd P G o s (.c (.bool (!(Op.bytesLess a b || a == b)))):=by
 have:=rd_gtS (P:=P) (G:=G) ho hx hy
 rwa [ba_toList,ba_toList] at this
theorem rd_addL (ho:o.op=.binOp .add t x y u) (hx:s.eval x=strC a) (hy:s.eval y=strC b) (hl:a.length+b.length≤9223372036854775807):ARd P G o s (strC (a++b)):=by
 have:=rd_addS (P:=P) (G:=G) ho hx hy hl
 rwa [ba_app] at this
theorem rd_indexL {i:Nat} {z:Int} (ho:o.op=.index t x y) (hx:s.eval x=strC a) (hy:s.eval y=.c (.int k z)) (h1:P.underlying t=some .string) (hz:z=(i:Int)) (hi:i<a.length):ARd P G o s (byF a i) :=
 rd_indexS (l:=⟨a.toArray⟩) ho hx hy h1 hz hi
theorem rd_lenL (ho:o.op=.call ⟨.builtin .len,#[x],#[t]⟩) (hx:s.eval x=strC a) (h1:P.underlying t=some .string):ARd P G o s (.c (.int .i64 (a.length:Nat))):=rd_lenS ho hx h1
theorem rd_sliceL {l v:Nat} {lo hi:Option Operand} (ho:o.op=.slice t x lo hi none) (hx:s.eval x=strC a) (h1:P.underlying t=some .string)
  (hl:Bd s 0 lo l) (hu:Bd s a.length hi v) (hlv:l≤v) (hvn:v≤a.length):ARd P G o s (strC ((a.take v).drop l)):=by
 have:=rd_sliceS (P:=P) (G:=G) (b:=⟨a.toArray⟩) ho hx h1 hl hu hlv hvn
 rwa [ba_ext] at this
theorem rd_sliceLF {l:Nat} {lo:Operand} {z:Int} (ho:o.op=.slice t x (some lo) none none) (hx:s.eval x=strC a) (h1:P.underlying t=some .string) (hl:s.eval lo=.c (.int .i64 z)) (hz:z=(l:Int)) (hvn:l≤a.length):ARd P G o s (strC (a.drop l)):=by
 have:=rd_sliceL (P:=P) (G:=G) ho hx h1 (bd_some hl hz) (bd_none _ _) hvn (Nat.le_refl _)
 rwa [List.take_length] at this
theorem rd_sliceLT {v:Nat} {hi:Operand} {z:Int} (ho:o.op=.slice t x none (some hi) none) (hx:s.eval x=strC a) (h1:P.underlying t=some .string) (hl:s.eval hi=.c (.int .i64 z)) (hz:z=(v:Int)) (hvn:v≤a.length):ARd P G o s (strC (a.take v)):=by
 have:=rd_sliceL (P:=P) (G:=G) ho hx h1 (bd_none _ _) (bd_some hl hz) (Nat.zero_le _) hvn
 rwa [List.drop_zero] at this
theorem rd_convBL {e:TypeId} (ho:o.op=.convert t u x) (hx:s.eval x=bsC a) (h1:P.underlying t=some (.slice e)) (h2:P.underlying e=some (.int .u8)) (h3:P.underlying u=some .string):ARd P G o s (strC a):=rd_convBS ho hx h1 h2 h3
theorem e_convLB {e:TypeId} {d:Nat} (ho:o.op=.convert t u x) (hx:(⟨env,b0,H⟩:AS).eval x=strC a) (h1:P.underlying t=some .string) (h2:P.underlying u=some (.slice e)) (h3:P.underlying e=some (.int .u8)) (hl:a.length≤9223372036854775807) (hd:o.dst=some d) (hN:Nat.blt d G.N=true)
  (hK:K ⟨(d,bsC a)::env,b0,H⟩):AEx P G o ⟨env,b0,H⟩ K:=by
 refine e_convSB ho hx h1 h2 h3 hl hd hN ?_
 simpa using hK
end
theorem CEnt.errN {m n:Nat} (h:n=m):CEnt (.err m) (.err n):=by subst h;exact cZ
theorem CEnt.strL {a b:List UInt8} (h:a=b):CEnt (strC a) (strC b):=by subst h;exact cZ
end
section
section
variable {P:Program} {G:Gh} {ops:Array Oper} {o:Oper} {s:AS} {r:List Oper} {K:AS→Prop} {t u:TypeId} {x y:Operand} {env:List (Nat×CV)} {b0:Nat→CV} {H:List (Option Nat×Res)}
end
end
section
def recOP (r:Loop):OP where
 p al St w g F:=(∀ b,F b↔b=g)∧w.heap[g]?=some (.loop r)
 st:=fun he hs hF ⟨h1,h2⟩=>⟨h1,(hF _ ((h1 _).2 rfl)).trans h2⟩
structure RdC where
 N:Nat
 env:List (Nat×CV)
 b:Nat→CV
 ps:Array Tmp
 assign:Code
 body:Code
def mkRec (fn:FuncId) (tmps:Array Value) (L:RdC) (D:Nat) (sp:LoopState×Option Code):Loop:={ state:=sp.1,pending:=sp.2,fn,tmps,params:=L.ps,assign:=L.assign,body:=L.body,defers:=D }
def rndOP {π:Type} (L:RdC) (sp:π→LoopState×Option Code) (HB:π→List (Option Nat×Res)) (φ:π→Prop):OP where
 p al St w g F:=∃ (x:π) (fn:FuncId) (tmps:Array Value) (D:Nat),φ x∧tmps.size=L.N∧(∀ d,RepC al St w (look L.env L.b d) (tmps.getD d undef))∧∃ fp,Foot al St w F (HB x++[(some g,.obj (recOP (mkRec fn tmps L D (sp x))))]) fp
 st:=fun he hs hF ⟨x,fn,tmps,D,h1,h2,h3,fp,h⟩=>⟨x,fn,tmps,D,h1,h2,fun d=>RepC.evo he hs _ _ (h3 d),fp,fun i g r hi=>Res.rep_evo he hs (fun b hb=>hF b ((h.all b).2 ⟨i,hb⟩)) (h.rep i g r hi),h.dis,h.out,h.all⟩

def ACY (gs:List Nat) (P:Program) (l:Nat) (H:List (Option Nat×Res)) (args:List CV) (Q:CV→List (Option Nat×Res)→Prop):Prop :=
 ∀ al w St F0 (vals:Array Value),Entry gs al St F0 H w→vals.size=args.length→(∀ i,RepC al St w (fl args i) (vals.getD i undef)) →
  YieldAt (frd none) 0 P l vals w fun e w'=>∃ v r H' St',e=.returned v∧Q r H'∧RepC al St' w' r v∧Under F0 w w'∧(∀ b,St b→St' b)∧(∀ b,St' b→St b∨w.heap.size≤b∨F0 b)∧(∀ b,St' b→b<w'.heap.size)∧HRel al St' w' w.heap.size F0 H'
def YQ (l:Nat) (J' Jx:OP):CV→List (Option Nat×Res)→Prop:=fun r H'=>(r=.c (.bool true)∧H'=[(some l,.obj J')])∨(r=.c (.bool false)∧H'=[(some l,.obj Jx)])

section
variable {P:Program} {G:Gh} {ops:Array Oper} {o:Oper} {s:AS} {K:AS→Prop} {env:List (Nat×CV)} {b0:Nat→CV} {H:List (Option Nat×Res)} {R:Exit→AS→Prop}

def AMdI (P:Program) (G:Gh) (o:Oper) (s:AS) (K:AS→Prop):Prop:=∀ a w,Rel G s a w→∀ Q,o.wpIn (frd G.rd) 0 P a w (fun a' w'=>∃ s',K s'∧Rel G s' a' w') Q
theorem seq_mdI {r:List Oper} (hw:Wanted G ops o s true) (hy:G.yl=true) (h:AMdI P G o s (fun s'=>ASeq P G ops r s' K)):ASeq P G ops (o::r) s K:=fun a w hr Q hQ=>by
 unfold wpSeq
 obtain ⟨St,hs⟩:=id hr
 rw [if_pos (hw St a w hs)]
 exact .inr ⟨hy,Oper.wpIn_mono (fun a' w' ⟨s',h1,h2⟩=>h1 a' w' h2 Q hQ) (h a w hr Q)⟩

theorem exec_yield {v:Operand} {l:Nat} {xs:Array Operand} {ats:Array TypeId} (ho:o.op=.call ⟨.value v,xs,ats⟩) (a:Act) (hv:a.eval v=.func (.yield l) #[] #[]) {w:World} {x:Next} (h:(Instr.yield l (xs.map a.eval)).run P w=.ok x w) :
  (execOp a.eval o).run P w=.ok x w:=by
 simp [execOp,ho,resolve,hv,Deferred.ofValue,invoke,h]

theorem m_callY {v:Operand} {l:Nat} {xs:Array Operand} {ats:Array TypeId} {args:List CV} {Q:CV→List (Option Nat×Res)→Prop} {i d:Nat} {x0:Option Nat×Res} (ho:o.op=.call ⟨.value v,xs,ats⟩) (hv:(⟨env,b0,H⟩:AS).eval v=.c (.func (.yield l) #[] #[])) (hi:H[i]?=some x0) (hA:ACY G.gs P l [x0] args Q) (he:SEL G ⟨env,b0,H⟩ xs.toList args) (hd:o.dst=some d) (hN:Nat.blt d G.N=true)
  (hK:∀ r H',Q r H'→∃ x r',H'=[x]∧CEnt r r'∧K ⟨(d,r')::env,b0,H.set i x⟩):AMdI P G o ⟨env,b0,H⟩ K:=fun a w ⟨St,hr⟩ Q'=>by
 obtain ⟨h1,h2⟩:=args_se he hr
 obtain ⟨fp,hp⟩:=hr.hp
 have hlt:i<H.length:=(List.getElem?_eq_some_iff.1 hi).1
 obtain ⟨g0,r0⟩:=x0
 have hent:Entry G.gs G.al St (fp i) [(g0,r0)] w:=by
  refine ⟨hr.s3,hr.sn,hr.sg,⟨fun j b=>j=0∧fp i b,fun j g r hj=>?_,fun j l b hj hl=>by omega,fun j b hj=>⟨(hp.own i b hj.2).1,(hp.own i b hj.2).2.1,.inr hj.2⟩,fun j hj b hb=>by simp at hj;omega⟩,fun b hb=>(hp.own i b hb).2.1⟩
  match j,hj with
  | 0,hj =>
   simp at hj
   obtain ⟨rfl,rfl⟩:=hj
   have e:(fun b=>(0:Nat)=0∧fp i b)=fp i:=funext fun b=>by simp
   show r0.rep G.al St w (fun b=>(0:Nat)=0∧fp i b) g0
   rw [e]
   exact hp.rep i g0 r0 hi
  | j+1,hj=>simp at hj
 obtain ⟨fn,tmps,assign,body,hy,hR⟩:=hA G.al w St _ _ hent h1 h2
 refine ⟨fun f _=>trivial,?_⟩
 rw [Oper.semAt_eq _ _ _ (by rw [ho];intro c e;cases e),exec_yield ho a (evC hr hv) hy]
 refine ⟨fun e=>(by cases e),?_⟩
 refine RoundIn.mono (F:=frd none) (n:=0) hR ?_
 rintro e w' ⟨v,r,H',St',rfl,hq,hv,hu,h3,h4,h5,h6⟩
 obtain ⟨x,r',rfl,hce,hk⟩:=hK r H' hq
 refine ⟨_,hk,St',?_⟩
 have h7:=(hr.afterH hp hlt hu h3 h4 h5 h6).put (dst:=o.dst) (v:=r') (x:=v) (by intro d' hd';rw [hd] at hd';cases hd';exact Nat.le_of_ble_eq_true hN) (hce _ _ _ _ hv)
 rw [hd] at h7 ⊢
 exact h7

def penv:List Tmp→List CV→List (Nat×CV)→List (Nat×CV)
 | p::ps,c::cs,env=>penv ps cs ((p,c)::env)
 | _,_,env=>env
theorem penv_rep {al:List Addr} {St:Nat→Prop} {w:World} {b:Nat→CV} {N:Nat}:∀ (ps:List Tmp) (cs:List CV) (vs:List Value) (env:List (Nat×CV)) (tmps:Array Value),tmps.size=N→(∀ d,RepC al St w (look env b d) (tmps.getD d undef))→ps.length=cs.length→vs.length=cs.length→(∀ p ∈ ps,p<N)→(∀ i,i<cs.length→RepC al St w (fl cs i) (vs.getD i undef)) →
  ((ps.zip vs).foldl (fun t (p,v)=>t.setIfInBounds p v) tmps).size=N∧∀ d,RepC al St w (look (penv ps cs env) b d) (((ps.zip vs).foldl (fun t (p,v)=>t.setIfInBounds p v) tmps).getD d undef)
 | [],cs,vs,env,tmps,h1,h2,_,_,_,_=>⟨by simpa using h1,by simpa [penv] using h2⟩
 | p::ps,[],vs,env,tmps,_,_,h3,_,_,_=>by simp at h3
 | p::ps,c::cs,[],env,tmps,_,_,_,h4,_,_=>by simp at h4
 | p::ps,c::cs,v::vs,env,tmps,h1,h2,h3,h4,h5,h6=>by
  simp only [List.zip_cons_cons,List.foldl_cons,penv]
  refine penv_rep ps cs vs _ _ (by simpa using h1) (fun d=>?_) (by simpa using h3) (by simpa using h4) (fun q hq=>h5 q (List.mem_cons_of_mem _ hq)) (fun i hi=>?_)
  ·by_cases hpd:p=d
   ·subst hpd
    rw [look_same]
    have h0:=h6 0 (by simp)
    have hlt:p<tmps.size:=by rw [h1];exact h5 p (List.mem_cons_self ..)
    simpa [hlt,fl] using h0
   ·rw [look_other _ _ _ hpd]
    have:=h2 d
    simpa [Array.getElem?_setIfInBounds_ne hpd] using this
  ·have:=h6 (i+1) (by simp;omega)
   simpa [fl] using this

theorem set_last {α:Type} (l:List α) (x y:α):(l++[x]).set l.length y=l++[y]:=by
 rw [List.set_append_right _ _ (Nat.le_refl _)];simp
theorem get_last {α:Type} (l:List α) (x:α):(l++[x])[l.length]?=some x:=by simp

theorem HRel.packR {al:List Addr} {St:Nat→Prop} {w:World} {base:Nat} {F0:Nat→Prop} {π:Type} {L:RdC} {sp:π→LoopState×Option Code} {HB:π→List (Option Nat×Res)} {φ:π→Prop} {l:Nat} {x:π} {fn:FuncId} {tmps:Array Value} {D:Nat} (hx:φ x) (hs:tmps.size=L.N) (he:∀ d,RepC al St w (look L.env L.b d) (tmps.getD d undef))
  (h:HRel al St w base F0 (HB x++[(some l,.obj (recOP (mkRec fn tmps L D (sp x))))])):HRel al St w base F0 [(some l,.obj (rndOP L sp HB φ))]:=by
 obtain ⟨fp,hp⟩:=h
 refine ⟨fun j b=>j=0∧∃ i,fp i b,fun j g r hj=>?_,fun i j b hi hj=>by omega,fun i b hi=>?_,fun i hi b hb=>by simp at hi;omega⟩
 ·match j,hj with
  | 0,hj =>
   simp at hj
   obtain ⟨rfl,rfl⟩:=hj
   exact ⟨x,fn,tmps,D,hx,hs,he,fp,fun i g r hi=>hp.rep i g r hi,hp.dis,hp.out,fun b=>by simp⟩
  | j+1,hj=>simp at hj
 ·obtain ⟨_,k,hk⟩:=hi
  exact hp.own k b hk

def roundR {π q:Type} (l:Nat) (R1:OP) (HB:π→List (Option Nat×Res)) (φ':π→Prop) (HX:q→List (Option Nat×Res)) (χ:Code→q→Prop):Exit→AS→Prop
 | .normal,s=>∃ x,φ' x∧(HB x).length+1≤s.H.length∧HEnt (s.H.take ((HB x).length+1)) (HB x++[(some l,.obj R1)])
 | .ret,s=>∃ x,χ .ret x∧(HX x).length+1≤s.H.length∧HEnt (s.H.take ((HX x).length+1)) (HX x++[(some l,.obj R1)])
 | .exit id,s=>∃ x,χ (.exit id) x∧(HX x).length+1≤s.H.length∧HEnt (s.H.take ((HX x).length+1)) (HX x++[(some l,.obj R1)])
 | _,_=>False
def assignR (P:Program) (G:Gh) (body:Code) (B:List (Option Nat×Res)) (l:Nat) (R0 R1:OP) (RE:Exit→AS→Prop):Exit→AS→Prop
 | .normal,s=>∃ env b,s=⟨env,b,B++[(some l,.obj R0)]⟩∧ACode P G body ⟨env,b,B++[(some l,.obj R1)]⟩ RE
 | _,_=>False

theorem RelSt.take_h {St:Nat→Prop} {a:Act} {w:World} {B:List (Option Nat×Res)} (h:RelSt G St s a w) (hl:B.length≤s.H.length) (he:HEnt (s.H.take B.length) B):RelSt G St ⟨s.env,s.b,B⟩ a w:=by
 have h1:=h.hp.pick (List.range B.length) (range_nodup _) (pickL_range _ _ hl)
 exact ⟨h.df,h.sz,h.env,h.un,h.s1,h.s2,h.s3,h1.hent he,h.sn,h.sg⟩

theorem RelSt.turnRec {St:Nat→Prop} {a:Act} {w:World} {B:List (Option Nat×Res)} {l:Nat} {r r':Loop} (h:RelSt G St ⟨env,b0,B++[(some l,.obj (recOP r))]⟩ a w) :
  w.heap[l]?=some (.loop r)∧RelSt G St ⟨env,b0,B++[(some l,.obj (recOP r'))]⟩ a (w.putObj l (.loop r')):=by
 obtain ⟨fp,hp⟩:=id h.hp
 obtain ⟨hF,hg⟩:=hp.rep B.length (some l) _ (get_last _ _)
 have hlt:l<w.heap.size:=(Array.getElem?_eq_some_iff.1 hg).1
 refine ⟨hg,?_⟩
 have:=h.turnObj (i:=B.length) (g:=l) (p:=recOP r) (p':=recOP r') (w':=w.putObj l (.loop r')) (get_last _ _) (fun F h=>h.1) (fun cur t z he=>by rw [hg] at he;cases he) rfl rfl rfl (by simp) (fun b hb=>World.putObj_heap_other hb) ⟨fun b=>Iff.rfl,World.putObj_heap_same hlt⟩
 rw [set_last] at this
 exact this

theorem round_post {π:Type} {gs:List Nat} {al:List Addr} {l:Nat} {w W:World} {F0 St0 St:Nat→Prop} {N:Nat} {L:RdC} {sp:π→LoopState×Option Code} {HB:π→List (Option Nat×Res)} {φ:π→Prop} {env0:List (Nat×CV)} {b:Nat→CV} {x:π} {a:Act} {fn:FuncId} {tmps:Array Value} {D:Nat} {jump:Option Code} {Q:CV→List (Option Nat×Res)→Prop}
  (hent:∀ b,F0 b→¬ St0 b) (h3:∀ b,St0 b→b<w.heap.size) (hx:φ x) (hs:tmps.size=L.N) (henv:∀ d,RepC al St0 w (look L.env L.b d) (tmps.getD d undef))
  (hsp:sp x=(if jump.isNone then .ready else .done,jump))
  (hr:RelSt ⟨gs,al,w,F0,St0,N,some l,false⟩ St ⟨env0,b,HB x++[(some l,.obj (recOP { mkRec fn tmps L D (.ready,none) with state:=.busy }))]⟩ a W) (hQ:Q (.c (.bool jump.isNone)) [(some l,.obj (rndOP L sp HB φ))]) :
  ∃ v w',(Instr.endRound l jump).run P W=.ok v w'∧∃ v' r H' St',Ending.returned v=.returned v'∧Q r H'∧RepC al St' w' r v'∧Under F0 w w'∧(∀ b,St0 b→St' b)∧(∀ b,St' b→St0 b∨w.heap.size≤b∨F0 b)∧(∀ b,St' b→b<w'.heap.size)∧HRel al St' w' w.heap.size F0 H':=by
 obtain ⟨hg,hr2⟩:=hr.turnRec (r':=mkRec fn tmps L D (sp x))
 refine ⟨_,_,run_endRound jump hg,.bool jump.isNone,_,_,St,rfl,hQ,rfl,?_⟩
 have e:({ { mkRec fn tmps L D (.ready,none) with state:=LoopState.busy } with state:=if jump.isNone then LoopState.ready else LoopState.done,pending:=jump }:Loop)=mkRec fn tmps L D (sp x):=by rw [hsp];rfl
 rw [e]
 have hev:Evo St0 w (W.putObj l (.loop (mkRec fn tmps L D (sp x)))):=⟨fun b cur t z hb hc=>(hr2.un.block b (h3 b hb) (fun hf=>hent b hf hb)).trans hc,hr2.un.sh⟩
 exact ⟨hr2.un,hr2.s1,hr2.s2,hr2.s3,HRel.packR hx hs (fun d=>RepC.evo hev hr2.s1 _ _ (henv d)) hr2.hp⟩

theorem acy_round {gs:List Nat} {π q:Type} {l:Nat} {L:RdC} {HB:π→List (Option Nat×Res)} {φ φ':π→Prop} {HX:q→List (Option Nat×Res)} {χ:Code→q→Prop} {args:List CV} (hn:L.ps.toList.length=args.length) (hps:∀ p ∈ L.ps.toList,p<L.N)
  (hb:∀ (al:List Addr) (w0:World) (F0 St0:Nat→Prop) (R0 R1:OP) (x:π),φ x→ACode P ⟨gs,al,w0,F0,St0,L.N,some l,false⟩ L.assign ⟨penv L.ps.toList args L.env,L.b,HB x++[(some l,.obj R0)]⟩ (assignR P ⟨gs,al,w0,F0,St0,L.N,some l,false⟩ L.body (HB x) l R0 R1 (roundR l R1 HB φ' HX χ))) :
  ACY gs P l [(some l,.obj (rndOP L (fun _=>(.ready,none)) HB φ))] args (YQ l (rndOP L (fun _=>(.ready,none)) HB φ') (rndOP L (fun x:Code×q=>(.done,some x.1)) (fun x=>HX x.2) (fun x=>χ x.1 x.2))):=by
 intro al w St F0 vals he hvs hv
 obtain ⟨fp,hp⟩:=he.hp
 obtain ⟨x,fn,tmps,D,hx,hsz,henv,fq,hf⟩:=hp.rep 0 (some l) _ rfl
 obtain ⟨hFl,hg⟩:=hf.rep (HB x).length (some l) _ (get_last _ _)
 have hlen:L.ps.size=args.length:=by simpa using hn
 have hy:=run_yield (P:=P) (args:=vals) hg (by rw [hvs];exact hlen.symm)
 refine ⟨_,_,_,_,hy,roundIn_of_wpIn trivial ?_⟩
 have hpe:=penv_rep (al:=al) (St:=St) (w:=w) (b:=L.b) (N:=L.N) L.ps.toList args vals.toList L.env tmps hsz henv hn (by simpa using hvs) hps (fun i hi=>by
  have:=hv i
  simpa using this)
 have hfold:(L.ps.toList.zip vals.toList).foldl (fun t (p,v)=>t.setIfInBounds p v) tmps=((mkRec fn tmps L D (.ready,none)).params.zip vals).foldl (fun tmps (t,a)=>tmps.setIfInBounds t a) (mkRec fn tmps L D (.ready,none)).tmps:=by
  rw [← Array.foldl_toList,Array.toList_zip]
  rfl
 rw [hfold] at hpe
 have hrel:RelSt ⟨gs,al,w,F0,St,L.N,some l,false⟩ St ⟨penv L.ps.toList args L.env,L.b,HB x++[(some l,.obj (recOP (mkRec fn tmps L D (.ready,none))))]⟩ { tmps:=((mkRec fn tmps L D (.ready,none)).params.zip vals).foldl (fun tmps (t,a)=>tmps.setIfInBounds t a) (mkRec fn tmps L D (.ready,none)).tmps,defers:=[] } w :=
  ⟨DefOk.none _ _ _,hpe.1,hpe.2,Under.refl _ _,fun _ h=>h,fun _ h=>.inl h,he.s3,⟨fq,fun i g r hi=>hf.rep i g r hi,hf.dis,fun i b hi=>hp.own 0 b ((hf.all b).2 ⟨i,hi⟩),hf.out⟩,he.sn,he.sg⟩
 refine (hb al w F0 St (recOP (mkRec fn tmps L D (.ready,none))) (recOP { mkRec fn tmps L D (.ready,none) with state:=.busy }) x hx) _ _ ⟨St,hrel⟩ _ ?_
 intro e s1 a1 w1 h1 h2
 cases e with
 | normal =>
  obtain ⟨env1,b1,rfl,hbody⟩:=h1
  obtain ⟨St1,hr1⟩:=h2
  obtain ⟨hg1,hr2⟩:=hr1.turnRec (r':={ mkRec fn tmps L D (.ready,none) with state:=.busy })
  refine ⟨_,run_beginRound hg1 rfl,hbody a1 _ ⟨St1,hr2⟩ _ ?_⟩
  intro e s2 a2 w2 h3 ⟨St2,hr3⟩
  cases e with
  | normal =>
   obtain ⟨x',hx',hl',hh'⟩:=h3
   have hr4:=hr3.take_h (B:=HB x'++[(some l,.obj (recOP { mkRec fn tmps L D (.ready,none) with state:=.busy }))]) (by simpa using hl') (by simpa using hh')
   exact round_post (jump:=none) he.f0 he.s3 hx' hsz henv rfl hr4 (.inl ⟨rfl,rfl⟩)
  | ret =>
   obtain ⟨x',hx',hl',hh'⟩:=h3
   have hr4:=hr3.take_h (B:=HX x'++[(some l,.obj (recOP { mkRec fn tmps L D (.ready,none) with state:=.busy }))]) (by simpa using hl') (by simpa using hh')
   exact round_post (x:=(Code.ret,x')) (HB:=fun x:Code×q=>HX x.2) (φ:=fun x=>χ x.1 x.2) (sp:=fun x:Code×q=>(.done,some x.1)) (jump:=some .ret) he.f0 he.s3 hx' hsz henv rfl hr4 (.inr ⟨rfl,rfl⟩)
  | exit id =>
   obtain ⟨x',hx',hl',hh'⟩:=h3
   have hr4:=hr3.take_h (B:=HX x'++[(some l,.obj (recOP { mkRec fn tmps L D (.ready,none) with state:=.busy }))]) (by simpa using hl') (by simpa using hh')
   exact round_post (x:=(Code.exit id,x')) (HB:=fun x:Code×q=>HX x.2) (φ:=fun x=>χ x.1 x.2) (sp:=fun x:Code×q=>(.done,some x.1)) (jump:=some (.exit id)) he.f0 he.s3 hx' hsz henv rfl hr4 (.inr ⟨rfl,rfl⟩)
  | _=>exact h3.elim
 | _=>exact h1.elim
end
end
section
section
variable {P:Program} {G:Gh} {s:AS} {R:Exit→AS→Prop}

def IterC (gs:List Nat) (P:Program) (f:FuncId) (HI:List (Option Nat×Res)) (capt:List CV) (m:Nat) (E:Nat→List CV):Prop :=
 ∀ (l:Nat) (J:Nat→OP) (Jx:OP),(∀ k,k<m→ACY gs P l [(some l,.obj (J k))] (E k) (YQ l (J (k+1)) Jx)) →
  AC gs P f (HI++[(some l,.obj (J 0))]) (.c (.func (.yield l) #[] #[])::capt) fun _ H'=>H'=[(some l,.obj (J m))]∨H'=[(some l,.obj Jx)]

theorem code_range {fi n:Nat} {fv:Nat→CV} {g:Operand} {ps:Array Tmp} {assign body:Code} {π q:Type} (m:Nat) (E:Nat→List CV) (HI:List (Option Nat×Res)) (HB:π→List (Option Nat×Res)) (φ:Nat→π→Prop) (HX:q→List (Option Nat×Res)) (χ:Code→q→Prop) (p0:π) (li:List Nat)
  (hrd:G.rd=none) (hg:s.eval g=.fn fi n fv) (hc:calleeB P fi=true) (hit:IterC G.gs P fi HI ((List.range n).map fv) m E) (h0:φ 0 p0) (hnd:li.Nodup) (hpick:pickL s.H li=HI++HB p0)
  (hps:∀ k,k<m→ps.toList.length=(E k).length) (hpN:(ps.toList.all fun p=>Nat.blt p G.N)=true)
  (hround:∀ k,k<m→∀ (l:Nat) (al:List Addr) (w0:World) (F0 St0:Nat→Prop) (R0 R1:OP) (x:π),φ k x→ACode P ⟨G.gs,al,w0,F0,St0,G.N,some l,false⟩ assign ⟨penv ps.toList (E k) s.env,s.b,HB x++[(some l,.obj R0)]⟩ (assignR P ⟨G.gs,al,w0,F0,St0,G.N,some l,false⟩ body (HB x) l R0 R1 (roundR l R1 HB (φ (k+1)) HX χ)))
  (hdone:∀ x,φ m x→R .normal ⟨s.env,s.b,HB x⟩) (hjump:∀ c x,χ c x→(c=.ret∧R .ret ⟨s.env,s.b,HX x⟩)∨∃ id,c=.exit id∧R (.exit id) ⟨s.env,s.b,HX x⟩):ACode P G (.rangeFunc g ps assign body) s R:=fun a w ⟨St,hr⟩ Q hQ=>by
 obtain ⟨cs,hcs,hcn,hfv⟩:=evR hr hg
 rw [hrd]
 refine wpIn_rangeFunc fun fn _=>?_
 obtain ⟨L,hL⟩:∃ L:RdC,L=⟨G.N,s.env,s.b,ps,assign,body⟩:=⟨_,rfl⟩
 obtain ⟨w1,hw1⟩:∃ w1,w1=(w.alloc (.deferred (some []))).alloc (.loop (mkRec fn a.tmps L w.heap.size (.ready,none))):=⟨_,rfl⟩
 have hb1:Below w.heap.size w w1:=by rw [hw1];exact ((Below.refl _ w).alloc (Nat.le_refl _) _).alloc (by simp) _
 have hsz1:w1.heap.size=w.heap.size+2:=by rw [hw1];simp
 have hL1:w1.heap[w.heap.size+1]?=some (.loop (mkRec fn a.tmps L w.heap.size (.ready,none))):=by
  rw [hw1];have:=World.alloc_heap_new (w.alloc (.deferred (some []))) (.loop (mkRec fn a.tmps L w.heap.size (.ready,none)));rwa [World.size_alloc] at this
 have hD1:w1.heap[w.heap.size]?=some (.deferred (some [])):=by
  rw [hw1];exact (Below.heap_alloc _ _ _ (by simp)).trans (World.alloc_heap_new w _)
 -- the blocks that are handed over
 obtain ⟨fp,hp⟩:=hr.hp.pick li hnd hpick
 have hev1:Evo St w w1:=Evo.of_below hb1 hr.s3
 let l:=w.heap.size+1
 let D:=w.heap.size
 let St1:Nat→Prop:=fun b=>St b∨b=D
 let F1:Nat→Prop:=fun b=>(∃ i,fp i b)∨b=l
 have hfl:∀ i b,fp i b→b<D:=fun i b hi=>(hp.own i b hi).1
 have hst1:∀ b,St b→St1 b:=fun _ h=>.inl h
 have hrep:∀ (i:Nat) (g:Option Nat) (r:Res),(HI++HB p0)[i]?=some (g,r)→r.rep G.al St1 w1 (fp i) g:=fun i g r hi=>Res.rep_evo hev1 hst1 (fun b hF=>hb1.block b (hp.own i b hF).1) (hp.rep i g r hi)
 have hrec:Res.rep G.al St1 w1 (fun b=>b=l) (some l) (.obj (recOP (mkRec fn a.tmps L D (.ready,none)))):=⟨fun b=>Iff.rfl,hL1⟩
 have henv1:∀ d,RepC G.al St1 w1 (look s.env s.b d) (a.tmps.getD d undef):=fun d=>RepC.evo hev1 hst1 _ _ (hr.env d)
 have hent:Entry G.gs G.al St1 F1 (HI++[(some l,.obj (rndOP L (fun _=>(.ready,none)) HB (φ 0)))]) w1:=by
  refine ⟨fun b hb=>?_,(hr.ext hb1).sn,⟨fun g hg=>.inl (hr.sg.1 g hg),fun x hx=>.inl (hr.sg.2 x hx)⟩,⟨fun i b=>(i<HI.length∧fp i b)∨(i=HI.length∧(b=l∨∃ j,HI.length≤j∧fp j b)),fun i g r hi=>?_,fun i j b hi hj=>?_,fun i b hi=>?_,fun i hi b hb=>?_⟩,fun b hb=>?_⟩
  ·rcases hb with hb|rfl
   ·exact Nat.lt_of_lt_of_le (hr.s3 b hb) hb1.size
   ·show w.heap.size<_;omega
  ·by_cases h1:i<HI.length
   ·rw [List.getElem?_append_left h1] at hi
    have e:(fun b=>(i<HI.length∧fp i b)∨(i=HI.length∧(b=l∨∃ j,HI.length≤j∧fp j b)))=fp i:=funext fun b=>propext ⟨fun h=>h.elim (fun h=>h.2) (fun h=>by omega),fun h=>.inl ⟨h1,h⟩⟩
    show r.rep G.al St1 w1 (fun b=>(i<HI.length∧fp i b)∨(i=HI.length∧(b=l∨∃ j,HI.length≤j∧fp j b))) g
    rw [e]
    exact hrep i g r (by rw [List.getElem?_append_left h1];exact hi)
   ·have h2:i=HI.length:=by
     have:=(List.getElem?_eq_some_iff.1 hi).1
     simp at this
     omega
    subst h2
    simp at hi
    obtain ⟨rfl,rfl⟩:=hi
    refine ⟨p0,fn,a.tmps,D,h0,by rw [hL];exact hr.sz,by rw [hL];exact henv1,fun j b=>if j<(HB p0).length then fp (HI.length+j) b else j=(HB p0).length∧b=l,fun j g r hj=>?_,fun i j b hi hj=>?_,fun j hj b hb=>?_,fun b=>⟨fun hb=>?_,fun ⟨j,hj⟩=>?_⟩⟩
    ·by_cases h3:j<(HB p0).length
     ·rw [List.getElem?_append_left h3] at hj
      simp only [h3,if_true]
      exact hrep _ g r (by rw [List.getElem?_append_right (by omega),Nat.add_sub_cancel_left];exact hj)
     ·have h4:j=(HB p0).length:=by
       have:=(List.getElem?_eq_some_iff.1 hj).1
       simp at this
       omega
      subst h4
      simp at hj
      obtain ⟨rfl,rfl⟩:=hj
      have e:(fun b=>if (HB p0).length<(HB p0).length then fp (HI.length+(HB p0).length) b else (HB p0).length=(HB p0).length∧b=l)=fun b=>b=l:=funext fun b=>by simp
      show Res.rep G.al St1 w1 (fun b=>if (HB p0).length<(HB p0).length then fp (HI.length+(HB p0).length) b else (HB p0).length=(HB p0).length∧b=l) _ _
      rw [e]
      exact hrec
    ·by_cases h3:i<(HB p0).length <;> by_cases h4:j<(HB p0).length <;> simp only [h3,h4,if_true,if_false] at hi hj
     ·have:=hp.dis _ _ b hi hj;omega
     ·have:=hfl _ b hi;obtain ⟨_,rfl⟩:=hj;simp only [l,D] at this;omega
     ·have:=hfl _ b hj;obtain ⟨_,rfl⟩:=hi;simp only [l,D] at this;omega
     ·omega
    ·have h3:¬ j<(HB p0).length:=by simp at hj;omega
     simp only [h3,if_false] at hb
     simp at hj;omega
    ·rcases hb with ⟨h5,_⟩|⟨_,rfl|⟨j,hj,hF⟩⟩
     ·omega
     ·exact ⟨(HB p0).length,by simp⟩
     ·refine ⟨j-HI.length,?_⟩
      have h5:j<(HI++HB p0).length:=hp.len hF
      rw [if_pos (by simp at h5;omega),show HI.length+(j-HI.length)=j by omega]
      exact hF
    ·by_cases h3:j<(HB p0).length
     ·simp only [h3,if_true] at hj
      exact .inr ⟨rfl,.inr ⟨_,by omega,hj⟩⟩
     ·simp only [h3,if_false] at hj
      exact .inr ⟨rfl,.inl hj.2⟩
  ·rcases hi with ⟨h1,h2⟩|⟨h1,h2⟩ <;> rcases hj with ⟨h3,h4⟩|⟨h3,h4⟩
   ·exact hp.dis i j b h2 h4
   ·rcases h4 with rfl|⟨k,hk,h4⟩
    ·have:=hfl _ _ h2;simp only [l,D] at this;omega
    ·have:=hp.dis _ _ b h2 h4;omega
   ·rcases h2 with rfl|⟨k,hk,h2⟩
    ·have:=hfl _ _ h4;simp only [l,D] at this;omega
    ·have:=hp.dis _ _ b h2 h4;omega
   ·omega
  ·have hb:b=l∨∃ j,fp j b:=by
    rcases hi with ⟨_,h2⟩|⟨_,h2|⟨j,_,h2⟩⟩
    ·exact .inr ⟨_,h2⟩
    ·exact .inl h2
    ·exact .inr ⟨j,h2⟩
   rcases hb with rfl|⟨j,hj⟩
   ·refine ⟨by simp only [l];omega,fun hs=>?_,.inr (.inr rfl)⟩
    rcases hs with hs|hs
    ·have:=hr.s3 _ hs;simp only [l] at this;omega
    ·simp only [l,D] at hs;omega
   ·obtain ⟨k1,k2,k3⟩:=hp.own j b hj
    refine ⟨by omega,fun hs=>?_,.inr (.inl ⟨j,hj⟩)⟩
    rcases hs with hs|hs
    ·exact k2 hs
    ·simp only [D] at hs;omega
  ·simp at hi
   rcases hb with ⟨h1,_⟩|⟨h1,_⟩ <;> omega
  ·intro hs
   rcases hb with ⟨j,hj⟩|rfl
   ·obtain ⟨k1,k2,k3⟩:=hp.own j b hj
    rcases hs with hs|hs
    ·exact k2 hs
    ·simp only [D] at hs;omega
   ·rcases hs with hs|hs
    ·have:=hr.s3 _ hs;simp only [l] at this;omega
    ·simp only [l,D] at hs;omega
 have hround':∀ k,k<m→ACY G.gs P l [(some l,.obj (rndOP L (fun _=>(.ready,none)) HB (φ k)))] (E k) (YQ l (rndOP L (fun _=>(.ready,none)) HB (φ (k+1))) (rndOP L (fun x:Code×q=>(.done,some x.1)) (fun x=>HX x.2) (fun x=>χ x.1 x.2))):=fun k hk=>by
  refine acy_round (by rw [hL];exact hps k hk) (fun p hp=>?_) (fun al w0 F0 St0 R0 R1 x hx=>?_)
  ·rw [hL] at hp ⊢
   exact Nat.le_of_ble_eq_true (List.all_eq_true.1 hpN p hp)
  ·rw [hL]
   exact hround k hk l al w0 F0 St0 R0 R1 x hx
 have hA:=hit l (fun k=>rndOP L (fun _=>(.ready,none)) HB (φ k)) _ hround'
 have hvals:(#[.func (.yield l) #[] #[]]++cs:Array Value).size=(.c (.func (.yield l) #[] #[])::(List.range n).map fv:List CV).length:=by simp [hcn];omega
 have hcall:=hA G.al w1 St1 F1 (#[.func (.yield l) #[] #[]]++cs) hent hvals (fun i=>by
  cases i with
  | zero =>
   show (#[Value.func (.yield l) #[] #[]]++cs).getD 0 undef=_
   rw [Array.getD_eq_getD_getElem?,Array.getElem?_append_left (by simp)]
   rfl
  | succ i =>
   rw [fl,fl_get]
   by_cases hi:i<n
   ·have:=RepC.evo hev1 hst1 _ _ (hfv i hi)
    simp only [List.getD,List.getElem?_map,List.getElem?_range hi,Option.map_some,Option.getD_some,Array.getD_eq_getD_getElem?]
    rw [Array.getElem?_append_right (by simp)]
    simpa [Array.getD_eq_getD_getElem?] using this
   ·simp only [List.getD,List.getElem?_eq_none (show ((List.range n).map fv).length≤i by simp;omega),Option.getD_none]
    trivial)
 have e0:[({ target:=.collected w.heap.size,args:=#[] }:Deferred)]++a.defers=markD D::a.defers:=rfl
 refine ⟨l,[{ target:=.collected w.heap.size,args:=#[] }],w1,{ target:=.fn (.func fi) cs,args:=#[.func (.yield l) #[] #[]] },w1,fi,#[.func (.yield l) #[] #[]]++cs,w1,?_,?_,fun _ _=>trivial,?_,fun h=>(by cases h),?_⟩
 ·rw [hw1]
  have:=run_enterLoop_outer (P:=P) (w:=w) fn a.tmps ps assign body
  rw [hL]
  exact this
 ·simp only [resolve,hcs]
  simp [go_sem]
 ·have:=run_enter hc (#[.func (.yield l) #[] #[]]++cs) w1
  simp [invoke,go_sem,this]
 ·refine CallsIn.mono (callsIn_frd.2 hcall) ?_
  rintro e w3 ⟨v,r',H',St',rfl,hq,_,hu,h3,h4,h5,h6⟩
  -- the loop's end,whichever
  have key:∀ {γ:Type} {sp:γ→LoopState×Option Code} {HC:γ→List (Option Nat×Res)} {ψ:γ→Prop},H'=[(some l,.obj (rndOP L sp HC ψ))]→(∀ x,(sp x).1≠.busy)→∃ x:γ,ψ x∧∃ w4,(Instr.endLoop l).run P w3=.ok (sp x).2 w4∧Rel G ⟨s.env,s.b,HC x⟩ { a with defers:=[{ target:=.collected w.heap.size,args:=#[] }]++a.defers } w4:=by
   intro γ sp HC ψ hH hbusy
   subst hH
   obtain ⟨fz,hz⟩:=h6
   obtain ⟨x,fn',tmps',D',hx,_,_,fq,hf⟩:=hz.rep 0 (some l) _ rfl
   obtain ⟨hFl,hgl⟩:=hf.rep (HC x).length (some l) _ (get_last _ _)
   have hlt:l<w3.heap.size:=(Array.getElem?_eq_some_iff.1 hgl).1
   refine ⟨x,hx,_,run_endLoop hgl (hbusy x),St',?_⟩
   obtain ⟨w4,hw4⟩:∃ w4,w4=w3.putObj l (.loop { mkRec fn' tmps' L D' (sp x) with state:=.exhausted }):=⟨_,rfl⟩
   rw [← hw4]
   have hold:∀ b,b≠l→w4.heap[b]?=w3.heap[b]?:=fun b hb=>by rw [hw4];exact World.putObj_heap_other hb
   have hs4:w4.heap.size=w3.heap.size:=by rw [hw4];simp
   have hf0:∀ b,F1 b→¬ St1 b:=hent.f0
   have hnl:∀ b,St1 b→b≠l:=fun b hb e=>hf0 b (.inr e) hb
   have hkeep:∀ b,St1 b→w4.heap[b]?=w1.heap[b]?:=fun b hb=>(hold b (hnl b hb)).trans (hu.block b (hent.s3 b hb) (fun hF=>hf0 b hF hb))
   have hkeep0:∀ b,St b→w4.heap[b]?=w.heap[b]?:=fun b hb=>(hkeep b (.inl hb)).trans (hb1.block b (hr.s3 b hb))
   have hnc:∀ cur t z,w3.heap[l]?≠some (.cells cur t z):=fun cur t z e=>by rw [hgl] at e;cases e
   have hev:Evo St w w4:=⟨fun b cur t z hb hc=>(hkeep0 b hb).trans hc,fun b cur t z hc=>by
    obtain ⟨c1,z1,k1,k2⟩:=hev1.sh b cur t z hc
    obtain ⟨c2,z2,k3,k4⟩:=hu.sh b c1 t z1 k1
    refine ⟨c2,z2,(hold b (fun e=>?_)).trans k3,k4.trans k2⟩
    rw [e] at k3
    exact hnc _ _ _ k3⟩
   have hev3:Evo St' w3 w4:=⟨fun b cur t z hb hc=>(hold b (fun e=>by rw [e] at hc;exact hnc _ _ _ hc)).trans hc,fun b cur t z hc=>⟨cur,z,(hold b (fun e=>by rw [e] at hc;exact hnc _ _ _ hc)).trans hc,rfl⟩⟩
   refine ⟨?_,hr.sz,fun d=>RepC.evo hev (fun b hb=>h3 b (.inl hb)) _ _ (hr.env d),⟨?_,?_,?_,?_,fun k hk hF=>?_,fun b cur t z hc=>?_⟩,fun b hb=>h3 b (.inl (hr.s1 b hb)),fun b hb=>?_,fun b hb=>by rw [hs4];exact h5 b hb,⟨fun j b=>j<(HC x).length∧fq j b,fun j g r hj=>?_,fun i j b hi hj=>hf.dis i j b hi.2 hj.2,fun j b hj=>?_,fun j hj b hb=>?_⟩,?_,⟨fun g hg=>h3 g (.inl (hr.sg.1 g hg)),fun y hy=>h3 _ (.inl (hr.sg.2 y hy))⟩⟩
   ·obtain ⟨Ds,k1,k2,k3⟩:=hr.df
    refine ⟨D::Ds,by rw [e0,k1];rfl,List.nodup_cons.2 ⟨fun hm=>?_,k2⟩,fun E hE=>?_⟩
    ·have:=(Array.getElem?_eq_some_iff.1 (k3 D hm).1.2).1
     simp only [D] at this
     omega
    ·rcases List.mem_cons.1 hE with rfl|hE
     ·refine ⟨⟨h3 _ (.inr rfl),(hkeep _ (.inr rfl)).trans hD1⟩,hr.un.size,fun hm=>?_,fun y hy e=>?_⟩
      ·have:=hr.sn.lt _ hm;simp only [D] at this;omega
      ·have:=hr.s3 _ (hr.sg.2 y hy);simp only [e,D] at this;omega
     ·obtain ⟨⟨k4,k5⟩,k6⟩:=k3 E hE
      exact ⟨⟨h3 _ (.inl k4),(hkeep0 E k4).trans k5⟩,k6⟩
   ·rw [hw4];exact (hu.os.trans hb1.os).trans hr.un.os
   ·rw [hw4];exact (hu.tape.trans hb1.tape).trans hr.un.tape
   ·rw [hw4];exact (hu.output.trans hb1.output).trans hr.un.output
   ·rw [hs4];exact Nat.le_trans hr.un.size (Nat.le_trans hb1.size hu.size)
   ·have hkw:k<w.heap.size:=Nat.lt_of_lt_of_le hk hr.un.size
    refine (hold k (by simp only [l];omega)).trans ((hu.block k (by omega) (fun hF1=>?_)).trans ((hb1.block k hkw).trans (hr.un.block k hk hF)))
    rcases hF1 with ⟨i,hi⟩|e
    ·rcases (hp.own i k hi).2.2 with k1|k1
     ·omega
     ·exact hF k1
    ·simp only [l] at e;omega
   ·obtain ⟨c1,z1,k1,k2⟩:=hr.un.sh b cur t z hc
    obtain ⟨c2,z2,k3,k4⟩:=hev.sh b c1 t z1 k1
    exact ⟨c2,z2,k3,k4.trans k2⟩
   ·rcases h4 b hb with (hb|hb)|hb|hb
    ·exact hr.s2 b hb
    ·exact .inr (.inl (by simp only [D] at hb;have:=hr.un.size;omega))
    ·exact .inr (.inl (Nat.le_trans hr.un.size (by omega)))
    ·rcases hb with ⟨i,hi⟩|hb
     ·exact .inr (hp.own i b hi).2.2
     ·exact .inr (.inl (by simp only [l] at hb;have:=hr.un.size;omega))
   ·have hlt2:j<(HC x).length:=(List.getElem?_eq_some_iff.1 hj).1
    have e:(fun b=>j<(HC x).length∧fq j b)=fq j:=funext fun b=>propext ⟨fun h=>h.2,fun h=>⟨hlt2,h⟩⟩
    show r.rep G.al St' w4 (fun b=>j<(HC x).length∧fq j b) g
    rw [e]
    refine Res.rep_evo hev3 (fun _ h=>h) (fun b hF=>hold b (fun eb=>?_)) (hf.rep j g r (by rw [List.getElem?_append_left hlt2];exact hj))
    have:=hf.dis j (HC x).length b hF ((hFl b).2 eb)
    omega
   ·obtain ⟨k1,k2,k3⟩:=hz.own 0 b ((hf.all b).2 ⟨j,hj.2⟩)
    refine ⟨by omega,k2,?_⟩
    rcases k3 with k3|⟨i,hi⟩|k3
    ·exact .inl (Nat.le_trans hr.un.size (by omega))
    ·exact (hp.own i b hi).2.2
    ·exact .inl (by simp only [l] at k3;have:=hr.un.size;omega)
   ·have hj:(HC x).length≤j:=hj
    exact absurd hb.1 (by omega)
   ·exact SentL.keep hr.sn (fun g hg=>hkeep0 g (hr.sg.1 g hg)) (fun y hy=>hkeep0 _ (hr.sg.2 y hy))
  rcases hq with hq|hq
  ·obtain ⟨x,hx,w4,hend,hrel⟩:=key hq (fun _=>by simp)
   exact ⟨none,w4,hend,hQ .normal _ _ _ (hdone x hx) hrel⟩
  ·obtain ⟨x,hx,w4,hend,hrel⟩:=key hq (fun _=>by simp)
   refine ⟨some x.1,w4,hend,?_⟩
   rcases hjump _ _ hx with ⟨hc1,hR⟩|⟨id,hc1,hR⟩
   ·show Code.wpIn _ _ _ x.1 _ _ _
    rw [hc1]
    exact wpIn_ret (hQ .ret _ _ _ hR hrel)
   ·show Code.wpIn _ _ _ x.1 _ _ _
    rw [hc1]
    exact wpIn_exit (hQ (.exit id) _ _ _ hR hrel)
theorem assign_norm {body:Code} {B:List (Option Nat×Res)} {l:Nat} {R0 R1:OP} {RE:Exit→AS→Prop} {env:List (Nat×CV)} {b:Nat→CV} (h:ACode P G body ⟨env,b,B++[(some l,.obj R1)]⟩ RE):assignR P G body B l R0 R1 RE .normal ⟨env,b,B++[(some l,.obj R0)]⟩:=⟨_,_,rfl,h⟩
theorem round_norm {π q:Type} {l:Nat} {R1:OP} {HB:π→List (Option Nat×Res)} {φ':π→Prop} {HX:q→List (Option Nat×Res)} {χ:Code→q→Prop} (x:π) (h1:φ' x) (h2:Nat.ble ((HB x).length+1) s.H.length=true) (h3:HEnt (s.H.take ((HB x).length+1)) (HB x++[(some l,.obj R1)])):roundR l R1 HB φ' HX χ .normal s:=⟨x,h1,Nat.le_of_ble_eq_true h2,h3⟩
theorem round_ret {π q:Type} {l:Nat} {R1:OP} {HB:π→List (Option Nat×Res)} {φ':π→Prop} {HX:q→List (Option Nat×Res)} {χ:Code→q→Prop} (x:q) (h1:χ .ret x) (h2:Nat.ble ((HX x).length+1) s.H.length=true) (h3:HEnt (s.H.take ((HX x).length+1)) (HX x++[(some l,.obj R1)])):roundR l R1 HB φ' HX χ .ret s:=⟨x,h1,Nat.le_of_ble_eq_true h2,h3⟩
theorem rd_convB1 {o:Oper} {t u e:TypeId} {x:Operand} {i n N:Nat} {g:Option Nat} {L:List UInt8} (ho:o.op=.convert t u x) (hx:s.eval x=.os i g 0 n 1) (hH:Holds s i g N (byF L)) (hn:n=L.length) (hN:n≤N) (h1:P.underlying t=some (.slice e)) (h2:P.underlying e=some (.int .u8)) (h3:P.underlying u=some .string):ARdO P G o s (strC L) :=
 rd_convBO L ho hx hH hn (by omega) (fun a _=>by rw [Nat.zero_add];exact cZ) h1 h2 h3
end
end
section
def firstI {α:Type} (p:α→Bool):List α→Int
 | []=>-1
 | x::l=>if p x=true then 0 else if firstI p l<0 then -1 else firstI p l+1
theorem firstI_bd {α:Type} (p:α→Bool):∀ l:List α,-1≤firstI p l∧firstI p l<l.length
 | []=>by simp [firstI]
 | x::l=>by
  have:=firstI_bd p l
  rw [firstI]
  rw [List.length_cons]
  split
  ·omega
  split <;> omega
theorem firstI_neg {α:Type} {p:α→Bool}:∀ {l:List α},firstI p l<0↔l.all (fun x=>!p x)=true
 | []=>by simp [firstI]
 | x::l=>by
  have ih:=@firstI_neg α p l
  have:=firstI_bd p l
  rw [firstI,List.all_cons]
  by_cases h:p x=true
  ·simp [h]
  ·rw [if_neg h]
   have hx:(!p x)=true:=by simpa using h
   rw [hx,Bool.true_and,← ih]
   split <;> omega
theorem firstI_none {α:Type} {p:α→Bool} {l:List α} (h:∀ i (hi:i<l.length),p l[i]=false):firstI p l=-1:=by
 have h1:firstI p l<0:=firstI_neg.2 (List.all_eq_true.2 fun x hx=>by
  obtain ⟨i,hi,rfl⟩:=List.getElem_of_mem hx
  simp [h i hi])
 have:=firstI_bd p l
 omega
theorem firstI_at {α:Type} {p:α→Bool}:∀ {l:List α} (i:Nat) (hi:i<l.length),p l[i]=true→(∀ j (hj:j<i),p (l[j]'(by omega))=false)→firstI p l=(i:Nat)
 | [],i,hi,_,_=>by simp at hi
 | x::l,0,hi,h,_=>by simp at h;simp [firstI,h]
 | x::l,i+1,hi,h,hb=>by
  have h0:p x=false:=by simpa using hb 0 (by omega)
  have ih:=@firstI_at α p l i (by simpa using hi) (by simpa using h) (fun j hj=>by simpa using hb (j+1) (by omega))
  rw [firstI,if_neg (by simp [h0]),ih,if_neg (by omega)]
  omega
theorem entL_refl:∀ l:List CV,EntL l l
 | []=>.nil
 | c::l=>.cons (CEnt.refl c) (entL_refl l)
theorem entL_fn {c d:CV} (h:CEnt c d) (l:List CV):EntL ([c]++l) (d::l):=.cons h (entL_refl l)
theorem CEnt.fn0 {g:FuncId} {f:Nat→CV}:CEnt (.c (.func (.func g) #[] #[])) (.fn g 0 f):=fun al St w v h=>⟨#[],h,rfl,fun i hi=>absurd hi (Nat.not_lt_zero i)⟩
theorem firstI_any {α:Type} (p:α→Bool) (l:List α):decide (0≤firstI p l)=l.any p:=by
 have:=@firstI_neg _ p l
 by_cases h:firstI p l<0
 ·have h2:=this.1 h
  rw [decide_eq_false (by omega)]
  symm
  rw [List.any_eq_false]
  intro x hx h3
  have:=List.all_eq_true.1 h2 x hx
  rw [h3] at this
  exact Bool.noConfusion this
 ·have h2:=mt this.2 h
  rw [decide_eq_true (by omega)]
  symm
  rw [List.any_eq_true]
  simpa using h2
theorem all_not_any {α:Type} (p:α→Bool) (l:List α):(!l.any fun x=>!p x)=l.all p:=by
 induction l with
 | nil=>rfl
 | cons a l ih=>simp only [List.any_cons,List.all_cons,Bool.not_or,Bool.not_not,ih]
theorem CEnt.rp {n:Nat} {f g:Nat→CV} (h:∀ j,j<n→CEnt (f j) (g j)):CEnt (.rp n f) (.rp n g):=fun al St w v ⟨b,o,h1,h2,h3⟩ =>
 ⟨b,o,h1,h2,fun j hj=>by
  obtain ⟨x,hx,hr⟩:=h3 j hj
  exact ⟨x,hx,h j hj al St w x hr⟩⟩
theorem CEnt.fn3 {k:FuncId} {f g:Nat→CV} (h0:CEnt (f 0) (g 0)) (h1:CEnt (f 1) (g 1)) (h2:CEnt (f 2) (g 2)):CEnt (.fn k 3 f) (.fn k 3 g):=fun al St w v ⟨cs,k1,k2,k3⟩ =>
 ⟨cs,k1,k2,fun i hi=>match i,hi with
  | 0,hi=>h0 al St w _ (k3 0 hi)
  | 1,hi=>h1 al St w _ (k3 1 hi)
  | 2,hi=>h2 al St w _ (k3 2 hi)⟩
theorem CEnt.fn1 {k:FuncId} {f g:Nat→CV} (h:CEnt (f 0) (g 0)):CEnt (.fn k 1 f) (.fn k 1 g):=fun al St w v ⟨cs,h1,h2,h3⟩ =>
 ⟨cs,h1,h2,fun i hi=>by
  obtain rfl:i=0:=by omega
  exact h al St w _ (h3 0 hi)⟩
theorem BLe.look2 {D:List Nat} {b0 b2:Nat→CV} {env2:List (Nat×CV)} (h:BLe D b0 b2) (h3:(env2.all fun x=>D.any (Nat.beq x.1))=true):BLe D b0 (look env2 b2):=BLe.nest (D2:=[]) (env2:=env2) (b2:=b2) h rfl h3
end
section
section
variable {P:Program} {G:Gh} {ops:Array Oper} {o:Oper} {s:AS} {r:List Oper} {K:AS→Prop} {R:Exit→AS→Prop} {Y:AS→Prop} {x y:Code} {env:List (Nat×CV)} {b0:Nat→CV} {H:List (Option Nat×Res)}

def jfz:CV→Option CV
 | .top=>some .top
 | .c v=>some (.c v)
 | .err k=>some (.err k)
 | .agg n f=>some (.agg n f)
 | .tup n f=>some (.tup n f)
 | .rs k n f=>some (.rs k n f)
 | .rp n f=>some (.rp n f)
 | .os i g off n k=>some (.os i g off n k)
 | .op i g off=>some (.op i g off)
 | .fn g n f=>some (.fn g n f)
 | .pv p=>some (.pv p)
theorem jfz_eq {c v:CV} (h:jfz c=some v):c=v:=by cases c <;> (simp only [jfz,Option.some.injEq] at h;exact h)
def jlookO:List (Nat×CV)→Nat→Option CV
 | [],_=>none
 |(e,v)::r,d=>match Nat.beq e d with|true=>some v|false=>jlookO r d
theorem jlookO_some {b:Nat→CV} {d:Nat} {v:CV}:∀ {env:List (Nat×CV)},jlookO env d=some v→look env b d=v
 |(e,u)::r,h=>by
  unfold jlookO at h;unfold look
  cases hb:Nat.beq e d with
  | true=>rw [hb] at h;exact Option.some.inj h
  | false=>rw [hb] at h;exact jlookO_some h
theorem jlookO_none {b:Nat→CV} {d:Nat}:∀ {env:List (Nat×CV)},jlookO env d=none→look env b d=b d
 | [],_=>rfl
 |(e,u)::r,h=>by
  unfold jlookO at h;unfold look
  cases hb:Nat.beq e d with
  | true=>rw [hb] at h;cases h
  | false=>rw [hb] at h;exact jlookO_none h
theorem jev_t {d:Nat} {v:CV} (h:jlookO s.env d=some v):s.eval (.tmp d)=v:=jlookO_some h
theorem jev_l {D:List Nat} {e2:List (Nat×CV)} {b2:Nat→CV} {d:Nat} {v:CV} (h:jlookO env d=none) (hD:D.any (Nat.beq d)=false) (h2:jlookO e2 d=some v):(⟨env,lay D e2 b2,H⟩:AS).eval (.tmp d)=v:=by
 show look env (lay D e2 b2) d=v
 rw [jlookO_none h]
 unfold lay
 rw [hD]
 exact jlookO_some h2
theorem jev_f {x:Operand} {v:CV} (h:jfz (s.eval x)=some v):s.eval x=v:=jfz_eq h
def jflO:List CV→Nat→Option CV
 | [],_=>none
 | x::_,0=>some x
 | _::r,i+1=>jflO r i
theorem jflO_eq:∀ {l:List CV} {i:Nat} {v:CV},jflO l i=some v→fl l i=v
 | x::_,0,v,h=>Option.some.inj h
 | _::r,i+1,v,h=>jflO_eq (l:=r) h

def jslQ (P:Program) (t:TypeId) (m:Nat):Bool:=match P.underlying t with|some (.slice e)=>(match (P.info? e).map (·.size) with|some k=>Nat.beq k m|none=>false)|_=>false
theorem jslQ_ok {t:TypeId} {m:Nat} (h:jslQ P t m=true):∃ e,P.underlying t=some (.slice e)∧(P.info? e).map (·.size)=some m:=by
 unfold jslQ at h
 split at h
 ·rename_i e he
  refine ⟨e,he,?_⟩
  split at h
  ·rename_i k hk;rw [hk,Nat.eq_of_beq_eq_true h]
  ·cases h
 ·cases h
def jslT (P:Program) (t:TypeId):Bool:=match P.underlying t with|some (.slice _)=>true|_=>false
theorem jslT_ok {t:TypeId} (h:jslT P t=true):∃ e,P.underlying t=some (.slice e):=by
 unfold jslT at h
 split at h
 ·rename_i e he;exact ⟨e,he⟩
 ·cases h
def jarQ (P:Program) (t:TypeId) (n m:Nat):Bool:=match P.underlying t with|some (.array k e)=>(match (P.info? e).map (·.size) with|some q=>Nat.beq q m && Nat.beq k n|none=>false)|_=>false
def jptT (P:Program) (t:TypeId):Bool:=match P.underlying t with|some (.pointer _)=>true|_=>false
def jbyT (P:Program) (t:TypeId):Bool:=match P.underlying t with|some (.slice e)=>(match P.underlying e with|some (.int .u8)=>true|_=>false)|_=>false
theorem jbyT_ok {t:TypeId} (h:jbyT P t=true):∃ e,P.underlying t=some (.slice e)∧P.underlying e=some (.int .u8):=by
 unfold jbyT at h
 split at h
 ·rename_i e he
  split at h
  ·rename_i h2;exact ⟨e,he,h2⟩
  ·cases h
 ·cases h
def jfdQ (P:Program) (t:TypeId) (i:Nat):Option (Nat×Nat×Bool):=match P.underlying t with
 | some (.struct fs)=>(match fs[i]? with|some fd=>(match (P.info? fd.type).map (·.size),P.underlying fd.type with|some m,some _=>some (fd.offset,m,aggB P fd.type)|_,_=>none)|none=>none)
 | _=>none
theorem jfdQ_ok {t:TypeId} {i q m:Nat} {b:Bool} (h:jfdQ P t i=some (q,m,b)):∃ fs fd d,P.underlying t=some (.struct fs)∧fs[i]?=some fd∧P.underlying fd.type=some d∧aggB P fd.type=b∧(P.info? fd.type).map (·.size)=some m∧fd.offset=q:=by
 unfold jfdQ at h
 split at h
 ·rename_i fs h1
  split at h
  ·rename_i fd h2
   split at h
   ·rename_i k d h3 h4
    simp only [Option.some.injEq,Prod.mk.injEq] at h
    exact ⟨fs,fd,d,h1,h2,h4,h.2.2,by rw [h3,h.2.1],h.1⟩
   ·cases h
  ·cases h
 ·cases h
def jtyQ (P:Program) (t:TypeId) (m:Nat) (b:Bool):Bool:=match (P.info? t).map (·.size),P.underlying t with|some k,some _=>Nat.beq k m && (aggB P t == b)|_,_=>false
theorem jtyQ_ok {t:TypeId} {m:Nat} {b:Bool} (h:jtyQ P t m b=true):∃ d,P.underlying t=some d∧aggB P t=b∧(P.info? t).map (·.size)=some m:=by
 unfold jtyQ at h
 split at h
 ·rename_i k d h1 h2
  rw [Bool.and_eq_true,beq_iff_eq] at h
  exact ⟨d,h2,h.2,by rw [h1,Nat.eq_of_beq_eq_true h.1]⟩
 ·cases h
def jldQ (P:Program) (t:TypeId):Bool:=match P.underlying t with|some _=>!(aggB P t)|none=>false
theorem jldQ_ok {t:TypeId} (h:jldQ P t=true):∃ d,P.underlying t=some d∧aggB P t=false:=by
 unfold jldQ at h
 split at h
 ·rename_i d hd;exact ⟨d,hd,by simpa using h⟩
 ·cases h

def jmovO:Op→Option Operand|.move x=>some x|.assign x=>some x|_=>none
theorem jrm {x:Operand} {v:CV} (ho:jmovO o.op=some x:=by exact rfl) (hv:s.eval x=v:=by first|exact jev_t rfl|exact jev_l rfl rfl rfl|exact jev_f rfl):ARd P G o s v:=by
 unfold jmovO at ho
 split at ho
 ·rename_i z hz;exact rd_move hz (by rw [Option.some.inj ho];exact hv)
 ·rename_i z hz;exact rd_assign hz (by rw [Option.some.inj ho];exact hv)
 ·cases ho
theorem jrpT {z x' y':Operand} {v:CV} (ho:o.op=.pick z x' y':=by exact rfl) (hz:s.eval z=.c (.bool true):=by exact rfl) (hx:s.eval x'=v:=by first|exact jev_t rfl|exact jev_l rfl rfl rfl|exact jev_f rfl):ARd P G o s v:=rd_pickT ho hz hx
theorem jrpF {z x' y':Operand} {v:CV} (ho:o.op=.pick z x' y':=by exact rfl) (hz:s.eval z=.c (.bool false):=by exact rfl) (hy:s.eval y'=v:=by first|exact jev_t rfl|exact jev_l rfl rfl rfl|exact jev_f rfl):ARd P G o s v:=rd_pickF ho hz hy
theorem jrx {x:Operand} {i n:Nat} {f:Nat→CV} {v:CV} (ho:o.op=.extract x i:=by exact rfl) (hx:s.eval x=.tup n f:=by exact rfl) (hi:Nat.blt i n=true:=by exact rfl) (hv:f i=v:=by first|exact jflO_eq rfl|exact jfz_eq rfl):ARd P G o s v:=rd_extract ho hx hi hv
def jcmpI (op:BinOp) (a b:Int):Option Bool:=match op with
 | .eql=>some (decide (a=b))
 | .neq=>some (decide (a≠b))
 | .lss=>some (decide (a<b))
 | .leq=>some (decide (a≤b))
 | .gtr=>some (decide (b<a))
 | .geq=>some (decide (b≤a))
 | _=>none
theorem jrc {op:BinOp} {t u:TypeId} {x y:Operand} {k:IntKind} {a b:Int} {z:Bool} (ho:o.op=.binOp op t x y u:=by exact rfl) (hx:s.eval x=.c (.int k a):=by exact rfl) (hy:s.eval y=.c (.int k b):=by exact rfl) (hc:jcmpI op a b=some z:=by exact rfl):ARd P G o s (.c (.bool z)):=by
 cases op <;> simp only [jcmpI,Option.some.injEq,reduceCtorEq] at hc
 all_goals subst hc
 ·exact rd_eqI ho hx hy
 ·exact rd_neI ho hx hy
 ·exact rd_lt ho hx hy
 ·exact rd_le ho hx hy
 ·exact rd_gt ho hx hy
 ·exact rd_ge ho hx hy
def jarI (op:BinOp) (a b:Int):Option Int:=match op with
 | .add=>some (a+b)
 | .sub=>some (a-b)
 | .mul=>some (a * b)
 | _=>none
theorem jra {op:BinOp} {t u:TypeId} {x y:Operand} {k:IntKind} {a b z:Int} (ho:o.op=.binOp op t x y u:=by exact rfl) (hx:s.eval x=.c (.int k a):=by exact rfl) (hy:s.eval y=.c (.int k b):=by exact rfl) (hc:jarI op a b=some z:=by exact rfl) (hS:InR k z:=by (show _∧_;(first|omega|decide|(dsimp only at *;omega)))):ARd P G o s (.c (.int k z)):=by
 cases op <;> simp only [jarI,Option.some.injEq,reduceCtorEq] at hc
 all_goals subst hc
 ·exact rd_add ho hx hy (wrap_id hS)
 ·exact rd_sub ho hx hy (wrap_id hS)
 ·exact rd_mul ho hx hy (wrap_id hS)
theorem jrq {t u:TypeId} {x y:Operand} {k:IntKind} {a b:Int} (ho:o.op=.binOp .quo t x y u:=by exact rfl) (hx:s.eval x=.c (.int k a):=by exact rfl) (hy:s.eval y=.c (.int k b):=by exact rfl) (hS:0≤a:=by first|omega|decide|(dsimp only at *;omega)) (hS2:1≤b:=by first|omega|decide|(dsimp only at *;omega)) (hS3:InR k (a / b):=by (show _∧_;(first|omega|decide|(dsimp only at *;omega)))):ARd P G o s (.c (.int k (a / b))):=rd_quo ho hx hy hS hS2 (wrap_id hS3)
theorem jrr {t u:TypeId} {x y:Operand} {k:IntKind} {a b:Int} (ho:o.op=.binOp .rem t x y u:=by exact rfl) (hx:s.eval x=.c (.int k a):=by exact rfl) (hy:s.eval y=.c (.int k b):=by exact rfl) (hS:0≤a:=by first|omega|decide|(dsimp only at *;omega)) (hS2:1≤b:=by first|omega|decide|(dsimp only at *;omega)):ARd P G o s (.c (.int k (a % b))):=rd_rem ho hx hy hS hS2
def jcmpS (op:BinOp) (a b:List UInt8):Option Bool:=match op with
 | .eql=>some (decide (a=b))
 | .neq=>some (decide (a≠b))
 | .lss=>some (Op.bytesLess a b)
 | .gtr=>some (!(Op.bytesLess a b || a == b))
 | _=>none
theorem jrcs {op:BinOp} {t u:TypeId} {x y:Operand} {a b:List UInt8} {z:Bool} (ho:o.op=.binOp op t x y u:=by exact rfl) (hx:s.eval x=strC a:=by exact rfl) (hy:s.eval y=strC b:=by exact rfl) (hc:jcmpS op a b=some z:=by exact rfl):ARd P G o s (.c (.bool z)):=by
 cases op <;> simp only [jcmpS,Option.some.injEq,reduceCtorEq] at hc
 all_goals subst hc
 ·exact rd_eqL ho hx hy
 ·exact rd_neL ho hx hy
 ·exact rd_ltL ho hx hy
 ·exact rd_gtL ho hx hy
theorem jras {t u:TypeId} {x y:Operand} {a b:List UInt8} (ho:o.op=.binOp .add t x y u:=by exact rfl) (hx:s.eval x=strC a:=by exact rfl) (hy:s.eval y=strC b:=by exact rfl) (hS:a.length+b.length≤9223372036854775807:=by first|omega|decide|(dsimp only at *;omega)):ARd P G o s (strC (a++b)):=rd_addL ho hx hy hS
theorem jrcb {op:BinOp} {t u:TypeId} {x y:Operand} {a b z:Bool} (ho:o.op=.binOp op t x y u:=by exact rfl) (hx:s.eval x=.c (.bool a):=by exact rfl) (hy:s.eval y=.c (.bool b):=by exact rfl) (hc:(match op with|.eql=>some (a == b)|.neq=>some (!(a == b))|_=>none)=some z:=by exact rfl) (hT:P.underlying t=some .bool:=by kernel_rfl):ARd P G o s (.c (.bool z)):=by
 cases op <;> simp only [Option.some.injEq,reduceCtorEq] at hc
 all_goals subst hc
 ·exact rd_eqB ho hx hy hT
 ·exact rd_neB ho hx hy hT
def jNotV (c:CV) (z:Bool):Prop:=c=.c (.bool (!z))
theorem jnotD {p:Prop} [Decidable p] {c:CV} (h:c=.c (.bool (decide p))):jNotV c (decide ¬ p):=by unfold jNotV;rw [h];simp
theorem jnotB {p:Bool} {c:CV} (h:c=.c (.bool p)):jNotV c (!p):=by unfold jNotV;rw [h,Bool.not_not]
theorem jrn {t:TypeId} {x:Operand} {z:Bool} (ho:o.op=.unOp .not t x:=by exact rfl) (hx:jNotV (s.eval x) z:=by first|exact jnotD rfl|exact jnotB rfl):ARd P G o s (.c (.bool z)):=by
 have:=rd_not (P:=P) (G:=G) ho hx
 rwa [Bool.not_not] at this
def jlenV:CV→Option Int
 | .rs _ n _=>some ((n:Nat):Int)
 | .os _ _ _ n _=>some ((n:Nat):Int)
 | .c (.slice none 0 0)=>some 0
 | _=>none
theorem jrl {x:Operand} {t:TypeId} {z:Int} (ho:o.op=.call ⟨.builtin .len,#[x],#[t]⟩:=by exact rfl) (hx:jlenV (s.eval x)=some z:=by exact rfl) (hT:jslT P t=true:=by kernel_rfl):ARd P G o s (.c (.int .i64 z)):=by
 obtain ⟨e,he⟩:=jslT_ok hT
 unfold jlenV at hx
 split at hx
 ·rename_i h;cases hx;exact rd_lenR ho h he
 ·rename_i h;cases hx;exact rd_lenO ho h he
 ·rename_i h;cases hx;exact rd_lenN ho h he
 ·cases hx
theorem jrls {x:Operand} {t:TypeId} {a:List UInt8} (ho:o.op=.call ⟨.builtin .len,#[x],#[t]⟩:=by exact rfl) (hx:s.eval x=strC a:=by exact rfl) (hT:P.underlying t=some .string:=by kernel_rfl):ARd P G o s (.c (.int .i64 (a.length:Nat))):=rd_lenL ho hx hT
def jfaV (q:Nat):CV→Option CV
 | .op j g off=>some (.op j g (off+q))
 | .rp n f=>some (.rp (n-q) fun j=>f (q+j))
 | _=>none
theorem jrfa (q m:Nat) (b:Bool) {t:TypeId} {x:Operand} {i:Nat} {v:CV} (ho:o.op=.fieldAddr t x i:=by exact rfl) (hx:jfaV q (s.eval x)=some v:=by exact rfl) (hm:Nat.blt 0 m=true:=by exact rfl) (hT:jfdQ P t i=some (q,m,b):=by kernel_rfl):ARd P G o s v:=by
 obtain ⟨fs,fd,d,h1,h2,h3,h4,h5,h6⟩:=jfdQ_ok hT
 subst h6
 unfold jfaV at hx
 split at hx
 ·rename_i h;cases hx;exact rd_faddrO ho h h1 h2 h5 hm
 ·rename_i h;cases hx;exact rd_faddrR ho h h1 h2 h5 hm
 ·cases hx
def jixV (i:Nat):CV→Option (CV×Nat×Nat)
 | .rs m n f=>some (.rp m (f i),n,m)
 | .os j g off n m=>some (match Nat.beq off 0,Nat.beq m 1 with|true,true=>.op j g i|_,_=>.op j g (off+i * m),n,m)
 | _=>none
theorem jri {i:Nat} {t:TypeId} {x y:Operand} {k:IntKind} {z:Int} {v:CV} {n m:Nat} (ho:o.op=.indexAddr t x y:=by exact rfl) (hy:s.eval y=.c (.int k z):=by exact rfl) (hz:z=(i:Int):=by first|exact rfl|exact natI (by omega)) (hx:jixV i (s.eval x)=some (v,n,m):=by exact rfl) (hS:i<n:=by first|omega|decide|(dsimp only at *;omega)) (hm:Nat.blt 0 m=true:=by exact rfl) (hT:jslQ P t m=true:=by kernel_rfl):ARd P G o s v:=by
 obtain ⟨e,h1,h5⟩:=jslQ_ok hT
 unfold jixV at hx
 split at hx
 ·rename_i h;cases hx;exact rd_iaddrR ho h hy h1 h5 hz hS (Nat.le_of_ble_eq_true hm)
 ·rename_i j g off n' m' h
  cases hx
  cases h6:Nat.beq off 0 with
  | false=>exact rd_iaddrO ho h hy h1 h5 hz hS
  | true =>
   cases h7:Nat.beq m 1 with
   | false=>exact rd_iaddrO ho h hy h1 h5 hz hS
   | true =>
    have e1:=Nat.eq_of_beq_eq_true h6
    have e2:=Nat.eq_of_beq_eq_true h7
    subst e1 e2
    exact rd_iaddrO1 ho h hy h1 h5 hz hS
 ·cases hx
theorem jrix {i:Nat} {t:TypeId} {x y:Operand} {k:IntKind} {z:Int} {a:List UInt8} (ho:o.op=.index t x y:=by exact rfl) (hx:s.eval x=strC a:=by exact rfl) (hy:s.eval y=.c (.int k z):=by exact rfl) (hz:z=(i:Int):=by first|exact rfl|exact natI (by omega)) (hS:i<a.length:=by first|omega|decide|(dsimp only at *;omega)) (hT:P.underlying t=some .string:=by kernel_rfl):ARd P G o s (byF a i):=rd_indexL ho hx hy hT hz hS
def jnilV:CV→Option CV
 | .op i g off=>some (.op i g off)
 | .rp n f=>some (.rp n f)
 | .fn g n f=>some (.fn g n f)
 | _=>none
theorem jrnc {x:Operand} {v:CV} (ho:o.op=.nilCheck x:=by exact rfl) (hx:jnilV (s.eval x)=some v:=by exact rfl):ARd P G o s v:=by
 unfold jnilV at hx
 split at hx
 ·rename_i h;cases hx;exact rd_nilO ho h
 ·rename_i h;cases hx;exact rd_nilR ho h
 ·rename_i h;cases hx;exact rd_nilF ho h
 ·cases hx
theorem jrmf {g:FuncId} {cs:Array Operand} {n:Nat} (ho:o.op=.makeFunc (.func g) #[] cs:=by exact rfl) (hn:cs.size=n:=by exact rfl):ARd P G o s (.fn g n (fl (cs.toList.map s.eval))):=rd_makeFunc ho hn
theorem jrv8 (k':IntKind) {c:UInt8} {t u:TypeId} {x:Operand} (ho:o.op=.convert t u x:=by exact rfl) (hx:s.eval x=.c (.int .u8 ((c.toNat:Nat):Int)):=by exact rfl) (h1:P.underlying t=some (.int .u8):=by kernel_rfl) (h2:P.underlying u=some (.int k'):=by kernel_rfl) (hk:wide8 k'=true:=by exact rfl):ARd P G o s (.c (.int k' ((c.toNat:Nat):Int))):=rd_conv8 ho hx h1 h2 hk
theorem jrv (k k':IntKind) {a:Int} {t u:TypeId} {x:Operand} (ho:o.op=.convert t u x:=by exact rfl) (hx:s.eval x=.c (.int k a):=by exact rfl) (hS:InR k' a:=by (show _∧_;(first|omega|decide|(dsimp only at *;omega)))) (h1:P.underlying t=some (.int k):=by kernel_rfl) (h2:P.underlying u=some (.int k'):=by kernel_rfl):ARd P G o s (.c (.int k' a)):=rd_convI ho hx h1 h2 a (wrap_id hS)
theorem jrvW (k k':IntKind) {a z:Int} {t u:TypeId} {x:Operand} (ho:o.op=.convert t u x:=by exact rfl) (hx:s.eval x=.c (.int k a):=by exact rfl) (hr:k'.wrap a=z:=by exact rfl) (h1:P.underlying t=some (.int k):=by kernel_rfl) (h2:P.underlying u=some (.int k'):=by kernel_rfl):ARd P G o s (.c (.int k' z)):=rd_convI ho hx h1 h2 z hr
theorem jrbs {t u:TypeId} {x:Operand} {a:List UInt8} (ho:o.op=.convert t u x:=by exact rfl) (hx:s.eval x=bsC a:=by exact rfl) (hT:jbyT P t=true:=by kernel_rfl) (h3:P.underlying u=some .string:=by kernel_rfl):ARd P G o s (strC a):=by
 obtain ⟨e,h1,h2⟩:=jbyT_ok hT
 exact rd_convBL ho hx h1 h2 h3
theorem jrbn {t u:TypeId} {x:Operand} (ho:o.op=.convert t u x:=by exact rfl) (hx:s.eval x=.c (.slice none 0 0):=by exact rfl) (hT:jbyT P t=true:=by kernel_rfl) (h3:P.underlying u=some .string:=by kernel_rfl):ARd P G o s (.c (.string ⟨#[]⟩)):=by
 obtain ⟨e,h1,h2⟩:=jbyT_ok hT
 exact rd_convBN ho hx h1 h2 h3
theorem jrbo {t u:TypeId} {x:Operand} {i n N:Nat} {g:Option Nat} {L:List UInt8} (ho:o.op=.convert t u x:=by exact rfl) (hx:s.eval x=.os i g 0 n 1:=by exact rfl) (hH:Holds s i g N (byF L):=by first|exact .inl rfl|exact .inr rfl) (hn:n=L.length:=by first|rfl|simp) (hN:n≤N:=by first|exact Nat.le_refl _|simp) (hT:jbyT P t=true:=by kernel_rfl) (h3:P.underlying u=some .string:=by kernel_rfl):ARdO P G o s (strC L):=by
 obtain ⟨e,h1,h2⟩:=jbyT_ok hT
 exact rd_convB1 ho hx hH hn hN h1 h2 h3
theorem jrsf {t:TypeId} {p a:Operand} {z1:Int} {k1:IntKind} {l:Nat} {bl:List UInt8} (ho:o.op=.slice t p (some a) none none:=by exact rfl) (hx:s.eval p=bsC bl:=by exact rfl) (ha:s.eval a=.c (.int k1 z1):=by exact rfl) (hz1:z1=(l:Int):=by first|exact rfl|exact natI (by omega)) (hS:l≤bl.length:=by first|omega|decide|(dsimp only at *;omega)) (hT:jslQ P t 1=true:=by kernel_rfl):ARd P G o s (bsC (bl.drop l)):=by
 obtain ⟨e,h1,h5⟩:=jslQ_ok hT
 exact rd_sliceB_from ho hx h1 h5 ha hz1 hS
theorem jrst {t:TypeId} {p b:Operand} {z2:Int} {k2:IntKind} {v:Nat} {bl:List UInt8} (ho:o.op=.slice t p none (some b) none:=by exact rfl) (hx:s.eval p=bsC bl:=by exact rfl) (hb:s.eval b=.c (.int k2 z2):=by exact rfl) (hz2:z2=(v:Int):=by first|exact rfl|exact natI (by omega)) (hS:v≤bl.length:=by first|omega|decide|(dsimp only at *;omega)) (hT:jslQ P t 1=true:=by kernel_rfl):ARd P G o s (bsC (bl.take v)):=by
 obtain ⟨e,h1,h5⟩:=jslQ_ok hT
 exact rd_sliceB_to ho hx h1 h5 hb hz2 hS
theorem jrsb {t:TypeId} {p a b:Operand} {z1 z2:Int} {k1 k2:IntKind} {l v:Nat} {bl:List UInt8} (ho:o.op=.slice t p (some a) (some b) none:=by exact rfl) (hx:s.eval p=bsC bl:=by exact rfl) (ha:s.eval a=.c (.int k1 z1):=by exact rfl) (hz1:z1=(l:Int):=by first|exact rfl|exact natI (by omega)) (hb:s.eval b=.c (.int k2 z2):=by exact rfl) (hz2:z2=(v:Int):=by first|exact rfl|exact natI (by omega)) (hS:l≤v:=by first|omega|decide|(dsimp only at *;omega)) (hS2:v≤bl.length:=by first|omega|decide|(dsimp only at *;omega)) (hT:jslQ P t 1=true:=by kernel_rfl):ARd P G o s (bsC ((bl.take v).drop l)):=by
 obtain ⟨e,h1,h5⟩:=jslQ_ok hT
 exact rd_sliceB ho hx h1 h5 ha hz1 hb hz2 hS hS2
theorem jrsr {t:TypeId} {p:Operand} {m n l v:Nat} {f:Nat→Nat→CV} {lo hi:Option Operand} (ho:o.op=.slice t p lo hi none:=by exact rfl) (hx:s.eval p=.rs m n f:=by exact rfl) (hl:Bd s 0 lo l:=by first|exact bd_none _ _|exact bd_some rfl rfl|exact bd_some rfl (natI (by omega))) (hu:Bd s n hi v:=by first|exact bd_none _ _|exact bd_some rfl rfl|exact bd_some rfl (natI (by omega))) (hS:l≤v:=by first|omega|decide|(dsimp only at *;omega)) (hS2:v≤n:=by first|omega|decide|(dsimp only at *;omega)) (hT:jslQ P t m=true:=by kernel_rfl):ARd P G o s (.rs m (v-l) fun i j=>f (l+i) j):=by
 obtain ⟨e,h1,h5⟩:=jslQ_ok hT
 exact rd_sliceR ho hx h1 h5 hl hu hS hS2
theorem jrso {t:TypeId} {p:Operand} {i off m n l v:Nat} {g:Option Nat} {lo hi:Option Operand} (ho:o.op=.slice t p lo hi none:=by exact rfl) (hx:s.eval p=.os i g off n m:=by exact rfl) (hl:Bd s 0 lo l:=by first|exact bd_none _ _|exact bd_some rfl rfl|exact bd_some rfl (natI (by omega))) (hu:Bd s n hi v:=by first|exact bd_none _ _|exact bd_some rfl rfl|exact bd_some rfl (natI (by omega))) (hS:l≤v:=by first|omega|decide|(dsimp only at *;omega)) (hS2:v≤n:=by first|omega|decide|(dsimp only at *;omega)) (hS3:l=0∨l<n:=by first|omega|decide|(dsimp only at *;omega)) (hT:jslQ P t m=true:=by kernel_rfl):ARd P G o s (.os i g (off+l * m) (v-l) m):=by
 obtain ⟨e,h1,h5⟩:=jslQ_ok hT
 exact rd_sliceO ho hx h1 h5 hl hu hS hS2 hS3
theorem jrdo {t:TypeId} {x:Operand} {i off n:Nat} {g:Option Nat} {f:Nat→CV} {v:CV} (ho:o.op=.load t x:=by exact rfl) (hx:s.eval x=.op i g off:=by exact rfl) (hH:Holds s i g n f:=by first|exact .inl rfl|exact .inr rfl) (hv:f off=v:=by first|exact jflO_eq rfl|exact jfz_eq rfl) (hn:off<n:=by first|decide|omega|(dsimp only at *;omega)) (hT:jldQ P t=true:=by kernel_rfl):ARdO P G o s v:=by
 obtain ⟨d,h1,ha⟩:=jldQ_ok hT
 exact rd_loadO ho hx hH h1 ha hn hv
theorem jrdr {t:TypeId} {x:Operand} {n:Nat} {f:Nat→CV} {v:CV} (ho:o.op=.load t x:=by exact rfl) (hx:s.eval x=.rp n f:=by exact rfl) (hv:f 0=v:=by first|exact jflO_eq rfl|exact jfz_eq rfl) (hn:0<n:=by first|decide|omega|(dsimp only at *;omega)) (hT:jldQ P t=true:=by kernel_rfl):ARd P G o s v:=by
 obtain ⟨d,h1,ha⟩:=jldQ_ok hT
 exact rd_loadR ho hx h1 ha hn hv
theorem jrdoA (m:Nat) {t:TypeId} {x:Operand} {i off n:Nat} {g:Option Nat} {f:Nat→CV} (ho:o.op=.load t x:=by exact rfl) (hx:s.eval x=.op i g off:=by exact rfl) (hH:Holds s i g n f:=by first|exact .inl rfl|exact .inr rfl) (hn:off+m≤n:=by first|decide|omega|(dsimp only at *;omega)) (hT:jtyQ P t m true=true:=by kernel_rfl):ARdO P G o s (.agg m fun j=>f (off+j)):=by
 obtain ⟨d,h1,ha,h5⟩:=jtyQ_ok hT
 exact rd_loadOA ho hx hH h1 ha h5 hn
theorem jrdrA (m:Nat) {t:TypeId} {x:Operand} {n:Nat} {f:Nat→CV} (ho:o.op=.load t x:=by exact rfl) (hx:s.eval x=.rp n f:=by exact rfl) (hn:m≤n:=by first|decide|omega|(dsimp only at *;omega)) (hT:jtyQ P t m true=true:=by kernel_rfl):ARd P G o s (.agg m f):=by
 obtain ⟨d,h1,ha,h5⟩:=jtyQ_ok hT
 exact rd_loadRA ho hx h1 ha h5 hn
theorem jrde (i:Nat) [h0:HasE G.gs i] {t:TypeId} {g:Nat} (ho:o.op=.load t (.global g):=by exact rfl) (hg:gs[i]?=some g:=by exact rfl) (hT:jldQ P t=true:=by kernel_rfl):ARd P G o s (.err (i+1)):=by
 obtain ⟨d,h1,ha⟩:=jldQ_ok hT
 exact rd_loadE i ho hg h1 ha
theorem jq {d:Nat} {v:CV} (h:ARd P G o ⟨env,b0,H⟩ v) (hk:ASeq P G ops r ⟨(d,v)::env,b0,H⟩ K) (hd:o.dst=some d:=by exact rfl) (hN:Nat.blt d G.N=true:=by exact rfl) (hw:Wanted G ops o ⟨env,b0,H⟩ true:=by first|exact wanted_none rfl|exact wanted_is rfl rfl rfl rfl true rfl):ASeq P G ops (o::r) ⟨env,b0,H⟩ K:=q_rd hw hd hN h hk
theorem jqo {d:Nat} {v:CV} (h:ARdO P G o ⟨env,b0,H⟩ v) (hk:ASeq P G ops r ⟨(d,v)::env,b0,H⟩ K) (hd:o.dst=some d:=by exact rfl) (hN:Nat.blt d G.N=true:=by exact rfl) (hw:Wanted G ops o ⟨env,b0,H⟩ true:=by first|exact wanted_none rfl|exact wanted_is rfl rfl rfl rfl true rfl):ASeq P G ops (o::r) ⟨env,b0,H⟩ K:=q_rdO hw hd hN h hk
theorem jqs {d:Nat} (hk:ASeq P G ops r ⟨(d,.c undef)::env,b0,H⟩ K) (hd:o.dst=some d:=by exact rfl) (hN:Nat.blt d G.N=true:=by exact rfl) (hw:Wanted G ops o ⟨env,b0,H⟩ false:=by first|exact wanted_is rfl rfl rfl rfl false rfl|exact wanted_undef rfl rfl rfl rfl):ASeq P G ops (o::r) ⟨env,b0,H⟩ K:=q_skip hw hd hN hk
theorem jqe (h:AEx P G o ⟨env,b0,H⟩ (fun s'=>ASeq P G ops r s' K)) (hw:Wanted G ops o ⟨env,b0,H⟩ true:=by first|exact wanted_none rfl|exact wanted_is rfl rfl rfl rfl true rfl):ASeq P G ops (o::r) ⟨env,b0,H⟩ K:=seq_ex hw h
theorem jqm (h:AMd P G o ⟨env,b0,H⟩ (fun s'=>ASeq P G ops r s' K)) (hw:Wanted G ops o ⟨env,b0,H⟩ true:=by first|exact wanted_none rfl|exact wanted_is rfl rfl rfl rfl true rfl):ASeq P G ops (o::r) ⟨env,b0,H⟩ K:=seq_md hw h
def jopG:List Oper→Nat→Oper
 | [],_=>default
 | a::_,0=>a
 | _::l,i+1=>jopG l i
section
variable {i:Nat} {t:Ord}
theorem jopG_at (h:Nat.blt i ops.size=true):ops[i]?=some (jopG ops.toList i):=by
 have hlt:i<ops.size:=Nat.le_of_ble_eq_true h
 rw [Array.getElem?_eq_getElem hlt]
 have key:∀ (l:List Oper) (i:Nat) (hi:i<l.length),l[i]=jopG l i:=fun l=>by
  induction l with
  | nil=>intro i hi;simp at hi
  | cons a l ih =>
   intro i hi
   cases i with
   | zero=>rfl
   | succ i=>exact ih i (by simpa using hi)
 have:=key ops.toList i (by simpa using hlt)
 rw [← this,Array.getElem_toList]
theorem joT_rd (hi:Nat.blt i ops.size=true):opsOfT ops (.rd i t)=.rd (jopG ops.toList i) (opsOfT ops t):=by simp only [opsOfT,jopG_at hi]
theorem joT_one (hi:Nat.blt i ops.size=true):opsOfT ops (.one i t)=.one (jopG ops.toList i) (opsOfT ops t):=by simp only [opsOfT,jopG_at hi]
theorem jyq {d:Nat} {v:CV} (h:ARd P G (jopG ops.toList i) ⟨env,b0,H⟩ v) (hk:AX P G ops (opsOfT ops t) ⟨(d,v)::env,b0,H⟩ K) (hd:(jopG ops.toList i).dst=some d:=by exact rfl) (hN:Nat.blt d G.N=true:=by exact rfl) (hw:Wanted G ops (jopG ops.toList i) ⟨env,b0,H⟩ true:=by first|exact wanted_none rfl|exact wanted_is rfl rfl rfl rfl true rfl) (hi:Nat.blt i ops.size=true:=by exact rfl):AX P G ops (opsOfT ops (.rd i t)) ⟨env,b0,H⟩ K:=by rw [joT_rd hi];exact y_rd hw hd hN h hk
theorem jyo {d:Nat} {v:CV} (h:ARdO P G (jopG ops.toList i) ⟨env,b0,H⟩ v) (hk:AX P G ops (opsOfT ops t) ⟨(d,v)::env,b0,H⟩ K) (hd:(jopG ops.toList i).dst=some d:=by exact rfl) (hN:Nat.blt d G.N=true:=by exact rfl) (hw:Wanted G ops (jopG ops.toList i) ⟨env,b0,H⟩ true:=by first|exact wanted_none rfl|exact wanted_is rfl rfl rfl rfl true rfl) (hi:Nat.blt i ops.size=true:=by exact rfl):AX P G ops (opsOfT ops (.rd i t)) ⟨env,b0,H⟩ K:=by rw [joT_rd hi];exact y_rdO hw hd hN h hk
theorem jys {d:Nat} (hk:AX P G ops (opsOfT ops t) ⟨(d,.c undef)::env,b0,H⟩ K) (hd:(jopG ops.toList i).dst=some d:=by exact rfl) (hN:Nat.blt d G.N=true:=by exact rfl) (hw:Wanted G ops (jopG ops.toList i) ⟨env,b0,H⟩ false:=by first|exact wanted_is rfl rfl rfl rfl false rfl|exact wanted_undef rfl rfl rfl rfl) (hi:Nat.blt i ops.size=true:=by exact rfl):AX P G ops (opsOfT ops (.rd i t)) ⟨env,b0,H⟩ K:=by rw [joT_rd hi];exact y_skip hw hd hN hk
theorem jys1 {d:Nat} (hk:AX P G ops (opsOfT ops t) ⟨(d,.c undef)::env,b0,H⟩ K) (hd:(jopG ops.toList i).dst=some d:=by exact rfl) (hN:Nat.blt d G.N=true:=by exact rfl) (hw:Wanted G ops (jopG ops.toList i) ⟨env,b0,H⟩ false:=by first|exact wanted_is rfl rfl rfl rfl false rfl|exact wanted_undef rfl rfl rfl rfl) (hi:Nat.blt i ops.size=true:=by exact rfl):AX P G ops (opsOfT ops (.one i t)) ⟨env,b0,H⟩ K:=by rw [joT_one hi];exact y_noone hw hd hN hk
theorem jye (h:AEx P G (jopG ops.toList i) ⟨env,b0,H⟩ (fun s'=>AX P G ops (opsOfT ops t) s' K)) (hw:Wanted G ops (jopG ops.toList i) ⟨env,b0,H⟩ true:=by first|exact wanted_none rfl|exact wanted_is rfl rfl rfl rfl true rfl) (hi:Nat.blt i ops.size=true:=by exact rfl):AX P G ops (opsOfT ops (.one i t)) ⟨env,b0,H⟩ K:=by rw [joT_one hi];exact x_one hw h
theorem jzq {d:Nat} {v:CV} (h:ARd P G (jopG ops.toList i) ⟨env,b0,H⟩ v) (hk:AZ P G ops (opsOfT ops t) ⟨(d,v)::env,b0,H⟩ K) (hd:(jopG ops.toList i).dst=some d:=by exact rfl) (hN:Nat.blt d G.N=true:=by exact rfl) (hw:Wanted G ops (jopG ops.toList i) ⟨env,b0,H⟩ true:=by first|exact wanted_none rfl|exact wanted_is rfl rfl rfl rfl true rfl) (hi:Nat.blt i ops.size=true:=by exact rfl):AZ P G ops (opsOfT ops (.rd i t)) ⟨env,b0,H⟩ K:=by rw [joT_rd hi];exact zz_rd hw hd hN h hk
theorem jzo {d:Nat} {v:CV} (h:ARdO P G (jopG ops.toList i) ⟨env,b0,H⟩ v) (hk:AZ P G ops (opsOfT ops t) ⟨(d,v)::env,b0,H⟩ K) (hd:(jopG ops.toList i).dst=some d:=by exact rfl) (hN:Nat.blt d G.N=true:=by exact rfl) (hw:Wanted G ops (jopG ops.toList i) ⟨env,b0,H⟩ true:=by first|exact wanted_none rfl|exact wanted_is rfl rfl rfl rfl true rfl) (hb:ownB ops (jopG ops.toList i)=true:=by kernel_rfl) (hi:Nat.blt i ops.size=true:=by exact rfl):AZ P G ops (opsOfT ops (.rd i t)) ⟨env,b0,H⟩ K:=by rw [joT_rd hi];exact zz_rdO hw hd hN hb h hk
theorem jz1o {d:Nat} {v:CV} (h:ARdO P G (jopG ops.toList i) ⟨env,b0,H⟩ v) (hk:AZ P G ops (opsOfT ops t) ⟨(d,v)::env,b0,H⟩ K) (hd:(jopG ops.toList i).dst=some d:=by exact rfl) (hN:Nat.blt d G.N=true:=by exact rfl) (hw:Wanted G ops (jopG ops.toList i) ⟨env,b0,H⟩ true:=by first|exact wanted_none rfl|exact wanted_is rfl rfl rfl rfl true rfl) (hi:Nat.blt i ops.size=true:=by exact rfl):AZ P G ops (opsOfT ops (.one i t)) ⟨env,b0,H⟩ K:=by rw [joT_one hi];exact zz_one1O hw hd hN h hk
theorem jzs {d:Nat} (hk:AZ P G ops (opsOfT ops t) ⟨(d,.c undef)::env,b0,H⟩ K) (hd:(jopG ops.toList i).dst=some d:=by exact rfl) (hN:Nat.blt d G.N=true:=by exact rfl) (hw:Wanted G ops (jopG ops.toList i) ⟨env,b0,H⟩ false:=by first|exact wanted_is rfl rfl rfl rfl false rfl|exact wanted_undef rfl rfl rfl rfl) (hi:Nat.blt i ops.size=true:=by exact rfl):AZ P G ops (opsOfT ops (.rd i t)) ⟨env,b0,H⟩ K:=by rw [joT_rd hi];exact zz_skip hw hd hN hk
theorem jze (h:AEx P G (jopG ops.toList i) ⟨env,b0,H⟩ (fun s'=>AZ P G ops (opsOfT ops t) s' K)) (hw:Wanted G ops (jopG ops.toList i) ⟨env,b0,H⟩ true:=by first|exact wanted_none rfl|exact wanted_is rfl rfl rfl rfl true rfl) (hi:Nat.blt i ops.size=true:=by exact rfl):AZ P G ops (opsOfT ops (.one i t)) ⟨env,b0,H⟩ K:=by rw [joT_one hi];exact z_ex hw h
theorem jzm (h:AMd P G (jopG ops.toList i) ⟨env,b0,H⟩ (fun s'=>AZ P G ops (opsOfT ops t) s' K)) (hw:Wanted G ops (jopG ops.toList i) ⟨env,b0,H⟩ true:=by first|exact wanted_none rfl|exact wanted_is rfl rfl rfl rfl true rfl) (hm:isMod (jopG ops.toList i)=true:=by exact rfl) (hi:Nat.blt i ops.size=true:=by exact rfl):AZ P G ops (opsOfT ops (.one i t)) ⟨env,b0,H⟩ K:=by rw [joT_one hi];exact z_md hw hm h
theorem jyd (h:K s):AX P G ops (opsOfT ops .done) s K:=x_done h
theorem jzd (h:K s):AZ P G ops (opsOfT ops .done) s K:=z_done h
theorem jytwo {j:Nat} {u:Ord} (h1:AX P G ops (opsOfT ops (.one i t)) s K) (h2:AX P G ops (opsOfT ops (.one j u)) s K) (hi:Nat.blt i ops.size=true:=by exact rfl) (hj:Nat.blt j ops.size=true:=by exact rfl):AX P G ops (opsOfT ops (.two i t j u)) s K:=by
 rw [joT_one hi] at h1
 rw [joT_one hj] at h2
 simp only [opsOfT,jopG_at hi,jopG_at hj]
 exact x_two h1 h2
theorem jztwo {j:Nat} {u:Ord} (h1:AZ P G ops (opsOfT ops (.one i t)) s K) (h2:AZ P G ops (opsOfT ops (.one j u)) s K) (hi:Nat.blt i ops.size=true:=by exact rfl) (hj:Nat.blt j ops.size=true:=by exact rfl):AZ P G ops (opsOfT ops (.two i t j u)) s K:=by
 rw [joT_one hi] at h1
 rw [joT_one hj] at h2
 simp only [opsOfT,jopG_at hi,jopG_at hj]
 exact z_two h1 h2
end
theorem jcg {id:Nat} (h:ASeq P G ops ops.toList s (R .normal)) (hd:rdB G.rd ops=true:=by rfl):ACode P G (.region id ops false) s R:=code_region h hd
theorem jcd {id:Nat} (t:Ord) (h:AX P G ops (opsOfT ops t) s (R .normal)) (hm:P.follows .mixedOrders=true:=by kernel_rfl) (hs:Region.noSelect ops=true:=by kernel_rfl) (hl:t.len=ops.size:=by exact rfl) (hin:t.within ops.size=true:=by kernel_rfl) (hB:orderT .any ops t (Array.replicate ops.size false)=true:=by kernel_rfl) (hd:rdB G.rd ops=true:=by rfl):ACode P G (.region id ops true) s R:=code_draw t hm hs hl hin hB h hd
theorem jcdB {id:Nat} (m:Nat) (t:Ord) (h:AX P G ops (opsOfT ops t) s (fun s'=>ASeq P G ops (ops.toList.drop m) s' (R .normal))) (hmix:P.follows .mixedOrders=true:=by kernel_rfl) (hs:Region.noSelect ops=true:=by kernel_rfl) (hm:Nat.ble m ops.size=true:=by exact rfl) (hl:t.len=m:=by exact rfl) (hin:t.within ops.size=true:=by kernel_rfl) (hc:coverB .any ops m=true:=by kernel_rfl)
  (hB:orderB2 .any ops m t (Array.replicate ops.size false)=true:=by kernel_rfl) (ht:tailB .any ops (ops.size-m) m (barL m ops.size)=true:=by kernel_rfl) (hd:rdB G.rd ops=true:=by rfl) (hy:G.yl=false:=by rfl):ACode P G (.region id ops true) s R:=code_drawB m t hmix hs hm hl hin hc hB ht h hd hy
theorem jcdZ {id:Nat} (u:Ord) (h:AZ P G ops (opsOfT ops u) s (R .normal)) (hmix:P.follows .mixedOrders=true:=by kernel_rfl) (hs:Region.noSelect ops=true:=by kernel_rfl) (hul:u.len=ops.size:=by exact rfl) (huin:u.within ops.size=true:=by kernel_rfl) (hu:orderT .any ops u (Array.replicate ops.size false)=true:=by kernel_rfl) (hd:rdB G.rd ops=true:=by rfl):ACode P G (.region id ops true) s R:=code_drawZ u hmix hs hul huin hu h hd
theorem jcs (h:ACode P G x s (thenR (fun s'=>ACode P G y s' R) R)):ACode P G (.seq x y) s R:=code_seq h
theorem jcr {id:Nat} (h:ASeq P G ops ops.toList s (fun s'=>ACode P G y s' R)) (hd:rdB G.rd ops=true:=by rfl):ACode P G (.seq (.region id ops false) y) s R:=code_seq (code_region h hd)
theorem jtn (h:Y s):thenR Y R .normal s:=h
theorem jte {i:Nat} (h:R (.exit i) s):thenR Y R (.exit i) s:=h
theorem jtr (h:R .ret s):thenR Y R .ret s:=h
theorem jbn {i:Nat} (h:R .normal s):blockR i R .normal s:=h
theorem jbr {i:Nat} (h:R .ret s):blockR i R .ret s:=h
theorem jbx {i j:Nat} (h:R .normal s) (he:Nat.beq j i=true:=by exact rfl):blockR i R (.exit j) s:=block_exit he h
theorem jbx2 {i j:Nat} (h:R (.exit j) s) (he:Nat.beq j i=false:=by exact rfl):blockR i R (.exit j) s:=block_exit2 he h
def jCondPN (c:CV) (p n:Prop):Prop:=∃ t:Bool,c=.c (.bool t)∧(t=true→p)∧(t=false→n)
theorem jcpD {p:Prop} [Decidable p] {c:CV} (h:c=.c (.bool (decide p))):jCondPN c p (¬ p):=⟨_,h,of_decide_eq_true,of_decide_eq_false⟩
theorem jcpB {t:Bool} {c:CV} (h:c=.c (.bool t)):jCondPN c (t=true) (t=false):=⟨_,h,id,id⟩
theorem jcc {d:Nat} {p n:Prop} (ht:p→ACode P G x ⟨(d,.c (.bool true))::env,b0,H⟩ R) (hf:n→ACode P G y ⟨(d,.c (.bool false))::env,b0,H⟩ R) (hl:jCondPN (look env b0 d) p n:=by first|exact jcpD rfl|exact jcpB rfl) (hN:Nat.blt d G.N=true:=by exact rfl):ACode P G (.cond (.tmp d) x y) ⟨env,b0,H⟩ R:=by
 obtain ⟨t,h1,h2,h3⟩:=hl
 exact code_condS hN h1 (fun e=>ht (h2 e)) (fun e=>hf (h3 e))
theorem jcT {d:Operand} (h:ACode P G x s R) (hl:s.eval d=.c (.bool true):=by exact rfl):ACode P G (.cond d x y) s R:=code_condT hl h
theorem jcF {d:Operand} (h:ACode P G y s R) (hl:s.eval d=.c (.bool false):=by exact rfl):ACode P G (.cond d x y) s R:=code_condF hl h
theorem jqsp (d:Nat) {p n:Prop} (ht:p→ASeq P G ops r ⟨(d,.c (.bool true))::env,b0,H⟩ K) (hf:n→ASeq P G ops r ⟨(d,.c (.bool false))::env,b0,H⟩ K) (hl:jCondPN (look env b0 d) p n:=by first|exact jcpD rfl|exact jcpB rfl) (hN:Nat.blt d G.N=true:=by exact rfl):ASeq P G ops r ⟨env,b0,H⟩ K:=by
 obtain ⟨t,h1,h2,h3⟩:=hl
 exact seq_split hN h1 (fun e=>ht (h2 e)) (fun e=>hf (h3 e))
theorem jysp {tr:OrdO} (d:Nat) {p n:Prop} (ht:p→AX P G ops tr ⟨(d,.c (.bool true))::env,b0,H⟩ K) (hf:n→AX P G ops tr ⟨(d,.c (.bool false))::env,b0,H⟩ K) (hl:jCondPN (look env b0 d) p n:=by first|exact jcpD rfl|exact jcpB rfl) (hN:Nat.blt d G.N=true:=by exact rfl):AX P G ops tr ⟨env,b0,H⟩ K:=by
 obtain ⟨t,h1,h2,h3⟩:=hl
 exact x_split hN h1 (fun e=>ht (h2 e)) (fun e=>hf (h3 e))
theorem jeal {n:Nat} {t:TypeId} {z:Value} {d:Nat} (hz:(P.info? t).map (·.zero)=some (some z)) (hn:z.cells.size=n) (hK:∀ g,K ⟨(d,.op H.length g 0)::env,b0,H++[(g,.blk n fun j=>.c (z.cells.getD j undef))]⟩) (ho:o.op=.alloc t:=by exact rfl) (hd:o.dst=some d:=by exact rfl) (hN:Nat.blt d G.N=true:=by exact rfl):AEx P G o ⟨env,b0,H⟩ K:=e_alloc ho hz hn hd hN hK
theorem jebx (n:Nat) {t:TypeId} {p:Operand} {c:CV} {l:List CV} {d:Nat} (hK:∀ g,K ⟨(d,.op H.length g 0)::env,b0,H++[(g,.blk n (fl l))]⟩) (ho:o.op=.box t p:=by exact rfl) (hx:(⟨env,b0,H⟩:AS).eval p=c:=by first|exact jev_t rfl|exact jev_l rfl rfl rfl|exact jev_f rfl) (hl:cellsC c=some l:=by exact rfl) (hn:l.length=n:=by exact rfl) (hd:o.dst=some d:=by exact rfl) (hN:Nat.blt d G.N=true:=by exact rfl):AEx P G o ⟨env,b0,H⟩ K:=e_box ho hx hl hn hd hN hK
theorem jebl (n m:Nat) {e t:TypeId} {z:Value} {len:Nat} {parts:Array (Nat×Operand)} {l:List CV} {d:Nat} (hz:(P.info? e).map (·.zero)=some (some z)) (hK:∀ g,K ⟨(d,.os H.length g 0 len m)::env,b0,H++[(g,.blk n (fl l))]⟩) (ho:o.op=.buildSlice t len parts:=by exact rfl) (h1:P.underlying t=some (.slice e):=by kernel_rfl) (h5:(P.info? e).map (·.size)=some m:=by kernel_rfl) (hm:Nat.ble (len * m) 16777216=true:=by exact rfl) (hlen:Nat.ble len 16777216=true:=by exact rfl)
  (hf:fillC (fun i=>some (i * m,m)) ((List.range (len * m)).map fun i=>.c (z.cells[i % z.cells.size]!)) (parts.toList.map fun p=>(p.1,(⟨env,b0,H⟩:AS).eval p.2))=some l:=by exact rfl) (hn:l.length=n:=by exact rfl) (hle:n=len * m:=by exact rfl) (hd:o.dst=some d:=by exact rfl) (hN:Nat.blt d G.N=true:=by exact rfl):AEx P G o ⟨env,b0,H⟩ K:=e_buildSlice ho h1 h5 hz hm hlen hf hn hle hd hN hK
theorem jecv {t u:TypeId} {x:Operand} {a:List UInt8} {d:Nat} (hK:K ⟨(d,bsC a)::env,b0,H⟩) (ho:o.op=.convert t u x:=by exact rfl) (hx:(⟨env,b0,H⟩:AS).eval x=strC a:=by exact rfl) (h1:P.underlying t=some .string:=by kernel_rfl) (hT:jbyT P u=true:=by kernel_rfl) (hS:a.length≤9223372036854775807:=by first|omega|decide|(dsimp only at *;omega)) (hd:o.dst=some d:=by exact rfl) (hN:Nat.blt d G.N=true:=by exact rfl):AEx P G o ⟨env,b0,H⟩ K:=by
 obtain ⟨e,h2,h3⟩:=jbyT_ok hT
 exact e_convLB ho hx h1 h2 h3 hS hd hN hK
theorem jecP {f:FuncId} {xs:Array Operand} {ats:Array TypeId} {args:List CV} {m:CV} {d:Nat} (hA:ACp G.gs P f args m) (hK:K ⟨(d,m)::env,b0,H⟩) (ho:o.op=.call ⟨.value (.func f),xs,ats⟩:=by exact rfl) (hc:calleeB P f=true:=by kernel_rfl) (he:SEL G ⟨env,b0,H⟩ xs.toList args:=by (repeat (first|exact .nil|refine .cons (by first|exact se rfl cZ|exact se rfl CEnt.nil|exact se rfl cN|exact se rfl (cO rfl)|exact se rfl cP|exact se_nilO rfl|exact se rfl (CEnt.agg2 cZ cZ)|exact se rfl (CEnt.agg3 cZ cZ cZ)|exact se rfl (CEnt.agg4 cZ cZ cZ cZ)|exact se rfl (CEnt.agg5 cZ cZ cZ cZ cZ)|exact se rfl (CEnt.agg6 cZ cZ cZ cZ cZ cZ)|exact se_frzB _ rfl rfl rfl (by simp) (fun _ _=>cZ)) ?_))) (hd:o.dst=some d:=by exact rfl) (hN:Nat.blt d G.N=true:=by exact rfl):AEx P G o ⟨env,b0,H⟩ K:=e_callP ho hc hA he hd hN hK
theorem jecS {f:FuncId} {xs:Array Operand} {ats:Array TypeId} {args:List CV} {Q:CV→List (Option Nat×Res)→Prop} {d:Nat} (hA:AC G.gs P f [] args Q) (hK:∀ r H',Q r H'→K ⟨(d,r)::env,b0,H++H'⟩) (ho:o.op=.call ⟨.value (.func f),xs,ats⟩:=by exact rfl) (hc:calleeB P f=true:=by kernel_rfl) (he:SEL G ⟨env,b0,H⟩ xs.toList args:=by (repeat (first|exact .nil|refine .cons (by first|exact se rfl cZ|exact se rfl CEnt.nil|exact se rfl cN|exact se rfl (cO rfl)|exact se rfl cP|exact se_nilO rfl|exact se rfl (CEnt.agg2 cZ cZ)|exact se rfl (CEnt.agg3 cZ cZ cZ)|exact se rfl (CEnt.agg4 cZ cZ cZ cZ)|exact se rfl (CEnt.agg5 cZ cZ cZ cZ cZ)|exact se rfl (CEnt.agg6 cZ cZ cZ cZ cZ cZ)|exact se_frzB _ rfl rfl rfl (by simp) (fun _ _=>cZ)) ?_))) (hd:o.dst=some d:=by exact rfl) (hN:Nat.blt d G.N=true:=by exact rfl):AEx P G o ⟨env,b0,H⟩ K:=e_callS ho hc hA he hd hN hK
theorem jecO {f:FuncId} {xs:Array Operand} {ats:Array TypeId} {args:List CV} {n m N:Nat} {F:Nat→CV} {d:Nat} (hA:AC G.gs P f [] args (OwnQ n m N F)) (hK:∀ g,K ⟨(d,.os H.length g 0 n m)::env,b0,H++[(g,.blk N F)]⟩) (ho:o.op=.call ⟨.value (.func f),xs,ats⟩:=by exact rfl) (hc:calleeB P f=true:=by kernel_rfl) (he:SEL G ⟨env,b0,H⟩ xs.toList args:=by (repeat (first|exact .nil|refine .cons (by first|exact se rfl cZ|exact se rfl CEnt.nil|exact se rfl cN|exact se rfl (cO rfl)|exact se rfl cP|exact se_nilO rfl|exact se rfl (CEnt.agg2 cZ cZ)|exact se rfl (CEnt.agg3 cZ cZ cZ)|exact se rfl (CEnt.agg4 cZ cZ cZ cZ)|exact se rfl (CEnt.agg5 cZ cZ cZ cZ cZ)|exact se rfl (CEnt.agg6 cZ cZ cZ cZ cZ cZ)|exact se_frzB _ rfl rfl rfl (by simp) (fun _ _=>cZ)) ?_))) (hd:o.dst=some d:=by exact rfl) (hN:Nat.blt d G.N=true:=by exact rfl):AEx P G o ⟨env,b0,H⟩ K:=e_callO ho hc hA he hd hN hK
theorem jmcH (i:Nat) {f:FuncId} {xs:Array Operand} {ats:Array TypeId} {args:List CV} {Q:CV→List (Option Nat×Res)→Prop} {d:Nat} {x0:Option Nat×Res} (hA:AC G.gs P f [x0] args Q) (hK:∀ r H',Q r H'→∃ x r',H'=[x]∧CEnt r r'∧K ⟨(d,r')::env,b0,H.set i x⟩) (hi:H[i]?=some x0:=by exact rfl) (ho:o.op=.call ⟨.value (.func f),xs,ats⟩:=by exact rfl) (hc:calleeB P f=true:=by kernel_rfl) (he:SEL G ⟨env,b0,H⟩ xs.toList args:=by (repeat (first|exact .nil|refine .cons (by first|exact se rfl cZ|exact se rfl CEnt.nil|exact se rfl cN|exact se rfl (cO rfl)|exact se rfl cP|exact se_nilO rfl|exact se rfl (CEnt.agg2 cZ cZ)|exact se rfl (CEnt.agg3 cZ cZ cZ)|exact se rfl (CEnt.agg4 cZ cZ cZ cZ)|exact se rfl (CEnt.agg5 cZ cZ cZ cZ cZ)|exact se rfl (CEnt.agg6 cZ cZ cZ cZ cZ cZ)|exact se_frzB _ rfl rfl rfl (by simp) (fun _ _=>cZ)) ?_))) (hd:o.dst=some d:=by exact rfl) (hN:Nat.blt d G.N=true:=by exact rfl):AMd P G o ⟨env,b0,H⟩ K:=m_callH ho hc hi hA he hd hN hK
theorem jmcO (i:Nat) {f:FuncId} {xs:Array Operand} {ats:Array TypeId} {args:List CV} {n m N:Nat} {F:Nat→CV} {d:Nat} {x0:Option Nat×Res} (hA:AC G.gs P f [x0] args (OwnQ n m N F)) (hK:∀ g,K ⟨(d,.os i g 0 n m)::env,b0,H.set i (g,.blk N F)⟩) (hi:H[i]?=some x0:=by exact rfl) (ho:o.op=.call ⟨.value (.func f),xs,ats⟩:=by exact rfl) (hc:calleeB P f=true:=by kernel_rfl) (he:SEL G ⟨env,b0,H⟩ xs.toList args:=by (repeat (first|exact .nil|refine .cons (by first|exact se rfl cZ|exact se rfl CEnt.nil|exact se rfl cN|exact se rfl (cO rfl)|exact se rfl cP|exact se_nilO rfl|exact se rfl (CEnt.agg2 cZ cZ)|exact se rfl (CEnt.agg3 cZ cZ cZ)|exact se rfl (CEnt.agg4 cZ cZ cZ cZ)|exact se rfl (CEnt.agg5 cZ cZ cZ cZ cZ)|exact se rfl (CEnt.agg6 cZ cZ cZ cZ cZ cZ)|exact se_frzB _ rfl rfl rfl (by simp) (fun _ _=>cZ)) ?_))) (hd:o.dst=some d:=by exact rfl) (hN:Nat.blt d G.N=true:=by exact rfl):AMd P G o ⟨env,b0,H⟩ K:=m_callO ho hc hi hA he hd hN hK
theorem jmst (m:Nat) {t:TypeId} {p q:Operand} {i off n:Nat} {g:Option Nat} {f:Nat→CV} {c:CV} {l:List CV} (hK:K ⟨env,b0,H.set i (g,.blk n (updF f off l))⟩) (ho:o.op=.store t p q:=by exact rfl) (hx:(⟨env,b0,H⟩:AS).eval p=.op i g off:=by exact rfl) (hH:H[i]?=some (g,.blk n f):=by exact rfl) (hy:(⟨env,b0,H⟩:AS).eval q=c:=by first|exact jev_t rfl|exact jev_l rfl rfl rfl|exact jev_f rfl) (hl:cellsC c=some l:=by exact rfl) (hm:l.length=m:=by exact rfl) (h5:(P.info? t).map (·.size)=some m:=by kernel_rfl) (hleaf:l.all leafC=true:=by exact rfl) (hn:off+m≤n:=by first|decide|omega|(dsimp only at *;omega)) (hd:o.dst=none:=by exact rfl):AMd P G o ⟨env,b0,H⟩ K :=
 m_store ho hx hH hy hl h5 hm hleaf hn _ (fun _ _=>cZ) hd hK
theorem jmstF (m:Nat) (F:Nat→CV) {t:TypeId} {p q:Operand} {i off n:Nat} {g:Option Nat} {f:Nat→CV} {c:CV} {l:List CV} (hF:∀ j,j<n→CEnt (updF f off l j) (F j)) (hK:K ⟨env,b0,H.set i (g,.blk n F)⟩) (ho:o.op=.store t p q:=by exact rfl) (hx:(⟨env,b0,H⟩:AS).eval p=.op i g off:=by exact rfl) (hH:H[i]?=some (g,.blk n f):=by exact rfl) (hy:(⟨env,b0,H⟩:AS).eval q=c:=by first|exact jev_t rfl|exact jev_l rfl rfl rfl|exact jev_f rfl) (hl:cellsC c=some l:=by exact rfl) (hm:l.length=m:=by exact rfl) (h5:(P.info? t).map (·.size)=some m:=by kernel_rfl) (hleaf:l.all leafC=true:=by exact rfl) (hn:off+m≤n:=by first|decide|omega|(dsimp only at *;omega)) (hd:o.dst=none:=by exact rfl):AMd P G o ⟨env,b0,H⟩ K :=
 m_store ho hx hH hy hl h5 hm hleaf hn F hF hd hK
theorem javc {d:Nat} {t:TypeId} {i off n:Nat} {g:Option Nat} {f:Nat→CV} {c:CV} (h:look s.env s.b d=.op i g off:=by exact rfl) (hH:Holds s i g n f:=by first|exact .inl rfl|exact .inr rfl) (hc:f off=c:=by first|exact jflO_eq rfl|exact jfz_eq rfl) (hn:off<n:=by first|decide|omega|(dsimp only at *;omega)) (hT:jldQ P t=true:=by kernel_rfl):ARV P G s (.cell d t) c:=by
 obtain ⟨ds,h1,ha⟩:=jldQ_ok hT
 exact arv_cell h hH h1 ha hn hc
theorem javA (m:Nat) {d:Nat} {t:TypeId} {i off n:Nat} {g:Option Nat} {f:Nat→CV} (h:look s.env s.b d=.op i g off:=by exact rfl) (hH:Holds s i g n f:=by first|exact .inl rfl|exact .inr rfl) (hn:off+m≤n:=by first|decide|omega|(dsimp only at *;omega)) (hT:jtyQ P t m true=true:=by kernel_rfl):ARV P G s (.cell d t) (.agg m fun j=>f (off+j)):=by
 obtain ⟨ds,h1,ha,h5⟩:=jtyQ_ok hT
 exact arv_cellA h hH h1 ha h5 hn
theorem javt {t:Nat} {c:CV} (h:s.eval (.tmp t)=c:=by first|exact jev_t rfl|exact jev_l rfl rfl rfl|exact jev_f rfl):ARV P G s (.tmp t) c:=arv_tmp h
theorem jrt {fn:Func} {e:Exit} {v m:CV} (hres:ARes P G fn s v:=by first|exact res_1 rfl javt|exact res_2 rfl javt javt|exact res_3 rfl javt javt javt|exact res_4 rfl javt javt javt javt|exact res_0 rfl) (hv:CEnt v m:=by first|exact cZ|exact CEnt.nil) (he:e=.ret∨e=.normal:=by first|exact .inl rfl|exact .inr rfl):bodyR P G fn (fun r H=>r=m∧H=[]) e s:=end_val he hres hv
theorem jlend {α:Type} {k:Nat} {φ:α→Prop} {μ:α→Nat} {D:List Nat} {M:α→List (Nat×CV)} {Hp:α→List (Option Nat×Res)} {b1:Nat→CV} (p':α) (h1:φ p') (h2:μ p'<k) (h5:EntE s.env s.b (M p'):=by (repeat (first|exact EntE.nil|refine EntE.cons cZ ?_|refine EntE.cons (cI (by omega)) ?_))) (h7:HEnt (s.H.take (Hp p').length) (Hp p'):=by (repeat (first|exact HEnt.nil|refine HEnt.same ?_|refine HEnt.blk rfl (fun j hj=>by rcases j with _|_|_|_|_|_|_|_|j <;> first|exact cZ|exact cI (by omega)|omega) ?_)))
  (h3:BLe D b1 s.b:=by first|exact .refl|exact .nest .refl rfl rfl|exact .nest (.nest .refl rfl rfl) rfl rfl|exact .nest (.nest (.nest .refl rfl rfl) rfl rfl) rfl rfl|(repeat (first|exact .refl|refine .nest ?_ rfl rfl|refine BLe.look2 ?_ rfl))) (h4:(s.env.all fun x=>D.any (Nat.beq x.1))=true:=by exact rfl) (h6:(Hp p').length≤s.H.length:=by exact Nat.le_of_ble_eq_true rfl) :
  ∃ p',φ p'∧μ p'<k∧BLe D b1 s.b∧(s.env.all fun x=>D.any (Nat.beq x.1))=true∧EntE s.env s.b (M p')∧(Hp p').length≤s.H.length∧HEnt (s.H.take (Hp p').length) (Hp p'):=⟨p',h1,h2,h3,h4,h5,h6,h7⟩
theorem jjend {α:Type} {φ:α→Prop} {D:List Nat} {M:α→List (Nat×CV)} {Hp:α→List (Option Nat×Res)} {b1:Nat→CV} (p':α) (h1:φ p') (h5:EntE s.env s.b (M p'):=by (repeat (first|exact EntE.nil|refine EntE.cons cZ ?_|refine EntE.cons (cI (by omega)) ?_))) (h7:HEnt (s.H.take (Hp p').length) (Hp p'):=by (repeat (first|exact HEnt.nil|refine HEnt.same ?_|refine HEnt.blk rfl (fun j hj=>by rcases j with _|_|_|_|_|_|_|_|j <;> first|exact cZ|exact cI (by omega)|omega) ?_)))
  (h3:BLe D b1 s.b:=by first|exact .refl|exact .nest .refl rfl rfl|exact .nest (.nest .refl rfl rfl) rfl rfl|exact .nest (.nest (.nest .refl rfl rfl) rfl rfl) rfl rfl|(repeat (first|exact .refl|refine .nest ?_ rfl rfl|refine BLe.look2 ?_ rfl))) (h4:(s.env.all fun x=>D.any (Nat.beq x.1))=true:=by exact rfl) (h6:(Hp p').length≤s.H.length:=by exact Nat.le_of_ble_eq_true rfl) :
  ∃ p',φ p'∧BLe D b1 s.b∧(s.env.all fun x=>D.any (Nat.beq x.1))=true∧EntE s.env s.b (M p')∧(Hp p').length≤s.H.length∧HEnt (s.H.take (Hp p').length) (Hp p'):=⟨p',h1,h3,h4,h5,h6,h7⟩
end
section
variable {G:Gh} {o:Oper} {s:AS}
def jerrN:CV→Option Nat
 | .err k=>some k
 | .c .nilIface=>some 0
 | _=>none
def jerrZ (op:BinOp) (n:Nat):Option Bool:=match op with|.eql=>some (decide (n=0))|.neq=>some (decide (n≠0))|_=>none
theorem jre {op:BinOp} {x:Operand} {u:TypeId} {n:Nat} {z:Bool} (ho:o.op=.binOp op 25 x (.const .nilIface) u:=by exact rfl) (hx:jerrN (s.eval x)=some n:=by exact rfl) (hz:jerrZ op n=some z:=by exact rfl):ARd Tryz.prog G o s (.c (.bool z)):=by
 unfold jerrN at hx
 cases op <;> simp only [jerrZ,Option.some.injEq,reduceCtorEq] at hz
 all_goals subst hz
 ·split at hx
  ·rename_i h;cases hx;exact rd_eqE ho h
  ·rename_i h;cases hx;exact rd_eqE0 ho h
  ·cases hx
 ·split at hx
  ·rename_i h;cases hx;exact rd_neE ho h
  ·rename_i h;cases hx;exact rd_neE0 ho h
  ·cases hx
end
end
section
set_option maxHeartbeats 1000000
section
variable {P:Program} {G:Gh} {ops:Array Oper} {o:Oper} {s:AS} {K:AS→Prop} {t u:TypeId} {x y:Operand} {k:IntKind}
def AMx (P:Program) (G:Gh) (g:Option Nat) (o:Oper) (s:AS) (K:AS→Prop):Prop:=∀ St a w,RelSt G St s a w→∀ Q,o.wp P a w (fun a' w'=>(∀ q,q<w.heap.size→g≠some q→w'.heap[q]?=w.heap[q]?)∧∃ St',(∀ b,St b→St' b)∧∃ s',K s'∧RelSt G St' s' a' w') Q
theorem md_storeX {i off n m:Nat} {g:Option Nat} {f:Nat→CV} {c:CV} {l:List CV} (ho:o.op=.store t x y) (hx:s.eval x=.op i g off) (hH:s.H[i]?=some (g,.blk n f)) (hy:s.eval y=c) (hl:cellsC c=some l) (h5:(P.info? t).map (·.size)=some m) (hm:l.length=m) (hleaf:l.all leafC=true) (hn:off+m≤n)
  (F:Nat→CV) (hF:∀ j,j<n→CEnt (updF f off l j) (F j)) (hd:dstOk G o=true) (hK:K (s.with o.dst (.c undef) (s.H.set i (g,.blk n F)))):AMx P G g o s K:=fun St a w hr Q=>by
 obtain ⟨info,hi,h6⟩:=Option.map_eq_some_iff.1 h5
 obtain ⟨b,rfl,e⟩:=evR hr hx
 have hc:=cells_rep (evR hr hy) hl
 obtain ⟨fp,hp⟩:=hr.hp
 obtain ⟨h00,cur,ty,hh,hle,hcell⟩:=hp.rep i (some b) _ hH
 have hst:=run_storeCells_at P b off ty (a.eval y).cells.toList 0 cur w hh (by simp [hc.1];omega) (storeAll hc hleaf)
 simp only [Nat.add_zero] at hst
 have hrun:(execOp a.eval o).run P w=.ok .skip (w.setRow b (cur.toList.take off++(a.eval y).cells.toList++cur.toList.drop (off+(a.eval y).cells.toList.length)).toArray):=by
  simp only [execOp,ho,e]
  simp [Instr.storeAt,Instr.sureAddr,storeVar,sizeOf,typeInfo,hi,h6,hc.1,hm]
  rw [show (a.eval y).cells.toList.length=m by simp [hc.1,hm]] at hst
  simp [hst]
 unfold Oper.wp
 rw [hrun]
 have hlen:(a.eval y).cells.toList.length=m:=by simp [hc.1,hm]
 refine ⟨fun q _ hg=>setRow_other w b q _ (fun e=>hg (by rw [e])),St,fun _ h=>h,_,hK,?_⟩
 have hw:=hr.write hH hh (cs:=(cur.toList.take off++(a.eval y).cells.toList++cur.toList.drop (off+(a.eval y).cells.toList.length)).toArray) (by simp [hc.1];omega) (n':=n) (f':=F) (by simp [hc.1];omega) (fun j hj=>by
  refine hF j hj _ _ _ _ ?_
  rw [updF_get,row_at cur _ off (by rw [hlen];omega),hlen,hm]
  by_cases h1:off≤j∧j<off+m
  ·rw [if_pos h1,if_pos h1]
   have:=hc.2 (j-off) (by omega)
   simpa [List.getD] using this
  ·rw [if_neg h1,if_neg h1]
   exact hcell j hj)
 have:=hw.put (dst:=o.dst) (v:=.c undef) (x:=undef) (dst_of hd) rfl
 cases ho:o.dst with
 | none=>rw [ho] at this;exact this
 | some d=>rw [ho] at this;exact this

theorem md_appendX {e:TypeId} {z:Value} {i n m k N by_:Nat} {g:Option Nat} {f h:Nat→CV} (ho:o.op=.call ⟨.builtin .append,#[x,y],#[t,u]⟩) (hx:s.eval x=.os i g 0 n k) (hH:s.H[i]?=some (g,.blk N f)) (hN:n * k≤N)
  (hsrc:ASrc P G s y k m h) (h1:P.underlying t=some (.slice e)) (hu:notInt P u=true) (h5:(P.info? e).map (·.size)=some k) (hz:(P.info? e).map (·.zero)=some (some z)) (hby:(P.info? e).map (·.bytes)=some by_)
  (h63:n+m≤9223372036854775807) (h48:(n+m) * by_≤140737488355328) (hzk:z.cells.size=k)
  (F:Nat→CV) (hF:∀ j,j<(n+m) * k→CEnt (appF (n * k) f h j) (F j)) (hleaf:∀ j,j<m * k→leafC (h j)=true) (hd:dstOk G o=true)
  (hK:∀ g',K (s.with o.dst (.os i g' 0 (n+m) k) (s.H.set i (g',.blk ((n+m) * k) F)))):AMx P G g o s K:=fun St a w hr Q=>by
 obtain ⟨info,hi,hs⟩:=Option.map_eq_some_iff.1 h5
 obtain ⟨info',hi',hz⟩:=Option.map_eq_some_iff.1 hz
 obtain rfl:=Option.some.inj (hi.symm.trans hi')
 obtain ⟨info',hi',hby⟩:=Option.map_eq_some_iff.1 hby
 obtain rfl:=Option.some.inj (hi.symm.trans hi')
 obtain ⟨news,hnl,hnr,hrun⟩:=hsrc St a w hr
 have he:=evR hr hx
 have hlen:(n+m) * k=n * k+m * k:=Nat.add_mul ..
 -- the value's parts
 obtain ⟨base,cap,ev,hle,hcap,hbase⟩:∃ base cap,a.eval x=.slice base n cap∧n≤cap∧cap≤9223372036854775807∧((g=none∧base=none∧cap=0∧n=0)∨∃ b,g=some b∧base=some ⟨b,0,none⟩∧∃ cur t z,w.heap[b]?=some (.cells cur t z)∧0+cap * k≤cur.size):=by
  cases g with
  | none=>obtain ⟨h1,h2⟩:=he;exact ⟨none,0,by rw [h2,h1],by omega,by omega,.inl ⟨rfl,rfl,rfl,h1⟩⟩
  | some b=>obtain ⟨cap,h1,h2,h3,h4⟩:=he;exact ⟨_,cap,h1,h2,h3,.inr ⟨b,rfl,rfl,h4⟩⟩
 have hargs:(#[x,y]:Array Operand).map a.eval=#[a.eval x,a.eval y]:=by simp
 have put:∀ {w':World} {v:Value} {c:CV} {H:List (Option Nat×Res)},RelSt G St ⟨s.env,s.b,H⟩ a w'→RepC G.al St w' c v→RelSt G St (s.with o.dst c H) (a.put o.dst v) w':=fun {w' v c H} h1 h2=>by
  have:=h1.put (dst:=o.dst) (dst_of hd) h2
  cases ho:o.dst with
  | none=>rw [ho] at this;exact this
  | some d=>rw [ho] at this;exact this
 by_cases hroom:n+m≤cap
 ·-- in place
  rcases hbase with ⟨hg,hb,hc0,hn0⟩|⟨b,hg,hb,cu,tt,zz,hcu,hfit⟩
  ·subst hg hb
   have hm0:m=0:=by omega
   subst hm0
   have hrun':=run_app_room (t:=t) (u:=u) (ty:=o.type) h1 hu hi hs (hrun w rfl).1 (hrun w rfl).2 hroom (base:=none) (w':=w) (fun _ h=>by simp at h) (fun _=>rfl)
   unfold Oper.wp
   rw [exec_append ho (by rw [hargs,ev];exact hrun')]
   refine ⟨fun _ _ _=>rfl,St,fun _ h=>h,_,hK none,?_⟩
   have hlt:=(List.getElem?_eq_some_iff.1 hH).1
   have hmv:RelSt G St ⟨s.env,s.b,s.H.set i (none,.blk ((n+0) * k) F)⟩ a w:=by
    refine ⟨hr.df,hr.sz,hr.env,hr.un,hr.s1,hr.s2,hr.s3,?_,hr.sn,hr.sg⟩
    obtain ⟨fp,hp⟩:=hr.hp
    refine ⟨fp,fun j q r hj=>?_,hp.dis,hp.own,fun j hj=>hp.out j (by simpa using hj)⟩
    by_cases hj2:j=i
    ·subst hj2
     simp [hlt] at hj
     obtain ⟨rfl,rfl⟩:=hj
     exact ⟨by simp [hn0],(hp.rep j none _ hH).2⟩
    ·rw [List.getElem?_set_ne (Ne.symm hj2)] at hj
     exact hp.rep j q r hj
   exact put hmv ⟨by omega,by rw [hn0,hc0]⟩
  ·subst hg hb
   obtain ⟨fp,hp⟩:=hr.hp
   obtain ⟨hb0,cur,ty,hh,hle2,hcell⟩:=hp.rep i (some b) _ hH
   have hq:=Option.some.inj (hcu.symm.trans hh)
   injection hq with e1 e2 e3
   have hfit:0+cap * k≤cur.size:=e1 ▸ hfit
   have hfit2:n * k+news.length≤cur.size:=by
    rw [hnl,← hlen]
    exact Nat.le_trans (Nat.mul_le_mul_right _ hroom) (by omega)
   have hone:∀ v ∈ news,v.oneCell'=true:=fun v hv=>by
    obtain ⟨j,hj,e⟩:=List.mem_iff_getElem.1 hv
    have h2:=hnr j (by omega)
    rw [show news.getD j undef=v by simp [List.getD,hj,e]] at h2
    exact leaf_one (hleaf j (by omega)) h2
   have hst:=run_storeCells_at P b (n * k) ty news 0 cur w hh (by simpa using hfit2) hone
   simp only [Nat.add_zero] at hst
   have hrun':=run_app_room (t:=t) (u:=u) (ty:=o.type) h1 hu hi hs (hrun w rfl).1 (hrun w rfl).2 hroom (base:=some ⟨b,0,none⟩) (w':=w.setRow b (cur.toList.take (n * k)++news++cur.toList.drop (n * k+news.length)).toArray) (fun ad h=>by
    have h:=Option.some.inj h
    subst h
    rw [addr_add,Nat.zero_add]
    exact hst) (fun h=>by simp at h)
   unfold Oper.wp
   rw [exec_append ho (by rw [hargs,ev];exact hrun')]
   refine ⟨fun q _ hg=>setRow_other w b q _ (fun e=>hg (by rw [e])),St,fun _ h=>h,_,hK (some b),?_⟩
   have hw:=hr.write hH hh (cs:=(cur.toList.take (n * k)++news++cur.toList.drop (n * k+news.length)).toArray) (by simp;omega) (n':=(n+m) * k) (f':=F) (by simp;omega) (fun j hj=>by
    refine hF j hj _ _ _ _ ?_
    rw [row_at cur news (n * k) hfit2]
    unfold appF
    by_cases h3:j<n * k
    ·rw [if_pos h3,if_neg (by omega)];exact hcell j (by omega)
    ·rw [if_neg h3,if_pos (by omega)];exact hnr _ (by omega))
   refine put hw ⟨cap,rfl,hroom,hcap,?_⟩
   exact ⟨_,_,_,setRow_heap w b cur _ _ _ hh,by simp;omega⟩
 ·-- a new row
  have hroom:cap<n+m:=by omega
  obtain ⟨olds,hol,hor,horun⟩:SrcAt P G.al St w (.slice base n cap) k n f:=by
   rcases hbase with ⟨hg,hb,hc0,hn0⟩|⟨b,hg,hb,_⟩
   ·subst hb hn0 hc0;exact src_none
   ·subst hg hb
    obtain ⟨_,cur,tt,zz,hh,hle,hc⟩:=blkCells hr hH
    refine src_cells (g:=fun j=>cur.getD j undef) fun j hj=>⟨?_,hc j (by omega)⟩
    have hlt:j<cur.size:=by omega
    rw [Nat.zero_add,cell_of_row w b j cur tt zz hh];simp [hlt]
  have hrun':=run_app_grow (t:=t) (u:=u) (ty:=o.type) h1 hu hi hs hz (fun W hW=>(hrun W hW).1) (fun W hW=>(horun W hW).2) (fun W hW=>(hrun W hW).2) hroom h63 (by rw [hby];exact h48)
  unfold Oper.wp
  rw [exec_append ho (by rw [hargs,ev];exact hrun')]
  refine ⟨fun q hq _=>(below_drewAlloc w _).block q hq,St,fun _ h=>h,_,hK (some w.heap.size),?_⟩
  have hgc:n+m≤grownCap w (n+m) cap e∧grownCap w (n+m) cap e≤9223372036854775807:=by
   have hlt:=Nat.mod_lt (w.tape w.drawn (.appendCap (n+m) cap e)) (show 0<2 ^ 63-(n+m) by omega)
   simp only [grownCap,Question.cut]
   omega
  have hcell0:(w.drew.alloc (.cells (olds.toArray++news.toArray++Builtin.zeroCells z.cells (grownCap w (n+m) cap e-(n+m))) e)).heap[w.heap.size]?=some (.cells (olds.toArray++news.toArray++Builtin.zeroCells z.cells (grownCap w (n+m) cap e-(n+m))) e (0,0)):=heap_alloc_new w.drew _
  have hsize:(olds.toArray++news.toArray++Builtin.zeroCells z.cells (grownCap w (n+m) cap e-(n+m))).size=grownCap w (n+m) cap e * k:=by
   simp [Builtin.zeroCells,hol,hnl,hzk]
   rw [← Nat.add_mul,← Nat.add_mul]
   congr 1
   omega
  have hEvo:Evo St w (w.drew.alloc (.cells (olds.toArray++news.toArray++Builtin.zeroCells z.cells (grownCap w (n+m) cap e-(n+m))) e)):=Evo.of_below (below_drewAlloc w _) hr.s3
  have hfr:=hr.fresh (below_drewAlloc w _) (Nat.le_refl _) hcell0 (n:=(n+m) * k) (f:=F) (by rw [hsize];exact Nat.mul_le_mul_right _ hgc.1) (fun j hj=>by
   refine hF j hj _ _ _ _ (RepC.evo hEvo (fun _ x=>x) _ _ ?_)
   unfold appF
   rw [row_app olds news _ j (by omega),hol]
   by_cases h3:j<n * k
   ·rw [if_pos h3,if_pos h3];exact hor j h3
   ·rw [if_neg h3,if_neg h3];exact hnr (j-n * k) (by omega))
  have hkl:=hfr.move ((List.getElem?_eq_some_iff.1 hH).1)
  refine put hkl ⟨_,rfl,hgc.1,hgc.2,_,_,_,hcell0,?_⟩
  rw [hsize]
  omega
end
section
variable {P:Program} {G:Gh} {ops:Array Oper} {o:Oper} {env:List (Nat×CV)} {b0:Nat→CV} {H:List (Option Nat×Res)} {K:AS→Prop} {t u:TypeId} {p q:Operand}
theorem m_storeX {i off n m:Nat} {g:Option Nat} {f:Nat→CV} {c:CV} {l:List CV} (ho:o.op=.store t p q) (hx:(⟨env,b0,H⟩:AS).eval p=.op i g off) (hH:H[i]?=some (g,.blk n f)) (hy:(⟨env,b0,H⟩:AS).eval q=c) (hl:cellsC c=some l) (h5:(P.info? t).map (·.size)=some m) (hm:l.length=m) (hleaf:l.all leafC=true) (hn:off+m≤n)
  (F:Nat→CV) (hF:∀ j,j<n→CEnt (updF f off l j) (F j)) (hd:o.dst=none) (hK:K ⟨env,b0,H.set i (g,.blk n F)⟩):AMx P G g o ⟨env,b0,H⟩ K :=
 md_storeX ho hx hH hy hl h5 hm hleaf hn F hF (dst_n hd) (by rw [with_none hd];exact hK)
theorem m_appendX {e:TypeId} {z:Value} {i n m k N by_ n' N' d:Nat} {g:Option Nat} {f h:Nat→CV} (ho:o.op=.call ⟨.builtin .append,#[p,q],#[t,u]⟩) (hx:(⟨env,b0,H⟩:AS).eval p=.os i g 0 n k) (hH:H[i]?=some (g,.blk N f)) (hN:n * k≤N)
  (hsrc:ASrc P G ⟨env,b0,H⟩ q k m h) (h1:P.underlying t=some (.slice e)) (hu:notInt P u=true) (h5:(P.info? e).map (·.size)=some k) (hz:(P.info? e).map (·.zero)=some (some z)) (hby:(P.info? e).map (·.bytes)=some by_)
  (h63:n+m≤9223372036854775807) (h48:(n+m) * by_≤140737488355328) (hzk:z.cells.size=k)
  (F:Nat→CV) (hF:∀ j,j<(n+m) * k→CEnt (appF (n * k) f h j) (F j)) (hleaf:∀ j,j<m * k→leafC (h j)=true) (hd:o.dst=some d) (hdN:Nat.blt d G.N=true) (hn':n+m=n') (hN':(n+m) * k=N')
  (hK:∀ g',K ⟨(d,.os i g' 0 n' k)::env,b0,H.set i (g',.blk N' F)⟩):AMx P G g o ⟨env,b0,H⟩ K :=
 md_appendX ho hx hH hN hsrc h1 hu h5 hz hby h63 h48 hzk F hF hleaf (dst_s hd hdN) fun g'=>by subst hn';subst hN';rw [with_some hd];exact hK g'
theorem m_appendCX {α:Type} {C:List α→Nat→CV} {k:Nat} (hC:RowC k C) {e:TypeId} {z:Value} {i n N N' by_ d:Nat} {t u:TypeId} {p q:Operand} {env:List (Nat×CV)} {b0:Nat→CV} {H:List (Option Nat×Res)} {K:AS→Prop} {g:Option Nat} {f h:Nat→CV} {l l2:List α} {m:Nat} (ho:o.op=.call ⟨.builtin .append,#[p,q],#[t,u]⟩) (hx:(⟨env,b0,H⟩:AS).eval p=.os i g 0 n k) (hn:n=l.length) (hH:H[i]?=some (g,.blk N f)) (hN:l.length * k≤N) (hf:∀ j,j<l.length * k→CEnt (f j) (C l j))
  (hsrc:ASrc P G ⟨env,b0,H⟩ q k m h) (hm:m=l2.length) (hh:∀ j,j<l2.length * k→CEnt (h j) (C l2 j)) (h1:P.underlying t=some (.slice e)) (hu:notInt P u=true) (h5:(P.info? e).map (·.size)=some k) (hz:(P.info? e).map (·.zero)=some (some z)) (hby:(P.info? e).map (·.bytes)=some by_) (hzk:z.cells.size=k)
  (h63:l.length+l2.length≤9223372036854775807) (h48:(l.length+l2.length) * by_≤140737488355328) (hleaf:∀ j,j<m * k→leafC (h j)=true) (hd:o.dst=some d) (hdN:Nat.blt d G.N=true) (hN':(l++l2).length * k=N')
  (hK:∀ g',K ⟨(d,.os i g' 0 (l++l2).length k)::env,b0,H.set i (g',.blk N' (C (l++l2)))⟩):AMx P G g o ⟨env,b0,H⟩ K:=by
 subst hm hn
 refine m_appendX ho hx hH hN hsrc h1 hu h5 hz hby h63 h48 hzk (C (l++l2)) (fun j hj=>?_) hleaf hd hdN List.length_append.symm (by rw [← List.length_append];exact hN') hK
 rw [← hC l l2 j hj]
 unfold appF
 split
 ·rename_i h;exact hf j h
 ·rename_i h
  refine hh _ ?_
  rw [Nat.add_mul] at hj
  omega
end
section
variable {P:Program} {G:Gh} {ops:Array Oper} {o:Oper} {s:AS} {K:AS→Prop} {n:Nat} {R:Exit→AS→Prop}
def AZL (P:Program) (G:Gh) (ops:Array Oper) (n:Nat) (t:OrdO) (s:AS) (K:AS→Prop):Prop :=
 ∀ St a w,RelSt G St s a w→∀ Q:Exit→Act→World→Prop,(∀ s' a' w',K s'→Rel G s' a' w'→Q .normal a' w')→∃ St':Nat→Prop,(∀ b,St b→St' b)∧wpXS P ops Q (fun b=>St' b∨b=n) t a w
theorem zl_done (h:K s):AZL P G ops n .done s K:=fun St _ _ hr _ hQ=>⟨St,fun _ h=>h,hQ _ _ _ h ⟨_,hr⟩⟩
theorem zl_rd {t:OrdO} {v:CV} (hw:Wanted G ops o s true) (hd:dstOk G o=true) (h:ARd P G o s v) (hk:AZL P G ops n t (s.put o.dst v) K):AZL P G ops n (.rd o t) s K:=fun St a w hr Q hQ=>by
 obtain ⟨x,hx,hv⟩:=h St a w hr
 obtain ⟨St',hs,h2⟩:=hk _ _ _ (hr.put (dst_of hd) hv) Q hQ
 exact ⟨St',hs,x,.inl (YieldsS.grow (S:=St) (fun b hb=>.inl (hs b hb)) (.inl ⟨hw St a w hr,fun W hW=>hx W hW⟩)),h2⟩
theorem zl_rdO {t:OrdO} {v:CV} (hw:Wanted G ops o s true) (hd:dstOk G o=true) (hb:ownB ops o=true) (h:ARdO P G o s v) (hk:AZL P G ops n t (s.put o.dst v) K):AZL P G ops n (.rd o t) s K:=fun St a w hr Q hQ=>by
 obtain ⟨x,hx,hv⟩:=h St a w hr
 obtain ⟨St',hs,h2⟩:=hk _ _ _ (hr.put (dst_of hd) hv) Q hQ
 exact ⟨St',hs,x,.inr ⟨hb,.inl ⟨hw St a w hr,fun W hW=>hx W hW⟩⟩,h2⟩
def ARdL (P:Program) (G:Gh) (n:Nat) (o:Oper) (s:AS) (v:CV):Prop:=∀ St a w,RelSt G St s a w→∃ x,(∀ W:World,W.heap[n]?=w.heap[n]?→(execOp a.eval o).run P W=.ok (.value x) W)∧RepC G.al St w v x
theorem zl_rdL {t:OrdO} {v:CV} (hw:Wanted G ops o s true) (hd:dstOk G o=true) (h:ARdL P G n o s v) (hk:AZL P G ops n t (s.put o.dst v) K):AZL P G ops n (.rd o t) s K:=fun St a w hr Q hQ=>by
 obtain ⟨x,hx,hv⟩:=h St a w hr
 obtain ⟨St',hs,h2⟩:=hk _ _ _ (hr.put (dst_of hd) hv) Q hQ
 exact ⟨St',hs,x,.inl (.inl ⟨hw St a w hr,fun W hW=>hx W (hW n (.inr rfl))⟩),h2⟩
theorem lent_own {St:Nat→Prop} {a:Act} {w:World} {j m:Nat} {f:Nat→CV} (hr:RelSt G St s a w) (hj:s.H[j]?=some (some n,.blk m f)):n<w.heap.size∧¬ St n:=by
 obtain ⟨fp,hp⟩:=hr.hp
 have:=hp.own j n (((hp.rep j (some n) _ hj).1 n).2 rfl)
 exact ⟨this.1,this.2.1⟩
theorem lent_ne {St:Nat→Prop} {a:Act} {w:World} {i j m N:Nat} {g:Option Nat} {f F:Nat→CV} (hr:RelSt G St s a w) (hj:s.H[j]?=some (some n,.blk m f)) (hi:s.H[i]?=some (g,.blk N F)) (hij:i≠j):g≠some n:=by
 rintro rfl
 obtain ⟨fp,hp⟩:=hr.hp
 exact hij (hp.dis i j n (((hp.rep i (some n) _ hi).1 n).2 rfl) (((hp.rep j (some n) _ hj).1 n).2 rfl))
theorem zl_md {t:OrdO} {i j m N:Nat} {g:Option Nat} {f F:Nat→CV} (hw:Wanted G ops o s true) (hm:isMod o=true) (hj:s.H[j]?=some (some n,.blk m f)) (hi:s.H[i]?=some (g,.blk N F)) (hij:i≠j) (h:AMx P G g o s (fun s'=>AZL P G ops n t s' K)):AZL P G ops n (.one o t) s K:=fun St a w hr Q hQ=>by
 refine ⟨St,fun _ h=>h,?_⟩
 unfold wpXS
 rw [if_pos (hw St a w hr)]
 have hn:=lent_own hr hj
 have hg:=lent_ne hr hj hi hij
 refine Oper.wp_mono (fun a' w' ⟨hb,St',hs,s',h1,h2⟩=>?_) (h St a w hr Q)
 obtain ⟨St2,hs2,h3⟩:=h1 St' a' w' h2 Q hQ
 refine ⟨⟨fun b hb'=>?_,fun h=>by rw [Option.any_some,hm] at h;cases h⟩,_,fun b hb=>hb.imp (fun h=>hs2 b (hs b h)) id,h3⟩
 rcases hb' with hb'|rfl
 ·refine hb b (hr.s3 b hb') ?_
  rintro rfl
  obtain ⟨fp,hp⟩:=hr.hp
  exact (hp.own i b (((hp.rep i (some b) _ hi).1 b).2 rfl)).2.1 hb'
 ·exact hb b hn.1 hg
theorem zl_ex {t:OrdO} {j m:Nat} {f:Nat→CV} (hw:Wanted G ops o s true) (hj:s.H[j]?=some (some n,.blk m f)) (h:AEx P G o s (fun s'=>AZL P G ops n t s' K)):AZL P G ops n (.one o t) s K:=fun St a w hr Q hQ=>by
 refine ⟨St,fun _ h=>h,?_⟩
 unfold wpXS
 rw [if_pos (hw St a w hr)]
 have hn:=lent_own hr hj
 refine Oper.wp_mono (fun a' w' ⟨hb,St',hs,s',h1,h2⟩=>?_) (h St a w hr Q)
 obtain ⟨St2,hs2,h3⟩:=h1 St' a' w' h2 Q hQ
 refine ⟨⟨fun b hb'=>?_,fun _=>hb⟩,_,fun b hb=>hb.imp (fun h=>hs2 b (hs b h)) id,h3⟩
 rcases hb' with hb'|rfl
 ·exact hb.block b (hr.s3 b hb')
 ·exact hb.block b hn.1
theorem zl_two {p:Oper} {t u:OrdO} (h1:AZL P G ops n (.one o t) s K) (h2:AZL P G ops n (.one p u) s K):AZL P G ops n (.two o t p u) s K:=fun St a w hr Q hQ=>by
 obtain ⟨S1,hs1,h3⟩:=h1 St a w hr Q hQ
 obtain ⟨S2,hs2,h4⟩:=h2 St a w hr Q hQ
 have h3:=wpXS_lower (S:=fun b=>St b∨b=n) (fun b hb=>hb.imp (hs1 b) id) h3
 have h4:=wpXS_lower (S:=fun b=>St b∨b=n) (fun b hb=>hb.imp (hs2 b) id) h4
 unfold wpXS at h3 h4
 exact ⟨St,fun _ h=>h,h3,h4⟩
theorem zl_ent {tr:OrdO} {s':AS} (he:EntS G s s') (h:AZL P G ops n tr s' K):AZL P G ops n tr s K:=fun St a w hr Q hQ=>by
 obtain ⟨S1,h1,h2⟩:=he St a w hr
 obtain ⟨S2,h3,h4⟩:=h S1 a w h2 Q hQ
 exact ⟨S2,fun b hb=>h3 b (h1 b hb),h4⟩
theorem code_drawL {id:Nat} (n:Nat) (u:Ord) (hmix:P.follows .mixedOrders=true) (hs:Region.noSelect ops=true) (hul:u.len=ops.size) (huin:u.within ops.size=true) (hu:orderT .any ops u (Array.replicate ops.size false)=true)
  (h:AZL P G ops n (opsOfT ops u) s (R .normal)) (hd:rdB G.rd ops=true:=by rfl):ACode P G (.region id ops true) s R:=fun a w ⟨St,hr⟩ Q hQ =>
 let ⟨_,_,h5⟩:=h St a w.drew (hr.ext (below_drew1 w)) (NoPanic (OnlyN Q)) (fun s'' a'' w'' h3 h4=>NoPanic.normal (hQ .normal s'' a'' w'' h3 h4))
 wpIn_any hd hmix (any_S u hs hul huin hu h5)
theorem rd_loadL {t:TypeId} {x:Operand} {d:TypeDesc} {i off N:Nat} {f:Nat→CV} {v:CV} (ho:o.op=.load t x) (hx:s.eval x=.op i (some n) off) (hH:Holds s i (some n) N f) (h1:P.underlying t=some d) (ha:aggB P t=false) (hn:off<N) (hv:f off=v):ARdL P G n o s v:=fun St a w h=>by
 obtain ⟨b,hb,e⟩:=evR h hx
 cases hb
 obtain ⟨hg,cur,ty,z,hh,hle,hc⟩:=holdCells h hH
 have hlt:off<cur.size:=by omega
 have hcell:w.cell? ⟨n,off,none⟩=some (cur.getD off undef):=by
  rw [cell_of_row w n off cur ty z hh];simp [hlt]
 refine ⟨_,fun W hW=>exec_load ho e (run_loadVar1 h1 ha ?_),hv ▸ hc off hn⟩
 exact (cell_of_block hW off).trans hcell
end
section
variable {P:Program} {G:Gh} {ops:Array Oper} {o:Oper} {s:AS} {env:List (Nat×CV)} {b0:Nat→CV} {H:List (Option Nat×Res)} {K:AS→Prop} {i n:Nat} {t:Ord} {R:Exit→AS→Prop}
theorem jlrd {t:TypeId} {x:Operand} {i off N:Nat} {f:Nat→CV} {v:CV} (ho:o.op=.load t x:=by exact rfl) (hx:s.eval x=.op i (some n) off:=by exact rfl) (hH:Holds s i (some n) N f:=by first|exact .inl rfl|exact .inr rfl) (hv:f off=v:=by first|exact jflO_eq rfl|exact jfz_eq rfl) (hn:off<N:=by first|decide|omega|(dsimp only at *;omega)) (hT:jldQ P t=true:=by kernel_rfl):ARdL P G n o s v:=by
 obtain ⟨d,h1,ha⟩:=jldQ_ok hT
 exact rd_loadL ho hx hH h1 ha hn hv
theorem jLL {d:Nat} {v:CV} (h:ARdL P G n (jopG ops.toList i) ⟨env,b0,H⟩ v) (hk:AZL P G ops n (opsOfT ops t) ⟨(d,v)::env,b0,H⟩ K) (hd:(jopG ops.toList i).dst=some d:=by exact rfl) (hN:Nat.blt d G.N=true:=by exact rfl) (hw:Wanted G ops (jopG ops.toList i) ⟨env,b0,H⟩ true:=by first|exact wanted_none rfl|exact wanted_is rfl rfl rfl rfl true rfl) (hi:Nat.blt i ops.size=true:=by exact rfl):AZL P G ops n (opsOfT ops (.rd i t)) ⟨env,b0,H⟩ K:=by
 rw [joT_rd hi]
 exact zl_rdL hw (by simp only [dstOk,hd];exact hN) h (by simp only [AS.put,hd];exact hk)
theorem jLq {d:Nat} {v:CV} (h:ARd P G (jopG ops.toList i) ⟨env,b0,H⟩ v) (hk:AZL P G ops n (opsOfT ops t) ⟨(d,v)::env,b0,H⟩ K) (hd:(jopG ops.toList i).dst=some d:=by exact rfl) (hN:Nat.blt d G.N=true:=by exact rfl) (hw:Wanted G ops (jopG ops.toList i) ⟨env,b0,H⟩ true:=by first|exact wanted_none rfl|exact wanted_is rfl rfl rfl rfl true rfl) (hi:Nat.blt i ops.size=true:=by exact rfl):AZL P G ops n (opsOfT ops (.rd i t)) ⟨env,b0,H⟩ K:=by
 rw [joT_rd hi]
 exact zl_rd hw (by simp only [dstOk,hd];exact hN) h (by simp only [AS.put,hd];exact hk)
theorem jLo {d:Nat} {v:CV} (h:ARdO P G (jopG ops.toList i) ⟨env,b0,H⟩ v) (hk:AZL P G ops n (opsOfT ops t) ⟨(d,v)::env,b0,H⟩ K) (hd:(jopG ops.toList i).dst=some d:=by exact rfl) (hN:Nat.blt d G.N=true:=by exact rfl) (hw:Wanted G ops (jopG ops.toList i) ⟨env,b0,H⟩ true:=by first|exact wanted_none rfl|exact wanted_is rfl rfl rfl rfl true rfl) (hb:ownB ops (jopG ops.toList i)=true:=by kernel_rfl) (hi:Nat.blt i ops.size=true:=by exact rfl):AZL P G ops n (opsOfT ops (.rd i t)) ⟨env,b0,H⟩ K:=by
 rw [joT_rd hi]
 exact zl_rdO hw (by simp only [dstOk,hd];exact hN) hb h (by simp only [AS.put,hd];exact hk)
theorem jLe (j:Nat) {m:Nat} {f:Nat→CV} (h:AEx P G (jopG ops.toList i) ⟨env,b0,H⟩ (fun s'=>AZL P G ops n (opsOfT ops t) s' K)) (hj:H[j]?=some (some n,.blk m f):=by exact rfl) (hw:Wanted G ops (jopG ops.toList i) ⟨env,b0,H⟩ true:=by first|exact wanted_none rfl|exact wanted_is rfl rfl rfl rfl true rfl) (hi:Nat.blt i ops.size=true:=by exact rfl):AZL P G ops n (opsOfT ops (.one i t)) ⟨env,b0,H⟩ K:=by rw [joT_one hi];exact zl_ex hw hj h
theorem jLm (j i0:Nat) {m N:Nat} {g:Option Nat} {f F:Nat→CV} (h:AMx P G g (jopG ops.toList i) ⟨env,b0,H⟩ (fun s'=>AZL P G ops n (opsOfT ops t) s' K)) (hj:H[j]?=some (some n,.blk m f):=by exact rfl) (h0:H[i0]?=some (g,.blk N F):=by exact rfl) (hij:i0≠j:=by decide) (hw:Wanted G ops (jopG ops.toList i) ⟨env,b0,H⟩ true:=by first|exact wanted_none rfl|exact wanted_is rfl rfl rfl rfl true rfl) (hm:isMod (jopG ops.toList i)=true:=by exact rfl) (hi:Nat.blt i ops.size=true:=by exact rfl):AZL P G ops n (opsOfT ops (.one i t)) ⟨env,b0,H⟩ K:=by rw [joT_one hi];exact zl_md hw hm hj h0 hij h
theorem jLd (h:K s):AZL P G ops n (opsOfT ops .done) s K:=zl_done h
theorem jLtwo {j:Nat} {u:Ord} (h1:AZL P G ops n (opsOfT ops (.one i t)) s K) (h2:AZL P G ops n (opsOfT ops (.one j u)) s K) (hi:Nat.blt i ops.size=true:=by exact rfl) (hj:Nat.blt j ops.size=true:=by exact rfl):AZL P G ops n (opsOfT ops (.two i t j u)) s K:=by
 rw [joT_one hi] at h1
 rw [joT_one hj] at h2
 simp only [opsOfT,jopG_at hi,jopG_at hj]
 exact zl_two h1 h2
theorem jmstFX (m:Nat) (F:Nat→CV) {t:TypeId} {p q:Operand} {i off n:Nat} {g:Option Nat} {f:Nat→CV} {c:CV} {l:List CV} (hF:∀ j,j<n→CEnt (updF f off l j) (F j)) (hK:K ⟨env,b0,H.set i (g,.blk n F)⟩) (ho:o.op=.store t p q:=by exact rfl) (hx:(⟨env,b0,H⟩:AS).eval p=.op i g off:=by exact rfl) (hH:H[i]?=some (g,.blk n f):=by exact rfl) (hy:(⟨env,b0,H⟩:AS).eval q=c:=by first|exact jev_t rfl|exact jev_l rfl rfl rfl|exact jev_f rfl) (hl:cellsC c=some l:=by exact rfl) (hm:l.length=m:=by exact rfl) (h5:(P.info? t).map (·.size)=some m:=by kernel_rfl) (hleaf:l.all leafC=true:=by exact rfl) (hn:off+m≤n:=by first|decide|omega|(dsimp only at *;omega)) (hd:o.dst=none:=by exact rfl):AMx P G g o ⟨env,b0,H⟩ K :=
 m_storeX ho hx hH hy hl h5 hm hleaf hn F hF hd hK
theorem jcdL {id:Nat} (n:Nat) (u:Ord) (h:AZL P G ops n (opsOfT ops u) s (R .normal)) (hmix:P.follows .mixedOrders=true:=by kernel_rfl) (hs:Region.noSelect ops=true:=by kernel_rfl) (hul:u.len=ops.size:=by exact rfl) (huin:u.within ops.size=true:=by kernel_rfl) (hu:orderT .any ops u (Array.replicate ops.size false)=true:=by kernel_rfl) (hd:rdB G.rd ops=true:=by rfl):ACode P G (.region id ops true) s R:=code_drawL n u hmix hs hul huin hu h hd
end
end
end Am
end Go.Proofs.YthlpfjnkieaeeaaGreatDoor
