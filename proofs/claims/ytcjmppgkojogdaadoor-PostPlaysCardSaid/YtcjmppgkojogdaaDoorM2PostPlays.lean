/- What the law leans on, part 2: Am6, Am7, Am8, Am9, Ty, AmA, AmB, AmC, AmK, AmL, AmN, AmD, AmE, AmF, AmG, AmH, AmI, AmJ, AmO, AmQ, AmS, AmT, AmU, AmV, SsF, W35t, W35u, W35r, W35v -/
import Derived.Test.YtcjmppgkojogdaaDoorM1PostPlays
import Derived.Laws.StructEq
import Derived.Laws.RangeString
import Derived.Shelf.Abstract
import Derived.MapKept
import Derived.Conc.LoneSelectN
import Derived.Conc.SmallLaws
import Derived.Conc.LoneCalls

set_option maxRecDepth 100000
namespace Go.Proofs.YtcjmppgkojogdaaDoor
set_option linter.unusedVariables false
namespace Am
open Go.RowKit
section
section
variable {P:Program} {G:Gh} {ops:Array Oper} {o:Oper} {s:AS} {K:AS→Prop} {t u:TypeId} {x y:Operand} {k:IntKind}

def leafC:CV→Bool
 | .c v=>v.oneCell'
 | .err _|.rs _ _ _|.rp _ _|.os _ _ _ _ _|.op _ _ _|.fn _ _ _|.pv _=>true
 | _=>false
theorem leaf_one {al:List Addr} {St:Nat→Prop} {w:World}:∀ {c:CV} {v:Value},leafC c=true→RepC al St w c v→v.oneCell'=true
 | .c u,v,hl,h=>by
  have h:v=u:=h
  rw [h];exact hl
 | .err n,v,_,h=>by
  have h:v=ev al n:=h
  rw [h];unfold ev;split <;> rfl
 | .rs _ _ _,v,_,⟨_,_,h,_⟩=>by rw [h];rfl
 | .rp _ _,v,_,⟨_,_,h,_⟩=>by rw [h];rfl
 | .os _ none _ _ _,v,_,h=>by rw [h.2];rfl
 | .os _ (some _) _ _ _,v,_,⟨_,h,_⟩=>by rw [h];rfl
 | .op _ _ _,v,_,⟨_,_,h⟩=>by rw [h];rfl
 | .fn _ _ _,v,_,⟨_,h,_⟩=>by rw [h];rfl
 | .pv p,v,_,h=>(p.one h).2

theorem RelSt.write {St:Nat→Prop} {a:Act} {w:World} (h:RelSt G St s a w) {i g n n':Nat} {f f':Nat→CV} (hH:s.H[i]?=some (some g,.blk n f)) {cur cs:Array Value} {ty:TypeId} (hc:w.heap[g]?=some (.cells cur ty (0,0))) (hs:cs.size=cur.size)
  (hn:n'≤cs.size) (hf:∀ j,j<n'→RepC G.al St w (f' j) (cs.getD j undef)):RelSt G St ⟨s.env,s.b,s.H.set i (some g,.blk n' f')⟩ a (w.setRow g cs):=by
 obtain ⟨fp,hp⟩:=h.hp
 have hlt:i<s.H.length:=(List.getElem?_eq_some_iff.1 hH).1
 have hrep:=hp.rep i (some g) _ hH
 have hg:fp i g:=(hrep.1 g).2 rfl
 obtain ⟨hg1,hg2,hg3⟩:=hp.own i g hg
 have hnew:=setRow_heap w g cur cs ty (0,0) hc
 have hold:∀ b,b≠g→(w.setRow g cs).heap[b]?=w.heap[b]?:=fun b hb=>setRow_other w g b cs hb
 have hsz:(w.setRow g cs).heap.size=w.heap.size:=by simp [World.setRow]
 have he:Evo St w (w.setRow g cs):=⟨fun b cu ct cz hb hcu=>(hold b (fun e=>hg2 (e ▸ hb))).trans hcu,fun b cu t z hb=>by
  by_cases e:b=g
  ·subst e
   rw [hc] at hb
   cases hb
   exact ⟨cs,(0,0),hnew,hs⟩
  ·exact ⟨cu,z,(hold b e).trans hb,rfl⟩⟩
 refine ⟨h.df.keep (fun _ h=>h) (fun b hb=>hold b (fun e=>hg2 (e ▸ hb))),h.sz,fun d=>RepC.evo he (fun _ x=>x) _ _ (h.env d),⟨h.un.os,h.un.tape,h.un.output,by rw [hsz];exact h.un.size,fun k hk hF=>?_,fun b cu t z hb=>?_⟩,h.s1,h.s2,fun b hb=>by rw [hsz];exact h.s3 b hb,?_,?_,h.sg⟩
 ·refine (hold k (fun e=>?_)).trans (h.un.block k hk hF)
  subst e
  rcases hg3 with h1|h1
  ·omega
  ·exact hF h1
 ·obtain ⟨cur',z',h1,h2⟩:=h.un.sh b cu t z hb
  obtain ⟨cur2,z2,h3,h4⟩:=he.sh b cur' t z' h1
  exact ⟨cur2,z2,h3,h4.trans h2⟩
 ·refine ⟨fp,fun j q r hj=>?_,hp.dis,fun j b hb=>by rw [hsz];exact hp.own j b hb,fun j hj=>hp.out j (by simpa using hj)⟩
  by_cases e:j=i
  ·subst e
   simp [hlt] at hj
   obtain ⟨rfl,rfl⟩:=hj
   exact ⟨hrep.1,cs,ty,hnew,hn,fun m hm=>RepC.evo he (fun _ x=>x) _ _ (hf m hm)⟩
  ·rw [List.getElem?_set_ne (Ne.symm e)] at hj
   exact Res.rep_evo he (fun _ x=>x) (fun b hF=>hold b (fun e2=>e (hp.dis j i b hF (e2 ▸ hg)))) (hp.rep j q r hj)
 ·exact SentL.keep h.sn (fun q hq=>hold q (fun e=>hg2 (e ▸ h.sg.1 q hq))) (fun q hq=>hold _ (fun e=>hg2 (e ▸ h.sg.2 q hq)))

theorem RelSt.move {St:Nat→Prop} {a:Act} {w:World} {env:List (Nat×CV)} {b0:Nat→CV} {H:List (Option Nat×Res)} {x:Option Nat×Res} (h:RelSt G St ⟨env,b0,H++[x]⟩ a w) {i:Nat} (hi:i<H.length):RelSt G St ⟨env,b0,H.set i x⟩ a w:=by
 refine ⟨h.df,h.sz,h.env,h.un,h.s1,h.s2,h.s3,?_,h.sn,h.sg⟩
 obtain ⟨fp,hp⟩:=h.hp
 refine ⟨fun j b=>j<H.length∧if j=i then fp H.length b else fp j b,fun j q r' hj=>?_,fun j l b h1 h2=>?_,fun j b h1=>?_,fun j hj b h1=>?_⟩
 ·have hj1:j<H.length:=by
   have:=(List.getElem?_eq_some_iff.1 hj).1
   simpa using this
  by_cases e:j=i
  ·subst e
   simp [hi] at hj
   have e2:(fun b=>j<H.length∧if j=j then fp H.length b else fp j b)=fp H.length:=funext fun b=>by simp [hi]
   show r'.rep G.al St w (fun b=>j<H.length∧if j=j then fp H.length b else fp j b) q
   rw [e2]
   exact hp.rep H.length q r' (by simp [hj])
  ·rw [List.getElem?_set_ne (Ne.symm e)] at hj
   have e3:(fun b=>j<H.length∧if j=i then fp H.length b else fp j b)=fp j:=funext fun b=>by simp [e,hj1]
   show r'.rep G.al St w (fun b=>j<H.length∧if j=i then fp H.length b else fp j b) q
   rw [e3]
   exact hp.rep j q r' (by rw [List.getElem?_append_left hj1];exact hj)
 ·obtain ⟨a1,a2⟩:=h1
  obtain ⟨b1,b2⟩:=h2
  by_cases e1:j=i <;> by_cases e2:l=i
  ·omega
  ·simp only [e1,e2,if_true,if_false] at a2 b2
   have:=hp.dis _ _ b a2 b2
   omega
  ·simp only [e1,e2,if_true,if_false] at a2 b2
   have:=hp.dis _ _ b a2 b2
   omega
  ·simp only [e1,e2,if_false] at a2 b2
   exact hp.dis j l b a2 b2
 ·by_cases e:j=i
  ·simp only [e,if_true] at h1;exact hp.own _ b h1.2
  ·simp only [e,if_false] at h1;exact hp.own j b h1.2
 ·have:H.length≤j:=by simpa using hj
  omega
def updF (f:Nat→CV) (off:Nat):List CV→Nat→CV
 | []=>f
 | x::r=>updF (fun j=>match Nat.beq j off with|true=>x|false=>f j) (off+1) r
theorem updF_get:∀ (l:List CV) (f:Nat→CV) (off j:Nat),updF f off l j=if off≤j∧j<off+l.length then fl l (j-off) else f j
 | [],f,off,j=>by rw [updF,if_neg (by simp)]
 | x::r,f,off,j=>by
  rw [updF,updF_get r _ (off+1) j]
  by_cases h1:off+1≤j∧j<off+1+r.length
  ·rw [if_pos h1,if_pos (by simp;omega)]
   obtain ⟨m,hm⟩:∃ m,j-off=m+1:=⟨j-off-1,by omega⟩
   rw [hm,show j-(off+1)=m by omega,fl]
  ·rw [if_neg h1]
   rcases beq_cases j off with ⟨hb,he⟩|⟨hb,he⟩
   ·subst he
    simp only [hb]
    rw [if_pos (by simp),Nat.sub_self,fl]
   ·simp only [hb]
    rw [if_neg (by simp;omega)]

theorem row_at (cur:Array Value) (vs:List Value) (off:Nat) (h:off+vs.length≤cur.size) (j:Nat):((cur.toList.take off++vs++cur.toList.drop (off+vs.length)).toArray).getD j undef=if off≤j∧j<off+vs.length then vs.getD (j-off) undef else cur.getD j undef:=by
 simp only [Array.getD_eq_getD_getElem?,List.getElem?_toArray,List.getD_eq_getElem?_getD]
 have hm:min off cur.size=off:=by omega
 congr 1
 by_cases h1:j<off
 ·rw [if_neg (by omega),List.getElem?_append_left (by simp;omega),List.getElem?_append_left (by simp;omega),List.getElem?_take,if_pos h1,Array.getElem?_toList]
 ·by_cases h2:j<off+vs.length
  ·rw [if_pos (by omega),List.getElem?_append_left (by simp;omega),List.getElem?_append_right (by simp;omega)]
   congr 1
   simp [hm]
  ·have h9:(cur.toList.take off++vs).length=off+vs.length:=by simp [hm]
   rw [if_neg (by omega),List.getElem?_append_right (by omega),List.getElem?_drop,Array.getElem?_toList,h9,show off+vs.length+(j-(off+vs.length))=j by omega]

theorem storeAll {al:List Addr} {St:Nat→Prop} {w:World} {l:List CV} {cs:Array Value} (h:RepL al St w l cs) (hl:l.all leafC=true):∀ v ∈ cs.toList,v.oneCell'=true:=by
 intro v hv
 obtain ⟨i,hi,e⟩:=List.mem_iff_getElem.1 hv
 have hi':i<l.length:=by rw [← h.1];simpa using hi
 have h2:=h.2 i hi'
 have hi2:i<cs.size:=by simpa using hi
 have e2:cs.getD i undef=v:=by simp [hi2];simpa using e
 rw [e2] at h2
 refine leaf_one (c:=fl l i) ?_ h2
 rw [fl_get]
 have:=List.all_eq_true.1 hl (l.getD i .top) (by simp [List.getD,hi'])
 exact this

theorem md_store {i off n m:Nat} {g:Option Nat} {f:Nat→CV} {c:CV} {l:List CV} (ho:o.op=.store t x y) (hx:s.eval x=.op i g off) (hH:s.H[i]?=some (g,.blk n f)) (hy:s.eval y=c) (hl:cellsC c=some l) (h5:(P.info? t).map (·.size)=some m) (hm:l.length=m) (hleaf:l.all leafC=true) (hn:off+m≤n)
  (F:Nat→CV) (hF:∀ j,j<n→CEnt (updF f off l j) (F j)) (hd:dstOk G o=true) (hK:K (s.with o.dst (.c undef) (s.H.set i (g,.blk n F)))):AMd P G o s K:=fun St a w hr Q=>by
 obtain ⟨info,hi,h6⟩:=Option.map_eq_some_iff.1 h5
 obtain ⟨b,rfl,e⟩:=evR hr hx
 have hc:=cells_rep (evR hr hy) hl
 obtain ⟨fp,hp⟩:=hr.hp
 obtain ⟨h00,cur,ty,hh,hle,hcell⟩:=hp.rep i (some b) _ hH
 have hst:=run_storeCells_at P b off ty (a.eval y).cells.toList 0 cur w hh (by simp [hc.1];omega) (storeAll hc hleaf)
 simp only [Nat.add_zero] at hst
 have hrun:(execOp a.eval o).run P w=.ok .skip (w.setRow b (cur.toList.take off++(a.eval y).cells.toList++cur.toList.drop (off+(a.eval y).cells.toList.length)).toArray):=by
  simp only [execOp,ho,e]
  simp [Instr.storeAt,Instr.sureAddr,storeVar,sizeOf,typeInfo,hi,h6,hc.1,hm]
  rw [show (a.eval y).cells.toList.length=m by simp [hc.1,hm]] at hst
  simp [hst]
 unfold Oper.wp
 rw [hrun]
 have hlen:(a.eval y).cells.toList.length=m:=by simp [hc.1,hm]
 refine ⟨fun q hq=>setRow_other w b q _ (fun e=>(hp.own i b ((h00 b).2 rfl)).2.1 (e ▸ hq)),St,fun _ h=>h,_,hK,?_⟩
 have hw:=hr.write hH hh (cs:=(cur.toList.take off++(a.eval y).cells.toList++cur.toList.drop (off+(a.eval y).cells.toList.length)).toArray) (by simp [hc.1];omega) (n':=n) (f':=F) (by simp [hc.1];omega) (fun j hj=>by
  refine hF j hj _ _ _ _ ?_
  rw [updF_get,row_at cur _ off (by rw [hlen];omega),hlen,hm]
  by_cases h1:off≤j∧j<off+m
  ·rw [if_pos h1,if_pos h1]
   have:=hc.2 (j-off) (by omega)
   simpa [List.getD] using this
  ·rw [if_neg h1,if_neg h1]
   exact hcell j hj)
 have:=hw.put (dst:=o.dst) (v:=.c undef) (x:=undef) (dst_of hd) rfl
 cases ho:o.dst with
 | none=>rw [ho] at this;exact this
 | some d=>rw [ho] at this;exact this

def SrcAt (P:Program) (al:List Addr) (St:Nat→Prop) (w:World) (xv:Value) (k m:Nat) (f:Nat→CV):Prop :=
 ∃ cs:List Value,cs.length=m * k∧(∀ j,j<m * k→RepC al St w (f j) (cs.getD j undef))∧∀ W,W.heap=w.heap→(Builtin.lenOf xv).run P W=.ok m W∧(Builtin.firstCells k m xv).run P W=.ok cs.toArray W
def ASrc (P:Program) (G:Gh) (s:AS) (y:Operand) (k m:Nat) (f:Nat→CV):Prop:=∀ St a w,RelSt G St s a w→SrcAt P G.al St w (a.eval y) k m f

theorem cell_heap {w W:World} (h:W.heap=w.heap) (p:Addr):W.cell? p=w.cell? p:=by simp [World.cell?,h]
theorem src_cells {al:List Addr} {St:Nat→Prop} {w:World} {k m cap:Nat} {f:Nat→CV} {b q:Nat} {g:Nat→Value} (h:∀ j,j<m * k→w.cell? ⟨b,q+j,none⟩=some (g j)∧RepC al St w (f j) (g j)):SrcAt P al St w (.slice (some ⟨b,q,none⟩) m cap) k m f:=by
 refine ⟨(List.range (m * k)).map g,by simp,fun j hj=>by simp [List.getD,hj];exact (h j hj).2,fun W hW=>⟨rfl,?_⟩⟩
 have:=run_loadCells (P:=P) (w:=W) ⟨b,q,none⟩ (m * k) g (fun j hj=>by rw [addr_add,cell_heap hW];exact (h j hj).1)
 simpa [Builtin.firstCells] using this
theorem src_none {al:List Addr} {St:Nat→Prop} {w:World} {k cap:Nat} {f:Nat→CV}:SrcAt P al St w (.slice none 0 cap) k 0 f :=
 ⟨[],by simp,fun j hj=>by simp at hj,fun W _=>⟨rfl,by simp [Builtin.firstCells]⟩⟩
theorem src_rs {k m:Nat} {f:Nat→Nat→CV} (hy:s.eval y=.rs k m f):ASrc P G s y k m fun j=>f (j / k) (j % k):=fun St a w h=>by
 obtain ⟨ao,cap,e,h1,h2,h3,h4⟩:=evR h hy
 rw [e]
 cases ao with
 | none =>
  have:=h3 rfl
  have hm:m=0:=by omega
  subst hm
  exact src_none
 | some ad =>
  by_cases h0:m * k=0
  ·refine ⟨[],by simp [h0],fun j hj=>by omega,fun W _=>⟨rfl,?_⟩⟩
   have:=run_loadCells (P:=P) (w:=W) ad 0 (fun _=>undef) (fun j hj=>by omega)
   simp [Builtin.firstCells,h0] at this ⊢
   exact this
  ·have hk:0<k:=Nat.pos_of_ne_zero fun e=>h0 (by rw [e,Nat.mul_zero])
   have hm:0<m:=Nat.pos_of_ne_zero fun e=>h0 (by rw [e,Nat.zero_mul])
   obtain ⟨b,q,sp⟩:=ad
   obtain ⟨h5,h6,h7⟩:=h4 _ rfl hm
   simp only at h5
   subst h5
   obtain ⟨g,hg⟩:=choose_cells (n:=m * k) (p:=fun j v=>w.cell? ⟨b,q+j,none⟩=some v∧RepC G.al St w (f (j / k) (j % k)) v) (fun j hj=>by
    obtain ⟨v,hv,hr⟩:=h7 (j / k) (j % k) (Nat.div_lt_of_lt_mul (by rw [Nat.mul_comm];exact hj)) (Nat.mod_lt _ hk)
    refine ⟨v,?_,hr⟩
    have h9:=Nat.div_add_mod j k
    rw [Nat.mul_comm] at h9
    have e2:q+j=q+(j / k * k+j % k):=by omega
    rw [e2]
    exact hv)
   exact src_cells hg
theorem src_os {i off k m N:Nat} {g:Option Nat} {F:Nat→CV} (hy:s.eval y=.os i g off m k) (hH:Holds s i g N F) (hN:off+m * k≤N):ASrc P G s y k m fun j=>F (off+j):=fun St a w h=>by
 have he:=evR h hy
 cases g with
 | none =>
  obtain ⟨h1,h2⟩:=he
  subst h1
  rw [h2]
  exact src_none
 | some b =>
  obtain ⟨cap,e,_⟩:=he
  rw [e]
  obtain ⟨hg,cur,ty,z,hh,hle,hc⟩:=holdCells h hH
  refine src_cells (g:=fun j=>cur.getD (off+j) undef) fun j hj=>⟨?_,hc _ (by omega)⟩
  have hlt:off+j<cur.size:=by omega
  rw [cell_of_row w b _ cur ty z hh];simp [hlt]
def notInt (P:Program) (u:TypeId):Bool:=match P.underlying u with|some (.int _)=>false|some _=>true|none=>false
theorem run_app_room {e ty:TypeId} {info:TypeInfo} {size n m cap:Nat} {base:Option Addr} {xv:Value} {news:List Value} {w:World} (h1:P.underlying t=some (.slice e)) (hu:notInt P u=true) (hi:P.info? e=some info) (hs:info.size=size)
  (hl:(Builtin.lenOf xv).run P w=.ok m w) (hn:(Builtin.firstCells size m xv).run P w=.ok news.toArray w) (hroom:n+m≤cap) {w':World} (hst:∀ ad,base=some ad→(storeCells (ad.add (n * size)) news).run P w=.ok () w') (h0:base=none→w'=w) :
  (Builtin.append_ #[t,u] ty #[.slice base n cap,xv]).run P w=.ok (.slice base (n+m) cap) w':=by
 cases hu':P.underlying u with
 | none=>simp [notInt,hu'] at hu
 | some d =>
  cases base with
  | none =>
   rw [h0 rfl]
   cases d <;> first|(simp [notInt,hu'] at hu;done)|skip
   all_goals simp only [Builtin.append_,List.getElem?_toArray,List.getElem?_cons_zero,List.getElem?_cons_succ,underlying,Sem.run_bind,run_program,Result.andThen_ok,h1,hu',Sem.run_pure,sizeOf,typeInfo,hi,hs,Bool.false_eq_true,if_false,hl,if_pos hroom,Bool.not_false,if_true,hn]
  | some ad =>
   have hst:=hst ad rfl
   cases d <;> first|(simp [notInt,hu'] at hu;done)|skip
   all_goals simp only [Builtin.append_,List.getElem?_toArray,List.getElem?_cons_zero,List.getElem?_cons_succ,underlying,Sem.run_bind,run_program,Result.andThen_ok,h1,hu',Sem.run_pure,sizeOf,typeInfo,hi,hs,Bool.false_eq_true,if_false,hl,if_pos hroom,Bool.not_false,if_true,hn,hst]

theorem run_app_grow {e ty:TypeId} {info:TypeInfo} {z:Value} {size n m cap:Nat} {base:Option Addr} {xv:Value} {olds news:List Value} {w:World} (h1:P.underlying t=some (.slice e)) (hu:notInt P u=true) (hi:P.info? e=some info) (hs:info.size=size) (hz:info.zero=some z)
  (hl:∀ W,W.heap=w.heap→(Builtin.lenOf xv).run P W=.ok m W) (ho:∀ W,W.heap=w.heap→(Builtin.firstCells size n (.slice base n cap)).run P W=.ok olds.toArray W) (hn:∀ W,W.heap=w.heap→(Builtin.firstCells size m xv).run P W=.ok news.toArray W) (hroom:cap<n+m)
  (h63:n+m≤9223372036854775807) (h48:(n+m) * info.bytes≤140737488355328) :
  (Builtin.append_ #[t,u] ty #[.slice base n cap,xv]).run P w=.ok (.slice (some ⟨w.heap.size,0,none⟩) (n+m) (grownCap w (n+m) cap e)) (w.drew.alloc (.cells (olds.toArray++news.toArray++Builtin.zeroCells z.cells (grownCap w (n+m) cap e-(n+m))) e)):=by
 have hnot:¬ (n+m≤cap):=by omega
 have hfit:=growslice_fits hroom h48
 have h63':¬ (9223372036854775807<((n:Int)+(m:Int))):=by omega
 have h48':¬ (281474976710656<Builtin.nextslicecap (n+m) cap * info.bytes):=by omega
 have hl0:=hl w rfl
 have ho1:=ho w.drew rfl
 have hn1:=hn w.drew rfl
 cases hu':P.underlying u with
 | none=>simp [notInt,hu'] at hu
 | some d =>
  have h64:¬ (((n+m:Nat):Int)>IntKind.i64.max∧(false=true∨info.bytes=0)):=by simp [IntKind.max,IntKind.bits,IntKind.signed];omega
  have h49:¬ (Builtin.nextslicecap (n+m) cap * info.bytes>2 ^ 48):=by omega
  have hch:(choose (.appendCap (n+m) cap e)).run P w=.ok (grownCap w (n+m) cap e) w.drew:=by simp [Question.forced,grownCap]
  cases d <;> first|(simp [notInt,hu'] at hu;done)|skip
  all_goals simp only [Builtin.append_,List.getElem?_toArray,List.getElem?_cons_zero,List.getElem?_cons_succ,underlying,Sem.run_bind,run_program,Result.andThen_ok,h1,hu',Sem.run_pure,sizeOf,typeInfo,hi,hs,Bool.false_eq_true,if_false,hl0,if_neg hnot,hz,zeroValue,if_neg h49,Bool.not_false,if_true,hch,run_askRoom,ho1,hn1,newRow,run_newObj,World.alloc_eq]
  all_goals (try (rw [if_neg (by simp [IntKind.max,IntKind.bits,IntKind.signed];omega)]))
  all_goals (try simp only [Builtin.append_,List.getElem?_toArray,List.getElem?_cons_zero,List.getElem?_cons_succ,underlying,Sem.run_bind,run_program,Result.andThen_ok,h1,hu',Sem.run_pure,sizeOf,typeInfo,hi,hs,Bool.false_eq_true,if_false,hl0,if_neg hnot,hz,zeroValue,if_neg h49,Bool.not_false,if_true,hch,run_askRoom,ho1,hn1,newRow,run_newObj,World.alloc_eq,World.size_drew])

theorem row_app (olds news:List Value) (rest:Array Value) (j:Nat) (h:j<olds.length+news.length):(olds.toArray++news.toArray++rest).getD j undef=if j<olds.length then olds.getD j undef else news.getD (j-olds.length) undef:=by
 simp only [Array.getD_eq_getD_getElem?,List.getD_eq_getElem?_getD]
 rw [Array.getElem?_append_left (by simp;omega)]
 split
 ·rename_i h1
  rw [Array.getElem?_append_left (by simpa using h1)]
  simp
 ·rename_i h1
  rw [Array.getElem?_append_right (by simp;omega)]
  simp

def appF (n:Nat) (f h:Nat→CV) (j:Nat):CV:=if j<n then f j else h (j-n)

theorem below_drewAlloc (w:World) (x:Obj):Below w.heap.size w (w.drew.alloc x):=below_then (below_drew1 w) (below_alloc w.drew x)

theorem exec_append {xs:Array Operand} {ats:Array TypeId} (ho:o.op=.call ⟨.builtin .append,xs,ats⟩) {a:Act} {v:Value} {w w':World} (h:(Builtin.append_ ats o.type (xs.map a.eval)).run P w=.ok v w'):(execOp a.eval o).run P w=.ok (.value v) w':=by
 simp [execOp,ho,resolve,invoke,builtin,h]

set_option maxHeartbeats 1000000 in
theorem md_append {e:TypeId} {z:Value} {i n m k N by_:Nat} {g:Option Nat} {f h:Nat→CV} (ho:o.op=.call ⟨.builtin .append,#[x,y],#[t,u]⟩) (hx:s.eval x=.os i g 0 n k) (hH:s.H[i]?=some (g,.blk N f)) (hN:n * k≤N)
  (hsrc:ASrc P G s y k m h) (h1:P.underlying t=some (.slice e)) (hu:notInt P u=true) (h5:(P.info? e).map (·.size)=some k) (hz:(P.info? e).map (·.zero)=some (some z)) (hby:(P.info? e).map (·.bytes)=some by_)
  (h63:n+m≤9223372036854775807) (h48:(n+m) * by_≤140737488355328) (hzk:z.cells.size=k)
  (F:Nat→CV) (hF:∀ j,j<(n+m) * k→CEnt (appF (n * k) f h j) (F j)) (hleaf:∀ j,j<m * k→leafC (h j)=true) (hd:dstOk G o=true)
  (hK:∀ g',K (s.with o.dst (.os i g' 0 (n+m) k) (s.H.set i (g',.blk ((n+m) * k) F)))):AMd P G o s K:=fun St a w hr Q=>by
 obtain ⟨info,hi,hs⟩:=Option.map_eq_some_iff.1 h5
 obtain ⟨info',hi',hz⟩:=Option.map_eq_some_iff.1 hz
 obtain rfl:=Option.some.inj (hi.symm.trans hi')
 obtain ⟨info',hi',hby⟩:=Option.map_eq_some_iff.1 hby
 obtain rfl:=Option.some.inj (hi.symm.trans hi')
 obtain ⟨news,hnl,hnr,hrun⟩:=hsrc St a w hr
 have he:=evR hr hx
 have hlen:(n+m) * k=n * k+m * k:=Nat.add_mul ..
 -- the value's parts
 obtain ⟨base,cap,ev,hle,hcap,hbase⟩:∃ base cap,a.eval x=.slice base n cap∧n≤cap∧cap≤9223372036854775807∧((g=none∧base=none∧cap=0∧n=0)∨∃ b,g=some b∧base=some ⟨b,0,none⟩∧∃ cur t z,w.heap[b]?=some (.cells cur t z)∧0+cap * k≤cur.size):=by
  cases g with
  | none=>obtain ⟨h1,h2⟩:=he;exact ⟨none,0,by rw [h2,h1],by omega,by omega,.inl ⟨rfl,rfl,rfl,h1⟩⟩
  | some b=>obtain ⟨cap,h1,h2,h3,h4⟩:=he;exact ⟨_,cap,h1,h2,h3,.inr ⟨b,rfl,rfl,h4⟩⟩
 have hargs:(#[x,y]:Array Operand).map a.eval=#[a.eval x,a.eval y]:=by simp
 have put:∀ {w':World} {v:Value} {c:CV} {H:List (Option Nat×Res)},RelSt G St ⟨s.env,s.b,H⟩ a w'→RepC G.al St w' c v→RelSt G St (s.with o.dst c H) (a.put o.dst v) w':=fun {w' v c H} h1 h2=>by
  have:=h1.put (dst:=o.dst) (dst_of hd) h2
  cases ho:o.dst with
  | none=>rw [ho] at this;exact this
  | some d=>rw [ho] at this;exact this
 by_cases hroom:n+m≤cap
 ·-- in place
  rcases hbase with ⟨hg,hb,hc0,hn0⟩|⟨b,hg,hb,cu,tt,zz,hcu,hfit⟩
  ·subst hg hb
   have hm0:m=0:=by omega
   subst hm0
   have hrun':=run_app_room (t:=t) (u:=u) (ty:=o.type) h1 hu hi hs (hrun w rfl).1 (hrun w rfl).2 hroom (base:=none) (w':=w) (fun _ h=>by simp at h) (fun _=>rfl)
   unfold Oper.wp
   rw [exec_append ho (by rw [hargs,ev];exact hrun')]
   refine ⟨KeepS.refl _ _,St,fun _ h=>h,_,hK none,?_⟩
   have hlt:=(List.getElem?_eq_some_iff.1 hH).1
   have hmv:RelSt G St ⟨s.env,s.b,s.H.set i (none,.blk ((n+0) * k) F)⟩ a w:=by
    refine ⟨hr.df,hr.sz,hr.env,hr.un,hr.s1,hr.s2,hr.s3,?_,hr.sn,hr.sg⟩
    obtain ⟨fp,hp⟩:=hr.hp
    refine ⟨fp,fun j q r hj=>?_,hp.dis,hp.own,fun j hj=>hp.out j (by simpa using hj)⟩
    by_cases hj2:j=i
    ·subst hj2
     simp [hlt] at hj
     obtain ⟨rfl,rfl⟩:=hj
     exact ⟨by simp [hn0],(hp.rep j none _ hH).2⟩
    ·rw [List.getElem?_set_ne (Ne.symm hj2)] at hj
     exact hp.rep j q r hj
   exact put hmv ⟨by omega,by rw [hn0,hc0]⟩
  ·subst hg hb
   obtain ⟨fp,hp⟩:=hr.hp
   obtain ⟨hb0,cur,ty,hh,hle2,hcell⟩:=hp.rep i (some b) _ hH
   have hq:=Option.some.inj (hcu.symm.trans hh)
   injection hq with e1 e2 e3
   have hfit:0+cap * k≤cur.size:=e1 ▸ hfit
   have hfit2:n * k+news.length≤cur.size:=by
    rw [hnl,← hlen]
    exact Nat.le_trans (Nat.mul_le_mul_right _ hroom) (by omega)
   have hone:∀ v ∈ news,v.oneCell'=true:=fun v hv=>by
    obtain ⟨j,hj,e⟩:=List.mem_iff_getElem.1 hv
    have h2:=hnr j (by omega)
    rw [show news.getD j undef=v by simp [List.getD,hj,e]] at h2
    exact leaf_one (hleaf j (by omega)) h2
   have hst:=run_storeCells_at P b (n * k) ty news 0 cur w hh (by simpa using hfit2) hone
   simp only [Nat.add_zero] at hst
   have hrun':=run_app_room (t:=t) (u:=u) (ty:=o.type) h1 hu hi hs (hrun w rfl).1 (hrun w rfl).2 hroom (base:=some ⟨b,0,none⟩) (w':=w.setRow b (cur.toList.take (n * k)++news++cur.toList.drop (n * k+news.length)).toArray) (fun ad h=>by
    have h:=Option.some.inj h
    subst h
    rw [addr_add,Nat.zero_add]
    exact hst) (fun h=>by simp at h)
   unfold Oper.wp
   rw [exec_append ho (by rw [hargs,ev];exact hrun')]
   refine ⟨fun q hq=>setRow_other w b q _ (fun e=>(hp.own i b ((hb0 b).2 rfl)).2.1 (e ▸ hq)),St,fun _ h=>h,_,hK (some b),?_⟩
   have hw:=hr.write hH hh (cs:=(cur.toList.take (n * k)++news++cur.toList.drop (n * k+news.length)).toArray) (by simp;omega) (n':=(n+m) * k) (f':=F) (by simp;omega) (fun j hj=>by
    refine hF j hj _ _ _ _ ?_
    rw [row_at cur news (n * k) hfit2]
    unfold appF
    by_cases h3:j<n * k
    ·rw [if_pos h3,if_neg (by omega)];exact hcell j (by omega)
    ·rw [if_neg h3,if_pos (by omega)];exact hnr _ (by omega))
   refine put hw ⟨cap,rfl,hroom,hcap,?_⟩
   exact ⟨_,_,_,setRow_heap w b cur _ _ _ hh,by simp;omega⟩
 ·-- a new row
  have hroom:cap<n+m:=by omega
  obtain ⟨olds,hol,hor,horun⟩:SrcAt P G.al St w (.slice base n cap) k n f:=by
   rcases hbase with ⟨hg,hb,hc0,hn0⟩|⟨b,hg,hb,_⟩
   ·subst hb hn0 hc0;exact src_none
   ·subst hg hb
    obtain ⟨_,cur,tt,zz,hh,hle,hc⟩:=blkCells hr hH
    refine src_cells (g:=fun j=>cur.getD j undef) fun j hj=>⟨?_,hc j (by omega)⟩
    have hlt:j<cur.size:=by omega
    rw [Nat.zero_add,cell_of_row w b j cur tt zz hh];simp [hlt]
  have hrun':=run_app_grow (t:=t) (u:=u) (ty:=o.type) h1 hu hi hs hz (fun W hW=>(hrun W hW).1) (fun W hW=>(horun W hW).2) (fun W hW=>(hrun W hW).2) hroom h63 (by rw [hby];exact h48)
  unfold Oper.wp
  rw [exec_append ho (by rw [hargs,ev];exact hrun')]
  refine ⟨keep_of_below hr (below_drewAlloc w _),St,fun _ h=>h,_,hK (some w.heap.size),?_⟩
  have hgc:n+m≤grownCap w (n+m) cap e∧grownCap w (n+m) cap e≤9223372036854775807:=by
   have hlt:=Nat.mod_lt (w.tape w.drawn (.appendCap (n+m) cap e)) (show 0<2 ^ 63-(n+m) by omega)
   simp only [grownCap,Question.cut]
   omega
  have hcell0:(w.drew.alloc (.cells (olds.toArray++news.toArray++Builtin.zeroCells z.cells (grownCap w (n+m) cap e-(n+m))) e)).heap[w.heap.size]?=some (.cells (olds.toArray++news.toArray++Builtin.zeroCells z.cells (grownCap w (n+m) cap e-(n+m))) e (0,0)):=heap_alloc_new w.drew _
  have hsize:(olds.toArray++news.toArray++Builtin.zeroCells z.cells (grownCap w (n+m) cap e-(n+m))).size=grownCap w (n+m) cap e * k:=by
   simp [Builtin.zeroCells,hol,hnl,hzk]
   rw [← Nat.add_mul,← Nat.add_mul]
   congr 1
   omega
  have hEvo:Evo St w (w.drew.alloc (.cells (olds.toArray++news.toArray++Builtin.zeroCells z.cells (grownCap w (n+m) cap e-(n+m))) e)):=Evo.of_below (below_drewAlloc w _) hr.s3
  have hfr:=hr.fresh (below_drewAlloc w _) (Nat.le_refl _) hcell0 (n:=(n+m) * k) (f:=F) (by rw [hsize];exact Nat.mul_le_mul_right _ hgc.1) (fun j hj=>by
   refine hF j hj _ _ _ _ (RepC.evo hEvo (fun _ x=>x) _ _ ?_)
   unfold appF
   rw [row_app olds news _ j (by omega),hol]
   by_cases h3:j<n * k
   ·rw [if_pos h3,if_pos h3];exact hor j h3
   ·rw [if_neg h3,if_neg h3];exact hnr (j-n * k) (by omega))
  have hkl:=hfr.move ((List.getElem?_eq_some_iff.1 hH).1)
  refine put hkl ⟨_,rfl,hgc.1,hgc.2,_,_,_,hcell0,?_⟩
  rw [hsize]
  omega
end
end
section
section
variable {P:Program} {G:Gh} {ops:Array Oper} {o:Oper} {s:AS} {K:AS→Prop} {t u:TypeId} {x y:Operand} {k:IntKind}

theorem exec_len {ats:Array TypeId} (ho:o.op=.call ⟨.builtin .len,#[x],ats⟩) {a:Act} {v:Value} {w:World} (h:(Builtin.len_ ats o.type #[a.eval x]).run P w=.ok v w):(execOp a.eval o).run P w=.ok (.value v) w:=by
 simp [execOp,ho,resolve,invoke,builtin,h]
theorem rd_lenR {e:TypeId} {m n:Nat} {f:Nat→Nat→CV} (ho:o.op=.call ⟨.builtin .len,#[x],#[t]⟩) (hx:s.eval x=.rs m n f) (h1:P.underlying t=some (.slice e)):ARd P G o s (.c (.int .i64 (n:Nat))):=fun St a w h=>by
 obtain ⟨ao,cap,e0,_⟩:=evR h hx
 exact ⟨_,fun W _=>exec_len ho (v:=.int .i64 (n:Nat)) (by rw [e0];simp [Builtin.len_,underlying,h1,goInt]),rfl⟩
theorem rd_lenO {e:TypeId} {i off m n:Nat} {g:Option Nat} (ho:o.op=.call ⟨.builtin .len,#[x],#[t]⟩) (hx:s.eval x=.os i g off n m) (h1:P.underlying t=some (.slice e)):ARd P G o s (.c (.int .i64 (n:Nat))):=fun St a w h=>by
 obtain ⟨ao,cap,e0⟩:∃ ao cap,a.eval x=.slice ao n cap:=by
  have he:=evR h hx
  cases g with
  | none=>exact ⟨none,0,by rw [he.2,he.1]⟩
  | some b=>obtain ⟨cap,e0,_⟩:=he;exact ⟨_,cap,e0⟩
 exact ⟨_,fun W _=>exec_len ho (v:=.int .i64 (n:Nat)) (by rw [e0];simp [Builtin.len_,underlying,h1,goInt]),rfl⟩
theorem rd_lenS {l:ByteArray} (ho:o.op=.call ⟨.builtin .len,#[x],#[t]⟩) (hx:s.eval x=.c (.string l)) (h1:P.underlying t=some .string):ARd P G o s (.c (.int .i64 (l.size:Nat))):=fun St a w h =>
 ⟨_,fun W _=>exec_len ho (v:=.int .i64 (l.size:Nat)) (by rw [evC h hx];simp [Builtin.len_,underlying,h1,goInt]),rfl⟩
theorem rd_lenN {e:TypeId} (ho:o.op=.call ⟨.builtin .len,#[x],#[t]⟩) (hx:s.eval x=.c (.slice none 0 0)) (h1:P.underlying t=some (.slice e)):ARd P G o s (.c (.int .i64 0)):=fun St a w h =>
 ⟨_,fun W _=>exec_len ho (v:=.int .i64 0) (by rw [evC h hx];simp [Builtin.len_,underlying,h1,goInt]),rfl⟩

def Bd (s:AS) (d:Nat):Option Operand→Nat→Prop
 | none,n=>n=d
 | some x,n=>∃ (k:IntKind) (z:Int),s.eval x=.c (.int k z)∧z=(n:Int)
theorem bd_none (s:AS) (d:Nat):Bd s d none d:=rfl
theorem bd_some {d n:Nat} {z:Int} (hx:s.eval x=.c (.int k z)) (hz:z=(n:Int)):Bd s d (some x) n:=⟨k,z,hx,hz⟩

theorem run_bounds {St:Nat→Prop} {a:Act} {w:World} (h:RelSt G St s a w) {lo hi:Option Operand} {l u n cap:Nat} (h1:Bd s 0 lo l) (h2:Bd s n hi u) (hlu:l≤u) (hu:u≤n) (hn:n≤cap) (is:Bool) (W:World) :
  (Instr.sliceBounds is n cap (lo.map a.eval) (hi.map a.eval) none).run P W=.ok (l,u,cap) W:=by
 have hb:∀ (x:Operand) (k:IntKind) (z:Int) (m y:Nat) (code:BoundsCode),s.eval x=.c (.int k z)→z=(m:Int)→m≤y→(Instr.sliceBound (a.eval x) y code).run P W=.ok m W:=fun x k z m y code hx hz hm=>by
  rw [evC h hx,hz]
  simp [Instr.sliceBound,asIntOf,hm]
 cases lo with
 | none =>
  have h1:l=0:=h1
  subst h1
  cases hi with
  | none=>have h2:u=n:=h2;subst h2;simp [Instr.sliceBounds]
  | some y=>obtain ⟨k,z,hy,hz⟩:=h2;simp [Instr.sliceBounds,hb y k z u cap _ hy hz (by omega)]
 | some x =>
  obtain ⟨k1,z1,hx,hz1⟩:=h1
  cases hi with
  | none=>have h2:u=n:=h2;subst h2;simp [Instr.sliceBounds,hb x k1 z1 l u _ hx hz1 hlu]
  | some y=>obtain ⟨k,z,hy,hz⟩:=h2;simp [Instr.sliceBounds,hb y k z u cap _ hy hz (by omega),hb x k1 z1 l u _ hx hz1 hlu]

theorem exec_slice {lo hi:Option Operand} (ho:o.op=.slice t x lo hi none) {a:Act} {v:Value} {w:World} (h:(Instr.sliceAt t (a.eval x) (lo.map a.eval) (hi.map a.eval) none).run P w=.ok v w):(execOp a.eval o).run P w=.ok (.value v) w:=by
 simp only [execOp,ho]
 exact vOk h

theorem rd_sliceR {e:TypeId} {m n l v:Nat} {f:Nat→Nat→CV} {lo hi:Option Operand} (ho:o.op=.slice t x lo hi none) (hx:s.eval x=.rs m n f) (h1:P.underlying t=some (.slice e)) (h5:(P.info? e).map (·.size)=some m)
  (hl:Bd s 0 lo l) (hu:Bd s n hi v) (hlv:l≤v) (hvn:v≤n):ARd P G o s (.rs m (v-l) fun i j=>f (l+i) j):=fun St a w h=>by
 obtain ⟨info,hi',hs⟩:=Option.map_eq_some_iff.1 h5
 obtain ⟨ao,cap,e0,h2,h3,h4,h6⟩:=evR h hx
 refine ⟨.slice (if cap=l then ao else ao.map (·.add (l * m))) (v-l) (cap-l),fun W _=>exec_slice ho ?_,_,_,rfl,by omega,by omega,fun hn=>?_,fun ad had hn=>?_⟩
 ·rw [e0]
  simp [Instr.sliceAt,Instr.slice,underlying,h1,run_bounds h hl hu hlv hvn h2,sizeOf,typeInfo,hi',hs]
 ·split at hn
  ·have:=h4 hn;omega
  ·have:ao=none:=by simpa using hn
   have:=h4 this;omega
 ·have hne:¬ cap=l:=by omega
  rw [if_neg hne] at had
  obtain ⟨ad0,rfl,rfl⟩:=Option.map_eq_some_iff.1 had
  obtain ⟨h7,h8,h9⟩:=h6 ad0 rfl (by omega)
  obtain ⟨b,q,sp⟩:=ad0
  simp only at h7 h8 h9
  subst h7
  rw [addr_add]
  refine ⟨rfl,h8,fun i j hi2 hj=>?_⟩
  obtain ⟨vv,hv,hr⟩:=h9 (l+i) j (by omega) hj
  refine ⟨vv,?_,hr⟩
  rw [← hv,Nat.add_mul]
  congr 2
  simp only
  omega
theorem rd_sliceO {e:TypeId} {i off m n l v:Nat} {g:Option Nat} {lo hi:Option Operand} (ho:o.op=.slice t x lo hi none) (hx:s.eval x=.os i g off n m) (h1:P.underlying t=some (.slice e)) (h5:(P.info? e).map (·.size)=some m)
  (hl:Bd s 0 lo l) (hu:Bd s n hi v) (hlv:l≤v) (hvn:v≤n) (hln:l=0∨l<n):ARd P G o s (.os i g (off+l * m) (v-l) m):=fun St a w h=>by
 obtain ⟨info,hi',hs⟩:=Option.map_eq_some_iff.1 h5
 have he:=evR h hx
 cases g with
 | none =>
  obtain ⟨h2,h3⟩:=he
  subst h2
  have hl0:l=0:=by omega
  have hv0:v=0:=by omega
  subst hl0 hv0
  refine ⟨.slice none 0 0,fun W _=>exec_slice ho ?_,rfl,rfl⟩
  rw [h3]
  simp [Instr.sliceAt,Instr.slice,underlying,h1,run_bounds h hl hu hlv hvn (Nat.le_refl _),sizeOf,typeInfo,hi',hs]
 | some b =>
  obtain ⟨cap,e0,h2,h3,cur,ty,z,h4,h6⟩:=he
  refine ⟨.slice (some ⟨b,off+l * m,none⟩) (v-l) (cap-l),fun W _=>exec_slice ho ?_,cap-l,rfl,by omega,by omega,cur,ty,z,h4,?_⟩
  ·rw [e0]
   have e1:(if cap=l then some (⟨b,off,none⟩:Addr) else some (Addr.add ⟨b,off,none⟩ (l * m)))=some ⟨b,off+l * m,none⟩:=by
    split
    ·have:l=0:=by omega
     subst this
     simp
    ·rw [addr_add]
   simp [Instr.sliceAt,Instr.slice,underlying,h1,run_bounds h hl hu hlv hvn h2,sizeOf,typeInfo,hi',hs]
   exact e1
  ·have:l * m+(cap-l) * m=cap * m:=by rw [← Nat.add_mul];congr 1;omega
   omega
theorem rd_makeFunc {g:FuncId} {cs:Array Operand} {n:Nat} (ho:o.op=.makeFunc (.func g) #[] cs) (hn:cs.size=n):ARd P G o s (.fn g n (fl (cs.toList.map s.eval))):=fun St a w h =>
 ⟨.func (.func g) #[] (cs.map a.eval),fun W _=>by simp only [execOp,ho];exact vOk (by simp [Instr.makeFunc]),_,rfl,by simp [hn],fun i hi=>by
  rw [fl_get]
  simp [List.getD,show i<cs.size by omega]
  exact h.eval _⟩
end
end
section
section
variable {P:Program} {G:Gh} {ops:Array Oper} {o:Oper} {s:AS} {r:List Oper} {K:AS→Prop} {R:Exit→AS→Prop} {Y:AS→Prop} {x y:Code}

theorem block_exit {i j:Nat} (he:Nat.beq j i=true) (h:R .normal s):blockR i R (.exit j) s:=by
 show match Nat.beq j i with|true=>R .normal s|false=>R (.exit j) s
 rw [he];exact h
theorem code_condT {d:Operand} (hl:s.eval d=.c (.bool true)) (ht:ACode P G x s R):ACode P G (.cond d x y) s R:=code_cond hl (fun _=>ht) (fun h=>by cases h)
theorem code_condF {d:Operand} (hl:s.eval d=.c (.bool false)) (hf:ACode P G y s R):ACode P G (.cond d x y) s R:=code_cond hl (fun h=>by cases h) (fun _=>hf)

variable {env:List (Nat×CV)} {b0:Nat→CV} {H:List (Option Nat×Res)}
theorem q_rd {d:Nat} {v:CV} (hw:Wanted G ops o ⟨env,b0,H⟩ true) (hd:o.dst=some d) (hN:Nat.blt d G.N=true) (h:ARd P G o ⟨env,b0,H⟩ v) (hk:ASeq P G ops r ⟨(d,v)::env,b0,H⟩ K):ASeq P G ops (o::r) ⟨env,b0,H⟩ K :=
 seq_rd hw (by simp only [dstOk,hd];exact hN) h (by simp only [AS.put,hd];exact hk)
theorem q_rdO {d:Nat} {v:CV} (hw:Wanted G ops o ⟨env,b0,H⟩ true) (hd:o.dst=some d) (hN:Nat.blt d G.N=true) (h:ARdO P G o ⟨env,b0,H⟩ v) (hk:ASeq P G ops r ⟨(d,v)::env,b0,H⟩ K):ASeq P G ops (o::r) ⟨env,b0,H⟩ K :=
 seq_rdO hw (by simp only [dstOk,hd];exact hN) h (by simp only [AS.put,hd];exact hk)
theorem q_skip {d:Nat} (hw:Wanted G ops o ⟨env,b0,H⟩ false) (hd:o.dst=some d) (hN:Nat.blt d G.N=true) (hk:ASeq P G ops r ⟨(d,.c undef)::env,b0,H⟩ K):ASeq P G ops (o::r) ⟨env,b0,H⟩ K :=
 seq_skip hw (by simp only [dstOk,hd];exact hN) (by simp only [AS.put,hd];exact hk)
theorem y_rd {d:Nat} {v:CV} {tr:OrdO} (hw:Wanted G ops o ⟨env,b0,H⟩ true) (hd:o.dst=some d) (hN:Nat.blt d G.N=true) (h:ARd P G o ⟨env,b0,H⟩ v) (hk:AX P G ops tr ⟨(d,v)::env,b0,H⟩ K):AX P G ops (.rd o tr) ⟨env,b0,H⟩ K :=
 x_rd hw (by simp only [dstOk,hd];exact hN) h (by simp only [AS.put,hd];exact hk)
theorem y_rdO {d:Nat} {v:CV} {tr:OrdO} (hw:Wanted G ops o ⟨env,b0,H⟩ true) (hd:o.dst=some d) (hN:Nat.blt d G.N=true) (h:ARdO P G o ⟨env,b0,H⟩ v) (hk:AX P G ops tr ⟨(d,v)::env,b0,H⟩ K):AX P G ops (.rd o tr) ⟨env,b0,H⟩ K :=
 x_rdO hw (by simp only [dstOk,hd];exact hN) h (by simp only [AS.put,hd];exact hk)
theorem zz_rd {d:Nat} {v:CV} {tr:OrdO} (hw:Wanted G ops o ⟨env,b0,H⟩ true) (hd:o.dst=some d) (hN:Nat.blt d G.N=true) (h:ARd P G o ⟨env,b0,H⟩ v) (hk:AZ P G ops tr ⟨(d,v)::env,b0,H⟩ K):AZ P G ops (.rd o tr) ⟨env,b0,H⟩ K :=
 z_rd hw (by simp only [dstOk,hd];exact hN) h (by simp only [AS.put,hd];exact hk)
theorem zz_one1 {d:Nat} {v:CV} {tr:OrdO} (hw:Wanted G ops o ⟨env,b0,H⟩ true) (hd:o.dst=some d) (hN:Nat.blt d G.N=true) (h:ARd P G o ⟨env,b0,H⟩ v) (hk:AZ P G ops tr ⟨(d,v)::env,b0,H⟩ K):AZ P G ops (.one o tr) ⟨env,b0,H⟩ K :=
 z_one1 hw (by simp only [dstOk,hd];exact hN) h (by simp only [AS.put,hd];exact hk)
theorem zz_one1O {d:Nat} {v:CV} {tr:OrdO} (hw:Wanted G ops o ⟨env,b0,H⟩ true) (hd:o.dst=some d) (hN:Nat.blt d G.N=true) (h:ARdO P G o ⟨env,b0,H⟩ v) (hk:AZ P G ops tr ⟨(d,v)::env,b0,H⟩ K):AZ P G ops (.one o tr) ⟨env,b0,H⟩ K :=
 z_one1O hw (by simp only [dstOk,hd];exact hN) h (by simp only [AS.put,hd];exact hk)
theorem zz_rdO {d:Nat} {v:CV} {tr:OrdO} (hw:Wanted G ops o ⟨env,b0,H⟩ true) (hd:o.dst=some d) (hN:Nat.blt d G.N=true) (hb:ownB ops o=true) (h:ARdO P G o ⟨env,b0,H⟩ v) (hk:AZ P G ops tr ⟨(d,v)::env,b0,H⟩ K):AZ P G ops (.rd o tr) ⟨env,b0,H⟩ K :=
 z_rdO hw (by simp only [dstOk,hd];exact hN) hb h (by simp only [AS.put,hd];exact hk)
theorem zz_noone {d:Nat} {tr:OrdO} (hw:Wanted G ops o ⟨env,b0,H⟩ false) (hd:o.dst=some d) (hN:Nat.blt d G.N=true) (hk:AZ P G ops tr ⟨(d,.c undef)::env,b0,H⟩ K):AZ P G ops (.one o tr) ⟨env,b0,H⟩ K :=
 z_noone hw (by simp only [dstOk,hd];exact hN) (by simp only [AS.put,hd];exact hk)
theorem zz_skip {d:Nat} {tr:OrdO} (hw:Wanted G ops o ⟨env,b0,H⟩ false) (hd:o.dst=some d) (hN:Nat.blt d G.N=true) (hk:AZ P G ops tr ⟨(d,.c undef)::env,b0,H⟩ K):AZ P G ops (.rd o tr) ⟨env,b0,H⟩ K :=
 z_skip hw (by simp only [dstOk,hd];exact hN) (by simp only [AS.put,hd];exact hk)
theorem y_skip {d:Nat} {tr:OrdO} (hw:Wanted G ops o ⟨env,b0,H⟩ false) (hd:o.dst=some d) (hN:Nat.blt d G.N=true) (hk:AX P G ops tr ⟨(d,.c undef)::env,b0,H⟩ K):AX P G ops (.rd o tr) ⟨env,b0,H⟩ K :=
 x_skip hw (by simp only [dstOk,hd];exact hN) (by simp only [AS.put,hd];exact hk)
theorem y_noone {d:Nat} {tr:OrdO} (hw:Wanted G ops o ⟨env,b0,H⟩ false) (hd:o.dst=some d) (hN:Nat.blt d G.N=true) (hk:AX P G ops tr ⟨(d,.c undef)::env,b0,H⟩ K):AX P G ops (.one o tr) ⟨env,b0,H⟩ K :=
 x_noone hw (by simp only [dstOk,hd];exact hN) (by simp only [AS.put,hd];exact hk)

theorem wanted_undef {j d:Nat} {b:Bool} (h:o.guard=some (j,b)) (hd:(ops[j]?).bind (·.dst)=some d) (hN:Nat.blt d G.N=true) (hl:look s.env s.b d=.c undef):Wanted G ops o s false:=fun St a w hr=>by
 have hlt:d<a.tmps.size:=by rw [hr.sz];exact Nat.le_of_ble_eq_true hN
 have he:=hr.env d
 rw [hl] at he
 have he:a.tmps.getD d undef=undef:=he
 have hg:a.tmps[d]?=some undef:=by
  rw [Array.getElem?_eq_getElem hlt]
  congr 1
  simpa [hlt] using he
 simp only [Region.wanted,h,yielded,hd,Option.bind_some,hg]
 cases b <;> rfl
theorem put_lit {d:Nat} {t:Bool} (hN:Nat.blt d G.N=true) (hl:look s.env s.b d=.c (.bool t)) {b:Bool} (e:t=b):EntS G s ⟨(d,.c (.bool b))::s.env,s.b,s.H⟩ :=
 EntS.put hN fun St a w hr=>by
  have:=hr.env d
  rw [hl,e] at this
  exact this
theorem code_condS {d:Nat} {t:Bool} (hN:Nat.blt d G.N=true) (hl:look s.env s.b d=.c (.bool t)) (ht:t=true→ACode P G x ⟨(d,.c (.bool true))::s.env,s.b,s.H⟩ R) (hf:t=false→ACode P G y ⟨(d,.c (.bool false))::s.env,s.b,s.H⟩ R):ACode P G (.cond (.tmp d) x y) s R :=
 code_cond (t:=t) hl (fun e=>jE (put_lit hN hl e) (ht e)) (fun e=>jE (put_lit hN hl e) (hf e))
theorem seq_split {d:Nat} {t:Bool} (hN:Nat.blt d G.N=true) (hl:look s.env s.b d=.c (.bool t)) (ht:t=true→ASeq P G ops r ⟨(d,.c (.bool true))::s.env,s.b,s.H⟩ K) (hf:t=false→ASeq P G ops r ⟨(d,.c (.bool false))::s.env,s.b,s.H⟩ K):ASeq P G ops r s K:=by
 cases e:t with
 | true=>exact seq_ent (put_lit hN hl e) (ht e)
 | false=>exact seq_ent (put_lit hN hl e) (hf e)
theorem z_split {d:Nat} {t:Bool} {tr:OrdO} (hN:Nat.blt d G.N=true) (hl:look s.env s.b d=.c (.bool t)) (ht:t=true→AZ P G ops tr ⟨(d,.c (.bool true))::s.env,s.b,s.H⟩ K) (hf:t=false→AZ P G ops tr ⟨(d,.c (.bool false))::s.env,s.b,s.H⟩ K):AZ P G ops tr s K:=by
 cases e:t with
 | true=>exact z_ent (put_lit hN hl e) (ht e)
 | false=>exact z_ent (put_lit hN hl e) (hf e)
theorem x_split {d:Nat} {t:Bool} {tr:OrdO} (hN:Nat.blt d G.N=true) (hl:look s.env s.b d=.c (.bool t)) (ht:t=true→AX P G ops tr ⟨(d,.c (.bool true))::s.env,s.b,s.H⟩ K) (hf:t=false→AX P G ops tr ⟨(d,.c (.bool false))::s.env,s.b,s.H⟩ K):AX P G ops tr s K:=by
 cases e:t with
 | true=>exact x_ent (put_lit hN hl e) (ht e)
 | false=>exact x_ent (put_lit hN hl e) (hf e)
def InR:IntKind→Int→Prop
 | .i64,z=>-9223372036854775808≤z∧z≤9223372036854775807
 | .u64,z=>0≤z∧z≤18446744073709551615
 | .i32,z=>-2147483648≤z∧z≤2147483647
 | .u32,z=>0≤z∧z≤4294967295
 | .i16,z=>-32768≤z∧z≤32767
 | .u16,z=>0≤z∧z≤65535
 | .i8,z=>-128≤z∧z≤127
 | .u8,z=>0≤z∧z≤255
theorem wrap_id {k:IntKind} {z:Int} (h:InR k z):k.wrap z=z:=by
 cases k <;> simp only [InR] at h <;> simp [IntKind.wrap,IntKind.bits,IntKind.signed] <;> omega
theorem natI {z:Int} (h:0≤z):z=(z.toNat:Int):=by omega

theorem cI {k:IntKind} {a b:Int} (h:a=b):CEnt (.c (.int k a)) (.c (.int k b)):=h ▸ cZ
theorem cB {a b:Bool} (h:a=b):CEnt (.c (.bool a)) (.c (.bool b)):=h ▸ cZ
theorem CEnt.str {a b:ByteArray} (h:a=b):CEnt (.c (.string a)) (.c (.string b)):=h ▸ cZ
theorem CEnt.err {a b:Nat} (h:a=b):CEnt (.err a) (.err b):=h ▸ cZ
theorem cN:CEnt (.c (.slice none 0 0)) (bsC []):=CEnt.nilS _ _
theorem cT {a b c d:CV} (h1:CEnt a c) (h2:CEnt b d):CEnt (.tup 2 (fl [a,b])) (.tup 2 (fl [c,d])) :=
 CEnt.tup rfl fun i hi=>match i,hi with|0,_=>h1|1,_=>h2
theorem CEnt.tup3 {a b c d e f:CV} (h1:CEnt a d) (h2:CEnt b e) (h3:CEnt c f):CEnt (.tup 3 (fl [a,b,c])) (.tup 3 (fl [d,e,f])) :=
 CEnt.tup rfl fun i hi=>match i,hi with|0,_=>h1|1,_=>h2|2,_=>h3
def SE (G:Gh) (s:AS) (x:Operand) (c:CV):Prop:=∀ St a w,RelSt G St s a w→RepC G.al St w c (a.eval x)
theorem se {x:Operand} {c0 c:CV} (hx:s.eval x=c0) (h:CEnt c0 c):SE G s x c:=fun St a w hr=>h _ _ _ _ (evR hr hx)
theorem se_frz {x:Operand} {i off n m N:Nat} {g:Option Nat} {F:Nat→CV} (hx:s.eval x=.os i g off n m) (hH:s.H[i]?=some (g,.frz N F)) (hN:off+n * m≤N) (f:Nat→Nat→CV) (hf:∀ a b,a<n→b<m→CEnt (F (off+(a * m+b))) (f a b)):SE G s x (.rs m n f):=fun St a w hr=>by
 have he:=evR hr hx
 cases g with
 | none =>
  obtain ⟨h1,h2⟩:=he
  subst h1
  exact ⟨none,0,h2,Nat.le_refl _,by decide,fun _=>rfl,fun _ h=>by cases h⟩
 | some g =>
  obtain ⟨cap,h1,h2,h3,_⟩:=he
  obtain ⟨fp,hp⟩:=hr.hp
  obtain ⟨_,hg,cur,t,z,hh,hle,hc⟩:=hp.rep i (some g) _ hH
  refine ⟨_,cap,h1,h2,h3,(fun h=>by cases h),fun ad ha _=>?_⟩
  cases ha
  refine ⟨rfl,hg,fun p q hp' hq=>?_⟩
  have hb:p * m+q<n * m:=by
   have:p * m+m≤n * m:=by rw [← Nat.succ_mul];exact Nat.mul_le_mul_right _ hp'
   omega
  have hlt:off+(p * m+q)<cur.size:=by omega
  refine ⟨cur.getD (off+(p * m+q)) undef,?_,hf p q hp' hq _ _ _ _ (hc _ (by omega))⟩
  show w.cell? ⟨g,off+(p * m+q),none⟩=_
  rw [cell_of_row w g _ cur t z hh];simp [hlt]
theorem se_frzB {x:Operand} {i off n N:Nat} {g:Option Nat} {F:Nat→CV} (l:List UInt8) (hx:s.eval x=.os i g off n 1) (hH:s.H[i]?=some (g,.frz N F)) (hn:n=l.length) (hN:off+n≤N) (hf:∀ a,a<n→CEnt (F (off+a)) (byF l a)):SE G s x (bsC l):=by
 subst hn
 refine se_frz hx hH (by omega) _ fun a b ha hb=>?_
 rw [show off+(a * 1+b)=off+a by omega]
 exact hf a ha
inductive SEL (G:Gh) (s:AS):List Operand→List CV→Prop where
 | nil:SEL G s [] []
 | cons {x:Operand} {c:CV} {l:List Operand} {m:List CV} (h:SE G s x c) (t:SEL G s l m):SEL G s (x::l) (c::m)
theorem sel_len {l:List Operand} {m:List CV} (h:SEL G s l m):l.length=m.length:=by
 induction h with
 | nil=>rfl
 | cons _ _ ih=>simp [ih]
theorem sel_get {l:List Operand} {m:List CV} (h:SEL G s l m) {St:Nat→Prop} {a:Act} {w:World} (hr:RelSt G St s a w):∀ i (hi:i<l.length),RepC G.al St w (fl m i) (a.eval l[i]):=by
 induction h with
 | nil=>intro i hi;simp at hi
 | cons h1 _ ih =>
  intro i hi
  cases i with
  | zero=>exact h1 St a w hr
  | succ i=>exact ih i (by simpa using hi)

def ACp (gs:List Nat) (P:Program) (f:FuncId) (args:List CV) (m:CV):Prop:=AC gs P f [] args fun r H=>r=m∧H=[]

theorem args_se {xs:Array Operand} {args:List CV} (he:SEL G s xs.toList args) {St:Nat→Prop} {a:Act} {w:World} (h:RelSt G St s a w):(xs.map a.eval).size=args.length∧∀ i,RepC G.al St w (fl args i) ((xs.map a.eval).getD i undef):=by
 have hl:=sel_len he
 simp at hl
 refine ⟨by simp [hl],fun i=>?_⟩
 by_cases hi:i<xs.size
 ·have:=sel_get he h i (by simpa using hi)
  simpa [hi] using this
 ·rw [fl_none args i (by omega)]
  trivial
theorem ex_callS {f:FuncId} {xs:Array Operand} {ats:Array TypeId} {args:List CV} {Q:CV→List (Option Nat×Res)→Prop} (ho:o.op=.call ⟨.value (.func f),xs,ats⟩) (hc:calleeB P f=true) (hA:AC G.gs P f [] args Q) (he:SEL G s xs.toList args) (hd:dstOk G o=true)
  (hK:∀ r H',Q r H'→K (s.with o.dst r (s.H++H'))):AEx P G o s K:=fun St a w hr Q'=>by
 unfold Oper.wp
 rw [exec_call ho hc]
 obtain ⟨h1,h2⟩:=args_se he hr
 refine (hA G.al w St _ _ (entry0 hr) h1 h2).mono ?_
 rintro e w' ⟨v,r,H',St',rfl,hq,hv,hu,h3,h4,h5,h6⟩
 refine ⟨hu.below,St',h3,_,hK r H' hq,?_⟩
 have:=(hr.after hu h3 h4 h5 h6).put (dst:=o.dst) (dst_of hd) hv
 cases ho:o.dst with
 | none=>rw [ho] at this;exact this
 | some d=>rw [ho] at this;exact this
theorem ex_callP {f:FuncId} {xs:Array Operand} {ats:Array TypeId} {args:List CV} {m:CV} (ho:o.op=.call ⟨.value (.func f),xs,ats⟩) (hc:calleeB P f=true) (hA:ACp G.gs P f args m) (he:SEL G s xs.toList args) (hd:dstOk G o=true)
  (hK:K (s.with o.dst m (s.H++[]))):AEx P G o s K:=ex_callS ho hc hA he hd (by rintro _ _ ⟨rfl,rfl⟩;exact hK)

def ARV (P:Program) (G:Gh) (s:AS) (rv:ResultVar) (c:CV):Prop:=∀ St a w,RelSt G St s a w→∃ v,(match rv with|.tmp t=>pure (a.tmps.getD t undef)|.cell d t=>do loadVar t (← asAddr (a.tmps.getD d undef)):Sem Value).run P w=.ok v w∧RepC G.al St w c v
theorem arv_tmp {t:Nat} {c:CV} (h:look s.env s.b t=c):ARV P G s (.tmp t) c:=fun St a w hr=>⟨_,rfl,h ▸ hr.env t⟩
theorem run_mapM1 {α β:Type} (f:α→Sem β) {a1:α} {b1:β} {w:World} (h1:(f a1).run P w=.ok b1 w):((#[a1]:Array α).mapM f).run P w=.ok #[b1] w:=by
 simp [h1]
theorem run_mapM2 {α β:Type} (f:α→Sem β) {a1 a2:α} {b1 b2:β} {w:World} (h1:(f a1).run P w=.ok b1 w) (h2:(f a2).run P w=.ok b2 w):((#[a1,a2]:Array α).mapM f).run P w=.ok #[b1,b2] w:=by
 simp [h1,h2]
theorem run_mapM3 {α β:Type} (f:α→Sem β) {a1 a2 a3:α} {b1 b2 b3:β} {w:World} (h1:(f a1).run P w=.ok b1 w) (h2:(f a2).run P w=.ok b2 w) (h3:(f a3).run P w=.ok b3 w):((#[a1,a2,a3]:Array α).mapM f).run P w=.ok #[b1,b2,b3] w:=by
 simp [h1,h2,h3]
theorem run_mapM4 {α β:Type} (f:α→Sem β) {a1 a2 a3 a4:α} {b1 b2 b3 b4:β} {w:World} (h1:(f a1).run P w=.ok b1 w) (h2:(f a2).run P w=.ok b2 w) (h3:(f a3).run P w=.ok b3 w) (h4:(f a4).run P w=.ok b4 w):((#[a1,a2,a3,a4]:Array α).mapM f).run P w=.ok #[b1,b2,b3,b4] w:=by
 simp [h1,h2,h3,h4]
theorem run_res {fn:Func} {tmps:Array Value} {vs:Array Value} {w:World} (h:(fn.results.mapM fun|.tmp t=>pure (tmps.getD t undef)|.cell a t=>do loadVar t (← asAddr (tmps.getD a undef)):Sem (Array Value)).run P w=.ok vs w):(results fn tmps).run P w=.ok (if h:vs.size=1 then vs[0] else .tuple vs) w:=by
 unfold results
 rw [Sem.run_bind]
 have h':=h
 refine (congrArg (fun r=>Result.andThen r _) h').trans ?_
 rfl
theorem res_1 {fn:Func} {r1:ResultVar} {v:CV} (h:fn.results=#[r1]) (h1:ARV P G s r1 v):ARes P G fn s v:=fun St a w hr=>by
 obtain ⟨x1,e1,q1⟩:=h1 St a w hr
 exact ⟨x1,run_res (vs:=#[x1]) (by rw [h];exact run_mapM1 _ e1),q1⟩
theorem res_2 {fn:Func} {r1 r2:ResultVar} {v1 v2:CV} (h:fn.results=#[r1,r2]) (h1:ARV P G s r1 v1) (h2:ARV P G s r2 v2):ARes P G fn s (.tup 2 (fl [v1,v2])):=fun St a w hr=>by
 obtain ⟨x1,e1,q1⟩:=h1 St a w hr
 obtain ⟨x2,e2,q2⟩:=h2 St a w hr
 exact ⟨.tuple #[x1,x2],run_res (vs:=#[x1,x2]) (by rw [h];exact run_mapM2 _ e1 e2),_,rfl,rfl,fun i hi=>match i,hi with|0,_=>q1|1,_=>q2⟩
theorem res_3 {fn:Func} {r1 r2 r3:ResultVar} {v1 v2 v3:CV} (h:fn.results=#[r1,r2,r3]) (h1:ARV P G s r1 v1) (h2:ARV P G s r2 v2) (h3:ARV P G s r3 v3):ARes P G fn s (.tup 3 (fl [v1,v2,v3])):=fun St a w hr=>by
 obtain ⟨x1,e1,q1⟩:=h1 St a w hr
 obtain ⟨x2,e2,q2⟩:=h2 St a w hr
 obtain ⟨x3,e3,q3⟩:=h3 St a w hr
 exact ⟨.tuple #[x1,x2,x3],run_res (vs:=#[x1,x2,x3]) (by rw [h];exact run_mapM3 _ e1 e2 e3),_,rfl,rfl,fun i hi=>match i,hi with|0,_=>q1|1,_=>q2|2,_=>q3⟩
theorem res_4 {fn:Func} {r1 r2 r3 r4:ResultVar} {v1 v2 v3 v4:CV} (h:fn.results=#[r1,r2,r3,r4]) (h1:ARV P G s r1 v1) (h2:ARV P G s r2 v2) (h3:ARV P G s r3 v3) (h4:ARV P G s r4 v4):ARes P G fn s (.tup 4 (fl [v1,v2,v3,v4])):=fun St a w hr=>by
 obtain ⟨x1,e1,q1⟩:=h1 St a w hr
 obtain ⟨x2,e2,q2⟩:=h2 St a w hr
 obtain ⟨x3,e3,q3⟩:=h3 St a w hr
 obtain ⟨x4,e4,q4⟩:=h4 St a w hr
 exact ⟨.tuple #[x1,x2,x3,x4],run_res (vs:=#[x1,x2,x3,x4]) (by rw [h];exact run_mapM4 _ e1 e2 e3 e4),_,rfl,rfl,fun i hi=>match i,hi with|0,_=>q1|1,_=>q2|2,_=>q3|3,_=>q4⟩
theorem res_0 {fn:Func} (h:fn.results=#[]):ARes P G fn s (.c (.tuple #[])):=fun St a w hr=>⟨.tuple #[],by simp [results,h],rfl⟩

theorem end_val {fn:Func} {e:Exit} {v m:CV} (he:e=.ret∨e=.normal) (hres:ARes P G fn s v) (hv:CEnt v m):bodyR P G fn (fun r H=>r=m∧H=[]) e s:=end_pure he m (hres.ent hv) ⟨rfl,rfl⟩
variable {t u:TypeId} {p q:Operand} {k:IntKind}
theorem rd_eqE0 (ho:o.op=.binOp .eql 27 p (.const .nilIface) u) (hx:s.eval p=.c .nilIface):ARd Tryd.prog G o s (.c (.bool (decide ((0:Nat)=0)))):=fun St a w h=>by
 have hs:a.eval p=ev G.al 0:=(evC h hx).trans (ev_zero _).symm
 refine ⟨.bool (decide ((0:Nat)=0)),fun W _=>?_,rfl⟩
 simp only [execOp,ho,hs]
 refine vOk ?_
 show (do eqGuard .eql _ _ _ (ev G.al 0) .nilIface;binOp .eql _ (ev G.al 0) .nilIface:Sem Value).run _ W=_
 rw [eqGuard_ev_nil]
 exact run_eql_ev_nil G.al 0 W
theorem rd_neE0 (ho:o.op=.binOp .neq 27 p (.const .nilIface) u) (hx:s.eval p=.c .nilIface):ARd Tryd.prog G o s (.c (.bool (decide ((0:Nat)≠0)))):=fun St a w h=>by
 have hs:a.eval p=ev G.al 0:=(evC h hx).trans (ev_zero _).symm
 refine ⟨.bool (decide ((0:Nat)≠0)),fun W _=>?_,rfl⟩
 simp only [execOp,ho,hs]
 refine vOk ?_
 show (do eqGuard .neq _ _ _ (ev G.al 0) .nilIface;binOp .neq _ (ev G.al 0) .nilIface:Sem Value).run _ W=_
 rw [eqGuard_ev_nil]
 have:=run_neq_ev_nil G.al 0 W
 rw [← decide_not] at this
 exact this
theorem eqG_ptr (op:BinOp) (t:TypeId) (x y:Operand) (a b:Option Addr) (W:World):(eqGuard op t x y (.pointer a) (.pointer b)).run P W=.ok () W:=by
 unfold eqGuard
 split <;> simp
theorem run_ptr_nil {e:TypeId} (ht:P.underlying t=some (.pointer e)) (a:Addr) (W:World):(Op.equal t (.pointer (some a)) (.pointer none)).run P W=.ok false W:=by
 show (Op.equalIn 10000 t (.pointer (some a)) (.pointer none)).run P W=_
 rw [show (10000:Nat)=9999+1 from rfl,Op.equalIn]
 simp only [underlying,Sem.run_bind,run_program,Result.andThen_ok,ht,Sem.run_pure]
theorem rd_eqP {e:TypeId} {i off:Nat} {g:Option Nat} (ho:o.op=.binOp .eql t p q u) (hx:s.eval p=.op i g off) (hy:s.eval q=.c (.pointer none)) (ht:P.underlying t=some (.pointer e)):ARd P G o s (.c (.bool false)):=fun St a w h=>by
 obtain ⟨b,rfl,e0⟩:=evR h hx
 refine ⟨_,fun W _=>?_,rfl⟩
 simp only [execOp,ho,e0,evC h hy]
 refine vOk ?_
 simp [eqG_ptr,binOp,run_ptr_nil ht]
theorem rd_eqPR {e:TypeId} {n:Nat} {f:Nat→CV} (ho:o.op=.binOp .eql t p q u) (hx:s.eval p=.rp n f) (hy:s.eval q=.c (.pointer none)) (ht:P.underlying t=some (.pointer e)):ARd P G o s (.c (.bool false)):=fun St a w h=>by
 obtain ⟨b,z,e0,_⟩:=evR h hx
 refine ⟨_,fun W _=>?_,rfl⟩
 simp only [execOp,ho,e0,evC h hy]
 refine vOk ?_
 simp [eqG_ptr,binOp,run_ptr_nil ht]
def rowF {α:Type} (k:Nat) (e:α→Nat→CV) (d:α) (l:List α) (j:Nat):CV:=e (l.getD (j / k) d) (j % k)
variable {env:List (Nat×CV)} {b0:Nat→CV} {H:List (Option Nat×Res)}
theorem with_some {d:Nat} {v:CV} {H':List (Option Nat×Res)} (hd:o.dst=some d):(⟨env,b0,H⟩:AS).with o.dst v H'=⟨(d,v)::env,b0,H'⟩:=by simp only [AS.with,AS.put,hd]
theorem with_none {v:CV} {H':List (Option Nat×Res)} (hd:o.dst=none):(⟨env,b0,H⟩:AS).with o.dst v H'=⟨env,b0,H'⟩:=by simp only [AS.with,AS.put,hd]
theorem dst_s {d:Nat} (hd:o.dst=some d) (hN:Nat.blt d G.N=true):dstOk G o=true:=by simp only [dstOk,hd];exact hN
theorem dst_n (hd:o.dst=none):dstOk G o=true:=by simp only [dstOk,hd]

theorem e_alloc {z:Value} {n d:Nat} (ho:o.op=.alloc t) (hz:(P.info? t).map (·.zero)=some (some z)) (hn:z.cells.size=n) (hd:o.dst=some d) (hN:Nat.blt d G.N=true)
  (hK:∀ g,K ⟨(d,.op H.length g 0)::env,b0,H++[(g,.blk n fun j=>.c (z.cells.getD j undef))]⟩):AEx P G o ⟨env,b0,H⟩ K :=
 ex_alloc ho hz hn (dst_s hd hN) fun g=>by rw [with_some hd];exact hK g
theorem e_box {n d:Nat} {c:CV} {l:List CV} (ho:o.op=.box t p) (hx:(⟨env,b0,H⟩:AS).eval p=c) (hl:cellsC c=some l) (hn:l.length=n) (hd:o.dst=some d) (hN:Nat.blt d G.N=true)
  (hK:∀ g,K ⟨(d,.op H.length g 0)::env,b0,H++[(g,.blk n (fl l))]⟩):AEx P G o ⟨env,b0,H⟩ K :=
 ex_box ho hx hl hn (dst_s hd hN) fun g=>by rw [with_some hd];exact hK g
theorem e_buildSlice {e:TypeId} {z:Value} {len m:Nat} {parts:Array (Nat×Operand)} {l:List CV} {n d:Nat} (ho:o.op=.buildSlice t len parts) (h1:P.underlying t=some (.slice e)) (h5:(P.info? e).map (·.size)=some m) (hz:(P.info? e).map (·.zero)=some (some z))
  (hm:Nat.ble (len * m) 16777216=true) (hlen:Nat.ble len 16777216=true) (hf:fillC (fun i=>some (i * m,m)) ((List.range (len * m)).map fun i=>.c (z.cells[i % z.cells.size]!)) (parts.toList.map fun p=>(p.1,(⟨env,b0,H⟩:AS).eval p.2))=some l) (hn:l.length=n) (hle:n=len * m) (hd:o.dst=some d) (hN:Nat.blt d G.N=true)
  (hK:∀ g,K ⟨(d,.os H.length g 0 len m)::env,b0,H++[(g,.blk n (fl l))]⟩):AEx P G o ⟨env,b0,H⟩ K :=
 ex_buildSlice ho h1 h5 hz hm hlen hf hn hle (dst_s hd hN) fun g=>by rw [with_some hd];exact hK g
theorem e_callP {f:FuncId} {xs:Array Operand} {ats:Array TypeId} {args:List CV} {m:CV} {d:Nat} (ho:o.op=.call ⟨.value (.func f),xs,ats⟩) (hc:calleeB P f=true) (hA:ACp G.gs P f args m) (he:SEL G ⟨env,b0,H⟩ xs.toList args) (hd:o.dst=some d) (hN:Nat.blt d G.N=true)
  (hK:K ⟨(d,m)::env,b0,H⟩):AEx P G o ⟨env,b0,H⟩ K:=ex_callP ho hc hA he (dst_s hd hN) (by rw [with_some hd,List.append_nil];exact hK)
theorem e_callS {f:FuncId} {xs:Array Operand} {ats:Array TypeId} {args:List CV} {Q:CV→List (Option Nat×Res)→Prop} {d:Nat} (ho:o.op=.call ⟨.value (.func f),xs,ats⟩) (hc:calleeB P f=true) (hA:AC G.gs P f [] args Q) (he:SEL G ⟨env,b0,H⟩ xs.toList args) (hd:o.dst=some d) (hN:Nat.blt d G.N=true)
  (hK:∀ r H',Q r H'→K ⟨(d,r)::env,b0,H++H'⟩):AEx P G o ⟨env,b0,H⟩ K:=ex_callS ho hc hA he (dst_s hd hN) (fun r H' hq=>by rw [with_some hd];exact hK r H' hq)
theorem m_store {i off n m:Nat} {g:Option Nat} {f:Nat→CV} {c:CV} {l:List CV} (ho:o.op=.store t p q) (hx:(⟨env,b0,H⟩:AS).eval p=.op i g off) (hH:H[i]?=some (g,.blk n f)) (hy:(⟨env,b0,H⟩:AS).eval q=c) (hl:cellsC c=some l) (h5:(P.info? t).map (·.size)=some m) (hm:l.length=m) (hleaf:l.all leafC=true) (hn:off+m≤n)
  (F:Nat→CV) (hF:∀ j,j<n→CEnt (updF f off l j) (F j)) (hd:o.dst=none) (hK:K ⟨env,b0,H.set i (g,.blk n F)⟩):AMd P G o ⟨env,b0,H⟩ K :=
 md_store ho hx hH hy hl h5 hm hleaf hn F hF (dst_n hd) (by rw [with_none hd];exact hK)
theorem m_append {e:TypeId} {z:Value} {i n m k N by_ n' N' d:Nat} {g:Option Nat} {f h:Nat→CV} (ho:o.op=.call ⟨.builtin .append,#[p,q],#[t,u]⟩) (hx:(⟨env,b0,H⟩:AS).eval p=.os i g 0 n k) (hH:H[i]?=some (g,.blk N f)) (hN:n * k≤N)
  (hsrc:ASrc P G ⟨env,b0,H⟩ q k m h) (h1:P.underlying t=some (.slice e)) (hu:notInt P u=true) (h5:(P.info? e).map (·.size)=some k) (hz:(P.info? e).map (·.zero)=some (some z)) (hby:(P.info? e).map (·.bytes)=some by_)
  (h63:n+m≤9223372036854775807) (h48:(n+m) * by_≤140737488355328) (hzk:z.cells.size=k)
  (F:Nat→CV) (hF:∀ j,j<(n+m) * k→CEnt (appF (n * k) f h j) (F j)) (hleaf:∀ j,j<m * k→leafC (h j)=true) (hd:o.dst=some d) (hdN:Nat.blt d G.N=true) (hn':n+m=n') (hN':(n+m) * k=N')
  (hK:∀ g',K ⟨(d,.os i g' 0 n' k)::env,b0,H.set i (g',.blk N' F)⟩):AMd P G o ⟨env,b0,H⟩ K :=
 md_append ho hx hH hN hsrc h1 hu h5 hz hby h63 h48 hzk F hF hleaf (dst_s hd hdN) fun g'=>by subst hn';subst hN';rw [with_some hd];exact hK g'
theorem l_loop {c:Code} {α:Type} (D:List Nat) (M:α→List (Nat×CV)) (Hp:α→List (Option Nat×Res)) (φ:α→Prop) (μ:α→Nat) (p0:α) (h0:φ p0) (hM:∀ p,((M p).all fun x=>D.any (Nat.beq x.1))=true) (he:EntE env b0 (M p0)) (hH:HEnt H (Hp p0))
  (hr:∀ p,φ p→ACode P G c ⟨M p,lay D env b0,Hp p⟩ (thenR (fun s'=>∃ p',φ p'∧μ p'<μ p∧BLe D (lay D env b0) s'.b∧(s'.env.all fun x=>D.any (Nat.beq x.1))=true∧EntE s'.env s'.b (M p')∧(Hp p').length≤s'.H.length∧HEnt (s'.H.take (Hp p').length) (Hp p')) R)):ACode P G (.loop c) ⟨env,b0,H⟩ R :=
 code_loopD (s:=⟨env,b0,H⟩) D M Hp φ μ p0 h0 hM he hH hr
end
end
section
section
variable {P:Program} {G:Gh} {ops:Array Oper} {o:Oper} {s:AS} {K:AS→Prop} {t u:TypeId} {p q:Operand} {k:IntKind}
variable {env:List (Nat×CV)} {b0:Nat→CV} {H:List (Option Nat×Res)}

theorem RelSt.afterH {St St':Nat→Prop} {a:Act} {w w':World} (h:RelSt G St s a w) {fp:Nat→Nat→Prop} (hp:HFoot G.al St w G.w0.heap.size G.F0 s.H fp) {i:Nat} (hi:i<s.H.length) {x:Option Nat×Res} (hu:Under (fp i) w w') (h1:∀ b,St b→St' b) (h2:∀ b,St' b→St b∨w.heap.size≤b∨fp i b) (h3:∀ b,St' b→b<w'.heap.size) (hp':HRel G.al St' w' w.heap.size (fp i) [x]) :
  RelSt G St' ⟨s.env,s.b,s.H.set i x⟩ a w':=by
 have hst:∀ b,St b→w'.heap[b]?=w.heap[b]?:=fun b hb=>hu.block b (h.s3 b hb) fun hf=>(hp.own i b hf).2.1 hb
 have he:Evo St w w':=⟨fun b cur t z hb hc=>(hst b hb).trans hc,hu.sh⟩
 obtain ⟨fp',hp'⟩:=hp'
 refine ⟨h.df.keep h1 hst,h.sz,fun d=>RepC.evo he h1 _ _ (h.env d),⟨hu.os.trans h.un.os,hu.tape.trans h.un.tape,hu.output.trans h.un.output,Nat.le_trans h.un.size hu.size,fun k hk hF=>?_,fun b cur ty z hb=>?_⟩,fun b hs=>h1 b (h.s1 b hs),fun b hs=>?_,h3,?_,?_,fun g hg=>h1 g (h.sg.1 g hg),fun y hy=>h1 _ (h.sg.2 y hy)⟩
 ·refine (hu.block k (Nat.lt_of_lt_of_le hk h.un.size) fun hf=>?_).trans (h.un.block k hk hF)
  rcases (hp.own i k hf).2.2 with h4|h4
  ·omega
  ·exact hF h4
 ·obtain ⟨cur',z',h4,h5⟩:=h.un.sh b cur ty z hb
  obtain ⟨cur2,z2,h6,h7⟩:=hu.sh b cur' ty z' h4
  exact ⟨cur2,z2,h6,h7.trans h5⟩
 ·rcases h2 b hs with hs|hs|hs
  ·exact h.s2 b hs
  ·exact .inr (.inl (Nat.le_trans h.un.size hs))
  ·exact .inr (hp.own i b hs).2.2
 ·have old:∀ j b,j≠i→fp j b→w'.heap[b]?=w.heap[b]?:=fun j b hj hb=>hu.block b (hp.own j b hb).1 fun hf=>hj (hp.dis j i b hb hf)
  refine ⟨fun j b=>if j=i then fp' 0 b else fp j b,fun j q r hj=>?_,fun j l b hj hl=>?_,fun j b hj=>?_,fun j hj b hb=>?_⟩
  ·by_cases e:j=i
   ·subst e
    simp [hi] at hj
    have e2:(fun b=>if j=j then fp' 0 b else fp j b)=fp' 0:=funext fun b=>by simp
    show r.rep G.al St' w' (fun b=>if j=j then fp' 0 b else fp j b) q
    rw [e2]
    exact hp'.rep 0 q r (by simp [hj])
   ·rw [List.getElem?_set_ne (Ne.symm e)] at hj
    have e2:(fun b=>if j=i then fp' 0 b else fp j b)=fp j:=funext fun b=>by simp [e]
    show r.rep G.al St' w' (fun b=>if j=i then fp' 0 b else fp j b) q
    rw [e2]
    exact Res.rep_evo he h1 (fun b hF=>old j b e hF) (hp.rep j q r hj)
  ·have apart:∀ l b,l≠i→fp l b→fp' 0 b→False:=fun l b hl h4 h5=>by
    rcases (hp'.own 0 b h5).2.2 with h6|h6
    ·have:=(hp.own l b h4).1;omega
    ·exact hl (hp.dis l i b h4 h6)
   by_cases e1:j=i <;> by_cases e2:l=i
   ·omega
   ·simp only [e1,e2,if_true,if_false] at hj hl;exact (apart l b e2 hl hj).elim
   ·simp only [e1,e2,if_true,if_false] at hj hl;exact (apart j b e1 hj hl).elim
   ·simp only [e1,e2,if_false] at hj hl;exact hp.dis j l b hj hl
  ·by_cases e:j=i
   ·simp only [e,if_true] at hj
    obtain ⟨h4,h5,h6⟩:=hp'.own 0 b hj
    refine ⟨h4,h5,?_⟩
    rcases h6 with h6|h6
    ·exact .inl (Nat.le_trans h.un.size h6)
    ·exact (hp.own i b h6).2.2
   ·simp only [e,if_false] at hj
    obtain ⟨h4,h5,h6⟩:=hp.own j b hj
    refine ⟨Nat.lt_of_lt_of_le h4 hu.size,fun hs=>?_,h6⟩
    rcases h2 b hs with hs|hs|hs
    ·exact h5 hs
    ·omega
    ·exact e (hp.dis j i b hj hs)
  ·have hj':s.H.length≤j:=by simpa using hj
   have e:j≠i:=by omega
   simp only [e,if_false] at hb
   exact hp.out j hj' b hb
 ·exact SentL.keep h.sn (fun q hq=>hst q (h.sg.1 q hq)) (fun y hy=>hst _ (h.sg.2 y hy))

theorem m_callH {f:FuncId} {xs:Array Operand} {ats:Array TypeId} {args:List CV} {Q:CV→List (Option Nat×Res)→Prop} {i d:Nat} {x0:Option Nat×Res} (ho:o.op=.call ⟨.value (.func f),xs,ats⟩) (hc:calleeB P f=true) (hi:H[i]?=some x0) (hA:AC G.gs P f [x0] args Q) (he:SEL G ⟨env,b0,H⟩ xs.toList args) (hd:o.dst=some d) (hN:Nat.blt d G.N=true)
  (hK:∀ r H',Q r H'→∃ x r',H'=[x]∧CEnt r r'∧K ⟨(d,r')::env,b0,H.set i x⟩):AMd P G o ⟨env,b0,H⟩ K:=fun St a w hr Q'=>by
 unfold Oper.wp
 rw [exec_call ho hc]
 obtain ⟨h1,h2⟩:=args_se he hr
 obtain ⟨fp,hp⟩:=hr.hp
 have hlt:i<H.length:=(List.getElem?_eq_some_iff.1 hi).1
 obtain ⟨g0,r0⟩:=x0
 have hent:Entry G.gs G.al St (fp i) [(g0,r0)] w:=by
  refine ⟨hr.s3,hr.sn,hr.sg,⟨fun j b=>j=0∧fp i b,fun j g r hj=>?_,fun j l b hj hl=>by omega,fun j b hj=>⟨(hp.own i b hj.2).1,(hp.own i b hj.2).2.1,.inr hj.2⟩,fun j hj b hb=>by simp at hj;omega⟩,fun b hb=>(hp.own i b hb).2.1⟩
  match j,hj with
  | 0,hj =>
   simp at hj
   obtain ⟨rfl,rfl⟩:=hj
   have e:(fun b=>(0:Nat)=0∧fp i b)=fp i:=funext fun b=>by simp
   show r0.rep G.al St w (fun b=>(0:Nat)=0∧fp i b) g0
   rw [e]
   exact hp.rep i g0 r0 hi
  | j+1,hj=>simp at hj
 refine (hA G.al w St _ _ hent h1 h2).mono ?_
 rintro e w' ⟨v,r,H',St',rfl,hq,hv,hu,h3,h4,h5,h6⟩
 obtain ⟨x,r',rfl,hce,hk⟩:=hK r H' hq
 refine ⟨fun b hb=>hu.block b (hr.s3 b hb) fun hf=>(hp.own i b hf).2.1 hb,St',h3,_,hk,?_⟩
 have h7:=(hr.afterH hp hlt hu h3 h4 h5 h6).put (dst:=o.dst) (v:=r') (x:=v) (by intro d' hd';rw [hd] at hd';cases hd';exact Nat.le_of_ble_eq_true hN) (hce _ _ _ _ hv)
 rw [hd] at h7 ⊢
 exact h7
theorem cO {i j:Nat} {g:Option Nat} {off n m k:Nat} (h:n=m):CEnt (.os i g off n k) (.os j g off m k):=by
 subst h
 cases g <;> exact fun _ _ _ _ h=>h
theorem cP {i j off:Nat} {g:Option Nat}:CEnt (.op i g off) (.op j g off):=fun _ _ _ _ h=>h
def OwnQ (n k N:Nat) (F:Nat→CV):CV→List (Option Nat×Res)→Prop:=fun r H'=>∃ g,r=.os 0 g 0 n k∧H'=[(g,.blk N F)]
theorem AEx.ent {K':AS→Prop} (h:AEx P G o s K') (hK:∀ s',K' s'→∃ s'',EntS G s' s''∧K s''):AEx P G o s K:=fun St a w hr Q=>Oper.wp_mono (fun a' w' ⟨hb,St',hs,s',h1,h2⟩=>by
 obtain ⟨s'',h3,h4⟩:=hK s' h1
 obtain ⟨S2,h5,h6⟩:=h3 St' a' w' h2
 exact ⟨hb,S2,fun b hb=>h5 b (hs b hb),s'',h4,h6⟩) (h St a w hr Q)
theorem own_nil (d k:Nat) (f:Nat→CV) (hl:look s.env s.b d=.c (.slice none 0 0)):EntS G s ⟨(d,.os s.H.length none 0 0 k)::s.env,s.b,s.H++[(none,.blk 0 f)]⟩:=fun St a w hr=>by
 refine ⟨St,fun _ h=>h,hr.df,hr.sz,fun e=>?_,hr.un,hr.s1,hr.s2,hr.s3,?_,hr.sn,hr.sg⟩
 ·by_cases hde:d=e
  ·subst hde
   rw [look_same]
   have:=hr.env d
   rw [hl] at this
   exact ⟨rfl,this⟩
  ·rw [look_other _ _ _ hde];exact hr.env e
 ·obtain ⟨fp,hp⟩:=hr.hp
  refine ⟨fp,fun j g r hj=>?_,hp.dis,hp.own,fun j hj=>hp.out j (by simp at hj;omega)⟩
  rcases Nat.lt_or_ge j s.H.length with h1|h1
  ·rw [List.getElem?_append_left h1] at hj;exact hp.rep j g r hj
  ·rw [List.getElem?_append_right h1] at hj
   have h2:=(List.getElem?_eq_some_iff.1 hj).1
   simp at h2
   have h3:j=s.H.length:=by omega
   subst h3
   simp at hj
   obtain ⟨rfl,rfl⟩:=hj
   exact ⟨rfl,fun b hb=>hp.out _ (Nat.le_refl _) b hb⟩
theorem se_nilO {x:Operand} {i k off:Nat} (hx:s.eval x=.c (.slice none 0 0)):SE G s x (.os i none off 0 k):=fun St a w hr=>⟨rfl,evC hr hx⟩
theorem ent_none (f:Nat→CV):EntS G s ⟨s.env,s.b,s.H++[(none,.blk 0 f)]⟩:=fun St a w hr=>by
 refine ⟨St,fun _ h=>h,hr.df,hr.sz,hr.env,hr.un,hr.s1,hr.s2,hr.s3,?_,hr.sn,hr.sg⟩
 obtain ⟨fp,hp⟩:=hr.hp
 refine ⟨fp,fun j g r hj=>?_,hp.dis,hp.own,fun j hj=>hp.out j (by simp at hj;omega)⟩
 rcases Nat.lt_or_ge j s.H.length with h1|h1
 ·rw [List.getElem?_append_left h1] at hj;exact hp.rep j g r hj
 ·rw [List.getElem?_append_right h1] at hj
  have h2:=(List.getElem?_eq_some_iff.1 hj).1
  simp at h2
  have h3:j=s.H.length:=by omega
  subst h3
  simp at hj
  obtain ⟨rfl,rfl⟩:=hj
  exact ⟨rfl,fun b hb=>hp.out _ (Nat.le_refl _) b hb⟩
theorem CEnt.agg2 {f g:Nat→CV} (h0:CEnt (f 0) (g 0)) (h1:CEnt (f 1) (g 1)):CEnt (.agg 2 f) (.agg 2 g):=CEnt.agg rfl fun i hi=>match i,hi with|0,_=>h0|1,_=>h1
theorem CEnt.agg3 {f g:Nat→CV} (h0:CEnt (f 0) (g 0)) (h1:CEnt (f 1) (g 1)) (h2:CEnt (f 2) (g 2)):CEnt (.agg 3 f) (.agg 3 g):=CEnt.agg rfl fun i hi=>match i,hi with|0,_=>h0|1,_=>h1|2,_=>h2
theorem CEnt.agg4 {f g:Nat→CV} (h0:CEnt (f 0) (g 0)) (h1:CEnt (f 1) (g 1)) (h2:CEnt (f 2) (g 2)) (h3:CEnt (f 3) (g 3)):CEnt (.agg 4 f) (.agg 4 g):=CEnt.agg rfl fun i hi=>match i,hi with|0,_=>h0|1,_=>h1|2,_=>h2|3,_=>h3
theorem CEnt.agg5 {f g:Nat→CV} (h0:CEnt (f 0) (g 0)) (h1:CEnt (f 1) (g 1)) (h2:CEnt (f 2) (g 2)) (h3:CEnt (f 3) (g 3)) (h4:CEnt (f 4) (g 4)):CEnt (.agg 5 f) (.agg 5 g):=CEnt.agg rfl fun i hi=>match i,hi with|0,_=>h0|1,_=>h1|2,_=>h2|3,_=>h3|4,_=>h4
theorem CEnt.agg6 {f g:Nat→CV} (h0:CEnt (f 0) (g 0)) (h1:CEnt (f 1) (g 1)) (h2:CEnt (f 2) (g 2)) (h3:CEnt (f 3) (g 3)) (h4:CEnt (f 4) (g 4)) (h5:CEnt (f 5) (g 5)):CEnt (.agg 6 f) (.agg 6 g):=CEnt.agg rfl fun i hi=>match i,hi with|0,_=>h0|1,_=>h1|2,_=>h2|3,_=>h3|4,_=>h4|5,_=>h5
def inF (l:List Int) (i:Nat):CV:=.c (.int .i64 (l.getD i 0))
def isC (l:List Int):CV:=.rs 1 l.length fun i _=>inF l i
inductive EqF (P:Program) (f g:Nat→CV):List Field→Prop→Prop where
 | nil:EqF P f g [] True
 | int {fd : Field} {fs : List Field} {k k' : IntKind} {a b : Int} {p : Prop} (h : P.underlying fd.type = some (.int k')) (hn : fd.name ≠ "_") (hf : f fd.offset = .c (.int k a)) (hg : g fd.offset = .c (.int k b)) (t : EqF P f g fs p) : EqF P f g (fd :: fs) (a = b ∧ p)
 | bool {fd : Field} {fs : List Field} {a b : Bool} {p : Prop} (h : P.underlying fd.type = some .bool) (hn : fd.name ≠ "_") (hf : f fd.offset = .c (.bool a)) (hg : g fd.offset = .c (.bool b)) (t : EqF P f g fs p) : EqF P f g (fd :: fs) (a = b ∧ p)
 | str {fd : Field} {fs : List Field} {a b : ByteArray} {p : Prop} (h : P.underlying fd.type = some .string) (hn : fd.name ≠ "_") (hf : f fd.offset = .c (.string a)) (hg : g fd.offset = .c (.string b)) (t : EqF P f g fs p) : EqF P f g (fd :: fs) (a = b ∧ p)
theorem fl_at {cs:List CV} {j:Nat} (hj:j<cs.length):fl cs j=cs[j]:=by rw [fl_get];simp [List.getD,hj]
theorem entl_at {cs ds:List CV} (h:EntL cs ds):cs.length=ds.length∧∀ j,CEnt (fl cs j) (fl ds j):=by
 induction h with
 | nil=>exact ⟨rfl,fun _=>cZ⟩
 | cons h _ ih=>exact ⟨by simp [ih.1],fun j=>match j with|0=>h|j+1=>ih.2 j⟩
theorem ac_calls {gs:List Nat} {al:List Addr} {f:FuncId} {args:List CV} {m:CV} {w:World} {vals:Array Value} (hA:ACp gs P f args m) (hS:SentL w gs al) (hs:vals.size=args.length) (hv:∀ i,RepC al (fun b=>b<w.heap.size) w (fl args i) (vals.getD i undef)) :
  Calls P f vals w fun e w'=>∃ v St',e=.returned v∧RepC al St' w' m v∧Below w.heap.size w w':=by
 have hg:∀ g ∈ lst gs,g<w.heap.size:=hS.lt
 have ha:∀ a ∈ al,a.block<w.heap.size:=fun a ha=>by
  obtain ⟨c,t,hc⟩:=hS.row a ha
  exact (Array.getElem?_eq_some_iff.1 hc).1
 refine (hA al w (fun b=>b<w.heap.size) (fun _=>False) vals ⟨fun _ h=>h,hS,⟨hg,ha⟩,⟨fun _ _=>False,fun i g r hi=>by simp at hi,fun _ _ _ h=>h.elim,fun _ _ h=>h.elim,fun _ _ _ h=>h⟩,fun _ h=>h.elim⟩ hs hv).mono ?_
 rintro e w' ⟨v,r,H',St',he,⟨rfl,rfl⟩,hr,hu,_⟩
 exact ⟨v,St',he,hr,hu.below⟩
theorem law_calls {gs:List Nat} {al:List Addr} {f:FuncId} {args:List CV} {w:World} {vals:Array Value} (hA:ACp gs P f args (.c (.bool true))) (hS:SentL w gs al) (hs:vals.size=args.length) (hv:∀ i,RepC al (fun b=>b<w.heap.size) w (fl args i) (vals.getD i undef)) :
  Calls P f vals w fun e w'=>e=.returned (.bool true)∧Below w.heap.size w w' :=
 (ac_calls hA hS hs hv).mono fun e w' ⟨v,St',he,hr,hb⟩=>⟨by rw [he];exact congrArg _ hr,hb⟩
theorem ac_old {gs:List Nat} {f:FuncId} {args:List CV} {r:Value} (h:∀ (al:List Addr) (w:World) (St:Nat→Prop) (vals:Array Value),SentL w gs al→vals.size=args.length→(∀ i,RepC al St w (fl args i) (vals.getD i undef))→Calls P f vals w fun e w'=>e=.returned r∧Below w.heap.size w w'):ACp gs P f args (.c r) :=
 fun al w St F0 vals he hs hv=>(h al w St vals he.sn hs hv).mono fun e w' ⟨h1,h2⟩=>by
  refine ⟨r,.c r,[],St,h1,⟨rfl,rfl⟩,rfl,⟨h2.os,h2.tape,h2.output,h2.size,fun k hk _=>h2.block k hk,fun b cur t z hb=>⟨cur,z,(h2.block b (Array.getElem?_eq_some_iff.1 hb).1).trans hb,rfl⟩⟩,fun _ h=>h,fun _ h=>.inl h,fun b hb=>Nat.lt_of_lt_of_le (he.s3 b hb) h2.size,HRel.none _ _ _ _ _⟩
theorem vals1 {vals:Array Value} (h:vals.size=1):vals=#[vals.getD 0 undef]:=by
 apply Array.ext
 ·simp [h]
 ·intro i h1 h2
  have:i=0:=by omega
  subst this
  simp [h]
theorem vals2 {vals:Array Value} (h:vals.size=2):vals=#[vals.getD 0 undef,vals.getD 1 undef]:=by
 apply Array.ext
 ·simp [h]
 ·intro i h1 h2
  have:i=0∨i=1:=by omega
  rcases this with e|e <;> subst e <;> simp [h]
theorem rd_iaddrO1 {e:TypeId} {j n i:Nat} {g:Option Nat} {z:Int} {t:TypeId} {x y:Operand} {k:IntKind} (ho:o.op=.indexAddr t x y) (hx:s.eval x=.os j g 0 n 1) (hy:s.eval y=.c (.int k z)) (h1:P.underlying t=some (.slice e))
  (h5:(P.info? e).map (·.size)=some 1) (hz:z=(i:Int)) (hi:i<n):ARd P G o s (.op j g i):=by
 have:=rd_iaddrO (G:=G) ho hx hy h1 h5 hz hi
 rwa [Nat.zero_add,Nat.mul_one] at this
theorem rep_nil {al:List Addr} {St:Nat→Prop} {w:World}:∀ i,RepC al St w (fl [] i) ((List.toArray ([]:List Value)).getD i undef):=fun _=>trivial
theorem rep_cons {al:List Addr} {St:Nat→Prop} {w:World} {c:CV} {cs:List CV} {v:Value} {vs:List Value} (h:RepC al St w c v) (t:∀ i,RepC al St w (fl cs i) ((List.toArray vs).getD i undef)):∀ i,RepC al St w (fl (c::cs) i) ((List.toArray (v::vs)).getD i undef)
 | 0=>h
 | i+1=>by
  have:=t i
  simpa [fl,Array.getD_eq_getD_getElem?] using this
def RowC {α:Type} (k:Nat) (C:List α→Nat→CV):Prop:=∀ l l2 j,j<(l.length+l2.length) * k→(if j<l.length * k then C l j else C l2 (j-l.length * k))=C (l++l2) j
theorem m_appendC {α:Type} {C:List α→Nat→CV} {k:Nat} (hC:RowC k C) {e:TypeId} {z:Value} {i n N N' by_ d:Nat} {t u:TypeId} {p q:Operand} {env:List (Nat×CV)} {b0:Nat→CV} {H:List (Option Nat×Res)} {K:AS→Prop} {g:Option Nat} {f h:Nat→CV} {l l2:List α} {m:Nat} (ho:o.op=.call ⟨.builtin .append,#[p,q],#[t,u]⟩) (hx:(⟨env,b0,H⟩:AS).eval p=.os i g 0 n k) (hn:n=l.length) (hH:H[i]?=some (g,.blk N f)) (hN:l.length * k≤N) (hf:∀ j,j<l.length * k→CEnt (f j) (C l j))
  (hsrc:ASrc P G ⟨env,b0,H⟩ q k m h) (hm:m=l2.length) (hh:∀ j,j<l2.length * k→CEnt (h j) (C l2 j)) (h1:P.underlying t=some (.slice e)) (hu:notInt P u=true) (h5:(P.info? e).map (·.size)=some k) (hz:(P.info? e).map (·.zero)=some (some z)) (hby:(P.info? e).map (·.bytes)=some by_) (hzk:z.cells.size=k)
  (h63:l.length+l2.length≤9223372036854775807) (h48:(l.length+l2.length) * by_≤140737488355328) (hleaf:∀ j,j<m * k→leafC (h j)=true) (hd:o.dst=some d) (hdN:Nat.blt d G.N=true) (hN':(l++l2).length * k=N')
  (hK:∀ g',K ⟨(d,.os i g' 0 (l++l2).length k)::env,b0,H.set i (g',.blk N' (C (l++l2)))⟩):AMd P G o ⟨env,b0,H⟩ K:=by
 subst hm hn
 refine m_append ho hx hH hN hsrc h1 hu h5 hz hby h63 h48 hzk (C (l++l2)) (fun j hj=>?_) hleaf hd hdN List.length_append.symm (by rw [← List.length_append];exact hN') hK
 rw [← hC l l2 j hj]
 unfold appF
 split
 ·rename_i h;exact hf j h
 ·rename_i h
  refine hh _ ?_
  rw [Nat.add_mul] at hj
  omega
theorem leaf_flk {cs:List CV} {m k:Nat} (h:cs.all leafC=true) (hm:m * k=cs.length):∀ j,j<m * k→leafC (fl cs (0+j))=true:=fun j hj=>by
 rw [Nat.zero_add,fl_at (by omega)]
 exact List.all_eq_true.1 h _ (List.getElem_mem ..)
end
end
section
theorem sz9:(Tryd.prog.info? 9).map (·.size)=some 1:=by kernel_rfl
theorem by9:(Tryd.prog.info? 9).map (·.bytes)=some 16:=by kernel_rfl
theorem zr9:(Tryd.prog.info? 9).map (·.zero)=some (some (.string ByteArray.empty)):=by kernel_rfl
theorem zr25:(Tryd.prog.info? 25).map (·.zero)=some (some (.pointer none)):=by kernel_rfl
theorem nu32:notInt Tryd.prog 32=true:=by kernel_rfl
theorem zr32:(Tryd.prog.info? 32).map (·.zero)=some (some (.slice none 0 0)):=by kernel_rfl
theorem zr34:(Tryd.prog.info? 34).map (·.zero)=some (some (.agg #[.int .i64 0,.int .i64 0,.slice none 0 0])):=by kernel_rfl
theorem pl34:plOf Tryd.prog 34=some [(0,1),(1,1),(2,1)]:=by kernel_rfl
theorem zr36:(Tryd.prog.info? 36).map (·.zero)=some (some (.agg #[.int .i64 0,.bool false,.string ByteArray.empty])):=by kernel_rfl
theorem zr52:(Tryd.prog.info? 52).map (·.zero)=some (some (.agg #[.chan none,.int .i64 0])):=by kernel_rfl
theorem pl52:plOf Tryd.prog 52=some [(0,1),(1,1)]:=by kernel_rfl
end
section
section
variable {P:Program} {G:Gh} {ops:Array Oper} {o:Oper} {s:AS} {r:List Oper} {K:AS→Prop} {t u:TypeId} {x y:Operand} {env:List (Nat×CV)} {b0:Nat→CV} {H:List (Option Nat×Res)}

theorem ac_len {gs:List Nat} {P:Program} {f:FuncId} {H:List (Option Nat×Res)} {args:List CV} {Q:CV→List (Option Nat×Res)→Prop} (j:Nat) {k n:Nat} {F:Nat→Nat→CV} (hj:fl args j=.rs k n F) (h:n≤9223372036854775807→AC gs P f H args Q):AC gs P f H args Q:=fun al w St F0 vals he hs hv=>by
 have h1:=hv j
 rw [hj] at h1
 obtain ⟨ao,cap,_,h2,h3,_⟩:=id h1
 exact h (by omega) al w St F0 vals he hs hv
def wide8:IntKind→Bool|.i8=>false|_=>true
end
end
section
section
variable {P:Program} {G:Gh} {ops:Array Oper} {o:Oper} {s:AS} {r:List Oper} {K:AS→Prop} {t u:TypeId} {x y:Operand} {env:List (Nat×CV)} {b0:Nat→CV} {H:List (Option Nat×Res)}
theorem exec_cap {ats:Array TypeId} (ho:o.op=.call ⟨.builtin .cap,#[x],ats⟩) {a:Act} {v:Value} {w:World} (h:(Builtin.cap_ ats o.type #[a.eval x]).run P w=.ok v w):(execOp a.eval o).run P w=.ok (.value v) w:=by
 simp [execOp,ho,resolve,invoke,builtin,h]
end
def lbC (ls:List (List UInt8)):CV:=.rs 1 ls.length fun i _=>bsC (ls.getD i [])
def sumL (ls:List (List UInt8)):Nat:=(ls.map List.length).sum
end
section
structure Foot (al:List Addr) (St:Nat→Prop) (w:World) (F:Nat→Prop) (E:List (Option Nat×Res)) (fp:Nat→Nat→Prop):Prop where
 rep:∀ (i:Nat) (g:Option Nat) (r:Res),E[i]?=some (g,r)→r.rep al St w (fp i) g
 dis:∀ i j b,fp i b→fp j b→i=j
 out:∀ i,E.length≤i→∀ b,¬ fp i b
 all:∀ b,F b↔∃ i,fp i b
def packOP {γ:Type} (gd:γ→Nat) (E:γ→List (Option Nat×Res)):OP where
 p al St w g F:=∃ x,gd x=g∧∃ fp,Foot al St w F (E x) fp
 st:=fun he hs hF ⟨x,hx,fp,h⟩=>⟨x,hx,fp,fun i g r hi=>Res.rep_evo he hs (fun b hb=>hF b ((h.all b).2 ⟨i,hb⟩)) (h.rep i g r hi),h.dis,h.out,h.all⟩
def objE {γ:Type} (g:Nat) (gd:γ→Nat) (E:γ→List (Option Nat×Res)):Option Nat×Res:=(some g,.obj (packOP gd E))

theorem HRel.pack {al:List Addr} {St:Nat→Prop} {w:World} {base:Nat} {F0:Nat→Prop} {γ:Type} {gd:γ→Nat} {E:γ→List (Option Nat×Res)} (x:γ) {B:List (Option Nat×Res)} (h:HRel al St w base F0 (E x++B)):HRel al St w base F0 (objE (gd x) gd E::B):=by
 obtain ⟨fp,hp⟩:=h
 refine ⟨fun j b=>match j with|0=>∃ i,i<(E x).length∧fp i b|j+1=>fp ((E x).length+j) b,fun j g r hj=>?_,fun i j b hi hj=>?_,fun i b hi=>?_,fun i hi b hb=>?_⟩
 ·cases j with
  | zero =>
   simp only [objE,List.getElem?_cons_zero,Option.some.injEq,Prod.mk.injEq] at hj
   obtain ⟨rfl,rfl⟩:=hj
   refine ⟨x,rfl,fun i b=>i<(E x).length∧fp i b,fun i g r hi=>?_,fun i j b hi hj=>hp.dis i j b hi.2 hj.2,fun i hi b hb=>by omega,fun b=>Iff.rfl⟩
   have hlt:=(List.getElem?_eq_some_iff.1 hi).1
   have e:(fun b=>i<(E x).length∧fp i b)=fp i:=funext fun b=>propext ⟨fun h=>h.2,fun h=>⟨hlt,h⟩⟩
   show r.rep al St w (fun b=>i<(E x).length∧fp i b) g
   rw [e]
   exact hp.rep i g r (by rw [List.getElem?_append_left hlt];exact hi)
  | succ j =>
   simp only [List.getElem?_cons_succ] at hj
   exact hp.rep _ g r (by rw [List.getElem?_append_right (by omega),Nat.add_sub_cancel_left];exact hj)
 ·cases i with
  | zero =>
   cases j with
   | zero=>rfl
   | succ j=>obtain ⟨k,hk,hf⟩:=hi;have:=hp.dis _ _ b hf hj;omega
  | succ i =>
   cases j with
   | zero=>obtain ⟨k,hk,hf⟩:=hj;have:=hp.dis _ _ b hf hi;omega
   | succ j=>have:=hp.dis _ _ b hi hj;omega
 ·cases i with
  | zero=>obtain ⟨k,hk,hf⟩:=hi;exact hp.own _ b hf
  | succ i=>exact hp.own _ b hi
 ·cases i with
  | zero=>simp at hi
  | succ i=>exact hp.out _ (by simp at hi ⊢;omega) b hb
theorem HRel.unpack {al:List Addr} {St:Nat→Prop} {w:World} {base:Nat} {F0:Nat→Prop} {γ:Type} {gd:γ→Nat} {e0:γ→Option Nat×Res} {tl:γ→List (Option Nat×Res)} {H:List (Option Nat×Res)} {i g:Nat} (hH:H[i]?=some (objE g gd fun x=>e0 x::tl x)) (h:HRel al St w base F0 H) :
  ∃ x,gd x=g∧HRel al St w base F0 (H.set i (e0 x)++tl x):=by
 obtain ⟨fp,hp⟩:=h
 have hlt:=(List.getElem?_eq_some_iff.1 hH).1
 obtain ⟨x,hx,fe,he⟩:=hp.rep i _ _ hH
 refine ⟨x,hx,fun j b=>if j<H.length then (if j=i then fe 0 b else fp j b) else fe (j-H.length+1) b,fun j q r hj=>?_,fun j k b hj hk=>?_,fun j b hj=>?_,fun j hj b hb=>?_⟩
 ·by_cases h1:j<H.length
  ·rw [List.getElem?_append_left (by simpa using h1)] at hj
   by_cases h2:j=i
   ·subst h2
    simp [h1] at hj
    simp only [h1,if_true]
    exact he.rep 0 q r (by simp [hj])
   ·rw [List.getElem?_set_ne (Ne.symm h2)] at hj
    simp only [h1,h2,if_true,if_false]
    exact hp.rep j q r hj
  ·rw [List.getElem?_append_right (by simp;omega)] at hj
   simp only [h1,if_false]
   refine he.rep (j-H.length+1) q r ?_
   simpa using hj
 ·have inF:∀ q b,fe q b→fp i b:=fun q b hq=>(he.all b).2 ⟨q,hq⟩
  by_cases h1:j<H.length <;> by_cases h2:k<H.length <;> simp only [h1,h2,if_true,if_false] at hj hk
  ·by_cases h3:j=i <;> by_cases h4:k=i <;> simp only [h3,h4,if_true,if_false] at hj hk
   ·omega
   ·exact absurd (hp.dis _ _ b (inF _ _ hj) hk).symm h4
   ·exact absurd (hp.dis _ _ b hj (inF _ _ hk)) h3
   ·exact hp.dis _ _ b hj hk
  ·by_cases h3:j=i <;> simp only [h3,if_true,if_false] at hj
   ·have:=he.dis _ _ b hj hk;omega
   ·exact absurd (hp.dis _ _ b hj (inF _ _ hk)) h3
  ·by_cases h4:k=i <;> simp only [h4,if_true,if_false] at hk
   ·have:=he.dis _ _ b hj hk;omega
   ·exact absurd (hp.dis _ _ b hk (inF _ _ hj)) h4
  ·have:=he.dis _ _ b hj hk;omega
 ·have inF:∀ q b,fe q b→fp i b:=fun q b hq=>(he.all b).2 ⟨q,hq⟩
  by_cases h1:j<H.length <;> simp only [h1,if_true,if_false] at hj
  ·by_cases h3:j=i <;> simp only [h3,if_true,if_false] at hj
   ·exact hp.own i b (inF _ _ hj)
   ·exact hp.own j b hj
  ·exact hp.own i b (inF _ _ hj)
 ·have h1:¬ j<H.length:=by simp at hj;omega
  simp only [h1,if_false] at hb
  exact he.out _ (by simp at hj ⊢;omega) b hb
section
variable {P:Program} {G:Gh} {ops:Array Oper} {s:AS} {K:AS→Prop} {c:Code} {R:Exit→AS→Prop} {γ:Type} {gd:γ→Nat} {e0:γ→Option Nat×Res} {tl:γ→List (Option Nat×Res)}
theorem EntS.hrel {H':List (Option Nat×Res)} (h:∀ {al St w base F0},HRel al St w base F0 s.H→HRel al St w base F0 H'):EntS G s ⟨s.env,s.b,H'⟩:=fun St _ _ hr =>
 ⟨St,fun _ h=>h,hr.df,hr.sz,hr.env,hr.un,hr.s1,hr.s2,hr.s3,h hr.hp,hr.sn,hr.sg⟩
theorem pick_ent {H':List (Option Nat×Res)} (l:List Nat) (hl:l.Nodup) (hH:pickL s.H l=H'):EntS G s ⟨s.env,s.b,H'⟩:=EntS.hrel fun h=>h.pick l hl hH
theorem unpackRelSt {i g:Nat} (hH:s.H[i]?=some (objE g gd fun x=>e0 x::tl x)) {St:Nat→Prop} {a:Act} {w:World} (hr:RelSt G St s a w):∃ x,gd x=g∧RelSt G St ⟨s.env,s.b,s.H.set i (e0 x)++tl x⟩ a w:=by
 obtain ⟨x,hx,h2⟩:=hr.hp.unpack hH
 exact ⟨x,hx,hr.df,hr.sz,hr.env,hr.un,hr.s1,hr.s2,hr.s3,h2,hr.sn,hr.sg⟩
theorem unpackRel {i g:Nat} (hH:s.H[i]?=some (objE g gd fun x=>e0 x::tl x)) {a:Act} {w:World} (h:Rel G s a w):∃ x,gd x=g∧Rel G ⟨s.env,s.b,s.H.set i (e0 x)++tl x⟩ a w:=by
 obtain ⟨St,hr⟩:=h
 obtain ⟨x,hx,h2⟩:=unpackRelSt hH hr
 exact ⟨x,hx,St,h2⟩
theorem code_unpack (i:Nat) {g:Nat} (hH:s.H[i]?=some (objE g gd fun x=>e0 x::tl x)) (h:∀ x,gd x=g→ACode P G c ⟨s.env,s.b,s.H.set i (e0 x)++tl x⟩ R):ACode P G c s R:=fun a w hr Q hQ=>by
 obtain ⟨x,hx,h2⟩:=unpackRel hH hr
 exact h x hx a w h2 Q hQ
end
end
section
theorem HRel.weak {al:List Addr} {St:Nat→Prop} {w:World} {base:Nat} {F0:Nat→Prop} {H:List (Option Nat×Res)} {i n m:Nat} {g:Option Nat} {f F:Nat→CV} (hi:H[i]?=some (g,.blk n f)) (hm:m≤n) (hF:∀ j,j<m→CEnt (f j) (F j)) (h:HRel al St w base F0 H):HRel al St w base F0 (H.set i (g,.blk m F)):=by
 obtain ⟨fp,hp⟩:=h
 have hlt:=(List.getElem?_eq_some_iff.1 hi).1
 refine ⟨fp,fun j q r hj=>?_,hp.dis,hp.own,fun j hj=>hp.out j (by simpa using hj)⟩
 by_cases e:j=i
 ·subst e
  simp [hlt] at hj
  obtain ⟨rfl,rfl⟩:=hj
  have:=hp.rep j g _ hi
  cases g with
  | none=>exact ⟨by have:=this.1;omega,this.2⟩
  | some g =>
   obtain ⟨h0,cur,t,h1,h2,h3⟩:=this
   exact ⟨h0,cur,t,h1,by omega,fun a ha=>hF a ha _ _ _ _ (h3 a (by omega))⟩
 ·rw [List.getElem?_set_ne (Ne.symm e)] at hj
  exact hp.rep j q r hj
def killL (H:List (Option Nat×Res)) (js:List Nat):List (Option Nat×Res):=js.foldl (fun H j=>H.set j (none,.dead)) H
theorem killL_len:∀ (js:List Nat) (H:List (Option Nat×Res)),(killL H js).length=H.length
 | [],_=>rfl
 | j::js,H=>by
  have:=killL_len js (H.set j (none,.dead))
  rw [List.length_set] at this
  exact this
theorem killL_at:∀ (js:List Nat) (H:List (Option Nat×Res)) (q:Nat),q<H.length→(killL H js)[q]?=if q ∈ js then some (none,.dead) else H[q]?
 | [],_,_,_=>by simp [killL]
 | j::js,H,q,hq=>by
  have:=killL_at js (H.set j (none,.dead)) q (by simpa using hq)
  show (killL (H.set j (none,.dead)) js)[q]?=_
  rw [this]
  by_cases h1:q ∈ js
  ·rw [if_pos h1,if_pos (List.mem_cons_of_mem _ h1)]
  ·rw [if_neg h1]
   by_cases h2:q=j
   ·subst h2
    rw [if_pos List.mem_cons_self]
    simp [hq]
   ·rw [if_neg (by simp [h1,h2]),List.getElem?_set_ne (Ne.symm h2)]
theorem HRel.closeN {al:List Addr} {St:Nat→Prop} {w:World} {base:Nat} {F0:Nat→Prop} {γ:Type} {gd:γ→Nat} {E:γ→List (Option Nat×Res)} {H:List (Option Nat×Res)} (x:γ) (i:Nat) (js:List Nat) (hnd:(i::js).Nodup) (hlt:∀ j ∈ i::js,j<H.length) (hE:pickL H (i::js)=E x) (h:HRel al St w base F0 H) :
  HRel al St w base F0 (killL (H.set i (objE (gd x) gd E)) js):=by
 obtain ⟨fp,hp⟩:=h
 have hi:i<H.length:=hlt i List.mem_cons_self
 have hij:i ∉ js:=(List.nodup_cons.1 hnd).1
 refine ⟨fun q b=>if q=i then ∃ p:Nat,∃ j,(i::js)[p]?=some j∧fp j b else if q ∈ js then False else fp q b,fun q g r hq=>?_,fun p q b h1 h2=>?_,fun q b hq=>?_,fun q hq b hb=>?_⟩
 ·have hql:q<H.length:=by
   have:=(List.getElem?_eq_some_iff.1 hq).1
   rwa [killL_len,List.length_set] at this
  rw [killL_at _ _ _ (by simpa using hql)] at hq
  by_cases e:q=i
  ·subst e
   rw [if_neg hij] at hq
   simp [hi] at hq
   obtain ⟨rfl,rfl⟩:=hq
   simp only [if_true]
   refine ⟨x,rfl,fun p b=>∃ j,(q::js)[p]?=some j∧fp j b,fun p g r hp1=>?_,fun p1 p2 b h1 h2=>?_,fun p hp1 b hb=>?_,fun b=>Iff.rfl⟩
   ·rw [← hE,pickL,List.getElem?_map,Option.map_eq_some_iff] at hp1
    obtain ⟨j,hj,he⟩:=hp1
    have hjl:=hlt j (List.mem_of_getElem? hj)
    have e:(fun b=>∃ j,(q::js)[p]?=some j∧fp j b)=fp j:=funext fun b=>propext ⟨fun ⟨j',h1,h2⟩=>by rw [hj] at h1;cases h1;exact h2,fun h=>⟨j,hj,h⟩⟩
    show r.rep al St w (fun b=>∃ j,(q::js)[p]?=some j∧fp j b) g
    rw [e]
    refine hp.rep j g r ?_
    rw [List.getElem?_eq_getElem hjl]
    simpa [List.getD,hjl] using he
   ·obtain ⟨j1,a1,b1⟩:=h1
    obtain ⟨j2,a2,b2⟩:=h2
    have:=hp.dis _ _ b b1 b2
    subst this
    exact (List.getElem?_inj (List.getElem?_eq_some_iff.1 a1).1 hnd).1 (a1.trans a2.symm)
   ·obtain ⟨j,a,_⟩:=hb
    have:=(List.getElem?_eq_some_iff.1 a).1
    rw [← hE] at hp1
    simp only [pickL,List.length_map] at hp1
    omega
  ·by_cases e2:q ∈ js
   ·rw [if_pos e2] at hq
    cases hq
    simp only [e,e2,if_true,if_false]
    exact fun b hb=>hb
   ·rw [if_neg e2,List.getElem?_set_ne (Ne.symm e)] at hq
    simp only [e,e2,if_false]
    exact hp.rep q g r hq
 ·have mem:∀ {b:Nat},(∃ p:Nat,∃ j,(i::js)[p]?=some j∧fp j b)→∃ j,j ∈ i::js∧fp j b:=fun ⟨p,j,h1,h2⟩=>⟨j,List.mem_of_getElem? h1,h2⟩
  by_cases e1:p=i <;> by_cases e2:q=i
  ·rw [e1,e2]
  ·simp only [e1,e2,if_true,if_false] at h1 h2
   by_cases e3:q ∈ js
   ·simp only [e3,if_true] at h2
   ·simp only [e3,if_false] at h2
    obtain ⟨j,hj,hb⟩:=mem h1
    have:=hp.dis _ _ b hb h2
    subst this
    rcases List.mem_cons.1 hj with h|h
    ·exact absurd h e2
    ·exact absurd h e3
  ·simp only [e1,e2,if_true,if_false] at h1 h2
   by_cases e3:p ∈ js
   ·simp only [e3,if_true] at h1
   ·simp only [e3,if_false] at h1
    obtain ⟨j,hj,hb⟩:=mem h2
    have:=hp.dis _ _ b hb h1
    subst this
    rcases List.mem_cons.1 hj with h|h
    ·exact absurd h e1
    ·exact absurd h e3
  ·simp only [e1,e2,if_false] at h1 h2
   by_cases e3:p ∈ js
   ·simp only [e3,if_true] at h1
   ·by_cases e4:q ∈ js
    ·simp only [e4,if_true] at h2
    ·simp only [e3,e4,if_false] at h1 h2
     exact hp.dis _ _ b h1 h2
 ·by_cases e1:q=i
  ·simp only [e1,if_true] at hq
   obtain ⟨p,j,_,hb⟩:=hq
   exact hp.own _ b hb
  ·by_cases e2:q ∈ js
   ·simp only [e1,e2,if_true,if_false] at hq
   ·simp only [e1,e2,if_false] at hq
    exact hp.own _ b hq
 ·rw [killL_len,List.length_set] at hq
  have e1:q≠i:=by omega
  by_cases e2:q ∈ js
  ·simp only [e1,e2,if_true,if_false] at hb
  ·simp only [e1,e2,if_false] at hb
   exact hp.out q hq b hb
section
variable {P:Program} {G:Gh} {ops:Array Oper} {s:AS} {K:AS→Prop} {c:Code} {R:Exit→AS→Prop} {γ:Type} {gd:γ→Nat}
theorem weakH (i m:Nat) (F:Nat→CV) {n:Nat} {g:Option Nat} {f:Nat→CV} (hi:s.H[i]?=some (g,.blk n f)) (hm:m≤n) (hF:∀ j,j<m→CEnt (f j) (F j)):EntS G s ⟨s.env,s.b,s.H.set i (g,.blk m F)⟩:=EntS.hrel fun h=>h.weak hi hm hF
theorem closeN {E:γ→List (Option Nat×Res)} (x:γ) (i:Nat) (js:List Nat) (hnd:(i::js).Nodup) (hlt:∀ j ∈ i::js,j<s.H.length) (hE:pickL s.H (i::js)=E x):EntS G s ⟨s.env,s.b,killL (s.H.set i (objE (gd x) gd E)) js⟩:=EntS.hrel fun h=>h.closeN x i js hnd hlt hE
theorem end_pack {fn:Func} {Q:CV→List (Option Nat×Res)→Prop} {e:Exit} {γ:Type} {gd:γ→Nat} {E:γ→List (Option Nat×Res)} (he:e=.ret∨e=.normal) (v:CV) (z:γ) (l:List Nat) (hl:l.Nodup) (hH:pickL s.H l=E z++[]) (hres:ARes P G fn s v) (hq:Q v [objE (gd z) gd E]):bodyR P G fn Q e s:=by
 have h:∃ r H',ARes P G fn s r∧Q r H'∧∀ St a w,RelSt G St s a w→HRel G.al St w G.w0.heap.size G.F0 H':=⟨v,_,hres,hq,fun _ _ _ hr=>(hr.hp.pick l hl hH).pack z⟩
 rcases he with rfl|rfl <;> exact h
theorem end_packV {fn:Func} {e:Exit} {γ:Type} {gd:γ→Nat} {E:γ→List (Option Nat×Res)} {v m:CV} (he:e=.ret∨e=.normal) (z:γ) (l:List Nat) (hl:l.Nodup) (hH:pickL s.H l=E z++[]) (hres:ARes P G fn s v) (hv:CEnt v m):bodyR P G fn (fun r H'=>r=m∧H'=[objE (gd z) gd E]) e s:=end_pack he m z l hl hH (hres.ent hv) ⟨rfl,rfl⟩
theorem code_knowG {P:Program} {G:Gh} {c:Code} {s:AS} {R:Exit→AS→Prop} {φ:Prop} (hφ:∀ a w,Rel G s a w→φ) (h:φ→ACode P G c s R):ACode P G c s R:=fun a w hr Q hQ=>h (hφ a w hr) a w hr Q hQ
theorem know_op {G:Gh} {s:AS} (d:Nat) {i off:Nat} {g:Option Nat} (hl:look s.env s.b d=.op i g off):∀ a w,Rel G s a w→∃ n,g=some n:=fun a w ⟨St,hr⟩=>by
 have:=evR hr (x:=.tmp d) hl
 obtain ⟨b,hb,_⟩:=this
 exact ⟨b,hb⟩
theorem end_ownV {fn:Func} {Q:CV→List (Option Nat×Res)→Prop} {e:Exit} {v m:CV} {H':List (Option Nat×Res)} (he:e=.ret∨e=.normal) (l:List Nat) (hl:l.Nodup) (hH:pickL s.H l=H') (hres:ARes P G fn s v) (hv:CEnt v m) (hq:Q m H'):bodyR P G fn Q e s:=end_own he m H' l hl hH (hres.ent hv) hq
theorem end_H {fn:Func} {e:Exit} {v m:CV} {x:Option Nat×Res} (he:e=.ret∨e=.normal) (hH:s.H[0]?=some x) (hres:ARes P G fn s v) (hv:CEnt v m):bodyR P G fn (fun r H'=>r=m∧H'=[x]) e s :=
 end_own he m [x] [0] (by decide) (by simp [pickL,List.getD,hH]) (hres.ent hv) ⟨rfl,rfl⟩
end
end
section
def bagE (L:List (Option Nat×Res)):Option Nat×Res:=objE 0 (fun _:Unit=>0) (fun _=>L)
theorem HRel.bag_push {al:List Addr} {St:Nat→Prop} {w:World} {base:Nat} {F0:Nat→Prop} {H L:List (Option Nat×Res)} {i b:Nat} {x:Option Nat×Res} (hb:H[b]?=some (bagE L)) (hi:H[i]?=some x) (hib:i≠b) (h:HRel al St w base F0 H) :
  HRel al St w base F0 ((H.set b (bagE (x::L))).set i (Option.none,.dead)):=by
 obtain ⟨fp,hp⟩:=h
 have hbl:=(List.getElem?_eq_some_iff.1 hb).1
 have hil:=(List.getElem?_eq_some_iff.1 hi).1
 obtain ⟨u,_,fe,he⟩:=hp.rep b _ _ hb
 refine ⟨fun q c=>if q=i then False else if q=b then fp i c∨fp b c else fp q c,fun q g r hq=>?_,fun p q c h1 h2=>?_,fun q c hq=>?_,fun q hq c hc=>?_⟩
 ·by_cases e1:q=i
  ·subst e1
   simp [hil] at hq
   obtain ⟨rfl,rfl⟩:=hq
   simp only [if_true]
   exact fun c hc=>hc
  ·rw [List.getElem?_set_ne (Ne.symm e1)] at hq
   by_cases e2:q=b
   ·subst e2
    simp [hbl,bagE,objE] at hq
    obtain ⟨rfl,rfl⟩:=hq
    simp only [e1,if_true,if_false]
    refine ⟨(),rfl,fun k c=>match k with|0=>fp i c|k+1=>fe k c,fun k g r hk=>?_,fun j k c hj hk=>?_,fun k hk c hc=>?_,fun c=>⟨fun hc=>?_,fun ⟨k,hk⟩=>?_⟩⟩
    ·cases k with
     | zero =>
      simp only [List.getElem?_cons_zero,Option.some.injEq] at hk
      exact hp.rep i g r (by rw [hi,hk])
     | succ k=>exact he.rep k g r (by simpa using hk)
    ·cases j with
     | zero =>
      cases k with
      | zero=>rfl
      | succ k=>exact absurd (hp.dis _ _ c hj ((he.all c).2 ⟨k,hk⟩)) (fun e=>hib e)
     | succ j =>
      cases k with
      | zero=>exact absurd (hp.dis _ _ c hk ((he.all c).2 ⟨j,hj⟩)) (fun e=>hib e)
      | succ k=>rw [he.dis j k c hj hk]
    ·cases k with
     | zero=>simp at hk
     | succ k=>exact he.out k (by simpa using hk) c hc
    ·rcases hc with hc|hc
     ·exact ⟨0,hc⟩
     ·obtain ⟨k,hk⟩:=(he.all c).1 hc
      exact ⟨k+1,hk⟩
    ·cases k with
     | zero=>exact .inl hk
     | succ k=>exact .inr ((he.all c).2 ⟨k,hk⟩)
   ·rw [List.getElem?_set_ne (Ne.symm e2)] at hq
    simp only [e1,e2,if_false]
    exact hp.rep q g r hq
 ·by_cases e1:p=i
  ·simp only [e1,if_true] at h1
  ·by_cases e2:q=i
   ·simp only [e2,if_true] at h2
   ·simp only [e1,e2,if_false] at h1 h2
    by_cases e3:p=b <;> by_cases e4:q=b <;> simp only [e3,e4,if_true,if_false] at h1 h2
    ·rw [e3,e4]
    ·rcases h1 with h1|h1
     ·exact absurd (hp.dis _ _ c h1 h2).symm e2
     ·exact absurd (hp.dis _ _ c h1 h2).symm e4
    ·rcases h2 with h2|h2
     ·exact absurd (hp.dis _ _ c h1 h2) e1
     ·exact absurd (hp.dis _ _ c h1 h2) e3
    ·exact hp.dis _ _ c h1 h2
 ·by_cases e1:q=i
  ·simp only [e1,if_true] at hq
  ·by_cases e2:q=b
   ·rw [if_neg e1,if_pos e2] at hq
    rcases hq with hq|hq
    ·exact hp.own _ c hq
    ·exact hp.own _ c hq
   ·rw [if_neg e1,if_neg e2] at hq
    exact hp.own _ c hq
 ·simp only [List.length_set] at hq
  rw [if_neg (by omega),if_neg (by omega)] at hc
  exact hp.out q hq c hc
theorem HRel.bag_pop {al:List Addr} {St:Nat→Prop} {w:World} {base:Nat} {F0:Nat→Prop} {H L:List (Option Nat×Res)} {b:Nat} {x:Option Nat×Res} (hb:H[b]?=some (bagE (x::L))) (h:HRel al St w base F0 H) :
  HRel al St w base F0 (H.set b (bagE L)++[x]):=by
 obtain ⟨fp,hp⟩:=h
 have hbl:=(List.getElem?_eq_some_iff.1 hb).1
 obtain ⟨u,_,fe,he⟩:=hp.rep b _ _ hb
 have inB:∀ k c,fe k c→fp b c:=fun k c hk=>(he.all c).2 ⟨k,hk⟩
 refine ⟨fun q c=>if q=H.length then fe 0 c else if q=b then ∃ k,fe (k+1) c else fp q c,fun q g r hq=>?_,fun p q c h1 h2=>?_,fun q c hq=>?_,fun q hq c hc=>?_⟩
 ·by_cases e1:q=H.length
  ·subst e1
   rw [List.getElem?_append_right (by simp)] at hq
   simp at hq
   simp only [if_true]
   exact he.rep 0 g r (by rw [hq];rfl)
  ·have hql:q<H.length:=by
    have:=(List.getElem?_eq_some_iff.1 hq).1
    simp at this
    omega
   rw [List.getElem?_append_left (by simpa using hql)] at hq
   simp only [e1,if_false]
   by_cases e2:q=b
   ·subst e2
    simp [hbl,bagE,objE] at hq
    obtain ⟨rfl,rfl⟩:=hq
    simp only [if_true]
    refine ⟨(),rfl,fun k c=>fe (k+1) c,fun k g r hk=>he.rep (k+1) g r (by simpa using hk),fun j k c hj hk=>by have:=he.dis _ _ c hj hk;omega,fun k hk c hc=>he.out (k+1) (by simp;omega) c hc,fun c=>Iff.rfl⟩
   ·rw [List.getElem?_set_ne (Ne.symm e2)] at hq
    simp only [e2,if_false]
    exact hp.rep q g r hq
 ·by_cases e1:p=H.length <;> by_cases e2:q=H.length
  ·rw [e1,e2]
  ·rw [if_pos e1] at h1
   rw [if_neg e2] at h2
   by_cases e3:q=b
   ·rw [if_pos e3] at h2
    obtain ⟨k,hk⟩:=h2
    have:=he.dis _ _ c h1 hk
    omega
   ·rw [if_neg e3] at h2
    exact absurd (hp.dis _ _ c (inB _ _ h1) h2).symm e3
  ·rw [if_neg e1] at h1
   rw [if_pos e2] at h2
   by_cases e3:p=b
   ·rw [if_pos e3] at h1
    obtain ⟨k,hk⟩:=h1
    have:=he.dis _ _ c h2 hk
    omega
   ·rw [if_neg e3] at h1
    exact absurd (hp.dis _ _ c (inB _ _ h2) h1).symm e3
  ·rw [if_neg e1] at h1
   rw [if_neg e2] at h2
   by_cases e3:p=b <;> by_cases e4:q=b <;> simp only [e3,e4,if_true,if_false] at h1 h2
   ·rw [e3,e4]
   ·obtain ⟨k,hk⟩:=h1
    exact absurd (hp.dis _ _ c (inB _ _ hk) h2).symm e4
   ·obtain ⟨k,hk⟩:=h2
    exact absurd (hp.dis _ _ c (inB _ _ hk) h1).symm e3
   ·exact hp.dis _ _ c h1 h2
 ·by_cases e1:q=H.length
  ·rw [if_pos e1] at hq
   exact hp.own b c (inB _ _ hq)
  ·rw [if_neg e1] at hq
   by_cases e2:q=b
   ·rw [if_pos e2] at hq
    obtain ⟨k,hk⟩:=hq
    exact hp.own b c (inB _ _ hk)
   ·rw [if_neg e2] at hq
    exact hp.own q c hq
 ·simp at hq
  rw [if_neg (by omega),if_neg (by omega)] at hc
  exact hp.out q (by omega) c hc
theorem HRel.bag_new {al:List Addr} {St:Nat→Prop} {w:World} {base:Nat} {F0:Nat→Prop} {H:List (Option Nat×Res)} (h:HRel al St w base F0 H):HRel al St w base F0 (H++[bagE []]):=by
 obtain ⟨fp,hp⟩:=h
 refine ⟨fp,fun q g r hq=>?_,hp.dis,hp.own,fun q hq c hc=>hp.out q (by simp at hq;omega) c hc⟩
 by_cases e1:q<H.length
 ·rw [List.getElem?_append_left e1] at hq
  exact hp.rep q g r hq
 ·rw [List.getElem?_append_right (by omega)] at hq
  have hno:∀ c,¬ fp q c:=fun c hc=>hp.out q (by omega) c hc
  have e2:q-H.length=0:=by
   have:=(List.getElem?_eq_some_iff.1 hq).1
   simp at this
   omega
  rw [e2] at hq
  simp [bagE,objE] at hq
  obtain ⟨rfl,rfl⟩:=hq
  exact ⟨(),rfl,fun _ _=>False,fun k g r hk=>by simp at hk,fun _ _ _ h=>h.elim,fun _ _ _ h=>h,fun c=>⟨fun hc=>(hno c hc).elim,fun ⟨_,hk⟩=>hk.elim⟩⟩
section
variable {G:Gh} {env:List (Nat×CV)} {b0:Nat→CV} {H L:List (Option Nat×Res)} {x:Option Nat×Res}
theorem bag_push (b i:Nat) (hb:H[b]?=some (bagE L)) (hi:H[i]?=some x) (hib:Nat.beq i b=false):EntS G ⟨env,b0,H⟩ ⟨env,b0,(H.set b (bagE (x::L))).set i (none,.dead)⟩:=EntS.hrel fun h=>h.bag_push hb hi (Nat.ne_of_beq_eq_false hib)
theorem bag_pop (b:Nat) (hb:H[b]?=some (bagE (x::L))):EntS G ⟨env,b0,H⟩ ⟨env,b0,H.set b (bagE L)++[x]⟩:=EntS.hrel fun h=>h.bag_pop hb
theorem bag_new:EntS G ⟨env,b0,H⟩ ⟨env,b0,H++[bagE []]⟩:=EntS.hrel fun h=>h.bag_new
end
section
variable {G:Gh} {env:List (Nat×CV)} {b0:Nat→CV} {H:List (Option Nat×Res)}
end
theorem end_hr {P:Program} {G:Gh} {fn:Func} {Q:CV→List (Option Nat×Res)→Prop} {e:Exit} {env:List (Nat×CV)} {b0:Nat→CV} {H H':List (Option Nat×Res)} (h:∀ {al St w base F0},HRel al St w base F0 H→HRel al St w base F0 H') (hb:bodyR P G fn Q e ⟨env,b0,H'⟩):bodyR P G fn Q e ⟨env,b0,H⟩:=by
 have cv:∀ {St a w},RelSt G St ⟨env,b0,H⟩ a w→RelSt G St ⟨env,b0,H'⟩ a w:=fun hr=>⟨hr.df,hr.sz,hr.env,hr.un,hr.s1,hr.s2,hr.s3,h hr.hp,hr.sn,hr.sg⟩
 cases e with
 | normal =>
  obtain ⟨r,K,k1,k2,k3⟩:=hb
  exact ⟨r,K,fun St a w hr=>k1 St a w (cv hr),k2,fun St a w hr=>k3 St a w (cv hr)⟩
 | ret =>
  obtain ⟨r,K,k1,k2,k3⟩:=hb
  exact ⟨r,K,fun St a w hr=>k1 St a w (cv hr),k2,fun St a w hr=>k3 St a w (cv hr)⟩
 | _=>exact hb
section
variable {P:Program} {G:Gh} {o:Oper} {env:List (Nat×CV)} {b0:Nat→CV} {H:List (Option Nat×Res)} {K:AS→Prop}
theorem m_callHV {f:FuncId} {v:Operand} {n:Nat} {fv:Nat→CV} {xs:Array Operand} {ats:Array TypeId} {args:List CV} {Q:CV→List (Option Nat×Res)→Prop} {i:Nat} {x0:Option Nat×Res} (ho:o.op=.call ⟨.value v,xs,ats⟩) (hv:(⟨env,b0,H⟩:AS).eval v=.fn f n fv) (hc:calleeB P f=true) (hi:H[i]?=some x0) (hA:AC G.gs P f [x0] args Q)
  (he:EntL (xs.toList.map (⟨env,b0,H⟩:AS).eval++(List.range n).map fv) args) (hd:dstOk G o=true)
  (hK:∀ r H',Q r H'→∃ x,H'=[x]∧K ((⟨env,b0,H⟩:AS).with o.dst r (H.set i x))):AMd P G o ⟨env,b0,H⟩ K:=fun St a w hr Q'=>by
 obtain ⟨cs,hcs,hn,hf⟩:=evR hr hv
 unfold Oper.wp
 rw [exec_callv ho hc a hcs]
 have hl:=entL_len he
 simp at hl
 obtain ⟨fp,hp⟩:=hr.hp
 have hlt:i<H.length:=(List.getElem?_eq_some_iff.1 hi).1
 obtain ⟨g0,r0⟩:=x0
 have hent:Entry G.gs G.al St (fp i) [(g0,r0)] w:=by
  refine ⟨hr.s3,hr.sn,hr.sg,⟨fun j b=>j=0∧fp i b,fun j g r hj=>?_,fun j l b hj hl=>by omega,fun j b hj=>⟨(hp.own i b hj.2).1,(hp.own i b hj.2).2.1,.inr hj.2⟩,fun j hj b hb=>by simp at hj;omega⟩,fun b hb=>(hp.own i b hb).2.1⟩
  match j,hj with
  | 0,hj =>
   simp at hj
   obtain ⟨rfl,rfl⟩:=hj
   have e:(fun b=>(0:Nat)=0∧fp i b)=fp i:=funext fun b=>by simp
   show r0.rep G.al St w (fun b=>(0:Nat)=0∧fp i b) g0
   rw [e]
   exact hp.rep i g0 r0 hi
  | j+1,hj=>simp at hj
 refine (hA G.al w St _ _ hent (by simp [hn,hl]) (fun i=>?_)).mono ?_
 ·by_cases hi:i<args.length
  ·refine entL_get he i _ _ _ _ ?_
   rw [fl_append]
   by_cases h1:i<xs.size
   ·rw [if_pos (by simpa using h1),fl_get]
    simp [List.getD,h1,Array.getElem?_append_left]
    exact hr.eval _
   ·rw [if_neg (by simpa using h1),fl_get]
    have h2:i-xs.size<n:=by omega
    have:=hf _ h2
    simp [List.getD,h2,Array.getElem?_append_right (show (xs.map a.eval).size≤i by simp;omega)] at this ⊢
    exact this
  ·rw [fl_none args i (by omega)];trivial
 rintro e w' ⟨v,r,H',St',rfl,hq,hv,hu,h3,h4,h5,h6⟩
 obtain ⟨x,rfl,hk⟩:=hK r H' hq
 refine ⟨fun b hb=>hu.block b (hr.s3 b hb) fun hf=>(hp.own i b hf).2.1 hb,St',h3,_,hk,?_⟩
 have h7:=(hr.afterH hp hlt hu h3 h4 h5 h6).put (dst:=o.dst) (v:=r) (x:=v) (dst_of hd) hv
 cases ho:o.dst with
 | none=>rw [ho] at h7;exact h7
 | some d=>rw [ho] at h7;exact h7
end
end
section
section
variable {P:Program} {G:Gh} {o:Oper} {env:List (Nat×CV)} {b0:Nat→CV} {H:List (Option Nat×Res)} {K:AS→Prop}
theorem m_callHV1 {f:FuncId} {v:Operand} {n d:Nat} {fv:Nat→CV} {xs:Array Operand} {ats:Array TypeId} {args:List CV} {Q:CV→List (Option Nat×Res)→Prop} {i:Nat} {x0:Option Nat×Res} (ho:o.op=.call ⟨.value v,xs,ats⟩) (hv:(⟨env,b0,H⟩:AS).eval v=.fn f n fv) (hc:calleeB P f=true) (hi:H[i]?=some x0) (hA:AC G.gs P f [x0] args Q)
  (he:EntL (xs.toList.map (⟨env,b0,H⟩:AS).eval++(List.range n).map fv) args) (hd:o.dst=some d) (hN:Nat.blt d G.N=true)
  (hK:∀ r H',Q r H'→∃ x,H'=[x]∧K ⟨(d,r)::env,b0,H.set i x⟩):AMd P G o ⟨env,b0,H⟩ K :=
 m_callHV ho hv hc hi hA he (dst_s hd hN) (fun r H' hq=>by obtain ⟨x,h1,h2⟩:=hK r H' hq;exact ⟨x,h1,by rw [with_some hd];exact h2⟩)
end
end
section
def iterOP (l:ByteArray) (pos:Nat):OP where
 p al St w g F:=(∀ b,F b↔b=g)∧w.heap[g]?=some (.stringIter l pos)
 st:=fun he hs hF ⟨h1,h2⟩=>⟨h1,(hF _ ((h1 _).2 rfl)).trans h2⟩
section
variable {P:Program} {G:Gh} {ops:Array Oper} {o:Oper} {s:AS} {r:List Oper} {K:AS→Prop} {t u:TypeId} {x y:Operand} {env:List (Nat×CV)} {b0:Nat→CV} {H:List (Option Nat×Res)}
end
end
section
def strC (l:List UInt8):CV:=.c (.string ⟨l.toArray⟩)
theorem ba_inj {a b:List UInt8}:((⟨a.toArray⟩:ByteArray)=⟨b.toArray⟩)↔a=b:=by
 constructor
 ·intro h
  have:=congrArg (fun x:ByteArray=>x.data.toList) h
  simpa using this
 ·rintro rfl;rfl
theorem ba_list (s:ByteArray):∃ l:List UInt8,s=⟨l.toArray⟩:=⟨s.data.toList,by cases s;simp⟩
theorem ba_toList (a:List UInt8):(⟨a.toArray⟩:ByteArray).toList=a:=by rw [Go.ByteArray.toList_eq]
section
variable {P:Program} {G:Gh} {ops:Array Oper} {o:Oper} {s:AS} {r:List Oper} {K:AS→Prop} {t u:TypeId} {x y:Operand} {env:List (Nat×CV)} {b0:Nat→CV} {H:List (Option Nat×Res)} {k:IntKind} {a b:List UInt8}
theorem rd_eqL (ho:o.op=.binOp .eql t x y u) (hx:s.eval x=strC a) (hy:s.eval y=strC b):ARd P G o s (.c (.bool (decide (a=b)))):=by
 have:=rd_eqS (P:=P) (G:=G) ho hx hy
 rwa [show decide ((⟨a.toArray⟩:ByteArray)=⟨b.toArray⟩)=decide (a=b) from decide_eq_decide.2 ba_inj] at this
theorem rd_neL (ho:o.op=.binOp .neq t x y u) (hx:s.eval x=strC a) (hy:s.eval y=strC b):ARd P G o s (.c (.bool (decide (a≠b)))):=by
 have:=rd_neS (P:=P) (G:=G) ho hx hy
 rwa [show decide ((⟨a.toArray⟩:ByteArray)≠⟨b.toArray⟩)=decide (a≠b) from decide_eq_decide.2 (not_congr ba_inj)] at this
theorem rd_ltL (ho:o.op=.binOp .lss t x y u) (hx:s.eval x=strC a) (hy:s.eval y=strC b):ARd P G o s (.c (.bool (Op.bytesLess a b))):=by
 have:=rd_ltS (P:=P) (G:=G) ho hx hy
 rwa [ba_toList,ba_toList] at this
theorem rd_gtL (ho:o.op=.binOp .gtr t x y u) (hx:s.eval x=strC a) (hy:s.eval y=strC b):ARd P G o s (.c (.bool (!(Op.bytesLess a b || a == b)))):=by
 have:=rd_gtS (P:=P) (G:=G) ho hx hy
 rwa [ba_toList,ba_toList] at this
theorem rd_lenL (ho:o.op=.call ⟨.builtin .len,#[x],#[t]⟩) (hx:s.eval x=strC a) (h1:P.underlying t=some .string):ARd P G o s (.c (.int .i64 (a.length:Nat))):=rd_lenS ho hx h1
end
end
section
section
variable {P:Program} {G:Gh} {ops:Array Oper} {o:Oper} {s:AS} {r:List Oper} {K:AS→Prop} {t u:TypeId} {x y:Operand} {env:List (Nat×CV)} {b0:Nat→CV} {H:List (Option Nat×Res)}
end
end
section
def recOP (r:Loop):OP where
 p al St w g F:=(∀ b,F b↔b=g)∧w.heap[g]?=some (.loop r)
 st:=fun he hs hF ⟨h1,h2⟩=>⟨h1,(hF _ ((h1 _).2 rfl)).trans h2⟩
structure RdC where
 N:Nat
 env:List (Nat×CV)
 b:Nat→CV
 ps:Array Tmp
 assign:Code
 body:Code
def mkRec (fn:FuncId) (tmps:Array Value) (L:RdC) (D:Nat) (sp:LoopState×Option Code):Loop:={ state:=sp.1,pending:=sp.2,fn,tmps,params:=L.ps,assign:=L.assign,body:=L.body,defers:=D }
def rndOP {π:Type} (L:RdC) (sp:π→LoopState×Option Code) (HB:π→List (Option Nat×Res)) (φ:π→Prop):OP where
 p al St w g F:=∃ (x:π) (fn:FuncId) (tmps:Array Value) (D:Nat),φ x∧tmps.size=L.N∧(∀ d,RepC al St w (look L.env L.b d) (tmps.getD d undef))∧∃ fp,Foot al St w F (HB x++[(some g,.obj (recOP (mkRec fn tmps L D (sp x))))]) fp
 st:=fun he hs hF ⟨x,fn,tmps,D,h1,h2,h3,fp,h⟩=>⟨x,fn,tmps,D,h1,h2,fun d=>RepC.evo he hs _ _ (h3 d),fp,fun i g r hi=>Res.rep_evo he hs (fun b hb=>hF b ((h.all b).2 ⟨i,hb⟩)) (h.rep i g r hi),h.dis,h.out,h.all⟩

def ACY (gs:List Nat) (P:Program) (l:Nat) (H:List (Option Nat×Res)) (args:List CV) (Q:CV→List (Option Nat×Res)→Prop):Prop :=
 ∀ al w St F0 (vals:Array Value),Entry gs al St F0 H w→vals.size=args.length→(∀ i,RepC al St w (fl args i) (vals.getD i undef)) →
  YieldAt (frd none) 0 P l vals w fun e w'=>∃ v r H' St',e=.returned v∧Q r H'∧RepC al St' w' r v∧Under F0 w w'∧(∀ b,St b→St' b)∧(∀ b,St' b→St b∨w.heap.size≤b∨F0 b)∧(∀ b,St' b→b<w'.heap.size)∧HRel al St' w' w.heap.size F0 H'
def YQ (l:Nat) (J' Jx:OP):CV→List (Option Nat×Res)→Prop:=fun r H'=>(r=.c (.bool true)∧H'=[(some l,.obj J')])∨(r=.c (.bool false)∧H'=[(some l,.obj Jx)])

section
variable {P:Program} {G:Gh} {ops:Array Oper} {o:Oper} {s:AS} {K:AS→Prop} {env:List (Nat×CV)} {b0:Nat→CV} {H:List (Option Nat×Res)} {R:Exit→AS→Prop}

def AMdI (P:Program) (G:Gh) (o:Oper) (s:AS) (K:AS→Prop):Prop:=∀ a w,Rel G s a w→∀ Q,o.wpIn (frd G.rd) 0 P a w (fun a' w'=>∃ s',K s'∧Rel G s' a' w') Q
def penv:List Tmp→List CV→List (Nat×CV)→List (Nat×CV)
 | p::ps,c::cs,env=>penv ps cs ((p,c)::env)
 | _,_,env=>env
def roundR {π q:Type} (l:Nat) (R1:OP) (HB:π→List (Option Nat×Res)) (φ':π→Prop) (HX:q→List (Option Nat×Res)) (χ:Code→q→Prop):Exit→AS→Prop
 | .normal,s=>∃ x,φ' x∧(HB x).length+1≤s.H.length∧HEnt (s.H.take ((HB x).length+1)) (HB x++[(some l,.obj R1)])
 | .ret,s=>∃ x,χ .ret x∧(HX x).length+1≤s.H.length∧HEnt (s.H.take ((HX x).length+1)) (HX x++[(some l,.obj R1)])
 | .exit id,s=>∃ x,χ (.exit id) x∧(HX x).length+1≤s.H.length∧HEnt (s.H.take ((HX x).length+1)) (HX x++[(some l,.obj R1)])
 | _,_=>False
def assignR (P:Program) (G:Gh) (body:Code) (B:List (Option Nat×Res)) (l:Nat) (R0 R1:OP) (RE:Exit→AS→Prop):Exit→AS→Prop
 | .normal,s=>∃ env b,s=⟨env,b,B++[(some l,.obj R0)]⟩∧ACode P G body ⟨env,b,B++[(some l,.obj R1)]⟩ RE
 | _,_=>False

end
end
section
section
variable {P:Program} {G:Gh} {s:AS} {R:Exit→AS→Prop}

def IterC (gs:List Nat) (P:Program) (f:FuncId) (HI:List (Option Nat×Res)) (capt:List CV) (m:Nat) (E:Nat→List CV):Prop :=
 ∀ (l:Nat) (J:Nat→OP) (Jx:OP),(∀ k,k<m→ACY gs P l [(some l,.obj (J k))] (E k) (YQ l (J (k+1)) Jx)) →
  AC gs P f (HI++[(some l,.obj (J 0))]) (.c (.func (.yield l) #[] #[])::capt) fun _ H'=>H'=[(some l,.obj (J m))]∨H'=[(some l,.obj Jx)]

end
end
section
def firstI {α:Type} (p:α→Bool):List α→Int
 | []=>-1
 | x::l=>if p x=true then 0 else if firstI p l<0 then -1 else firstI p l+1
theorem CEnt.rp {n:Nat} {f g:Nat→CV} (h:∀ j,j<n→CEnt (f j) (g j)):CEnt (.rp n f) (.rp n g):=fun al St w v ⟨b,o,h1,h2,h3⟩ =>
 ⟨b,o,h1,h2,fun j hj=>by
  obtain ⟨x,hx,hr⟩:=h3 j hj
  exact ⟨x,hx,h j hj al St w x hr⟩⟩
theorem CEnt.fn1 {k:FuncId} {f g:Nat→CV} (h:CEnt (f 0) (g 0)):CEnt (.fn k 1 f) (.fn k 1 g):=fun al St w v ⟨cs,h1,h2,h3⟩ =>
 ⟨cs,h1,h2,fun i hi=>by
  obtain rfl:i=0:=by omega
  exact h al St w _ (h3 0 hi)⟩
theorem BLe.look2 {D:List Nat} {b0 b2:Nat→CV} {env2:List (Nat×CV)} (h:BLe D b0 b2) (h3:(env2.all fun x=>D.any (Nat.beq x.1))=true):BLe D b0 (look env2 b2):=BLe.nest (D2:=[]) (env2:=env2) (b2:=b2) h rfl h3
end
section
section
variable {P:Program} {G:Gh} {ops:Array Oper} {o:Oper} {s:AS} {r:List Oper} {K:AS→Prop} {R:Exit→AS→Prop} {Y:AS→Prop} {x y:Code} {env:List (Nat×CV)} {b0:Nat→CV} {H:List (Option Nat×Res)}

def jfz:CV→Option CV
 | .top=>some .top
 | .c v=>some (.c v)
 | .err k=>some (.err k)
 | .agg n f=>some (.agg n f)
 | .tup n f=>some (.tup n f)
 | .rs k n f=>some (.rs k n f)
 | .rp n f=>some (.rp n f)
 | .os i g off n k=>some (.os i g off n k)
 | .op i g off=>some (.op i g off)
 | .fn g n f=>some (.fn g n f)
 | .pv p=>some (.pv p)
theorem jfz_eq {c v:CV} (h:jfz c=some v):c=v:=by cases c <;> (simp only [jfz,Option.some.injEq] at h;exact h)
def jlookO:List (Nat×CV)→Nat→Option CV
 | [],_=>none
 |(e,v)::r,d=>match Nat.beq e d with|true=>some v|false=>jlookO r d
theorem jlookO_some {b:Nat→CV} {d:Nat} {v:CV}:∀ {env:List (Nat×CV)},jlookO env d=some v→look env b d=v
 |(e,u)::r,h=>by
  unfold jlookO at h;unfold look
  cases hb:Nat.beq e d with
  | true=>rw [hb] at h;exact Option.some.inj h
  | false=>rw [hb] at h;exact jlookO_some h
theorem jlookO_none {b:Nat→CV} {d:Nat}:∀ {env:List (Nat×CV)},jlookO env d=none→look env b d=b d
 | [],_=>rfl
 |(e,u)::r,h=>by
  unfold jlookO at h;unfold look
  cases hb:Nat.beq e d with
  | true=>rw [hb] at h;cases h
  | false=>rw [hb] at h;exact jlookO_none h
theorem jev_t {d:Nat} {v:CV} (h:jlookO s.env d=some v):s.eval (.tmp d)=v:=jlookO_some h
theorem jev_l {D:List Nat} {e2:List (Nat×CV)} {b2:Nat→CV} {d:Nat} {v:CV} (h:jlookO env d=none) (hD:D.any (Nat.beq d)=false) (h2:jlookO e2 d=some v):(⟨env,lay D e2 b2,H⟩:AS).eval (.tmp d)=v:=by
 show look env (lay D e2 b2) d=v
 rw [jlookO_none h]
 unfold lay
 rw [hD]
 exact jlookO_some h2
theorem jev_f {x:Operand} {v:CV} (h:jfz (s.eval x)=some v):s.eval x=v:=jfz_eq h
def jflO:List CV→Nat→Option CV
 | [],_=>none
 | x::_,0=>some x
 | _::r,i+1=>jflO r i
theorem jflO_eq:∀ {l:List CV} {i:Nat} {v:CV},jflO l i=some v→fl l i=v
 | x::_,0,v,h=>Option.some.inj h
 | _::r,i+1,v,h=>jflO_eq (l:=r) h

def jslQ (P:Program) (t:TypeId) (m:Nat):Bool:=match P.underlying t with|some (.slice e)=>(match (P.info? e).map (·.size) with|some k=>Nat.beq k m|none=>false)|_=>false
theorem jslQ_ok {t:TypeId} {m:Nat} (h:jslQ P t m=true):∃ e,P.underlying t=some (.slice e)∧(P.info? e).map (·.size)=some m:=by
 unfold jslQ at h
 split at h
 ·rename_i e he
  refine ⟨e,he,?_⟩
  split at h
  ·rename_i k hk;rw [hk,Nat.eq_of_beq_eq_true h]
  ·cases h
 ·cases h
def jslT (P:Program) (t:TypeId):Bool:=match P.underlying t with|some (.slice _)=>true|_=>false
theorem jslT_ok {t:TypeId} (h:jslT P t=true):∃ e,P.underlying t=some (.slice e):=by
 unfold jslT at h
 split at h
 ·rename_i e he;exact ⟨e,he⟩
 ·cases h
def jarQ (P:Program) (t:TypeId) (n m:Nat):Bool:=match P.underlying t with|some (.array k e)=>(match (P.info? e).map (·.size) with|some q=>Nat.beq q m && Nat.beq k n|none=>false)|_=>false
def jptT (P:Program) (t:TypeId):Bool:=match P.underlying t with|some (.pointer _)=>true|_=>false
def jbyT (P:Program) (t:TypeId):Bool:=match P.underlying t with|some (.slice e)=>(match P.underlying e with|some (.int .u8)=>true|_=>false)|_=>false
def jfdQ (P:Program) (t:TypeId) (i:Nat):Option (Nat×Nat×Bool):=match P.underlying t with
 | some (.struct fs)=>(match fs[i]? with|some fd=>(match (P.info? fd.type).map (·.size),P.underlying fd.type with|some m,some _=>some (fd.offset,m,aggB P fd.type)|_,_=>none)|none=>none)
 | _=>none
theorem jfdQ_ok {t:TypeId} {i q m:Nat} {b:Bool} (h:jfdQ P t i=some (q,m,b)):∃ fs fd d,P.underlying t=some (.struct fs)∧fs[i]?=some fd∧P.underlying fd.type=some d∧aggB P fd.type=b∧(P.info? fd.type).map (·.size)=some m∧fd.offset=q:=by
 unfold jfdQ at h
 split at h
 ·rename_i fs h1
  split at h
  ·rename_i fd h2
   split at h
   ·rename_i k d h3 h4
    simp only [Option.some.injEq,Prod.mk.injEq] at h
    exact ⟨fs,fd,d,h1,h2,h4,h.2.2,by rw [h3,h.2.1],h.1⟩
   ·cases h
  ·cases h
 ·cases h
def jtyQ (P:Program) (t:TypeId) (m:Nat) (b:Bool):Bool:=match (P.info? t).map (·.size),P.underlying t with|some k,some _=>Nat.beq k m && (aggB P t == b)|_,_=>false
theorem jtyQ_ok {t:TypeId} {m:Nat} {b:Bool} (h:jtyQ P t m b=true):∃ d,P.underlying t=some d∧aggB P t=b∧(P.info? t).map (·.size)=some m:=by
 unfold jtyQ at h
 split at h
 ·rename_i k d h1 h2
  rw [Bool.and_eq_true,beq_iff_eq] at h
  exact ⟨d,h2,h.2,by rw [h1,Nat.eq_of_beq_eq_true h.1]⟩
 ·cases h
def jldQ (P:Program) (t:TypeId):Bool:=match P.underlying t with|some _=>!(aggB P t)|none=>false
theorem jldQ_ok {t:TypeId} (h:jldQ P t=true):∃ d,P.underlying t=some d∧aggB P t=false:=by
 unfold jldQ at h
 split at h
 ·rename_i d hd;exact ⟨d,hd,by simpa using h⟩
 ·cases h

def jmovO:Op→Option Operand|.move x=>some x|.assign x=>some x|_=>none
theorem jrm {x:Operand} {v:CV} (ho:jmovO o.op=some x:=by exact rfl) (hv:s.eval x=v:=by first|exact jev_t rfl|exact jev_l rfl rfl rfl|exact jev_f rfl):ARd P G o s v:=by
 unfold jmovO at ho
 split at ho
 ·rename_i z hz;exact rd_move hz (by rw [Option.some.inj ho];exact hv)
 ·rename_i z hz;exact rd_assign hz (by rw [Option.some.inj ho];exact hv)
 ·cases ho
theorem jrpT {z x' y':Operand} {v:CV} (ho:o.op=.pick z x' y':=by exact rfl) (hz:s.eval z=.c (.bool true):=by exact rfl) (hx:s.eval x'=v:=by first|exact jev_t rfl|exact jev_l rfl rfl rfl|exact jev_f rfl):ARd P G o s v:=rd_pickT ho hz hx
theorem jrpF {z x' y':Operand} {v:CV} (ho:o.op=.pick z x' y':=by exact rfl) (hz:s.eval z=.c (.bool false):=by exact rfl) (hy:s.eval y'=v:=by first|exact jev_t rfl|exact jev_l rfl rfl rfl|exact jev_f rfl):ARd P G o s v:=rd_pickF ho hz hy
theorem jrx {x:Operand} {i n:Nat} {f:Nat→CV} {v:CV} (ho:o.op=.extract x i:=by exact rfl) (hx:s.eval x=.tup n f:=by exact rfl) (hi:Nat.blt i n=true:=by exact rfl) (hv:f i=v:=by first|exact jflO_eq rfl|exact jfz_eq rfl):ARd P G o s v:=rd_extract ho hx hi hv
def jcmpI (op:BinOp) (a b:Int):Option Bool:=match op with
 | .eql=>some (decide (a=b))
 | .neq=>some (decide (a≠b))
 | .lss=>some (decide (a<b))
 | .leq=>some (decide (a≤b))
 | .gtr=>some (decide (b<a))
 | .geq=>some (decide (b≤a))
 | _=>none
theorem jrc {op:BinOp} {t u:TypeId} {x y:Operand} {k:IntKind} {a b:Int} {z:Bool} (ho:o.op=.binOp op t x y u:=by exact rfl) (hx:s.eval x=.c (.int k a):=by exact rfl) (hy:s.eval y=.c (.int k b):=by exact rfl) (hc:jcmpI op a b=some z:=by exact rfl):ARd P G o s (.c (.bool z)):=by
 cases op <;> simp only [jcmpI,Option.some.injEq,reduceCtorEq] at hc
 all_goals subst hc
 ·exact rd_eqI ho hx hy
 ·exact rd_neI ho hx hy
 ·exact rd_lt ho hx hy
 ·exact rd_le ho hx hy
 ·exact rd_gt ho hx hy
 ·exact rd_ge ho hx hy
def jarI (op:BinOp) (a b:Int):Option Int:=match op with
 | .add=>some (a+b)
 | .sub=>some (a-b)
 | .mul=>some (a * b)
 | _=>none
theorem jra {op:BinOp} {t u:TypeId} {x y:Operand} {k:IntKind} {a b z:Int} (ho:o.op=.binOp op t x y u:=by exact rfl) (hx:s.eval x=.c (.int k a):=by exact rfl) (hy:s.eval y=.c (.int k b):=by exact rfl) (hc:jarI op a b=some z:=by exact rfl) (hS:InR k z:=by (show _∧_;(first|omega|decide|(dsimp only at *;omega)))):ARd P G o s (.c (.int k z)):=by
 cases op <;> simp only [jarI,Option.some.injEq,reduceCtorEq] at hc
 all_goals subst hc
 ·exact rd_add ho hx hy (wrap_id hS)
 ·exact rd_sub ho hx hy (wrap_id hS)
 ·exact rd_mul ho hx hy (wrap_id hS)
def jcmpS (op:BinOp) (a b:List UInt8):Option Bool:=match op with
 | .eql=>some (decide (a=b))
 | .neq=>some (decide (a≠b))
 | .lss=>some (Op.bytesLess a b)
 | .gtr=>some (!(Op.bytesLess a b || a == b))
 | _=>none
theorem jrcs {op:BinOp} {t u:TypeId} {x y:Operand} {a b:List UInt8} {z:Bool} (ho:o.op=.binOp op t x y u:=by exact rfl) (hx:s.eval x=strC a:=by exact rfl) (hy:s.eval y=strC b:=by exact rfl) (hc:jcmpS op a b=some z:=by exact rfl):ARd P G o s (.c (.bool z)):=by
 cases op <;> simp only [jcmpS,Option.some.injEq,reduceCtorEq] at hc
 all_goals subst hc
 ·exact rd_eqL ho hx hy
 ·exact rd_neL ho hx hy
 ·exact rd_ltL ho hx hy
 ·exact rd_gtL ho hx hy
theorem jrcb {op:BinOp} {t u:TypeId} {x y:Operand} {a b z:Bool} (ho:o.op=.binOp op t x y u:=by exact rfl) (hx:s.eval x=.c (.bool a):=by exact rfl) (hy:s.eval y=.c (.bool b):=by exact rfl) (hc:(match op with|.eql=>some (a == b)|.neq=>some (!(a == b))|_=>none)=some z:=by exact rfl) (hT:P.underlying t=some .bool:=by kernel_rfl):ARd P G o s (.c (.bool z)):=by
 cases op <;> simp only [Option.some.injEq,reduceCtorEq] at hc
 all_goals subst hc
 ·exact rd_eqB ho hx hy hT
 ·exact rd_neB ho hx hy hT
def jNotV (c:CV) (z:Bool):Prop:=c=.c (.bool (!z))
theorem jnotD {p:Prop} [Decidable p] {c:CV} (h:c=.c (.bool (decide p))):jNotV c (decide ¬ p):=by unfold jNotV;rw [h];simp
theorem jnotB {p:Bool} {c:CV} (h:c=.c (.bool p)):jNotV c (!p):=by unfold jNotV;rw [h,Bool.not_not]
theorem jrn {t:TypeId} {x:Operand} {z:Bool} (ho:o.op=.unOp .not t x:=by exact rfl) (hx:jNotV (s.eval x) z:=by first|exact jnotD rfl|exact jnotB rfl):ARd P G o s (.c (.bool z)):=by
 have:=rd_not (P:=P) (G:=G) ho hx
 rwa [Bool.not_not] at this
def jlenV:CV→Option Int
 | .rs _ n _=>some ((n:Nat):Int)
 | .os _ _ _ n _=>some ((n:Nat):Int)
 | .c (.slice none 0 0)=>some 0
 | _=>none
theorem jrl {x:Operand} {t:TypeId} {z:Int} (ho:o.op=.call ⟨.builtin .len,#[x],#[t]⟩:=by exact rfl) (hx:jlenV (s.eval x)=some z:=by exact rfl) (hT:jslT P t=true:=by kernel_rfl):ARd P G o s (.c (.int .i64 z)):=by
 obtain ⟨e,he⟩:=jslT_ok hT
 unfold jlenV at hx
 split at hx
 ·rename_i h;cases hx;exact rd_lenR ho h he
 ·rename_i h;cases hx;exact rd_lenO ho h he
 ·rename_i h;cases hx;exact rd_lenN ho h he
 ·cases hx
theorem jrls {x:Operand} {t:TypeId} {a:List UInt8} (ho:o.op=.call ⟨.builtin .len,#[x],#[t]⟩:=by exact rfl) (hx:s.eval x=strC a:=by exact rfl) (hT:P.underlying t=some .string:=by kernel_rfl):ARd P G o s (.c (.int .i64 (a.length:Nat))):=rd_lenL ho hx hT
def jfaV (q:Nat):CV→Option CV
 | .op j g off=>some (.op j g (off+q))
 | .rp n f=>some (.rp (n-q) fun j=>f (q+j))
 | _=>none
theorem jrfa (q m:Nat) (b:Bool) {t:TypeId} {x:Operand} {i:Nat} {v:CV} (ho:o.op=.fieldAddr t x i:=by exact rfl) (hx:jfaV q (s.eval x)=some v:=by exact rfl) (hm:Nat.blt 0 m=true:=by exact rfl) (hT:jfdQ P t i=some (q,m,b):=by kernel_rfl):ARd P G o s v:=by
 obtain ⟨fs,fd,d,h1,h2,h3,h4,h5,h6⟩:=jfdQ_ok hT
 subst h6
 unfold jfaV at hx
 split at hx
 ·rename_i h;cases hx;exact rd_faddrO ho h h1 h2 h5 hm
 ·rename_i h;cases hx;exact rd_faddrR ho h h1 h2 h5 hm
 ·cases hx
def jixV (i:Nat):CV→Option (CV×Nat×Nat)
 | .rs m n f=>some (.rp m (f i),n,m)
 | .os j g off n m=>some (match Nat.beq off 0,Nat.beq m 1 with|true,true=>.op j g i|_,_=>.op j g (off+i * m),n,m)
 | _=>none
theorem jri {i:Nat} {t:TypeId} {x y:Operand} {k:IntKind} {z:Int} {v:CV} {n m:Nat} (ho:o.op=.indexAddr t x y:=by exact rfl) (hy:s.eval y=.c (.int k z):=by exact rfl) (hz:z=(i:Int):=by first|exact rfl|exact natI (by omega)) (hx:jixV i (s.eval x)=some (v,n,m):=by exact rfl) (hS:i<n:=by first|omega|decide|(dsimp only at *;omega)) (hm:Nat.blt 0 m=true:=by exact rfl) (hT:jslQ P t m=true:=by kernel_rfl):ARd P G o s v:=by
 obtain ⟨e,h1,h5⟩:=jslQ_ok hT
 unfold jixV at hx
 split at hx
 ·rename_i h;cases hx;exact rd_iaddrR ho h hy h1 h5 hz hS (Nat.le_of_ble_eq_true hm)
 ·rename_i j g off n' m' h
  cases hx
  cases h6:Nat.beq off 0 with
  | false=>exact rd_iaddrO ho h hy h1 h5 hz hS
  | true =>
   cases h7:Nat.beq m 1 with
   | false=>exact rd_iaddrO ho h hy h1 h5 hz hS
   | true =>
    have e1:=Nat.eq_of_beq_eq_true h6
    have e2:=Nat.eq_of_beq_eq_true h7
    subst e1 e2
    exact rd_iaddrO1 ho h hy h1 h5 hz hS
 ·cases hx
def jnilV:CV→Option CV
 | .op i g off=>some (.op i g off)
 | .rp n f=>some (.rp n f)
 | .fn g n f=>some (.fn g n f)
 | _=>none
theorem jrnc {x:Operand} {v:CV} (ho:o.op=.nilCheck x:=by exact rfl) (hx:jnilV (s.eval x)=some v:=by exact rfl):ARd P G o s v:=by
 unfold jnilV at hx
 split at hx
 ·rename_i h;cases hx;exact rd_nilO ho h
 ·rename_i h;cases hx;exact rd_nilR ho h
 ·rename_i h;cases hx;exact rd_nilF ho h
 ·cases hx
theorem jrmf {g:FuncId} {cs:Array Operand} {n:Nat} (ho:o.op=.makeFunc (.func g) #[] cs:=by exact rfl) (hn:cs.size=n:=by exact rfl):ARd P G o s (.fn g n (fl (cs.toList.map s.eval))):=rd_makeFunc ho hn
theorem jrsr {t:TypeId} {p:Operand} {m n l v:Nat} {f:Nat→Nat→CV} {lo hi:Option Operand} (ho:o.op=.slice t p lo hi none:=by exact rfl) (hx:s.eval p=.rs m n f:=by exact rfl) (hl:Bd s 0 lo l:=by first|exact bd_none _ _|exact bd_some rfl rfl|exact bd_some rfl (natI (by omega))) (hu:Bd s n hi v:=by first|exact bd_none _ _|exact bd_some rfl rfl|exact bd_some rfl (natI (by omega))) (hS:l≤v:=by first|omega|decide|(dsimp only at *;omega)) (hS2:v≤n:=by first|omega|decide|(dsimp only at *;omega)) (hT:jslQ P t m=true:=by kernel_rfl):ARd P G o s (.rs m (v-l) fun i j=>f (l+i) j):=by
 obtain ⟨e,h1,h5⟩:=jslQ_ok hT
 exact rd_sliceR ho hx h1 h5 hl hu hS hS2
theorem jrso {t:TypeId} {p:Operand} {i off m n l v:Nat} {g:Option Nat} {lo hi:Option Operand} (ho:o.op=.slice t p lo hi none:=by exact rfl) (hx:s.eval p=.os i g off n m:=by exact rfl) (hl:Bd s 0 lo l:=by first|exact bd_none _ _|exact bd_some rfl rfl|exact bd_some rfl (natI (by omega))) (hu:Bd s n hi v:=by first|exact bd_none _ _|exact bd_some rfl rfl|exact bd_some rfl (natI (by omega))) (hS:l≤v:=by first|omega|decide|(dsimp only at *;omega)) (hS2:v≤n:=by first|omega|decide|(dsimp only at *;omega)) (hS3:l=0∨l<n:=by first|omega|decide|(dsimp only at *;omega)) (hT:jslQ P t m=true:=by kernel_rfl):ARd P G o s (.os i g (off+l * m) (v-l) m):=by
 obtain ⟨e,h1,h5⟩:=jslQ_ok hT
 exact rd_sliceO ho hx h1 h5 hl hu hS hS2 hS3
theorem jrdo {t:TypeId} {x:Operand} {i off n:Nat} {g:Option Nat} {f:Nat→CV} {v:CV} (ho:o.op=.load t x:=by exact rfl) (hx:s.eval x=.op i g off:=by exact rfl) (hH:Holds s i g n f:=by first|exact .inl rfl|exact .inr rfl) (hv:f off=v:=by first|exact jflO_eq rfl|exact jfz_eq rfl) (hn:off<n:=by first|decide|omega|(dsimp only at *;omega)) (hT:jldQ P t=true:=by kernel_rfl):ARdO P G o s v:=by
 obtain ⟨d,h1,ha⟩:=jldQ_ok hT
 exact rd_loadO ho hx hH h1 ha hn hv
theorem jrdr {t:TypeId} {x:Operand} {n:Nat} {f:Nat→CV} {v:CV} (ho:o.op=.load t x:=by exact rfl) (hx:s.eval x=.rp n f:=by exact rfl) (hv:f 0=v:=by first|exact jflO_eq rfl|exact jfz_eq rfl) (hn:0<n:=by first|decide|omega|(dsimp only at *;omega)) (hT:jldQ P t=true:=by kernel_rfl):ARd P G o s v:=by
 obtain ⟨d,h1,ha⟩:=jldQ_ok hT
 exact rd_loadR ho hx h1 ha hn hv
theorem jrdoA (m:Nat) {t:TypeId} {x:Operand} {i off n:Nat} {g:Option Nat} {f:Nat→CV} (ho:o.op=.load t x:=by exact rfl) (hx:s.eval x=.op i g off:=by exact rfl) (hH:Holds s i g n f:=by first|exact .inl rfl|exact .inr rfl) (hn:off+m≤n:=by first|decide|omega|(dsimp only at *;omega)) (hT:jtyQ P t m true=true:=by kernel_rfl):ARdO P G o s (.agg m fun j=>f (off+j)):=by
 obtain ⟨d,h1,ha,h5⟩:=jtyQ_ok hT
 exact rd_loadOA ho hx hH h1 ha h5 hn
theorem jrdrA (m:Nat) {t:TypeId} {x:Operand} {n:Nat} {f:Nat→CV} (ho:o.op=.load t x:=by exact rfl) (hx:s.eval x=.rp n f:=by exact rfl) (hn:m≤n:=by first|decide|omega|(dsimp only at *;omega)) (hT:jtyQ P t m true=true:=by kernel_rfl):ARd P G o s (.agg m f):=by
 obtain ⟨d,h1,ha,h5⟩:=jtyQ_ok hT
 exact rd_loadRA ho hx h1 ha h5 hn
theorem jrde (i:Nat) [h0:HasE G.gs i] {t:TypeId} {g:Nat} (ho:o.op=.load t (.global g):=by exact rfl) (hg:gs[i]?=some g:=by exact rfl) (hT:jldQ P t=true:=by kernel_rfl):ARd P G o s (.err (i+1)):=by
 obtain ⟨d,h1,ha⟩:=jldQ_ok hT
 exact rd_loadE i ho hg h1 ha
theorem jq {d:Nat} {v:CV} (h:ARd P G o ⟨env,b0,H⟩ v) (hk:ASeq P G ops r ⟨(d,v)::env,b0,H⟩ K) (hd:o.dst=some d:=by exact rfl) (hN:Nat.blt d G.N=true:=by exact rfl) (hw:Wanted G ops o ⟨env,b0,H⟩ true:=by first|exact wanted_none rfl|exact wanted_is rfl rfl rfl rfl true rfl):ASeq P G ops (o::r) ⟨env,b0,H⟩ K:=q_rd hw hd hN h hk
theorem jqo {d:Nat} {v:CV} (h:ARdO P G o ⟨env,b0,H⟩ v) (hk:ASeq P G ops r ⟨(d,v)::env,b0,H⟩ K) (hd:o.dst=some d:=by exact rfl) (hN:Nat.blt d G.N=true:=by exact rfl) (hw:Wanted G ops o ⟨env,b0,H⟩ true:=by first|exact wanted_none rfl|exact wanted_is rfl rfl rfl rfl true rfl):ASeq P G ops (o::r) ⟨env,b0,H⟩ K:=q_rdO hw hd hN h hk
theorem jqs {d:Nat} (hk:ASeq P G ops r ⟨(d,.c undef)::env,b0,H⟩ K) (hd:o.dst=some d:=by exact rfl) (hN:Nat.blt d G.N=true:=by exact rfl) (hw:Wanted G ops o ⟨env,b0,H⟩ false:=by first|exact wanted_is rfl rfl rfl rfl false rfl|exact wanted_undef rfl rfl rfl rfl):ASeq P G ops (o::r) ⟨env,b0,H⟩ K:=q_skip hw hd hN hk
theorem jqe (h:AEx P G o ⟨env,b0,H⟩ (fun s'=>ASeq P G ops r s' K)) (hw:Wanted G ops o ⟨env,b0,H⟩ true:=by first|exact wanted_none rfl|exact wanted_is rfl rfl rfl rfl true rfl):ASeq P G ops (o::r) ⟨env,b0,H⟩ K:=seq_ex hw h
theorem jqm (h:AMd P G o ⟨env,b0,H⟩ (fun s'=>ASeq P G ops r s' K)) (hw:Wanted G ops o ⟨env,b0,H⟩ true:=by first|exact wanted_none rfl|exact wanted_is rfl rfl rfl rfl true rfl):ASeq P G ops (o::r) ⟨env,b0,H⟩ K:=seq_md hw h
def jopG:List Oper→Nat→Oper
 | [],_=>default
 | a::_,0=>a
 | _::l,i+1=>jopG l i
section
variable {i:Nat} {t:Ord}
theorem jopG_at (h:Nat.blt i ops.size=true):ops[i]?=some (jopG ops.toList i):=by
 have hlt:i<ops.size:=Nat.le_of_ble_eq_true h
 rw [Array.getElem?_eq_getElem hlt]
 have key:∀ (l:List Oper) (i:Nat) (hi:i<l.length),l[i]=jopG l i:=fun l=>by
  induction l with
  | nil=>intro i hi;simp at hi
  | cons a l ih =>
   intro i hi
   cases i with
   | zero=>rfl
   | succ i=>exact ih i (by simpa using hi)
 have:=key ops.toList i (by simpa using hlt)
 rw [← this,Array.getElem_toList]
theorem joT_rd (hi:Nat.blt i ops.size=true):opsOfT ops (.rd i t)=.rd (jopG ops.toList i) (opsOfT ops t):=by simp only [opsOfT,jopG_at hi]
theorem joT_one (hi:Nat.blt i ops.size=true):opsOfT ops (.one i t)=.one (jopG ops.toList i) (opsOfT ops t):=by simp only [opsOfT,jopG_at hi]
theorem jyq {d:Nat} {v:CV} (h:ARd P G (jopG ops.toList i) ⟨env,b0,H⟩ v) (hk:AX P G ops (opsOfT ops t) ⟨(d,v)::env,b0,H⟩ K) (hd:(jopG ops.toList i).dst=some d:=by exact rfl) (hN:Nat.blt d G.N=true:=by exact rfl) (hw:Wanted G ops (jopG ops.toList i) ⟨env,b0,H⟩ true:=by first|exact wanted_none rfl|exact wanted_is rfl rfl rfl rfl true rfl) (hi:Nat.blt i ops.size=true:=by exact rfl):AX P G ops (opsOfT ops (.rd i t)) ⟨env,b0,H⟩ K:=by rw [joT_rd hi];exact y_rd hw hd hN h hk
theorem jyo {d:Nat} {v:CV} (h:ARdO P G (jopG ops.toList i) ⟨env,b0,H⟩ v) (hk:AX P G ops (opsOfT ops t) ⟨(d,v)::env,b0,H⟩ K) (hd:(jopG ops.toList i).dst=some d:=by exact rfl) (hN:Nat.blt d G.N=true:=by exact rfl) (hw:Wanted G ops (jopG ops.toList i) ⟨env,b0,H⟩ true:=by first|exact wanted_none rfl|exact wanted_is rfl rfl rfl rfl true rfl) (hi:Nat.blt i ops.size=true:=by exact rfl):AX P G ops (opsOfT ops (.rd i t)) ⟨env,b0,H⟩ K:=by rw [joT_rd hi];exact y_rdO hw hd hN h hk
theorem jys {d:Nat} (hk:AX P G ops (opsOfT ops t) ⟨(d,.c undef)::env,b0,H⟩ K) (hd:(jopG ops.toList i).dst=some d:=by exact rfl) (hN:Nat.blt d G.N=true:=by exact rfl) (hw:Wanted G ops (jopG ops.toList i) ⟨env,b0,H⟩ false:=by first|exact wanted_is rfl rfl rfl rfl false rfl|exact wanted_undef rfl rfl rfl rfl) (hi:Nat.blt i ops.size=true:=by exact rfl):AX P G ops (opsOfT ops (.rd i t)) ⟨env,b0,H⟩ K:=by rw [joT_rd hi];exact y_skip hw hd hN hk
theorem jys1 {d:Nat} (hk:AX P G ops (opsOfT ops t) ⟨(d,.c undef)::env,b0,H⟩ K) (hd:(jopG ops.toList i).dst=some d:=by exact rfl) (hN:Nat.blt d G.N=true:=by exact rfl) (hw:Wanted G ops (jopG ops.toList i) ⟨env,b0,H⟩ false:=by first|exact wanted_is rfl rfl rfl rfl false rfl|exact wanted_undef rfl rfl rfl rfl) (hi:Nat.blt i ops.size=true:=by exact rfl):AX P G ops (opsOfT ops (.one i t)) ⟨env,b0,H⟩ K:=by rw [joT_one hi];exact y_noone hw hd hN hk
theorem jye (h:AEx P G (jopG ops.toList i) ⟨env,b0,H⟩ (fun s'=>AX P G ops (opsOfT ops t) s' K)) (hw:Wanted G ops (jopG ops.toList i) ⟨env,b0,H⟩ true:=by first|exact wanted_none rfl|exact wanted_is rfl rfl rfl rfl true rfl) (hi:Nat.blt i ops.size=true:=by exact rfl):AX P G ops (opsOfT ops (.one i t)) ⟨env,b0,H⟩ K:=by rw [joT_one hi];exact x_one hw h
theorem jzq {d:Nat} {v:CV} (h:ARd P G (jopG ops.toList i) ⟨env,b0,H⟩ v) (hk:AZ P G ops (opsOfT ops t) ⟨(d,v)::env,b0,H⟩ K) (hd:(jopG ops.toList i).dst=some d:=by exact rfl) (hN:Nat.blt d G.N=true:=by exact rfl) (hw:Wanted G ops (jopG ops.toList i) ⟨env,b0,H⟩ true:=by first|exact wanted_none rfl|exact wanted_is rfl rfl rfl rfl true rfl) (hi:Nat.blt i ops.size=true:=by exact rfl):AZ P G ops (opsOfT ops (.rd i t)) ⟨env,b0,H⟩ K:=by rw [joT_rd hi];exact zz_rd hw hd hN h hk
theorem jzo {d:Nat} {v:CV} (h:ARdO P G (jopG ops.toList i) ⟨env,b0,H⟩ v) (hk:AZ P G ops (opsOfT ops t) ⟨(d,v)::env,b0,H⟩ K) (hd:(jopG ops.toList i).dst=some d:=by exact rfl) (hN:Nat.blt d G.N=true:=by exact rfl) (hw:Wanted G ops (jopG ops.toList i) ⟨env,b0,H⟩ true:=by first|exact wanted_none rfl|exact wanted_is rfl rfl rfl rfl true rfl) (hb:ownB ops (jopG ops.toList i)=true:=by kernel_rfl) (hi:Nat.blt i ops.size=true:=by exact rfl):AZ P G ops (opsOfT ops (.rd i t)) ⟨env,b0,H⟩ K:=by rw [joT_rd hi];exact zz_rdO hw hd hN hb h hk
theorem jz1 {d:Nat} {v:CV} (h:ARd P G (jopG ops.toList i) ⟨env,b0,H⟩ v) (hk:AZ P G ops (opsOfT ops t) ⟨(d,v)::env,b0,H⟩ K) (hd:(jopG ops.toList i).dst=some d:=by exact rfl) (hN:Nat.blt d G.N=true:=by exact rfl) (hw:Wanted G ops (jopG ops.toList i) ⟨env,b0,H⟩ true:=by first|exact wanted_none rfl|exact wanted_is rfl rfl rfl rfl true rfl) (hi:Nat.blt i ops.size=true:=by exact rfl):AZ P G ops (opsOfT ops (.one i t)) ⟨env,b0,H⟩ K:=by rw [joT_one hi];exact zz_one1 hw hd hN h hk
theorem jz1o {d:Nat} {v:CV} (h:ARdO P G (jopG ops.toList i) ⟨env,b0,H⟩ v) (hk:AZ P G ops (opsOfT ops t) ⟨(d,v)::env,b0,H⟩ K) (hd:(jopG ops.toList i).dst=some d:=by exact rfl) (hN:Nat.blt d G.N=true:=by exact rfl) (hw:Wanted G ops (jopG ops.toList i) ⟨env,b0,H⟩ true:=by first|exact wanted_none rfl|exact wanted_is rfl rfl rfl rfl true rfl) (hi:Nat.blt i ops.size=true:=by exact rfl):AZ P G ops (opsOfT ops (.one i t)) ⟨env,b0,H⟩ K:=by rw [joT_one hi];exact zz_one1O hw hd hN h hk
theorem jzs {d:Nat} (hk:AZ P G ops (opsOfT ops t) ⟨(d,.c undef)::env,b0,H⟩ K) (hd:(jopG ops.toList i).dst=some d:=by exact rfl) (hN:Nat.blt d G.N=true:=by exact rfl) (hw:Wanted G ops (jopG ops.toList i) ⟨env,b0,H⟩ false:=by first|exact wanted_is rfl rfl rfl rfl false rfl|exact wanted_undef rfl rfl rfl rfl) (hi:Nat.blt i ops.size=true:=by exact rfl):AZ P G ops (opsOfT ops (.rd i t)) ⟨env,b0,H⟩ K:=by rw [joT_rd hi];exact zz_skip hw hd hN hk
theorem jzs1 {d:Nat} (hk:AZ P G ops (opsOfT ops t) ⟨(d,.c undef)::env,b0,H⟩ K) (hd:(jopG ops.toList i).dst=some d:=by exact rfl) (hN:Nat.blt d G.N=true:=by exact rfl) (hw:Wanted G ops (jopG ops.toList i) ⟨env,b0,H⟩ false:=by first|exact wanted_is rfl rfl rfl rfl false rfl|exact wanted_undef rfl rfl rfl rfl) (hi:Nat.blt i ops.size=true:=by exact rfl):AZ P G ops (opsOfT ops (.one i t)) ⟨env,b0,H⟩ K:=by rw [joT_one hi];exact zz_noone hw hd hN hk
theorem jze (h:AEx P G (jopG ops.toList i) ⟨env,b0,H⟩ (fun s'=>AZ P G ops (opsOfT ops t) s' K)) (hw:Wanted G ops (jopG ops.toList i) ⟨env,b0,H⟩ true:=by first|exact wanted_none rfl|exact wanted_is rfl rfl rfl rfl true rfl) (hi:Nat.blt i ops.size=true:=by exact rfl):AZ P G ops (opsOfT ops (.one i t)) ⟨env,b0,H⟩ K:=by rw [joT_one hi];exact z_ex hw h
theorem jzm (h:AMd P G (jopG ops.toList i) ⟨env,b0,H⟩ (fun s'=>AZ P G ops (opsOfT ops t) s' K)) (hw:Wanted G ops (jopG ops.toList i) ⟨env,b0,H⟩ true:=by first|exact wanted_none rfl|exact wanted_is rfl rfl rfl rfl true rfl) (hm:isMod (jopG ops.toList i)=true:=by exact rfl) (hi:Nat.blt i ops.size=true:=by exact rfl):AZ P G ops (opsOfT ops (.one i t)) ⟨env,b0,H⟩ K:=by rw [joT_one hi];exact z_md hw hm h
theorem jyd (h:K s):AX P G ops (opsOfT ops .done) s K:=x_done h
theorem jzd (h:K s):AZ P G ops (opsOfT ops .done) s K:=z_done h
theorem jztwo {j:Nat} {u:Ord} (h1:AZ P G ops (opsOfT ops (.one i t)) s K) (h2:AZ P G ops (opsOfT ops (.one j u)) s K) (hi:Nat.blt i ops.size=true:=by exact rfl) (hj:Nat.blt j ops.size=true:=by exact rfl):AZ P G ops (opsOfT ops (.two i t j u)) s K:=by
 rw [joT_one hi] at h1
 rw [joT_one hj] at h2
 simp only [opsOfT,jopG_at hi,jopG_at hj]
 exact z_two h1 h2
end
theorem jcg {id:Nat} (h:ASeq P G ops ops.toList s (R .normal)) (hd:rdB G.rd ops=true:=by rfl):ACode P G (.region id ops false) s R:=code_region h hd
theorem jcd {id:Nat} (t:Ord) (h:AX P G ops (opsOfT ops t) s (R .normal)) (hm:P.follows .mixedOrders=true:=by kernel_rfl) (hs:Region.noSelect ops=true:=by kernel_rfl) (hl:t.len=ops.size:=by exact rfl) (hin:t.within ops.size=true:=by kernel_rfl) (hB:orderT .any ops t (Array.replicate ops.size false)=true:=by kernel_rfl) (hd:rdB G.rd ops=true:=by rfl):ACode P G (.region id ops true) s R:=code_draw t hm hs hl hin hB h hd
theorem jcdC {id:Nat} (m:Nat) (t u:Ord) (h:AX P G ops (opsOfT ops t) s (fun s'=>AZ P G ops (opsOfT ops u) s' (R .normal))) (hmix:P.follows .mixedOrders=true:=by kernel_rfl) (hs:Region.noSelect ops=true:=by kernel_rfl) (hm:Nat.ble m ops.size=true:=by exact rfl) (hl:t.len=m:=by exact rfl) (hin:t.within ops.size=true:=by kernel_rfl) (hc:coverB .any ops m=true:=by kernel_rfl)
  (hB:orderB2 .any ops m t (Array.replicate ops.size false)=true:=by kernel_rfl) (hul:u.len=ops.size-m:=by exact rfl) (huin:u.within ops.size=true:=by kernel_rfl) (hu:orderT .any ops u (barL m ops.size)=true:=by kernel_rfl) (hd:rdB G.rd ops=true:=by rfl):ACode P G (.region id ops true) s R:=code_drawC m t u hmix hs hm hl hin hc hB hul huin hu h hd
theorem jcdZ {id:Nat} (u:Ord) (h:AZ P G ops (opsOfT ops u) s (R .normal)) (hmix:P.follows .mixedOrders=true:=by kernel_rfl) (hs:Region.noSelect ops=true:=by kernel_rfl) (hul:u.len=ops.size:=by exact rfl) (huin:u.within ops.size=true:=by kernel_rfl) (hu:orderT .any ops u (Array.replicate ops.size false)=true:=by kernel_rfl) (hd:rdB G.rd ops=true:=by rfl):ACode P G (.region id ops true) s R:=code_drawZ u hmix hs hul huin hu h hd
theorem jcs (h:ACode P G x s (thenR (fun s'=>ACode P G y s' R) R)):ACode P G (.seq x y) s R:=code_seq h
theorem jcr {id:Nat} (h:ASeq P G ops ops.toList s (fun s'=>ACode P G y s' R)) (hd:rdB G.rd ops=true:=by rfl):ACode P G (.seq (.region id ops false) y) s R:=code_seq (code_region h hd)
theorem jtn (h:Y s):thenR Y R .normal s:=h
theorem jte {i:Nat} (h:R (.exit i) s):thenR Y R (.exit i) s:=h
theorem jtr (h:R .ret s):thenR Y R .ret s:=h
theorem jbn {i:Nat} (h:R .normal s):blockR i R .normal s:=h
theorem jbr {i:Nat} (h:R .ret s):blockR i R .ret s:=h
theorem jbx {i j:Nat} (h:R .normal s) (he:Nat.beq j i=true:=by exact rfl):blockR i R (.exit j) s:=block_exit he h
def jCondPN (c:CV) (p n:Prop):Prop:=∃ t:Bool,c=.c (.bool t)∧(t=true→p)∧(t=false→n)
theorem jcpD {p:Prop} [Decidable p] {c:CV} (h:c=.c (.bool (decide p))):jCondPN c p (¬ p):=⟨_,h,of_decide_eq_true,of_decide_eq_false⟩
theorem jcpB {t:Bool} {c:CV} (h:c=.c (.bool t)):jCondPN c (t=true) (t=false):=⟨_,h,id,id⟩
theorem jcc {d:Nat} {p n:Prop} (ht:p→ACode P G x ⟨(d,.c (.bool true))::env,b0,H⟩ R) (hf:n→ACode P G y ⟨(d,.c (.bool false))::env,b0,H⟩ R) (hl:jCondPN (look env b0 d) p n:=by first|exact jcpD rfl|exact jcpB rfl) (hN:Nat.blt d G.N=true:=by exact rfl):ACode P G (.cond (.tmp d) x y) ⟨env,b0,H⟩ R:=by
 obtain ⟨t,h1,h2,h3⟩:=hl
 exact code_condS hN h1 (fun e=>ht (h2 e)) (fun e=>hf (h3 e))
theorem jcT {d:Operand} (h:ACode P G x s R) (hl:s.eval d=.c (.bool true):=by exact rfl):ACode P G (.cond d x y) s R:=code_condT hl h
theorem jcF {d:Operand} (h:ACode P G y s R) (hl:s.eval d=.c (.bool false):=by exact rfl):ACode P G (.cond d x y) s R:=code_condF hl h
theorem jqsp (d:Nat) {p n:Prop} (ht:p→ASeq P G ops r ⟨(d,.c (.bool true))::env,b0,H⟩ K) (hf:n→ASeq P G ops r ⟨(d,.c (.bool false))::env,b0,H⟩ K) (hl:jCondPN (look env b0 d) p n:=by first|exact jcpD rfl|exact jcpB rfl) (hN:Nat.blt d G.N=true:=by exact rfl):ASeq P G ops r ⟨env,b0,H⟩ K:=by
 obtain ⟨t,h1,h2,h3⟩:=hl
 exact seq_split hN h1 (fun e=>ht (h2 e)) (fun e=>hf (h3 e))
theorem jysp {tr:OrdO} (d:Nat) {p n:Prop} (ht:p→AX P G ops tr ⟨(d,.c (.bool true))::env,b0,H⟩ K) (hf:n→AX P G ops tr ⟨(d,.c (.bool false))::env,b0,H⟩ K) (hl:jCondPN (look env b0 d) p n:=by first|exact jcpD rfl|exact jcpB rfl) (hN:Nat.blt d G.N=true:=by exact rfl):AX P G ops tr ⟨env,b0,H⟩ K:=by
 obtain ⟨t,h1,h2,h3⟩:=hl
 exact x_split hN h1 (fun e=>ht (h2 e)) (fun e=>hf (h3 e))
theorem jzsp {tr:OrdO} (d:Nat) {p n:Prop} (ht:p→AZ P G ops tr ⟨(d,.c (.bool true))::env,b0,H⟩ K) (hf:n→AZ P G ops tr ⟨(d,.c (.bool false))::env,b0,H⟩ K) (hl:jCondPN (look env b0 d) p n:=by first|exact jcpD rfl|exact jcpB rfl) (hN:Nat.blt d G.N=true:=by exact rfl):AZ P G ops tr ⟨env,b0,H⟩ K:=by
 obtain ⟨t,h1,h2,h3⟩:=hl
 exact z_split hN h1 (fun e=>ht (h2 e)) (fun e=>hf (h3 e))

theorem jeal {n:Nat} {t:TypeId} {z:Value} {d:Nat} (hz:(P.info? t).map (·.zero)=some (some z)) (hn:z.cells.size=n) (hK:∀ g,K ⟨(d,.op H.length g 0)::env,b0,H++[(g,.blk n fun j=>.c (z.cells.getD j undef))]⟩) (ho:o.op=.alloc t:=by exact rfl) (hd:o.dst=some d:=by exact rfl) (hN:Nat.blt d G.N=true:=by exact rfl):AEx P G o ⟨env,b0,H⟩ K:=e_alloc ho hz hn hd hN hK
theorem jebx (n:Nat) {t:TypeId} {p:Operand} {c:CV} {l:List CV} {d:Nat} (hK:∀ g,K ⟨(d,.op H.length g 0)::env,b0,H++[(g,.blk n (fl l))]⟩) (ho:o.op=.box t p:=by exact rfl) (hx:(⟨env,b0,H⟩:AS).eval p=c:=by first|exact jev_t rfl|exact jev_l rfl rfl rfl|exact jev_f rfl) (hl:cellsC c=some l:=by exact rfl) (hn:l.length=n:=by exact rfl) (hd:o.dst=some d:=by exact rfl) (hN:Nat.blt d G.N=true:=by exact rfl):AEx P G o ⟨env,b0,H⟩ K:=e_box ho hx hl hn hd hN hK
theorem jebl (n m:Nat) {e t:TypeId} {z:Value} {len:Nat} {parts:Array (Nat×Operand)} {l:List CV} {d:Nat} (hz:(P.info? e).map (·.zero)=some (some z)) (hK:∀ g,K ⟨(d,.os H.length g 0 len m)::env,b0,H++[(g,.blk n (fl l))]⟩) (ho:o.op=.buildSlice t len parts:=by exact rfl) (h1:P.underlying t=some (.slice e):=by kernel_rfl) (h5:(P.info? e).map (·.size)=some m:=by kernel_rfl) (hm:Nat.ble (len * m) 16777216=true:=by exact rfl) (hlen:Nat.ble len 16777216=true:=by exact rfl)
  (hf:fillC (fun i=>some (i * m,m)) ((List.range (len * m)).map fun i=>.c (z.cells[i % z.cells.size]!)) (parts.toList.map fun p=>(p.1,(⟨env,b0,H⟩:AS).eval p.2))=some l:=by exact rfl) (hn:l.length=n:=by exact rfl) (hle:n=len * m:=by exact rfl) (hd:o.dst=some d:=by exact rfl) (hN:Nat.blt d G.N=true:=by exact rfl):AEx P G o ⟨env,b0,H⟩ K:=e_buildSlice ho h1 h5 hz hm hlen hf hn hle hd hN hK
theorem jecP {f:FuncId} {xs:Array Operand} {ats:Array TypeId} {args:List CV} {m:CV} {d:Nat} (hA:ACp G.gs P f args m) (hK:K ⟨(d,m)::env,b0,H⟩) (ho:o.op=.call ⟨.value (.func f),xs,ats⟩:=by exact rfl) (hc:calleeB P f=true:=by kernel_rfl) (he:SEL G ⟨env,b0,H⟩ xs.toList args:=by (repeat (first|exact .nil|refine .cons (by first|exact se rfl cZ|exact se rfl CEnt.nil|exact se rfl cN|exact se rfl (cO rfl)|exact se rfl cP|exact se_nilO rfl|exact se rfl (CEnt.agg2 cZ cZ)|exact se rfl (CEnt.agg3 cZ cZ cZ)|exact se rfl (CEnt.agg4 cZ cZ cZ cZ)|exact se rfl (CEnt.agg5 cZ cZ cZ cZ cZ)|exact se rfl (CEnt.agg6 cZ cZ cZ cZ cZ cZ)|exact se_frzB _ rfl rfl rfl (by simp) (fun _ _=>cZ)) ?_))) (hd:o.dst=some d:=by exact rfl) (hN:Nat.blt d G.N=true:=by exact rfl):AEx P G o ⟨env,b0,H⟩ K:=e_callP ho hc hA he hd hN hK
theorem jecS {f:FuncId} {xs:Array Operand} {ats:Array TypeId} {args:List CV} {Q:CV→List (Option Nat×Res)→Prop} {d:Nat} (hA:AC G.gs P f [] args Q) (hK:∀ r H',Q r H'→K ⟨(d,r)::env,b0,H++H'⟩) (ho:o.op=.call ⟨.value (.func f),xs,ats⟩:=by exact rfl) (hc:calleeB P f=true:=by kernel_rfl) (he:SEL G ⟨env,b0,H⟩ xs.toList args:=by (repeat (first|exact .nil|refine .cons (by first|exact se rfl cZ|exact se rfl CEnt.nil|exact se rfl cN|exact se rfl (cO rfl)|exact se rfl cP|exact se_nilO rfl|exact se rfl (CEnt.agg2 cZ cZ)|exact se rfl (CEnt.agg3 cZ cZ cZ)|exact se rfl (CEnt.agg4 cZ cZ cZ cZ)|exact se rfl (CEnt.agg5 cZ cZ cZ cZ cZ)|exact se rfl (CEnt.agg6 cZ cZ cZ cZ cZ cZ)|exact se_frzB _ rfl rfl rfl (by simp) (fun _ _=>cZ)) ?_))) (hd:o.dst=some d:=by exact rfl) (hN:Nat.blt d G.N=true:=by exact rfl):AEx P G o ⟨env,b0,H⟩ K:=e_callS ho hc hA he hd hN hK
theorem jmcH (i:Nat) {f:FuncId} {xs:Array Operand} {ats:Array TypeId} {args:List CV} {Q:CV→List (Option Nat×Res)→Prop} {d:Nat} {x0:Option Nat×Res} (hA:AC G.gs P f [x0] args Q) (hK:∀ r H',Q r H'→∃ x r',H'=[x]∧CEnt r r'∧K ⟨(d,r')::env,b0,H.set i x⟩) (hi:H[i]?=some x0:=by exact rfl) (ho:o.op=.call ⟨.value (.func f),xs,ats⟩:=by exact rfl) (hc:calleeB P f=true:=by kernel_rfl) (he:SEL G ⟨env,b0,H⟩ xs.toList args:=by (repeat (first|exact .nil|refine .cons (by first|exact se rfl cZ|exact se rfl CEnt.nil|exact se rfl cN|exact se rfl (cO rfl)|exact se rfl cP|exact se_nilO rfl|exact se rfl (CEnt.agg2 cZ cZ)|exact se rfl (CEnt.agg3 cZ cZ cZ)|exact se rfl (CEnt.agg4 cZ cZ cZ cZ)|exact se rfl (CEnt.agg5 cZ cZ cZ cZ cZ)|exact se rfl (CEnt.agg6 cZ cZ cZ cZ cZ cZ)|exact se_frzB _ rfl rfl rfl (by simp) (fun _ _=>cZ)) ?_))) (hd:o.dst=some d:=by exact rfl) (hN:Nat.blt d G.N=true:=by exact rfl):AMd P G o ⟨env,b0,H⟩ K:=m_callH ho hc hi hA he hd hN hK
theorem jmcE (i:Nat) {f:FuncId} {xs:Array Operand} {ats:Array TypeId} {args:List CV} {m:CV} {d:Nat} {x0 x:Option Nat×Res} (hA:AC G.gs P f [x0] args fun r H'=>r=m∧H'=[x]) (hK:K ⟨(d,m)::env,b0,H.set i x⟩) (hi:H[i]?=some x0:=by exact rfl) (ho:o.op=.call ⟨.value (.func f),xs,ats⟩:=by exact rfl) (hc:calleeB P f=true:=by kernel_rfl) (he:SEL G ⟨env,b0,H⟩ xs.toList args:=by (repeat (first|exact .nil|refine .cons (by first|exact se rfl cZ|exact se rfl CEnt.nil|exact se rfl cN|exact se rfl (cO rfl)|exact se rfl cP|exact se_nilO rfl|exact se rfl (CEnt.agg2 cZ cZ)|exact se rfl (CEnt.agg3 cZ cZ cZ)|exact se rfl (CEnt.agg4 cZ cZ cZ cZ)|exact se rfl (CEnt.agg5 cZ cZ cZ cZ cZ)|exact se rfl (CEnt.agg6 cZ cZ cZ cZ cZ cZ)|exact se_frzB _ rfl rfl rfl (by simp) (fun _ _=>cZ)) ?_))) (hd:o.dst=some d:=by exact rfl) (hN:Nat.blt d G.N=true:=by exact rfl):AMd P G o ⟨env,b0,H⟩ K :=
 jmcH i hA (fun _ _ ⟨e1,e2⟩=>⟨x,m,e2,e1 ▸ cZ,hK⟩) hi ho hc he hd hN
theorem jmst (m:Nat) {t:TypeId} {p q:Operand} {i off n:Nat} {g:Option Nat} {f:Nat→CV} {c:CV} {l:List CV} (hK:K ⟨env,b0,H.set i (g,.blk n (updF f off l))⟩) (ho:o.op=.store t p q:=by exact rfl) (hx:(⟨env,b0,H⟩:AS).eval p=.op i g off:=by exact rfl) (hH:H[i]?=some (g,.blk n f):=by exact rfl) (hy:(⟨env,b0,H⟩:AS).eval q=c:=by first|exact jev_t rfl|exact jev_l rfl rfl rfl|exact jev_f rfl) (hl:cellsC c=some l:=by exact rfl) (hm:l.length=m:=by exact rfl) (h5:(P.info? t).map (·.size)=some m:=by kernel_rfl) (hleaf:l.all leafC=true:=by exact rfl) (hn:off+m≤n:=by first|decide|omega|(dsimp only at *;omega)) (hd:o.dst=none:=by exact rfl):AMd P G o ⟨env,b0,H⟩ K :=
 m_store ho hx hH hy hl h5 hm hleaf hn _ (fun _ _=>cZ) hd hK
theorem jmstF (m:Nat) (F:Nat→CV) {t:TypeId} {p q:Operand} {i off n:Nat} {g:Option Nat} {f:Nat→CV} {c:CV} {l:List CV} (hF:∀ j,j<n→CEnt (updF f off l j) (F j)) (hK:K ⟨env,b0,H.set i (g,.blk n F)⟩) (ho:o.op=.store t p q:=by exact rfl) (hx:(⟨env,b0,H⟩:AS).eval p=.op i g off:=by exact rfl) (hH:H[i]?=some (g,.blk n f):=by exact rfl) (hy:(⟨env,b0,H⟩:AS).eval q=c:=by first|exact jev_t rfl|exact jev_l rfl rfl rfl|exact jev_f rfl) (hl:cellsC c=some l:=by exact rfl) (hm:l.length=m:=by exact rfl) (h5:(P.info? t).map (·.size)=some m:=by kernel_rfl) (hleaf:l.all leafC=true:=by exact rfl) (hn:off+m≤n:=by first|decide|omega|(dsimp only at *;omega)) (hd:o.dst=none:=by exact rfl):AMd P G o ⟨env,b0,H⟩ K :=
 m_store ho hx hH hy hl h5 hm hleaf hn F hF hd hK
theorem javt {t:Nat} {c:CV} (h:s.eval (.tmp t)=c:=by first|exact jev_t rfl|exact jev_l rfl rfl rfl|exact jev_f rfl):ARV P G s (.tmp t) c:=arv_tmp h
theorem jrt {fn:Func} {e:Exit} {v m:CV} (hres:ARes P G fn s v:=by first|exact res_1 rfl javt|exact res_2 rfl javt javt|exact res_3 rfl javt javt javt|exact res_4 rfl javt javt javt javt|exact res_0 rfl) (hv:CEnt v m:=by first|exact cZ|exact CEnt.nil) (he:e=.ret∨e=.normal:=by first|exact .inl rfl|exact .inr rfl):bodyR P G fn (fun r H=>r=m∧H=[]) e s:=end_val he hres hv
theorem jlend {α:Type} {k:Nat} {φ:α→Prop} {μ:α→Nat} {D:List Nat} {M:α→List (Nat×CV)} {Hp:α→List (Option Nat×Res)} {b1:Nat→CV} (p':α) (h1:φ p') (h2:μ p'<k) (h5:EntE s.env s.b (M p'):=by (repeat (first|exact EntE.nil|refine EntE.cons cZ ?_|refine EntE.cons (cI (by omega)) ?_))) (h7:HEnt (s.H.take (Hp p').length) (Hp p'):=by (repeat (first|exact HEnt.nil|refine HEnt.same ?_|refine HEnt.blk rfl (fun j hj=>by rcases j with _|_|_|_|_|_|_|_|j <;> first|exact cZ|exact cI (by omega)|omega) ?_)))
  (h3:BLe D b1 s.b:=by first|exact .refl|exact .nest .refl rfl rfl|exact .nest (.nest .refl rfl rfl) rfl rfl|exact .nest (.nest (.nest .refl rfl rfl) rfl rfl) rfl rfl|(repeat (first|exact .refl|refine .nest ?_ rfl rfl|refine BLe.look2 ?_ rfl))) (h4:(s.env.all fun x=>D.any (Nat.beq x.1))=true:=by exact rfl) (h6:(Hp p').length≤s.H.length:=by exact Nat.le_of_ble_eq_true rfl) :
  ∃ p',φ p'∧μ p'<k∧BLe D b1 s.b∧(s.env.all fun x=>D.any (Nat.beq x.1))=true∧EntE s.env s.b (M p')∧(Hp p').length≤s.H.length∧HEnt (s.H.take (Hp p').length) (Hp p'):=⟨p',h1,h2,h3,h4,h5,h6,h7⟩
theorem jjend {α:Type} {φ:α→Prop} {D:List Nat} {M:α→List (Nat×CV)} {Hp:α→List (Option Nat×Res)} {b1:Nat→CV} (p':α) (h1:φ p') (h5:EntE s.env s.b (M p'):=by (repeat (first|exact EntE.nil|refine EntE.cons cZ ?_|refine EntE.cons (cI (by omega)) ?_))) (h7:HEnt (s.H.take (Hp p').length) (Hp p'):=by (repeat (first|exact HEnt.nil|refine HEnt.same ?_|refine HEnt.blk rfl (fun j hj=>by rcases j with _|_|_|_|_|_|_|_|j <;> first|exact cZ|exact cI (by omega)|omega) ?_)))
  (h3:BLe D b1 s.b:=by first|exact .refl|exact .nest .refl rfl rfl|exact .nest (.nest .refl rfl rfl) rfl rfl|exact .nest (.nest (.nest .refl rfl rfl) rfl rfl) rfl rfl|(repeat (first|exact .refl|refine .nest ?_ rfl rfl|refine BLe.look2 ?_ rfl))) (h4:(s.env.all fun x=>D.any (Nat.beq x.1))=true:=by exact rfl) (h6:(Hp p').length≤s.H.length:=by exact Nat.le_of_ble_eq_true rfl) :
  ∃ p',φ p'∧BLe D b1 s.b∧(s.env.all fun x=>D.any (Nat.beq x.1))=true∧EntE s.env s.b (M p')∧(Hp p').length≤s.H.length∧HEnt (s.H.take (Hp p').length) (Hp p'):=⟨p',h1,h3,h4,h5,h6,h7⟩
end
section
variable {G:Gh} {o:Oper} {s:AS}
def jerrN:CV→Option Nat
 | .err k=>some k
 | .c .nilIface=>some 0
 | _=>none
def jerrZ (op:BinOp) (n:Nat):Option Bool:=match op with|.eql=>some (decide (n=0))|.neq=>some (decide (n≠0))|_=>none
theorem jre {op:BinOp} {x:Operand} {u:TypeId} {n:Nat} {z:Bool} (ho:o.op=.binOp op 27 x (.const .nilIface) u:=by exact rfl) (hx:jerrN (s.eval x)=some n:=by exact rfl) (hz:jerrZ op n=some z:=by exact rfl):ARd Tryd.prog G o s (.c (.bool z)):=by
 unfold jerrN at hx
 cases op <;> simp only [jerrZ,Option.some.injEq,reduceCtorEq] at hz
 all_goals subst hz
 ·split at hx
  ·rename_i h;cases hx;exact rd_eqE ho h
  ·rename_i h;cases hx;exact rd_eqE0 ho h
  ·cases hx
 ·split at hx
  ·rename_i h;cases hx;exact rd_neE ho h
  ·rename_i h;cases hx;exact rd_neE0 ho h
  ·cases hx
end
end
section
section
variable {P:Program} {G:Gh} {o:Oper} {env:List (Nat×CV)} {b0:Nat→CV} {H:List (Option Nat×Res)} {K:AS→Prop}
theorem freeze_heap (w:World) (b k:Nat) {cur:Array Value} {ty:TypeId} (h:w.heap[b]?=some (.cells cur ty (0,0))):(w.freeze ⟨b,k,none⟩ 1).heap[b]?=some (.cells cur ty (k,k+1)):=by
 unfold World.freeze
 rw [if_neg (by decide)]
 simp only [Array.getElem?_modify,h,if_true,Option.map_some]
 rfl
theorem freeze_other (w:World) (b k q:Nat) (hq:q≠b):(w.freeze ⟨b,k,none⟩ 1).heap[q]?=w.heap[q]?:=by
 unfold World.freeze
 rw [if_neg (by decide)]
 simp only [Array.getElem?_modify]
 rw [if_neg (fun h=>hq h.symm)]
theorem freeze_size (w:World) (b k:Nat):(w.freeze ⟨b,k,none⟩ 1).heap.size=w.heap.size∧(w.freeze ⟨b,k,none⟩ 1).os=w.os∧(w.freeze ⟨b,k,none⟩ 1).tape=w.tape∧(w.freeze ⟨b,k,none⟩ 1).output=w.output:=by
 unfold World.freeze
 rw [if_neg (by decide)]
 exact ⟨by simp,rfl,rfl,rfl⟩
theorem RelSt.mark {St:Nat→Prop} {s:AS} {a:Act} {w:World} (h:RelSt G St s a w) {i g n:Nat} {f:Nat→CV} (hH:s.H[i]?=some (some g,.blk n f)) {cur:Array Value} {ty:TypeId} (hc:w.heap[g]?=some (.cells cur ty (0,0))) (k:Nat) :
  (∀ b,St b→b≠g)∧RelSt G (fun b=>St b∨b=g) ⟨s.env,s.b,s.H.set i (some g,.frz n f)⟩ a (w.freeze ⟨g,k,none⟩ 1):=by
 obtain ⟨fp,hp⟩:=h.hp
 have hlt:i<s.H.length:=(List.getElem?_eq_some_iff.1 hH).1
 have hrep:=hp.rep i (some g) _ hH
 have hg:fp i g:=(hrep.1 g).2 rfl
 obtain ⟨hg1,hg2,hg3⟩:=hp.own i g hg
 have hnew:=freeze_heap w g k hc
 have hold:∀ b,b≠g→(w.freeze ⟨g,k,none⟩ 1).heap[b]?=w.heap[b]?:=fun b hb=>freeze_other w g k b hb
 obtain ⟨hsz,ho,ht,hu⟩:=freeze_size w g k
 have hs:∀ b,St b→St b∨b=g:=fun _ h=>.inl h
 have hne:∀ b,St b→b≠g:=fun b hb e=>hg2 (e ▸ hb)
 have he:Evo St w (w.freeze ⟨g,k,none⟩ 1):=⟨fun b cu ct cz hb hcu=>(hold b (hne b hb)).trans hcu,fun b cu t z hb=>by
  by_cases e:b=g
  ·subst e
   rw [hc] at hb
   cases hb
   exact ⟨cur,_,hnew,rfl⟩
  ·exact ⟨cu,z,(hold b e).trans hb,rfl⟩⟩
 refine ⟨hne,h.df.keep hs (fun b hb=>hold b (hne b hb)),h.sz,fun d=>RepC.evo he hs _ _ (h.env d),⟨ho.trans h.un.os,ht.trans h.un.tape,hu.trans h.un.output,by rw [hsz];exact h.un.size,fun k hk hF=>?_,fun b cu t z hb=>?_⟩,fun b hb=>.inl (h.s1 b hb),fun b hb=>?_,fun b hb=>?_,?_,?_,fun q hq=>.inl (h.sg.1 q hq),fun x hx=>.inl (h.sg.2 x hx)⟩
 ·refine (hold k (fun e=>?_)).trans (h.un.block k hk hF)
  subst e
  rcases hg3 with h1|h1
  ·omega
  ·exact hF h1
 ·obtain ⟨cur',z',h1,h2⟩:=h.un.sh b cu t z hb
  obtain ⟨cur2,z2,h3,h4⟩:=he.sh b cur' t z' h1
  exact ⟨cur2,z2,h3,h4.trans h2⟩
 ·rcases hb with hb|rfl
  ·exact h.s2 b hb
  ·exact .inr hg3
 ·rw [hsz]
  rcases hb with hb|rfl
  ·exact h.s3 b hb
  ·exact hg1
 ·refine ⟨fun j b=>j≠i∧fp j b,fun j q r hj=>?_,fun j l b h1 h2=>hp.dis j l b h1.2 h2.2,fun j b h1=>?_,fun j hj b h1=>hp.out j (by simpa using hj) b h1.2⟩
  ·by_cases e:j=i
   ·subst e
    simp [hlt] at hj
    obtain ⟨rfl,rfl⟩:=hj
    obtain ⟨h0,cur',t',h1,h2,h3⟩:=hrep
    rw [hc] at h1
    cases h1
    exact ⟨fun b hb=>absurd rfl hb.1,.inr rfl,cur,ty,_,hnew,h2,fun m hm=>RepC.evo he hs _ _ (h3 m hm)⟩
   ·rw [List.getElem?_set_ne (Ne.symm e)] at hj
    have e2:(fun b=>j≠i∧fp j b)=fp j:=funext fun b=>propext ⟨fun h=>h.2,fun h=>⟨e,h⟩⟩
    show r.rep G.al _ _ (fun b=>j≠i∧fp j b) q
    rw [e2]
    exact Res.rep_evo he hs (fun b hF=>hold b (fun e3=>e (hp.dis j i b hF (e3 ▸ hg)))) (hp.rep j q r hj)
  ·obtain ⟨h2,h3,h4⟩:=hp.own j b h1.2
   exact ⟨by rw [hsz];exact h2,fun hb=>hb.elim h3 fun hb=>h1.1 (hp.dis j i b h1.2 (hb ▸ hg)),h4⟩
 ·exact SentL.keep h.sn (fun q hq=>hold q (hne q (h.sg.1 q hq))) (fun q hq=>hold _ (hne _ (h.sg.2 q hq)))
end
end
section
section
variable {P:Program} {G:Gh} {ops:Array Oper} {o:Oper} {s:AS} {K:AS→Prop} {t u:TypeId} {x y:Operand} {env:List (Nat×CV)} {b0:Nat→CV} {H:List (Option Nat×Res)}
def cpyF (off c:Nat) (f h:Nat→CV) (j:Nat):CV:=if off≤j∧j<off+c then h (j-off) else f j
end
section
variable {P:Program} {G:Gh} {o:Oper} {K:AS→Prop} {env:List (Nat×CV)} {b0:Nat→CV} {H:List (Option Nat×Res)}
end
section
variable {P:Program} {G:Gh} {o:Oper} {s:AS} {t:TypeId} {x y:Operand} {k:IntKind}
def jaryB (P:Program) (t:TypeId) (n:Nat):Bool:=match P.underlying t with
 | some (.array k e)=>(match P.underlying e,(P.info? e).map (·.size) with|some (.int .u8),some 1=>Nat.beq k n|_,_=>false)
 | _=>false
end
end
section
section
variable {β:Type}
def mget (l:List (List UInt8×β)) (k:List UInt8):Option β:=(l.find? fun x=>x.1 == k).map (·.2)
def mset:List (List UInt8×β)→List UInt8→β→List (List UInt8×β)
 | [],k,v=>[(k,v)]
 | x::r,k,v=>if x.1 == k then (k,v)::r else x::mset r k v
def keyV (k:List UInt8):Value:=.string ⟨k.toArray⟩
def EntsOk (al:List Addr) (St:Nat→Prop) (w:World) (vC:β→CV):List MapEntry→List (List UInt8×β)→Prop
 | [],[]=>True
 | e::es,x::l=>e.key=keyV x.1∧RepC al St w (vC x.2) e.val∧EntsOk al St w vC es l
 | _,_=>False
theorem EntsOk.evo {al:List Addr} {St St':Nat→Prop} {w w':World} (he:Evo St w w') (hs:∀ b,St b→St' b) {vC:β→CV}:∀ {es:List MapEntry} {l:List (List UInt8×β)},EntsOk al St w vC es l→EntsOk al St' w' vC es l
 | [],[],_=>trivial
 | e::es,x::l,h=>⟨h.1,RepC.evo he hs _ _ h.2.1,EntsOk.evo he hs h.2.2⟩
 | [],_::_,h=>h.elim
 | _::_,[],h=>h.elim
def mapO (vC:β→CV) (l:List (List UInt8×β)):OP where
 p al St w g F:=(∀ b,F b↔b=g)∧∃ es clock,w.heap[g]?=some (.map es clock)∧EntsOk al St w vC es.toList l
 st:=fun he hs hF ⟨h0,es,clock,h1,h2⟩=>⟨h0,es,clock,(hF _ ((h0 _).2 rfl)).trans h1,h2.evo he hs⟩
end
end
section
open Go.RowKit Go.MapKept
section
variable {β:Type} {P:Program} {G:Gh} {o:Oper} {s:AS} {K:AS→Prop} {t kt et:TypeId} {x y z:Operand} {vC:β→CV} {l:List (List UInt8×β)} {k:List UInt8} {i g:Nat}
end
end
section
open Go.RowKit Go.MapKept
section
variable {β:Type} {P:Program} {G:Gh} {o:Oper} {s:AS} {K:AS→Prop} {t kt et:TypeId} {x y z:Operand} {vC:β→CV} {l:List (List UInt8×β)} {k:List UInt8} {i g:Nat}
theorem RelSt.freshO {St:Nat→Prop} {a:Act} {w w':World} (h:RelSt G St s a w) (hb:Below w.heap.size w w') {g:Nat} (hg:w.heap.size≤g) {p:OP} (hlt:g<w'.heap.size) (hp0:p.p G.al St w' g (fun b=>b=g)):RelSt G St ⟨s.env,s.b,s.H++[(some g,.obj p)]⟩ a w':=by
 have h1:=h.ext hb
 refine ⟨h1.df,h1.sz,h1.env,h1.un,h1.s1,h1.s2,h1.s3,?_,h1.sn,h1.sg⟩
 obtain ⟨fp,hp⟩:=h.hp
 obtain ⟨fp1,hp1⟩:=h1.hp
 have he:Evo St w w':=Evo.of_below hb h.s3
 have hnew:∀ i,¬ fp i g:=fun i hi=>by have:=(hp.own i g hi).1;omega
 refine ⟨fun i b=>if i=s.H.length then b=g else fp i b,fun i q r hi=>?_,fun i j b h2 h3=>?_,fun i b h2=>?_,fun i hi b h2=>?_⟩
 ·by_cases e:i=s.H.length
  ·subst e
   simp at hi
   obtain ⟨rfl,rfl⟩:=hi
   show p.p G.al St w' g (fun b=>if s.H.length=s.H.length then b=g else fp s.H.length b)
   have e2:(fun b=>if s.H.length=s.H.length then b=g else fp s.H.length b)=fun b=>b=g:=funext fun b=>by simp
   rw [e2]
   exact hp0
  ·have hi':s.H[i]?=some (q,r):=by
    rcases Nat.lt_or_ge i s.H.length with h4|h4
    ·rwa [List.getElem?_append_left h4] at hi
    ·rw [List.getElem?_eq_none (by simp;omega)] at hi;cases hi
   have e2:(fun b=>if i=s.H.length then b=g else fp i b)=fp i:=funext fun b=>by simp [e]
   show r.rep G.al St w' (fun b=>if i=s.H.length then b=g else fp i b) q
   rw [e2]
   exact Res.rep_evo he (fun _ x=>x) (fun b hF=>hb.block b (hp.own i b hF).1) (hp.rep i q r hi')
 ·by_cases e1:i=s.H.length <;> by_cases e2:j=s.H.length
  ·omega
  ·simp only [e1,e2,if_true,if_false] at h2 h3;subst h2;exact absurd h3 (hnew j)
  ·simp only [e1,e2,if_true,if_false] at h2 h3;subst h3;exact absurd h2 (hnew i)
  ·simp only [e1,e2,if_false] at h2 h3;exact hp.dis i j b h2 h3
 ·by_cases e:i=s.H.length
  ·simp only [e,if_true] at h2
   subst h2
   exact ⟨hlt,fun hs=>by have:=h.s3 _ hs;omega,.inl (Nat.le_trans h.un.size hg)⟩
  ·simp only [e,if_false] at h2
   obtain ⟨h3,h4,h5⟩:=hp.own i b h2
   exact ⟨Nat.lt_of_lt_of_le h3 hb.size,h4,h5⟩
 ·have e:i≠s.H.length:=by simp at hi;omega
  simp only [e,if_false] at h2
  exact hp.out i (by simp at hi;omega) b h2

end
end
section
def txV (k:List UInt8):Value:=.string ⟨k.toArray⟩
def txsV (l:List (List UInt8)):Array Value:=(l.map txV).toArray
theorem txsV_size (l:List (List UInt8)):(txsV l).size=l.length:=by simp [txsV]
theorem txsV_push (l:List (List UInt8)) (x:List UInt8):(txsV l).push (txV x)=txsV (l++[x]):=by simp [txsV]
theorem txsV_head (x:List UInt8) (l:List (List UInt8)):(txsV (x::l)).getD 0 undef=txV x:=by simp [txsV]
theorem txsV_tail (x:List UInt8) (l:List (List UInt8)):(txsV (x::l)).extract 1 (txsV (x::l)).size=txsV l:=by
 simp only [txsV,List.map_cons]
 simp
 exact List.take_of_length_le (by simp)
def chanO (room:Nat) (l:List (List UInt8)):OP where
 p al St w g F:=(∀ b,F b↔b=g)∧∃ s r,w.heap[g]?=some (.chan room (txsV l) false s r false)
 st:=fun he hs hF ⟨h0,s,r,h1⟩=>⟨h0,s,r,(hF _ ((h0 _).2 rfl)).trans h1⟩
def boxF (c:Nat) (lost:Int):Nat→CV:=fl [.c (.chan (some c)),.c (.int .i64 lost)]
def boxE (room:Nat) (lost:Int) (l:List (List UInt8)) (z:Nat×Nat):List (Option Nat×Res):=[(some z.1,.blk 2 (boxF z.2 lost)),(some z.2,.obj (chanO room l))]
def boxO (n room:Nat) (lost:Int) (l:List (List UInt8)):Option Nat×Res:=objE n (fun z:Nat×Nat=>z.1) (boxE room lost l)
section
variable {P:Program} {G:Gh} {o:Oper} {s:AS} {K:AS→Prop} {t e:TypeId} {x:Operand} {dir:ChanDir} {c room i n:Nat} {lost:Int} {l:List (List UInt8)}
theorem ac_chan {gs:List Nat} {f:FuncId} {l':List (List UInt8)} {args:List CV} {res:Value} {m:CV} (hm:∀ al St w,RepC al St w m res)
  (h:∀ (al:List Addr) (St:Nat→Prop) (w:World) (c s r:Nat) (vals:Array Value),vals.size=args.length→(∀ i,RepC al St w (fl args i) (vals.getD i undef))→w.cell? ⟨n,0,none⟩=some (.chan (some c))→w.heap[c]?=some (.chan room (txsV l) false s r false) →
   Calls P f vals w fun e w'=>e=.returned res∧((w'=w∧l'=l)∨∃ s' r',w'=w.setChan c room (txsV l') false s' r' false)) :
  AC gs P f [boxO n room lost l] args (fun r H'=>r=m∧H'=[boxO n room lost l']):=fun al w St F0 vals he hs hv=>by
 obtain ⟨fp,hp⟩:=he.hp
 obtain ⟨⟨n',c⟩,hz,fe,hf⟩:=hp.rep 0 _ _ rfl
 obtain rfl:n'=n:=hz
 obtain ⟨a0,cur,t,a1,a2,a3⟩:=hf.rep 0 _ _ rfl
 obtain ⟨b0,s,r,b1⟩:=hf.rep 1 _ _ rfl
 have f0:fe 0 n':=(a0 n').2 rfl
 have f1:fe 1 c:=(b0 c).2 rfl
 have hne:n'≠c:=fun e=>by have:=hf.dis 0 1 c (e ▸ f0) f1;omega
 obtain ⟨o1,o2,o3⟩:=hp.own 0 c ((hf.all c).2 ⟨1,f1⟩)
 have hcF:F0 c:=o3.resolve_left (by omega)
 have hc0:w.cell? ⟨n',0,none⟩=some (.chan (some c)):=by
  have h2:0<cur.size:=by omega
  rw [cell_of_row w n' _ cur t _ a1]
  have h3:cur.getD 0 undef=.chan (some c):=a3 0 (by omega)
  simp [h2] at h3 ⊢
  exact h3
 refine (h al St w c s r vals hs hv hc0 b1).mono ?_
 rintro e w' ⟨rfl,hw⟩
 rcases hw with ⟨rfl,rfl⟩|⟨s',r',rfl⟩
 ·exact ⟨_,m,_,St,rfl,⟨rfl,rfl⟩,hm _ _ _,Under.refl _ _,fun _ h=>h,fun _ h=>.inl h,he.s3,⟨fp,hp⟩⟩
 ·have hold:∀ b,b≠c→(w.setChan c room (txsV l') false s' r' false).heap[b]?=w.heap[b]?:=fun b hb=>by
   simp only [World.setChan]
   exact Array.getElem?_setIfInBounds_ne (Ne.symm hb)
  have hsz:(w.setChan c room (txsV l') false s' r' false).heap.size=w.heap.size:=by simp [World.setChan]
  have hev:Evo St w (w.setChan c room (txsV l') false s' r' false):=⟨fun b cu ct cz hb hcu=>(hold b (fun e=>o2 (e ▸ hb))).trans hcu,fun b cu ct z hb2=>by
   by_cases e:b=c
   ·subst e
    rw [b1] at hb2
    cases hb2
   ·exact ⟨cu,z,(hold b e).trans hb2,rfl⟩⟩
  refine ⟨_,m,[boxO n' room lost l'],St,rfl,⟨rfl,rfl⟩,hm _ _ _,⟨rfl,rfl,rfl,Nat.le_of_eq hsz.symm,fun k hk hF=>hold k (fun e=>hF (e ▸ hcF)),hev.sh⟩,fun _ h=>h,fun _ h=>.inl h,fun b hb=>Nat.lt_of_lt_of_eq (he.s3 b hb) hsz.symm,fp,fun i g q hi=>?_,hp.dis,fun i b hb=>⟨Nat.lt_of_lt_of_eq (hp.own i b hb).1 hsz.symm,(hp.own i b hb).2⟩,hp.out⟩
  cases i with
  | succ i=>simp at hi
  | zero =>
   simp only [boxO,objE,List.getElem?_cons_zero,Option.some.injEq,Prod.mk.injEq] at hi
   obtain ⟨rfl,rfl⟩:=hi
   refine ⟨(n',c),rfl,fe,fun j g q hj=>?_,hf.dis,hf.out,hf.all⟩
   rcases j with _|_|j
   ·simp only [boxE,List.getElem?_cons_zero,Option.some.injEq,Prod.mk.injEq] at hj
    obtain ⟨rfl,rfl⟩:=hj
    exact Res.rep_evo hev (fun _ h=>h) (fun b hb=>hold b (fun e=>by have:=(a0 b).1 hb;omega)) (show Res.rep al St w (fe 0) (some n') (.blk 2 (boxF c lost)) from ⟨a0,cur,t,a1,a2,a3⟩)
   ·simp only [boxE,List.getElem?_cons_succ,List.getElem?_cons_zero,Option.some.injEq,Prod.mk.injEq] at hj
    obtain ⟨rfl,rfl⟩:=hj
    exact ⟨b0,s',r',Go.Conc.heap_setChan _ _ _ _ _ _ _ _ o1⟩
   ·simp [boxE] at hj
theorem chanAt {St:Nat→Prop} {a:Act} {w:World} (h:RelSt G St s a w) (hH:s.H[i]?=some (some c,.obj (chanO room l))):c<w.heap.size∧∃ q r,w.heap[c]?=some (.chan room (txsV l) false q r false):=by
 obtain ⟨fp,hp⟩:=h.hp
 obtain ⟨h0,q,r,h1⟩:=hp.rep i (some c) _ hH
 exact ⟨(hp.own i c ((h0 c).2 rfl)).1,q,r,h1⟩
theorem rd_lenCh (ho:o.op=.call ⟨.builtin .len,#[x],#[t]⟩) (hx:s.eval x=.c (.chan (some c))) (hH:s.H[i]?=some (some c,.obj (chanO room l))) (h1:P.underlying t=some (.chan dir e)):ARdO P G o s (.c (.int .i64 (l.length:Nat))):=fun St a w h=>by
 obtain ⟨hlt,q,r,hb⟩:=chanAt h hH
 refine ⟨.int .i64 (l.length:Nat),fun W hW=>exec_len ho ?_,rfl⟩
 rw [evC h hx,Go.Conc.run_len_chan t o.type h1 ((hW.block c hlt).trans hb),txsV_size]
 rfl
theorem rd_capCh (ho:o.op=.call ⟨.builtin .cap,#[x],#[t]⟩) (hx:s.eval x=.c (.chan (some c))) (hH:s.H[i]?=some (some c,.obj (chanO room l))) (h1:P.underlying t=some (.chan dir e)):ARdO P G o s (.c (.int .i64 (room:Nat))):=fun St a w h=>by
 obtain ⟨hlt,q,r,hb⟩:=chanAt h hH
 refine ⟨.int .i64 (room:Nat),fun W hW=>exec_cap ho ?_,rfl⟩
 rw [evC h hx,Go.Conc.run_cap_chan t o.type h1 ((hW.block c hlt).trans hb)]
 rfl
theorem ex_makeChan {bytes:Nat} (ho:o.op=.makeChan t x) (hx:s.eval x=.c (.int .i64 (n:Nat))) (h1:P.underlying t=some (.chan dir e)) (hi:(P.info? e).map (·.bytes)=some bytes) (hn:n≤1000) (hb:bytes≤1000) (hd:dstOk G o=true) (hK:∀ c:Nat,K (s.with o.dst (.c (.chan (some c))) (s.H++[(some c,.obj (chanO n []))]))):AEx P G o s K:=fun St a w hr Q=>by
 obtain ⟨info,hi2,rfl⟩:=Option.map_eq_some_iff.1 hi
 have hm:(info.bytes:Int) * n≤281474976710544:=by
  have h5:info.bytes * n≤1000 * 1000:=Nat.mul_le_mul hb hn
  have h6:((info.bytes * n:Nat):Int)≤1000000:=by omega
  rw [Int.natCast_mul] at h6
  omega
 have hrun:(execOp a.eval o).run P w=.ok (.value (.chan (some w.heap.size))) (w.alloc (.chan n #[] false 0 0 false)):=by
  simp only [execOp,ho]
  refine vOk ?_
  rw [evC hr hx]
  exact Go.Conc.run_makeChan h1 hi2 .i64 n (by omega) hm
 have hnew:=heap_alloc_new w (.chan n #[] false 0 0 false)
 unfold Oper.wp
 rw [hrun]
 refine ⟨below_alloc w _,St,fun _ h=>h,_,hK w.heap.size,?_⟩
 have:=(hr.freshO (below_alloc w (.chan n #[] false 0 0 false)) (Nat.le_refl _) (p:=chanO n []) (Array.getElem?_eq_some_iff.1 hnew).1 ⟨fun b=>Iff.rfl,0,0,hnew⟩).put (dst:=o.dst) (v:=.c (.chan (some w.heap.size))) (x:=.chan (some w.heap.size)) (dst_of hd) rfl
 cases ho:o.dst with
 | none=>rw [ho] at this;exact this
 | some d=>rw [ho] at this;exact this
end
section
variable {P:Program} {G:Gh} {cd:Code} {R:Exit→AS→Prop} {n room:Nat} {lost:Int} {l:List (List UInt8)} {env:List (Nat×CV)} {b0:Nat→CV} {H:List (Option Nat×Res)}
theorem code_openB (i:Nat) (hi:H[i]?=some (boxO n room lost l)) (h:∀ c,ACode P G cd ⟨env,b0,H.set i (some n,.blk 2 (boxF c lost))++[(some c,.obj (chanO room l))]⟩ R):ACode P G cd ⟨env,b0,H⟩ R:=by
 refine code_unpack i hi fun z hz=>?_
 obtain ⟨n',c⟩:=z
 obtain rfl:n'=n:=hz
 exact h c
theorem closeB (n room:Nat) (lost:Int) (l:List (List UInt8)) (i j:Nat) {c N:Nat} {f:Nat→CV} (hi:H[i]?=some (some n,.blk N f)) (hj:H[j]?=some (some c,.obj (chanO room l))) (hij:Nat.beq i j=false) (hN:2≤N) (h0:CEnt (f 0) (.c (.chan (some c)))) (h1:CEnt (f 1) (.c (.int .i64 lost))) :
  EntS G ⟨env,b0,H⟩ ⟨env,b0,(H.set i (boxO n room lost l)).set j (none,.dead)⟩:=by
 have hij:=Nat.ne_of_beq_eq_false hij
 have hil:=(List.getElem?_eq_some_iff.1 hi).1
 have hjl:=(List.getElem?_eq_some_iff.1 hj).1
 refine EntS.hrel fun h=>?_
 have h2:=h.weak (F:=boxF c lost) hi hN fun a ha=>by
  rcases a with _|_|a
  ·exact h0
  ·exact h1
  ·omega
 have h4:=h2.closeN (gd:=fun z:Nat×Nat=>z.1) (E:=boxE room lost l) (n,c) i [j] (by simp [hij]) (by simp [hil,hjl]) (by
  simp only [pickL,List.map_cons,List.map_nil,List.getD_eq_getElem?_getD]
  rw [List.getElem?_set_ne hij,hj]
  simp [hil,boxE])
 have e:killL ((H.set i (some n,Res.blk 2 (boxF c lost))).set i (objE n (fun z:Nat×Nat=>z.1) (boxE room lost l))) [j]=(H.set i (boxO n room lost l)).set j (none,.dead):=by
  rw [List.set_set]
  rfl
 rw [← e]
 exact h4
theorem jemc (n:Nat) {t e:TypeId} {dir:ChanDir} {x:Operand} {d bytes:Nat} {P:Program} {o:Oper} {K:AS→Prop} (h1:P.underlying t=some (.chan dir e)) (hi:(P.info? e).map (·.bytes)=some bytes) (hn:n≤1000) (hb:bytes≤1000) (hK:∀ c:Nat,K ⟨(d,.c (.chan (some c)))::env,b0,H++[(some c,.obj (chanO n []))]⟩) (ho:o.op=.makeChan t x:=by exact rfl) (hx:(⟨env,b0,H⟩:AS).eval x=.c (.int .i64 (n:Nat)):=by exact rfl) (hd:o.dst=some d:=by exact rfl) (hN:Nat.blt d G.N=true:=by exact rfl):AEx P G o ⟨env,b0,H⟩ K :=
 ex_makeChan ho hx h1 hi hn hb (dst_s hd hN) (fun c=>by rw [with_some hd];exact hK c)
end
end
section
def ssF (ls:List (List UInt8)) (j:Nat):CV:=strC (ls.getD j [])
def ssC (ls:List (List UInt8)):CV:=.rs 1 ls.length fun i _=>strC (ls.getD i [])
theorem rowC_ss:RowC 1 ssF:=fun l l2 j hj=>by
 simp only [ssF,List.getD_eq_getElem?_getD]
 split
 ·rw [List.getElem?_append_left (by omega)]
 ·rw [List.getElem?_append_right (by omega),Nat.mul_one]
theorem ss_thaw {ls:List (List UInt8)}:∀ a b,a<ls.length→b<1→CEnt (ssF ls (0+(a * 1+b))) (strC (ls.getD a [])):=fun a b ha hb=>CEnt.of_eq (by rw [show 0+(a * 1+b)=a by omega];rfl)
end
section
variable {gs:List Nat} [OkG gs]

def bxPut (room:Nat) (x:List UInt8) (l:List (List UInt8)):List (List UInt8):=if l.length<room then l++[x] else l
theorem bput_ac {gs:List Nat} (n room:Nat) (lost:Int) (l:List (List UInt8)) (x:List UInt8):AC gs Tryd.prog 26 [boxO n room lost l] [.op 0 (some n) 0,strC x] (fun r H'=>r=.c (.bool (decide (l.length<room)))∧H'=[boxO n room lost (bxPut room x l)]):=by
 refine ac_chan (fun _ _ _=>rfl) fun al St w c s r vals hs hv h0 hc=>?_
 obtain ⟨b,hb,e0⟩:=hv 0
 obtain rfl:=Option.some.inj hb
 rw [vals2 hs,e0,show vals.getD 1 undef=.string ⟨x.toArray⟩ from hv 1]
 by_cases h:l.length<room
 ·refine (put35s_room ⟨x.toArray⟩ h0 hc (by rw [txsV_size];exact h)).mono ?_
  rintro e w' ⟨rfl,rfl⟩
  refine ⟨by rw [decide_eq_true h],.inr ⟨s+1,r,?_⟩⟩
  unfold bxPut
  rw [if_pos h,← txsV_push]
  rfl
 ·refine (put35s_full ⟨x.toArray⟩ h0 hc (by rw [txsV_size];omega)).mono ?_
  rintro e w' ⟨rfl,rfl⟩
  refine ⟨by rw [decide_eq_false h],.inl ⟨rfl,?_⟩⟩
  unfold bxPut
  rw [if_neg h]
def tkC (l:List (List UInt8)):CV:=.tup 2 (fl [strC (l.headD []),.c (.bool (!l.isEmpty))])
theorem btake_ac {gs:List Nat} (n room:Nat) (lost:Int) (l:List (List UInt8)):AC gs Tryd.prog 10 [boxO n room lost l] [.op 0 (some n) 0] (fun r H'=>r=tkC l∧H'=[boxO n room lost l.tail]):=by
 have tk:∀ (x:List UInt8) (b:Bool) al St w,RepC al St w (.tup 2 (fl [strC x,.c (.bool b)])) (.tuple #[txV x,.bool b]):=fun x b al St w=>⟨#[txV x,.bool b],rfl,rfl,fun i hi=>by
  rcases i with _|_|i
  ·rfl
  ·rfl
  ·omega⟩
 cases l with
 | nil =>
  refine ac_chan (res:=.tuple #[txV [],.bool false]) (tk [] false) fun al St w c s r vals hs hv h0 hc=>?_
  obtain ⟨b,hb,e0⟩:=hv 0
  obtain rfl:=Option.some.inj hb
  rw [vals1 hs,e0]
  refine (take35s_none h0 hc).mono ?_
  rintro e w' ⟨rfl,rfl⟩
  exact ⟨rfl,.inl ⟨rfl,rfl⟩⟩
 | cons x l =>
  refine ac_chan (res:=.tuple #[txV x,.bool true]) (tk x true) fun al St w c s r vals hs hv h0 hc=>?_
  obtain ⟨b,hb,e0⟩:=hv 0
  obtain rfl:=Option.some.inj hb
  rw [vals1 hs,e0]
  refine (take35s_some ⟨x.toArray⟩ h0 hc (by simp [txsV]) (txsV_head x l)).mono ?_
  rintro e w' ⟨rfl,rfl⟩
  refine ⟨rfl,.inr ⟨s,r+1,?_⟩⟩
  rw [txsV_tail]
  rfl
end
section
variable {gs:List Nat} [OkG gs]

theorem chb:(Tryd.prog.info? 9).map (·.bytes)=some 16:=by kernel_rfl
def newQ (room:Int) (r:CV) (H:List (Option Nat×Res)):Prop:=if 1≤room∧room≤16 then ∃ n,r=.tup 2 (fl [.op 0 (some n) 0,.err 0])∧H=[boxO n room.toNat 0 []] else r=.tup 2 (fl [.c (.pointer none),.err 1])∧H=[]
theorem bnew_ac (room:Int):AC gs Tryd.prog 6 [] [.c (.int .i64 room)] (newQ room):=by
 refine ac_oF 15 Tryd.func6 fun al w0 F0 St0=>?_;refine jcr ?_;refine jq jrm ?_;refine jq jrm ?_;refine jN ?_;refine jcs ?_;refine jcr ?_;refine jq jrm ?_;refine jq jrc ?_;refine jq jrm ?_;refine jqsp 6 (fun g14=>?_) fun g14=>?_
 ·refine jqs ?_;refine jqs ?_;refine jq jrpT ?_;refine jN ?_;refine jcT ?_;refine jcs ?_;refine jcd (.rd 0 (.rd 1 (.rd 2 .done))) ?_;refine jyq (jrde 0) ?_;refine jyq jrm ?_;refine jyq jrm ?_;refine jyd ?_;refine jtn ?_
  refine jR (jtr ?_)
  refine end_ownV (.inl rfl) [] (by decide) rfl (res_2 rfl javt javt) cZ ?_
  unfold newQ
  rw [if_neg (by omega)]
  exact ⟨rfl,rfl⟩
 refine jq jrm ?_;refine jq jrc ?_;refine jq jrpF ?_;refine jN ?_;refine jcc (fun h14=>?_) fun h14=>?_
 ·refine jcs ?_;refine jcd (.rd 0 (.rd 1 (.rd 2 .done))) ?_;refine jyq (jrde 0) ?_;refine jyq jrm ?_;refine jyq jrm ?_;refine jyd ?_;refine jtn ?_
  refine jR (jtr ?_)
  refine end_ownV (.inl rfl) [] (by decide) rfl (res_2 rfl javt javt) cZ ?_
  unfold newQ
  rw [if_neg (by omega)]
  exact ⟨rfl,rfl⟩
 refine jS (jtn ?_)
 obtain ⟨m,rfl⟩:∃ m:Nat,room=m:=⟨room.toNat,by omega⟩
 refine jcr ?_;refine jq jrm ?_
 refine jqe (jemc m Tryd.underlying50 chb (by omega) (by decide) fun c=>?_)
 refine jq (rd_build (n:=2) rfl zr52 pl52 rfl rfl) ?_
 refine jqe (jebx 2 fun p1=>?_)
 refine jq jrm ?_;refine jq jrm ?_;refine jN ?_;refine code_knowG (know_op 2 rfl) fun ⟨n,hn⟩=>?_
 subst hn
 refine jR ?_;refine end_pack (gd:=fun z:Nat×Nat=>z.1) (E:=boxE m 0 []) (.inl rfl) (.tup 2 (fl [.op 0 (some n) 0,.err 0])) (n,c) [1,0] (by decide) rfl ((res_2 rfl javt javt).ent (cT cP CEnt.nil)) ?_
 unfold newQ
 rw [if_pos (by omega)]
 exact ⟨n,rfl,rfl⟩
def bxLost (room:Nat) (l:List (List UInt8)) (lost:Int):Int:=if l.length<room then lost else lost+1
theorem bPut_ac {gs:List Nat} (n room:Nat) (lost:Int) (l:List (List UInt8)) (x:List UInt8) (h0:0≤lost) (h1:lost≤1000000):AC gs Tryd.prog 8 [boxO n room lost l] [.op 0 (some n) 0,strC x] (fun r H'=>r=.c (.bool (decide (l.length<room)))∧H'=[boxO n room (bxLost room l lost) (bxPut room x l)]):=by
 refine ac_oF 15 Tryd.func8 fun al w0 F0 St0=>?_;refine jcr ?_;refine jq jrm ?_;refine jN ?_;refine jcs ?_;refine jcr ?_;refine jq jrm ?_;refine jq jrm ?_
 refine jqm (jmcE 0 (bput_ac n room lost l x) ?_)
 refine jN ?_;refine jcc (fun h32=>?_) fun h32=>?_
 ·refine jcr ?_;refine jq jrm ?_;refine jN ?_
  refine jR (jtr ?_)
  unfold bxLost
  rw [if_pos (by omega)]
  exact end_H (.inl rfl) rfl (res_1 rfl (arv_tmp rfl)) (cB (by simp;omega))
 refine jS (jtn ?_)
 refine code_openB 0 rfl fun c=>?_;refine jcr ?_;refine jq jrm ?_;refine jq jrnc ?_;refine jq (jrfa 1 1 false) ?_
 first|refine jqo jrdo ?_|refine jq jrdr ?_
 refine jq jra ?_;refine jq jrnc ?_;refine jq (jrfa 1 1 false) ?_
 refine jqm (jmstF 1 (boxF c (lost+1)) ?_ ?_)
 ·exact (fun j hj=>by rcases j with _|_|j <;> first|exact cZ|omega)
 refine jN ?_;refine jcr ?_;refine jq jrm ?_;refine jN ?_;refine jR ?_
 unfold bxLost
 rw [if_neg (by omega)]
 exact end_packV (gd:=fun z:Nat×Nat=>z.1) (E:=boxE room (lost+1) (bxPut room x l)) (.inl rfl) (n,c) [0,1] (by decide) rfl (res_1 rfl (arv_tmp rfl)) (cB (by simp;omega))
theorem bdrop_ac {gs:List Nat} (n room:Nat) (lost:Int) (l:List (List UInt8)) (h0:0≤lost) (h1:lost≤1000000):AC gs Tryd.prog 12 [boxO n room lost l] [.op 0 (some n) 0] (fun r H'=>r=.c (.bool (!l.isEmpty))∧H'=[boxO n room (if l.isEmpty then lost else lost+1) l.tail]):=by
 refine ac_oF 19 Tryd.func12 fun al w0 F0 St0=>?_;refine jcr ?_;refine jq jrm ?_;refine jN ?_;refine jcr ?_;refine jq jrm ?_
 refine jqm (jmcE 0 (btake_ac n room lost l) ?_)
 refine jq jrm ?_;refine jq jrx ?_;refine jq jrx ?_;refine jq jrm ?_;refine jq jrm ?_;refine jN ?_;refine jcs ?_;refine jcr ?_;refine jq jrm ?_;refine jN ?_;refine jcc (fun h53=>?_) fun h53=>?_
 rotate_left
 ·refine jS (jtn ?_)
  refine jcr ?_;refine jq jrm ?_;refine jq jrm ?_;refine jN ?_;refine jR ?_
  first
   |(obtain rfl:l=[]:=by simpa using h53
     exact end_H (.inl rfl) rfl (res_1 rfl (arv_tmp rfl)) cZ)
   |(have hl:¬ l.isEmpty=true:=by simpa using h53
     rw [if_neg hl]
     exact end_packV (gd:=fun z:Nat×Nat=>z.1) (E:=boxE room (lost+1) l.tail) (.inl rfl) (n,c) [0,1] (by decide) rfl (res_1 rfl (arv_tmp rfl)) cZ)
 refine code_openB 0 rfl fun c=>?_;refine jcg ?_;refine jq jrm ?_;refine jq jrnc ?_;refine jq (jrfa 1 1 false) ?_
 first|refine jqo jrdo ?_|refine jq jrdr ?_
 refine jq jra ?_;refine jq jrnc ?_;refine jq (jrfa 1 1 false) ?_
 refine jqm (jmstF 1 (boxF c (lost+1)) ?_ ?_)
 ·exact (fun j hj=>by rcases j with _|_|j <;> first|exact cZ|omega)
 refine jN ?_;refine jtn ?_;refine jcr ?_;refine jq jrm ?_;refine jq jrm ?_;refine jN ?_;refine jR ?_
 first
  |(obtain rfl:l=[]:=by simpa using h53
    exact end_H (.inl rfl) rfl (res_1 rfl (arv_tmp rfl)) cZ)
  |(have hl:¬ l.isEmpty=true:=by simpa using h53
    rw [if_neg hl]
    exact end_packV (gd:=fun z:Nat×Nat=>z.1) (E:=boxE room (lost+1) l.tail) (.inl rfl) (n,c) [0,1] (by decide) rfl (res_1 rfl (arv_tmp rfl)) cZ)
theorem bturn_ac {gs:List Nat} (n room:Nat) (lost:Int) (l:List (List UInt8)):AC gs Tryd.prog 14 [boxO n room lost l] [.op 0 (some n) 0] (fun r H'=>r=.c (.bool (!l.isEmpty && decide (l.tail.length<room)))∧H'=[boxO n room lost (if l.isEmpty then l else bxPut room (l.headD []) l.tail)]):=by
 refine ac_oF 16 Tryd.func14 fun al w0 F0 St0=>?_;refine jcr ?_;refine jq jrm ?_;refine jN ?_;refine jcr ?_;refine jq jrm ?_
 refine jqm (jmcE 0 (btake_ac n room lost l) ?_)
 refine jq jrm ?_;refine jq jrx ?_;refine jq jrx ?_;refine jq jrm ?_;refine jq jrm ?_;refine jN ?_;refine jcr ?_;refine jq jrm ?_;refine jq jrm ?_;refine jqsp 11 (fun g62=>?_) fun g62=>?_
 ·refine jq jrm ?_;refine jq jrm ?_
  refine jqm (jmcE 0 (bput_ac n room lost l.tail (l.headD [])) ?_)
  refine jq jrpT ?_;refine jq jrm ?_;refine jN ?_;refine jR ?_
  first
   |(obtain rfl:l=[]:=by simpa using g62
     exact end_H (.inl rfl) rfl (res_1 rfl (arv_tmp rfl)) cZ)
   |(have hl:¬ l.isEmpty=true:=by simpa using g62
     rw [if_neg hl]
     exact end_H (.inl rfl) rfl (res_1 rfl (arv_tmp rfl)) (cB (by rw [Bool.eq_false_iff.2 hl];rfl)))
 refine jqs ?_;refine jqs ?_;refine jqs ?_;refine jq jrpF ?_;refine jq jrm ?_;refine jN ?_;refine jR ?_
 first
  |(obtain rfl:l=[]:=by simpa using g62
    exact end_H (.inl rfl) rfl (res_1 rfl (arv_tmp rfl)) cZ)
  |(have hl:¬ l.isEmpty=true:=by simpa using g62
    rw [if_neg hl]
    exact end_H (.inl rfl) rfl (res_1 rfl (arv_tmp rfl)) (cB (by rw [Bool.eq_false_iff.2 hl];rfl)))
end
section
variable {gs:List Nat} [OkG gs]

def mbF (room:Nat) (lost:Int) (l:List (List UInt8)):Nat→CV:=fl [.c (.int .i64 (room:Nat)),.c (.int .i64 lost),ssC l]
def modO (n room:Nat) (lost:Int) (l:List (List UInt8)):Option Nat×Res:=(some n,.blk 3 (mbF room lost l))
theorem rbput_ac {gs:List Nat} (n room:Nat) (lost:Int) (l:List (List UInt8)) (x:List UInt8) (h0:0≤lost) (h1:lost≤1000000) (h2:l.length≤1000):AC gs Tryd.prog 9 [modO n room lost l] [.op 0 (some n) 0,strC x] (fun r H'=>r=.c (.bool (decide (l.length<room)))∧H'=[modO n room (bxLost room l lost) (bxPut room x l)]):=by
 refine ac_oF 34 Tryd.func9 fun al w0 F0 St0=>?_;refine jcr ?_;refine jq jrm ?_;refine jN ?_;refine jcs ?_;refine jcs ?_;refine jcd (.rd 0 (.rd 1 (.rd 2 (.rd 3 (.rd 4 (.rd 5 (.rd 6 (.rd 7 (.rd 8 (.rd 9 .done)))))))))) ?_;refine jyq jrm ?_;refine jyq jrnc ?_;refine jyq (jrfa 2 1 false) ?_
 first|refine jyo jrdo ?_|refine jyq jrdr ?_
 refine jyq jrl ?_;refine jyq jrm ?_;refine jyq jrnc ?_;refine jyq (jrfa 0 1 false) ?_
 first|refine jyo jrdo ?_|refine jyq jrdr ?_
 refine jyq jrc ?_;refine jyd ?_;refine jtn ?_;refine jcc (fun h12=>?_) fun h12=>?_
 ·refine jcr ?_;refine jq jrm ?_;refine jq jrnc ?_;refine jq (jrfa 1 1 false) ?_
  first|refine jqo jrdo ?_|refine jq jrdr ?_
  refine jq jra ?_;refine jq jrnc ?_;refine jq (jrfa 1 1 false) ?_
  refine jqm (jmstF 1 (mbF room (lost+1) l) ?_ ?_)
  ·exact (fun j hj=>by rcases j with _|_|_|j <;> first|exact cZ|omega)
  refine jN ?_;refine jcr ?_;refine jq jrm ?_;refine jN ?_
  refine jR (jtr ?_)
  unfold bxLost bxPut
  rw [if_neg (by omega),if_neg (by omega)]
  exact end_H (.inl rfl) rfl (res_1 rfl (arv_tmp rfl)) (cB (by simp;omega))
 refine jS (jtn ?_)
 refine jcr ?_;refine jq jrm ?_
 refine jqe (jebl 0 1 zr9 fun p1=>?_)
 refine jq jrm ?_;refine jq jrnc ?_;refine jq (jrfa 2 1 false) ?_
 first|refine jqo jrdo ?_|refine jq jrdr ?_
 refine jqm (m_appendC (l:=[]) ( rowC_ss) rfl rfl rfl rfl (Nat.le_of_eq (Nat.zero_mul _)) (fun j hj=>absurd hj (by simp)) (src_rs rfl) rfl (fun j hj=>by first|exact cZ|(simp only [Nat.div_one];exact cZ)) Tryd.underlying32 nu32 sz9 zr9 by9 rfl (by first|omega|(simp;done)|(simp;omega)|(simp at *;omega)) (by first|omega|(simp;done)|(simp;omega)|(simp at *;omega)) (fun j hj=>rfl) rfl rfl rfl (fun p2=>?_))
 refine jq jrm ?_
 refine jqe (jebl 1 1 zr9 fun p3=>?_)
 refine jqm (m_appendC (rowC_ss) (l2:=[x]) rfl rfl rfl rfl (by first|exact Nat.le_refl _|omega) (fun _ _=>cZ) (src_os rfl (.inl rfl) (by decide)) rfl (fun j hj=>by rcases j with _|j <;> first|exact cZ|exact cI (by omega)|exact cN|(exfalso;simp at hj <;> omega)) Tryd.underlying32 nu32 sz9 zr9 by9 rfl (by first|omega|(simp;done)|(simp;omega)|(simp at *;omega)) (by first|omega|(simp;done)|(simp;omega)|(simp at *;omega)) (leaf_flk rfl rfl) rfl rfl rfl (fun p4=>?_))
 refine seq_ent (freeze 1 rfl) ?_;refine seq_ent (thaw 31 (fun i _=>strC ((l++[x]).getD i [])) rfl rfl (by simp) ss_thaw) ?_;refine jq jrnc ?_;refine jq (jrfa 2 1 false) ?_
 refine jqm (jmstF 1 (mbF room lost (l++[x])) ?_ ?_)
 ·exact (fun j hj=>by rcases j with _|_|_|j <;> first|exact cZ|omega)
 refine jN ?_;refine jcr ?_;refine jq jrm ?_;refine jN ?_;refine jR ?_
 unfold bxLost bxPut
 rw [if_pos (by omega),if_pos (by omega)]
 exact end_H (.inl rfl) rfl (res_1 rfl (arv_tmp rfl)) (cB (by simp;omega))
theorem ss_tail {l:List (List UInt8)}:CEnt (.rs 1 (l.length-1) fun i j=>strC (l.getD (1+i) [])) (ssC l.tail):=CEnt.rs (by simp) fun i j hi hj=>CEnt.of_eq (by simp [List.getD,Nat.add_comm])
theorem rbtake_ac {gs:List Nat} (n room:Nat) (lost:Int) (l:List (List UInt8)):AC gs Tryd.prog 11 [modO n room lost l] [.op 0 (some n) 0] (fun r H'=>r=tkC l∧H'=[modO n room lost l.tail]):=by
 refine ac_oF 26 Tryd.func11 fun al w0 F0 St0=>?_;refine jcr ?_;refine jq jrm ?_;refine jq jrm ?_;refine jN ?_;refine jcs ?_;refine jcr ?_;refine jq jrm ?_;refine jq jrnc ?_;refine jq (jrfa 2 1 false) ?_
 first|refine jqo jrdo ?_|refine jq jrdr ?_
 refine jq jrl ?_;refine jq jrc ?_;refine jN ?_;refine jcc (fun h22=>?_) fun h22=>?_
 ·refine jcr ?_;refine jq jrm ?_;refine jq jrm ?_;refine jN ?_
  refine jR (jtr ?_)
  obtain rfl:l=[]:=List.eq_nil_of_length_eq_zero (by omega)
  exact end_H (.inl rfl) rfl (res_2 rfl javt javt) cZ
 refine jS (jtn ?_)
 refine jcr ?_;refine jq jrm ?_;refine jq jrnc ?_;refine jq (jrfa 2 1 false) ?_
 first|refine jqo jrdo ?_|refine jq jrdr ?_
 refine jq (jri (i:=0)) ?_
 first|refine jqo jrdo ?_|refine jq jrdr ?_
 refine jq jrm ?_;refine jN ?_;refine jcr ?_;refine jq jrm ?_;refine jq jrm ?_;refine jq jrnc ?_;refine jq (jrfa 2 1 false) ?_
 first|refine jqo jrdo ?_|refine jq jrdr ?_
 first|refine jq (jrsr (hl:=(bd_some rfl (show (1:Int)=((1:Nat):Int) from rfl))) (hu:=(bd_none _ _))) ?_|refine jq (jrso (hl:=(bd_some rfl (show (1:Int)=((1:Nat):Int) from rfl))) (hu:=(bd_none _ _))) ?_
 refine jq jrnc ?_;refine jq (jrfa 2 1 false) ?_
 refine jqm (jmstF 1 (mbF room lost l.tail) ?_ ?_)
 ·exact (fun j hj=>by rcases j with _|_|_|j <;> first|exact cZ|exact ss_tail|omega)
 refine jN ?_;refine jcr ?_;refine jq jrm ?_;refine jq jrm ?_;refine jq jrm ?_;refine jN ?_;refine jR ?_
 cases l with
 | nil=>simp at h22
 | cons x l=>exact end_H (.inl rfl) rfl (res_2 rfl javt javt) cZ
theorem rbdrop_ac {gs:List Nat} (n room:Nat) (lost:Int) (l:List (List UInt8)) (h0:0≤lost) (h1:lost≤1000000):AC gs Tryd.prog 13 [modO n room lost l] [.op 0 (some n) 0] (fun r H'=>r=.c (.bool (!l.isEmpty))∧H'=[modO n room (if l.isEmpty then lost else lost+1) l.tail]):=by
 refine ac_oF 19 Tryd.func13 fun al w0 F0 St0=>?_;refine jcr ?_;refine jq jrm ?_;refine jN ?_;refine jcr ?_;refine jq jrm ?_
 refine jqm (jmcE 0 (rbtake_ac n room lost l) ?_)
 refine jq jrm ?_;refine jq jrx ?_;refine jq jrx ?_;refine jq jrm ?_;refine jq jrm ?_;refine jN ?_;refine jcs ?_;refine jcr ?_;refine jq jrm ?_;refine jN ?_;refine jcc (fun h33=>?_) fun h33=>?_
 rotate_left
 ·refine jS (jtn ?_)
  refine jcr ?_;refine jq jrm ?_;refine jq jrm ?_;refine jN ?_;refine jR ?_
  first
   |(obtain rfl:l=[]:=by simpa using h33
     exact end_H (.inl rfl) rfl (res_1 rfl (arv_tmp rfl)) cZ)
   |(have hl:¬ l.isEmpty=true:=by simpa using h33
     rw [if_neg hl]
     exact end_H (.inl rfl) rfl (res_1 rfl (arv_tmp rfl)) cZ)
 refine jcg ?_;refine jq jrm ?_;refine jq jrnc ?_;refine jq (jrfa 1 1 false) ?_
 first|refine jqo jrdo ?_|refine jq jrdr ?_
 refine jq jra ?_;refine jq jrnc ?_;refine jq (jrfa 1 1 false) ?_
 refine jqm (jmstF 1 (mbF room (lost+1) l.tail) ?_ ?_)
 ·exact (fun j hj=>by rcases j with _|_|_|j <;> first|exact cZ|omega)
 refine jN ?_;refine jtn ?_;refine jcr ?_;refine jq jrm ?_;refine jq jrm ?_;refine jN ?_;refine jR ?_
 first
  |(obtain rfl:l=[]:=by simpa using h33
    exact end_H (.inl rfl) rfl (res_1 rfl (arv_tmp rfl)) cZ)
  |(have hl:¬ l.isEmpty=true:=by simpa using h33
    rw [if_neg hl]
    exact end_H (.inl rfl) rfl (res_1 rfl (arv_tmp rfl)) cZ)
theorem rbturn_ac {gs:List Nat} (n room:Nat) (lost:Int) (l:List (List UInt8)) (h0:0≤lost) (h1:lost≤1000000) (h2:l.length≤1000) (h3:l.length≤room):AC gs Tryd.prog 15 [modO n room lost l] [.op 0 (some n) 0] (fun r H'=>r=.c (.bool (!l.isEmpty && decide (l.tail.length<room)))∧H'=[modO n room lost (if l.isEmpty then l else bxPut room (l.headD []) l.tail)]):=by
 have hP:(!l.isEmpty)=true→AC gs Tryd.prog 9 [modO n room lost l.tail] [.op 0 (some n) 0,strC (l.headD [])] (fun r H'=>r=.c (.bool (decide (l.tail.length<room)))∧H'=[modO n room lost (bxPut room (l.headD []) l.tail)]):=fun hl=>by
  have hp:0<l.length:=List.length_pos_iff.2 fun h=>by rw [h] at hl;cases hl
  have e:bxLost room l.tail lost=lost:=if_pos (by simp;omega)
  have:=rbput_ac (gs:=gs) n room lost l.tail (l.headD []) h0 h1 (by simp;omega)
  rwa [e] at this
 refine ac_oF 16 Tryd.func15 fun al w0 F0 St0=>?_;refine jcr ?_;refine jq jrm ?_;refine jN ?_;refine jcr ?_;refine jq jrm ?_
 refine jqm (jmcE 0 (rbtake_ac n room lost l) ?_)
 refine jq jrm ?_;refine jq jrx ?_;refine jq jrx ?_;refine jq jrm ?_;refine jq jrm ?_;refine jN ?_;refine jcr ?_;refine jq jrm ?_;refine jq jrm ?_;refine jqsp 11 (fun g41=>?_) fun g41=>?_
 ·refine jq jrm ?_;refine jq jrm ?_
  refine jqm (jmcE 0 (hP g41) ?_)
  refine jq jrpT ?_;refine jq jrm ?_;refine jN ?_;refine jR ?_
  first
   |(obtain rfl:l=[]:=by simpa using g41
     exact end_H (.inl rfl) rfl (res_1 rfl (arv_tmp rfl)) cZ)
   |(have hl:¬ l.isEmpty=true:=by simpa using g41
     rw [if_neg hl]
     exact end_H (.inl rfl) rfl (res_1 rfl (arv_tmp rfl)) (cB (by rw [Bool.eq_false_iff.2 hl];rfl)))
 refine jqs ?_;refine jqs ?_;refine jqs ?_;refine jq jrpF ?_;refine jq jrm ?_;refine jN ?_;refine jR ?_
 first
  |(obtain rfl:l=[]:=by simpa using g41
    exact end_H (.inl rfl) rfl (res_1 rfl (arv_tmp rfl)) cZ)
  |(have hl:¬ l.isEmpty=true:=by simpa using g41
    rw [if_neg hl]
    exact end_H (.inl rfl) rfl (res_1 rfl (arv_tmp rfl)) (cB (by rw [Bool.eq_false_iff.2 hl];rfl)))
theorem rbtwice_ac {gs:List Nat} (n room:Nat) (lost:Int) (l:List (List UInt8)) (h0:0≤lost) (h1:lost≤1000000) (h2:l.length≤1000):AC gs Tryd.prog 17 [modO n room lost l] [.op 0 (some n) 0] (fun r H'=>r=.c (.bool (!l.isEmpty && decide (l.length<room)))∧H'=[modO n room lost (if l.isEmpty then l else bxPut room (l.getD 0 []) l)]):=by
 have hP:l.length<room→AC gs Tryd.prog 9 [modO n room lost l] [.op 0 (some n) 0,strC (l.getD 0 [])] (fun r H'=>r=.c (.bool (decide (l.length<room)))∧H'=[modO n room lost (bxPut room (l.getD 0 []) l)]):=fun hl=>by
  have e:bxLost room l lost=lost:=if_pos hl
  have:=rbput_ac (gs:=gs) n room lost l (l.getD 0 []) h0 h1 h2
  rwa [e] at this
 refine ac_oF 29 Tryd.func17 fun al w0 F0 St0=>?_;refine jcr ?_;refine jq jrm ?_;refine jN ?_;refine jcs ?_;refine jcs ?_;refine jcd (.rd 0 (.rd 1 (.rd 2 (.rd 3 (.rd 4 (.rd 5 (.rd 6 (.rd 7 (.rd 8 (.rd 9 (.rd 10 (.rd 11 (.rd 12 (.rd 13 (.rd 14 (.rd 15 (.rd 16 (.rd 17 .done)))))))))))))))))) ?_;refine jyq jrm ?_;refine jyq jrnc ?_;refine jyq (jrfa 2 1 false) ?_
 first|refine jyo jrdo ?_|refine jyq jrdr ?_
 refine jyq jrl ?_;refine jyq jrc ?_;refine jyq jrm ?_;refine jysp 9 (fun g45=>?_) fun g45=>?_
 ·refine jys ?_;refine jys ?_;refine jys ?_;refine jys ?_;refine jys ?_;refine jys ?_;refine jys ?_;refine jys ?_;refine jys ?_;refine jys ?_;refine jyq jrpT ?_;refine jyd ?_;refine jtn ?_;refine jcT ?_;refine jcr ?_;refine jq jrm ?_;refine jN ?_
  refine jR (jtr ?_)
  by_cases hl1:l.isEmpty=true
  ·obtain rfl:l=[]:=List.isEmpty_iff.1 hl1
   exact end_H (.inl rfl) rfl (res_1 rfl (arv_tmp rfl)) cZ
  ·have hl2:¬ l.length<room:=by first|omega|exact absurd (by rw [List.eq_nil_of_length_eq_zero (show l.length=0 by omega)];rfl) hl1
   have e2:(if l.isEmpty=true then l else bxPut room (l.getD 0 []) l)=l:=by rw [if_neg hl1];exact if_neg hl2
   rw [e2]
   exact end_H (.inl rfl) rfl (res_1 rfl (arv_tmp rfl)) (cB (by rw [decide_eq_false hl2,Bool.and_false]))
 refine jyq jrm ?_;refine jyq jrnc ?_;refine jyq (jrfa 2 1 false) ?_
 first|refine jyo jrdo ?_|refine jyq jrdr ?_
 refine jyq jrl ?_;refine jyq jrm ?_;refine jyq jrnc ?_;refine jyq (jrfa 0 1 false) ?_
 first|refine jyo jrdo ?_|refine jyq jrdr ?_
 refine jyq jrc ?_;refine jyq jrpF ?_;refine jyd ?_;refine jtn ?_;refine jcc (fun h45=>?_) fun h45=>?_
 ·refine jcr ?_;refine jq jrm ?_;refine jN ?_
  refine jR (jtr ?_)
  by_cases hl1:l.isEmpty=true
  ·obtain rfl:l=[]:=List.isEmpty_iff.1 hl1
   exact end_H (.inl rfl) rfl (res_1 rfl (arv_tmp rfl)) cZ
  ·have hl2:¬ l.length<room:=by first|omega|exact absurd (by rw [List.eq_nil_of_length_eq_zero (show l.length=0 by omega)];rfl) hl1
   have e2:(if l.isEmpty=true then l else bxPut room (l.getD 0 []) l)=l:=by rw [if_neg hl1];exact if_neg hl2
   rw [e2]
   exact end_H (.inl rfl) rfl (res_1 rfl (arv_tmp rfl)) (cB (by rw [decide_eq_false hl2,Bool.and_false]))
 refine jS (jtn ?_)
 refine jcr ?_;refine jq jrm ?_;refine jq jrm ?_;refine jq jrnc ?_;refine jq (jrfa 2 1 false) ?_
 first|refine jqo jrdo ?_|refine jq jrdr ?_
 refine jq (jri (i:=0)) ?_
 first|refine jqo jrdo ?_|refine jq jrdr ?_
 refine jqm (jmcE 0 (hP (by omega)) ?_)
 refine jq jrm ?_;refine jN ?_;refine jR ?_
 have hl1:¬ l.isEmpty=true:=fun h=>by have:=List.isEmpty_iff.1 h;subst this;simp at g45
 rw [if_neg hl1]
 exact end_H (.inl rfl) rfl (res_1 rfl (arv_tmp rfl)) (cB (by rw [Bool.eq_false_iff.2 hl1];rfl))
end
section
variable {gs:List Nat} [OkG gs]

def outE (acc:List (List UInt8)) (z:Nat×Option Nat):List (Option Nat×Res):=[(some z.1,.blk 1 (fl [.os 1 z.2 0 acc.length 1])),(z.2,.blk acc.length (ssF acc))]
def outO (q:Nat) (acc:List (List UInt8)):Option Nat×Res:=objE q (fun z:Nat×Option Nat=>z.1) (outE acc)
section
variable {P:Program} {G:Gh} {c:Code} {R:Exit→AS→Prop} {q:Nat} {acc:List (List UInt8)} {env:List (Nat×CV)} {b0:Nat→CV} {H:List (Option Nat×Res)}
theorem code_openO (i:Nat) (hi:H[i]?=some (outO q acc)) (h:∀ g,ACode P G c ⟨env,b0,H.set i (some q,.blk 1 (fl [.os H.length g 0 acc.length 1]))++[(g,.blk acc.length (ssF acc))]⟩ R):ACode P G c ⟨env,b0,H⟩ R:=by
 have hlt:=(List.getElem?_eq_some_iff.1 hi).1
 refine code_unpack i hi fun z hz=>?_
 obtain ⟨q',g⟩:=z
 obtain rfl:q'=q:=hz
 refine jE (weakH i 1 (fl [.os H.length g 0 acc.length 1]) (n:=1) (g:=some q') (f:=fl [.os 1 g 0 acc.length 1]) ?_ (Nat.le_refl _) fun j hj=>?_) ?_
 ·show (H.set i _++_)[i]?=_
  rw [List.getElem?_append_left (by simpa using hlt)]
  simp [hlt]
 ·rcases j with _|j
  ·exact cO rfl
  ·omega
 ·have e:(H.set i (some q',Res.blk 1 (fl [.os 1 g 0 acc.length 1]))++[(g,Res.blk acc.length (ssF acc))]).set i (some q',.blk 1 (fl [.os H.length g 0 acc.length 1]))=H.set i (some q',.blk 1 (fl [.os H.length g 0 acc.length 1]))++[(g,.blk acc.length (ssF acc))]:=by
   rw [List.set_append_left _ _ (by simpa using hlt),List.set_set]
  have:=h g
  rw [← e] at this
  exact this
theorem newO (q i:Nat) {f:Nat→CV} (hi:H[i]?=some (some q,.blk 1 f)) (h0:CEnt (f 0) (.c (.slice none 0 0))):EntS G ⟨env,b0,H⟩ ⟨env,b0,H.set i (outO q [])⟩:=by
 have hil:=(List.getElem?_eq_some_iff.1 hi).1
 have os0:CEnt (.c (.slice none 0 0)) (.os 1 none 0 0 1):=fun al St w v h=>⟨rfl,h⟩
 have e:(H++[(none,Res.blk 0 (ssF []))]).length=H.length+1:=by simp
 refine (ent_none (G:=G) (s:=⟨env,b0,H⟩) (ssF [])).trans (EntS.hrel fun h=>?_)
 have h2:=h.weak (i:=i) (n:=1) (m:=1) (F:=fl [.os 1 none 0 0 1]) (g:=some q) (f:=f) (by show (H++_)[i]?=_;rw [List.getElem?_append_left hil];exact hi) (Nat.le_refl _) fun a ha=>by
  rcases a with _|a
  ·exact h0.trans os0
  ·omega
 have h4:=h2.closeN (gd:=fun z:Nat×Option Nat=>z.1) (E:=outE []) (q,none) i [H.length] (by simp;omega) (by simp;omega) (by
  simp only [pickL,List.map_cons,List.map_nil,List.getD_eq_getElem?_getD]
  rw [List.set_append_left _ _ hil,List.getElem?_append_left (by simpa using hil),List.getElem?_append_right (by simp)]
  simp [hil,outE])
 refine h4.pick (List.range H.length) (range_nodup _) ?_
 rw [pickL_range _ _ (by simp [killL_len])]
 show List.take H.length (((((H++_).set i _).set i _)).set H.length _)=_
 rw [List.take_set,List.set_set,List.set_append_left _ _ hil,List.take_append_of_le_length (by simp)]
 rw [List.set_eq_of_length_le (by simp),List.take_of_length_le (by simp)]
 rfl
end
theorem see_ac {gs:List Nat} (q:Nat) (acc:List (List UInt8)) (x:List UInt8) (h:acc.length≤100000):AC gs Tryd.prog 35 [outO q acc] (strC x::(List.range 1).map (fl [.op 0 (some q) 0])) (fun r H'=>r=.c (.tuple #[])∧H'=[outO q (acc++[x])]):=by
 refine ac_oF 7 Tryd.func35 fun al w0 F0 St0=>?_;refine code_openO 0 rfl fun g=>?_;refine jcg ?_
 first|refine jqo jrdo ?_|refine jq jrdr ?_
 refine jq jrm ?_
 refine jqe (jebl 1 1 zr9 fun p1=>?_)
 refine jqm (m_appendC (rowC_ss) (l2:=[x]) rfl rfl rfl rfl (by first|exact Nat.le_refl _|omega) (fun _ _=>cZ) (src_os rfl (.inl rfl) (by decide)) rfl (fun j hj=>by rcases j with _|j <;> first|exact cZ|exact cI (by omega)|exact cN|(exfalso;simp at hj <;> omega)) Tryd.underlying32 nu32 sz9 zr9 by9 rfl (by first|omega|(simp;done)|(simp;omega)|(simp at *;omega)) (by first|omega|(simp;done)|(simp;omega)|(simp at *;omega)) (leaf_flk rfl rfl) rfl rfl rfl (fun p2=>?_))
 refine jqm (jmstF 1 (fl [.os 1 p2 0 (acc++[x]).length 1]) ?_ ?_)
 ·exact (fun j hj=>by rcases j with _|j <;> first|exact cO (by simp)|omega)
 refine jN ?_
 refine end_hr (H':=?H2) ?hh ?hb
 case hh=>intro _ _ _ _ _ hx;exact hx.weak (i:=1) (m:=(acc++[x]).length) (F:=ssF (acc++[x])) rfl (by simp) (fun _ _=>cZ)
 case hb=>exact end_pack (gd:=fun z:Nat×Option Nat=>z.1) (E:=outE (acc++[x])) (.inr rfl) _ (q,p2) [0,1] (by decide) rfl (res_0 rfl) ⟨rfl,rfl⟩
theorem rot_cons {l:List (List UInt8)} {i:Nat} (h:i<l.length):l.drop i=l[i]::l.drop (i+1)∧l.take (i+1)=l.take i++[l[i]]:=⟨List.drop_eq_getElem_cons h,by rw [List.take_add_one,List.getElem?_eq_getElem h];rfl⟩
theorem round_ac {gs:List Nat} (n q room:Nat) (lost:Int) (l:List (List UInt8)) (hl:l.length≤room) (hr:room≤1000):AC gs Tryd.prog 34 [bagE [boxO n room lost l,outO q []]] [.op 0 (some n) 0,.fn 35 1 (fl [.op 0 (some q) 0])] (fun r H'=>r=.c (.tuple #[])∧H'=[bagE [boxO n room lost l,outO q l]]):=by
 refine ac_oF 25 Tryd.func34 fun al w0 F0 St0=>?_
 first
  |(refine jE (bag_pop 0 rfl) ?_;refine jE (bag_pop 0 rfl) ?_;refine jE (pick_ent (H':=[boxO n room lost l,outO q []]) [1,2] (by decide) rfl) ?_;refine code_openB 0 rfl fun c=>?_)
  | skip
 refine jcr ?_;refine jq jrm ?_;refine jq jrnc ?_;refine jq (jrfa 0 1 false) ?_
 first|refine jqo jrdo ?_|refine jq jrdr ?_
 refine jqo (rd_lenCh (i:=2) rfl rfl rfl Tryd.underlying50) ?_;refine jq jrm ?_;refine jN ?_;refine jB ?_;refine jE (closeB n room lost l 0 2 rfl rfl rfl (by decide) cZ cZ) ?_;refine jE (pick_ent (H':=[boxO n room lost l,outO q []]) [0,1] (by decide) rfl) ?_;refine l_loop (α:=Nat) [4,5,11,12,13,14,15,16,17,18,19,20,21,22,23,24] (fun i=>[(11,.c (.int .i64 (i:Nat)))]) (fun i=>[boxO n room lost (l.drop i++l.take i),outO q (l.take i)]) (fun i=>i≤l.length) (fun i=>l.length-i) (0) ?_ (fun _=>rfl) ?_ ?_ ?_
 ·simp
 ·(repeat (first|exact EntE.nil|refine EntE.cons cZ ?_|refine EntE.cons (cI (by omega)) ?_))
 ·simp only [List.drop_zero,List.take_zero,List.append_nil]
  exact HEnt.refl _
 ·rintro i (hi:i≤l.length)
  first
   |(refine jE (bag_pop 0 rfl) ?_;refine jE (bag_pop 0 rfl) ?_;refine jE (pick_ent (H':=[boxO n room lost l,outO q []]) [1,2] (by decide) rfl) ?_;refine code_openB 0 rfl fun c=>?_)
   | skip
  refine jcr ?_;refine jq jrc ?_;refine jN ?_;refine jcs ?_;refine jcc (fun h67=>?_) fun h67=>?_
  rotate_left
  ·refine jX (jte (jte (jbx ?_)))
   obtain rfl:i=l.length:=by omega
   refine end_pack (gd:=fun _:Unit=>0) (E:=fun _=>[boxO n room lost l,outO q l]) (.inr rfl) _ () [0,1] (by decide) ?_ (res_0 rfl) ⟨rfl,rfl⟩
   show [boxO n room lost (l.drop l.length++l.take l.length),outO q (l.take l.length)]=_
   rw [List.drop_length,List.take_length]
   rfl
  refine jS (jtn ?_)
  refine jcs ?_;refine jB ?_
  have hi1:i<l.length:=by omega
  rw [(rot_cons hi1).1]
  refine jcr ?_;refine jq jrm ?_
  refine jqm (jmcE 0 (btake_ac n room lost (l[i]::l.drop (i+1)++l.take i)) ?_)
  refine jq jrm ?_;refine jq jrx ?_;refine jq jrx ?_;refine jq jrm ?_;refine jq jrm ?_;refine jN ?_;refine jcr ?_;refine jq jrm ?_;refine jq jrm ?_
  refine jqm (m_callHV1 (i:=1) rfl rfl (by first|assumption|kernel_rfl) rfl (see_ac q (l.take i) l[i] (by rw [List.length_take];omega)) (.cons cZ (.cons cP .nil)) rfl rfl ?_)
  rintro _ _ ⟨rfl,rfl⟩
  refine ⟨_,rfl,?_⟩
  refine jN ?_;refine jcg ?_;refine jq jrm ?_;refine jq jrm ?_
  refine jqm (jmcE 0 (bput_ac n room lost (l.drop (i+1)++l.take i) l[i]) ?_)
  refine jN ?_
  refine jbn (jtn ?_)
  first
   |(refine jE (bag_pop 0 rfl) ?_;refine jE (bag_pop 0 rfl) ?_;refine jE (pick_ent (H':=[boxO n room lost l,outO q []]) [1,2] (by decide) rfl) ?_;refine code_openB 0 rfl fun c=>?_)
   | skip
  refine jcg ?_;refine jq jra ?_;refine jq jrm ?_;refine jN ?_;refine jtn ?_
  refine jlend (i+1) ?_ ?_ (h7:=?_)
  ·omega
  ·omega
  ·have e2:=(rot_cons (l:=l) (i:=i) (by omega)).2
   have e1:bxPut room l[i] (l.drop (i+1)++l.take i)=l.drop (i+1)++l.take (i+1):=by unfold bxPut;rw [if_pos (by simp;omega),e2,List.append_assoc]
   show HEnt [boxO n room lost (bxPut room l[i] (l.drop (i+1)++l.take i)),outO q (l.take i++[l[i]])] _
   rw [e1,← e2]
   exact HEnt.refl _
end
end Am
end Go.Proofs.YtcjmppgkojogdaaDoor
