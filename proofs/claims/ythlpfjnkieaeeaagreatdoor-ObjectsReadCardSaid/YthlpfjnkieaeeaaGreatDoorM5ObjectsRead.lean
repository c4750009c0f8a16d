/- What the law leans on, part 5: AmM, AmR, SlB, P03, Err, Num, NumC, W03, W03b, L03, SlC, NumB, MarkC, L03p, P07s, P07d, P07 -/
import Derived.Test.YthlpfjnkieaeeaaGreatDoorM4ObjectsRead
import Derived.Stop.Asserts
import Derived.RowKitTokens
import Derived.Sort.Statements
import Derived.Lib.DecodeN
import Derived.Lib.ValidU

set_option maxRecDepth 100000
namespace Go.Proofs.YthlpfjnkieaeeaaGreatDoor
set_option linter.unusedVariables false
namespace Am
open Go.RowKit
section
set_option maxHeartbeats 1000000
section
variable {P:Program} {G:Gh} {ops:Array Oper} {o:Oper} {s:AS} {K:AS→Prop} {t u:TypeId} {x y:Operand} {k:IntKind}
def Nb (P:Program) (G:Gh) (g:Option Nat) (o:Oper) (s:AS) (K:AS→Prop):Prop:=∀ St a w,aC G St s a w→∀ Q,o.wp P a w (fun a' w'=>(∀ q,q<w.heap.size→g≠some q→w'.heap[q]?=w.heap[q]?)∧∃ St',(∀ b,St b→St' b)∧∃ s',K s'∧aC G St' s' a' w') Q
theorem FE {i off n m:Nat} {g:Option Nat} {f:Nat→CV} {c:CV} {l:List CV} (ho:o.op=.store t x y) (hx:s.eval x=.op i g off) (hH:s.H[i]?=some (g,.blk n f)) (hy:s.eval y=c) (hl:ek c=some l) (h5:(P.info? t).map (·.size)=some m) (hm:l.length=m) (hleaf:l.all fo=true) (hn:off+m≤n)
  (F:Nat→CV) (hF:∀ j,j<n→ab (mo f off l j) (F j)) (hd:ck G o=true) (hK:K (s.with o.dst (.c undef) (s.H.set i (g,.blk n F)))):Nb P G g o s K:=fun St a w hr Q=>by
 obtain ⟨info,hi,h6⟩:=Option.map_eq_some_iff.1 h5
 obtain ⟨b,rfl,e⟩:=ka hr hx
 have hc:=pq (ka hr hy) hl
 obtain ⟨fp,hp⟩:=hr.hp
 obtain ⟨h00,cur,ty,hh,hle,hcell⟩:=hp.rep i (some b) _ hH
 have hst:=run_storeCells_at P b off ty (a.eval y).cells.toList 0 cur w hh (by simp [hc.1];omega) (zR hc hleaf)
 simp only [Nat.add_zero] at hst
 have hrun:(execOp a.eval o).run P w=.ok .skip (w.setRow b (cur.toList.take off++(a.eval y).cells.toList++cur.toList.drop (off+(a.eval y).cells.toList.length)).toArray):=by
  simp only [execOp,ho,e]
  simp [Instr.storeAt,Instr.sureAddr,storeVar,sizeOf,typeInfo,hi,h6,hc.1,hm]
  rw [show (a.eval y).cells.toList.length=m by simp [hc.1,hm]] at hst
  simp [hst]
 unfold Oper.wp
 rw [hrun]
 have hlen:(a.eval y).cells.toList.length=m:=by simp [hc.1,hm]
 refine ⟨fun q _ hg=>setRow_other w b q _ (fun e=>hg (by rw [e])),St,fun _ h=>h,_,hK,?_⟩
 have hw:=hr.write hH hh (cs:=(cur.toList.take off++(a.eval y).cells.toList++cur.toList.drop (off+(a.eval y).cells.toList.length)).toArray) (by simp [hc.1];omega) (n':=n) (f':=F) (by simp [hc.1];omega) (fun j hj=>by
  refine hF j hj _ _ _ _ ?_
  rw [kD,yy cur _ off (by rw [hlen];omega),hlen,hm]
  by_cases h1:off≤j∧j<off+m
  ·rw [if_pos h1,if_pos h1]
   have:=hc.2 (j-off) jO
   simpa [List.getD] using this
  ·rw [if_neg h1,if_neg h1]
   exact hcell j hj)
 have:=hw.put (dst:=o.dst) (v:=.c undef) (x:=undef) (ef hd) rfl
 cases ho:o.dst with
 | none=>rw [ho] at this;exact this
 | some d=>rw [ho] at this;exact this

theorem CH {e:TypeId} {z:Value} {i n m k N by_:Nat} {g:Option Nat} {f h:Nat→CV} (ho:o.op=.call ⟨.builtin .append,#[x,y],#[t,u]⟩) (hx:s.eval x=.os i g 0 n k) (hH:s.H[i]?=some (g,.blk N f)) (hN:n * k≤N)
  (hsrc:wD P G s y k m h) (h1:P.underlying t=some (.slice e)) (hu:dZ P u=true) (h5:(P.info? e).map (·.size)=some k) (hz:(P.info? e).map (·.zero)=some (some z)) (hby:(P.info? e).map (·.bytes)=some by_)
  (h63:n+m≤9223372036854775807) (h48:(n+m) * by_≤140737488355328) (hzk:z.cells.size=k)
  (F:Nat→CV) (hF:∀ j,j<(n+m) * k→ab (sP (n * k) f h j) (F j)) (hleaf:∀ j,j<m * k→fo (h j)=true) (hd:ck G o=true)
  (hK:∀ g',K (s.with o.dst (.os i g' 0 (n+m) k) (s.H.set i (g',.blk ((n+m) * k) F)))):Nb P G g o s K:=fun St a w hr Q=>by
 obtain ⟨info,hi,hs⟩:=Option.map_eq_some_iff.1 h5
 obtain ⟨info',hi',hz⟩:=Option.map_eq_some_iff.1 hz
 obtain rfl:=Option.some.inj (hi.symm.trans hi')
 obtain ⟨info',hi',hby⟩:=Option.map_eq_some_iff.1 hby
 obtain rfl:=Option.some.inj (hi.symm.trans hi')
 obtain ⟨news,hnl,hnr,hrun⟩:=hsrc St a w hr
 have he:=ka hr hx
 have hlen:(n+m) * k=n * k+m * k:=Nat.add_mul ..
 -- the value's parts
 obtain ⟨base,cap,ev,hle,hcap,hbase⟩:∃ base cap,a.eval x=.slice base n cap∧n≤cap∧cap≤9223372036854775807∧((g=none∧base=none∧cap=0∧n=0)∨∃ b,g=some b∧base=some ⟨b,0,none⟩∧∃ cur t z,w.heap[b]?=some (.cells cur t z)∧0+cap * k≤cur.size):=by
  cases g with
  | none=>obtain ⟨h1,h2⟩:=he;exact ⟨none,0,by rw [h2,h1],by omega,by omega,.inl ⟨rfl,rfl,rfl,h1⟩⟩
  | some b=>obtain ⟨cap,h1,h2,h3,h4⟩:=he;exact ⟨_,cap,h1,h2,h3,.inr ⟨b,rfl,rfl,h4⟩⟩
 have hargs:(#[x,y]:Array Operand).map a.eval=#[a.eval x,a.eval y]:=by simp
 have put:∀ {w':World} {v:Value} {c:CV} {H:List (Option Nat×bp)},aC G St ⟨s.env,s.b,H⟩ a w'→bv G.al St w' c v→aC G St (s.with o.dst c H) (a.put o.dst v) w':=fun {w' v c H} h1 h2=>by
  have:=h1.put (dst:=o.dst) (ef hd) h2
  cases ho:o.dst with
  | none=>rw [ho] at this;exact this
  | some d=>rw [ho] at this;exact this
 by_cases hroom:n+m≤cap
 ·-- in place
  rcases hbase with ⟨hg,hb,hc0,hn0⟩|⟨b,hg,hb,cu,tt,zz,hcu,hfit⟩
  ·subst hg hb
   have hm0:m=0:=by omega
   subst hm0
   have hrun':=km (t:=t) (u:=u) (ty:=o.type) h1 hu hi hs (hrun w rfl).1 (hrun w rfl).2 hroom (base:=none) (w':=w) (fun _ h=>by simp at h) (fun _=>rfl)
   unfold Oper.wp
   rw [gu ho (by rw [hargs,ev];exact hrun')]
   refine ⟨fun _ _ _=>rfl,St,fun _ h=>h,_,hK none,?_⟩
   have hlt:=(List.getElem?_eq_some_iff.1 hH).1
   have hmv:aC G St ⟨s.env,s.b,s.H.set i (none,.blk ((n+0) * k) F)⟩ a w:=by
    refine ⟨hr.df,hr.sz,hr.env,hr.un,hr.s1,hr.s2,hr.s3,?_,hr.sn,hr.sg⟩
    obtain ⟨fp,hp⟩:=hr.hp
    refine ⟨fp,fun j q r hj=>?_,hp.dis,hp.own,fun j hj=>hp.out j (by simpa using hj)⟩
    by_cases hj2:j=i
    ·subst hj2
     simp [hlt] at hj
     obtain ⟨rfl,rfl⟩:=hj
     exact ⟨by simp [hn0],(hp.rep j none _ hH).2⟩
    ·rw [List.getElem?_set_ne (Ne.symm hj2)] at hj
     exact hp.rep j q r hj
   exact put hmv ⟨by omega,by rw [hn0,hc0]⟩
  ·subst hg hb
   obtain ⟨fp,hp⟩:=hr.hp
   obtain ⟨hb0,cur,ty,hh,hle2,hcell⟩:=hp.rep i (some b) _ hH
   have hq:=Option.some.inj (hcu.symm.trans hh)
   injection hq with e1 e2 e3
   have hfit:0+cap * k≤cur.size:=e1 ▸ hfit
   have hfit2:n * k+news.length≤cur.size:=by
    rw [hnl,← hlen]
    exact Nat.le_trans (Nat.mul_le_mul_right _ hroom) jO
   have hone:∀ v ∈ news,v.oneCell'=true:=fun v hv=>by
    obtain ⟨j,hj,e⟩:=List.mem_iff_getElem.1 hv
    have h2:=hnr j jO
    rw [show news.getD j undef=v by simp [List.getD,hj,e]] at h2
    exact vf (hleaf j jO) h2
   have hst:=run_storeCells_at P b (n * k) ty news 0 cur w hh (by simpa using hfit2) hone
   simp only [Nat.add_zero] at hst
   have hrun':=km (t:=t) (u:=u) (ty:=o.type) h1 hu hi hs (hrun w rfl).1 (hrun w rfl).2 hroom (base:=some ⟨b,0,none⟩) (w':=w.setRow b (cur.toList.take (n * k)++news++cur.toList.drop (n * k+news.length)).toArray) (fun ad h=>by
    have h:=Option.some.inj h
    subst h
    rw [iH,Nat.zero_add]
    exact hst) (fun h=>by simp at h)
   unfold Oper.wp
   rw [gu ho (by rw [hargs,ev];exact hrun')]
   refine ⟨fun q _ hg=>setRow_other w b q _ (fun e=>hg (by rw [e])),St,fun _ h=>h,_,hK (some b),?_⟩
   have hw:=hr.write hH hh (cs:=(cur.toList.take (n * k)++news++cur.toList.drop (n * k+news.length)).toArray) (by simp;omega) (n':=(n+m) * k) (f':=F) (by simp;omega) (fun j hj=>by
    refine hF j hj _ _ _ _ ?_
    rw [yy cur news (n * k) hfit2]
    unfold sP
    by_cases h3:j<n * k
    ·rw [if_pos h3,jK];exact hcell j jO
    ·rw [if_neg h3,jP];exact hnr _ jO)
   refine put hw ⟨cap,rfl,hroom,hcap,?_⟩
   exact ⟨_,_,_,setRow_heap w b cur _ _ _ hh,by simp;omega⟩
 ·-- a new row
  have hroom:cap<n+m:=by omega
  obtain ⟨olds,hol,hor,horun⟩:BH P G.al St w (.slice base n cap) k n f:=by
   rcases hbase with ⟨hg,hb,hc0,hn0⟩|⟨b,hg,hb,_⟩
   ·subst hb hn0 hc0;exact qu
   ·subst hg hb
    obtain ⟨_,cur,tt,zz,hh,hle,hc⟩:=vY hr hH
    refine oM (g:=fun j=>cur.getD j undef) fun j hj=>⟨?_,hc j jO⟩
    have hlt:j<cur.size:=by omega
    rw [Nat.zero_add,cell_of_row w b j cur tt zz hh];simp [hlt]
  have hrun':=qA (t:=t) (u:=u) (ty:=o.type) h1 hu hi hs hz (fun W hW=>(hrun W hW).1) (fun W hW=>(horun W hW).2) (fun W hW=>(hrun W hW).2) hroom h63 (by rw [hby];exact h48)
  unfold Oper.wp
  rw [gu ho (by rw [hargs,ev];exact hrun')]
  refine ⟨fun q hq _=>(di w _).block q hq,St,fun _ h=>h,_,hK (some w.heap.size),?_⟩
  have hgc:n+m≤grownCap w (n+m) cap e∧grownCap w (n+m) cap e≤9223372036854775807:=by
   have hlt:=Nat.mod_lt (w.tape w.drawn (.appendCap (n+m) cap e)) (show 0<2 ^ 63-(n+m) by omega)
   simp only [grownCap,Question.cut]
   omega
  have hcell0:(w.drew.alloc (.cells (olds.toArray++news.toArray++Builtin.zeroCells z.cells (grownCap w (n+m) cap e-(n+m))) e)).heap[w.heap.size]?=some (.cells (olds.toArray++news.toArray++Builtin.zeroCells z.cells (grownCap w (n+m) cap e-(n+m))) e (0,0)):=heap_alloc_new w.drew _
  have hsize:(olds.toArray++news.toArray++Builtin.zeroCells z.cells (grownCap w (n+m) cap e-(n+m))).size=grownCap w (n+m) cap e * k:=by
   simp [Builtin.zeroCells,hol,hnl,hzk]
   rw [← Nat.add_mul,← Nat.add_mul]
   congr 1
   omega
  have hEvo:qk St w (w.drew.alloc (.cells (olds.toArray++news.toArray++Builtin.zeroCells z.cells (grownCap w (n+m) cap e-(n+m))) e)):=qk.of_below (di w _) hr.s3
  have hfr:=hr.fresh (di w _) (Nat.le_refl _) hcell0 (n:=(n+m) * k) (f:=F) (by rw [hsize];exact Nat.mul_le_mul_right _ hgc.1) (fun j hj=>by
   refine hF j hj _ _ _ _ (bv.evo hEvo (fun _ x=>x) _ _ ?_)
   unfold sP
   rw [DD olds news _ j jO,hol]
   by_cases h3:j<n * k
   ·rw [if_pos h3,if_pos h3];exact hor j h3
   ·rw [if_neg h3,if_neg h3];exact hnr (j-n * k) jO)
  have hkl:=hfr.move ((List.getElem?_eq_some_iff.1 hH).1)
  refine put hkl ⟨_,rfl,hgc.1,hgc.2,_,_,_,hcell0,?_⟩
  rw [hsize]
  omega
end
section
variable {P:Program} {G:Gh} {ops:Array Oper} {o:Oper} {env:List (Nat×CV)} {b0:Nat→CV} {H:List (Option Nat×bp)} {K:AS→Prop} {t u:TypeId} {p q:Operand}
theorem Is {i off n m:Nat} {g:Option Nat} {f:Nat→CV} {c:CV} {l:List CV} (ho:o.op=.store t p q) (hx:(⟨env,b0,H⟩:AS).eval p=.op i g off) (hH:H[i]?=some (g,.blk n f)) (hy:(⟨env,b0,H⟩:AS).eval q=c) (hl:ek c=some l) (h5:(P.info? t).map (·.size)=some m) (hm:l.length=m) (hleaf:l.all fo=true) (hn:off+m≤n)
  (F:Nat→CV) (hF:∀ j,j<n→ab (mo f off l j) (F j)) (hd:o.dst=none) (hK:K ⟨env,b0,H.set i (g,.blk n F)⟩):Nb P G g o ⟨env,b0,H⟩ K :=
 FE ho hx hH hy hl h5 hm hleaf hn F hF (M3 hd) (by rw [wJ hd];exact hK)
theorem FG {e:TypeId} {z:Value} {i n m k N by_ n' N' d:Nat} {g:Option Nat} {f h:Nat→CV} (ho:o.op=.call ⟨.builtin .append,#[p,q],#[t,u]⟩) (hx:(⟨env,b0,H⟩:AS).eval p=.os i g 0 n k) (hH:H[i]?=some (g,.blk N f)) (hN:n * k≤N)
  (hsrc:wD P G ⟨env,b0,H⟩ q k m h) (h1:P.underlying t=some (.slice e)) (hu:dZ P u=true) (h5:(P.info? e).map (·.size)=some k) (hz:(P.info? e).map (·.zero)=some (some z)) (hby:(P.info? e).map (·.bytes)=some by_)
  (h63:n+m≤9223372036854775807) (h48:(n+m) * by_≤140737488355328) (hzk:z.cells.size=k)
  (F:Nat→CV) (hF:∀ j,j<(n+m) * k→ab (sP (n * k) f h j) (F j)) (hleaf:∀ j,j<m * k→fo (h j)=true) (hd:o.dst=some d) (hdN:Nat.blt d G.N=true) (hn':n+m=n') (hN':(n+m) * k=N')
  (hK:∀ g',K ⟨(d,.os i g' 0 n' k)::env,b0,H.set i (g',.blk N' F)⟩):Nb P G g o ⟨env,b0,H⟩ K :=
 CH ho hx hH hN hsrc h1 hu h5 hz hby h63 h48 hzk F hF hleaf (kW hd hdN) fun g'=>by subst hn';subst hN';rw [dU hd];exact hK g'
theorem i4 {α:Type} {C:List α→Nat→CV} {k:Nat} (hC:Dj k C) {e:TypeId} {z:Value} {i n N N' by_ d:Nat} {t u:TypeId} {p q:Operand} {env:List (Nat×CV)} {b0:Nat→CV} {H:List (Option Nat×bp)} {K:AS→Prop} {g:Option Nat} {f h:Nat→CV} {l l2:List α} {m:Nat} (ho:o.op=.call ⟨.builtin .append,#[p,q],#[t,u]⟩) (hx:(⟨env,b0,H⟩:AS).eval p=.os i g 0 n k) (hn:n=l.length) (hH:H[i]?=some (g,.blk N f)) (hN:l.length * k≤N) (hf:∀ j,j<l.length * k→ab (f j) (C l j))
  (hsrc:wD P G ⟨env,b0,H⟩ q k m h) (hm:m=l2.length) (hh:∀ j,j<l2.length * k→ab (h j) (C l2 j)) (h1:P.underlying t=some (.slice e)) (hu:dZ P u=true) (h5:(P.info? e).map (·.size)=some k) (hz:(P.info? e).map (·.zero)=some (some z)) (hby:(P.info? e).map (·.bytes)=some by_) (hzk:z.cells.size=k)
  (h63:l.length+l2.length≤9223372036854775807) (h48:(l.length+l2.length) * by_≤140737488355328) (hleaf:∀ j,j<m * k→fo (h j)=true) (hd:o.dst=some d) (hdN:Nat.blt d G.N=true) (hN':(l++l2).length * k=N')
  (hK:∀ g',K ⟨(d,.os i g' 0 (l++l2).length k)::env,b0,H.set i (g',.blk N' (C (l++l2)))⟩):Nb P G g o ⟨env,b0,H⟩ K:=by
 subst hm hn
 refine FG ho hx hH hN hsrc h1 hu h5 hz hby h63 h48 hzk (C (l++l2)) (fun j hj=>?_) hleaf hd hdN List.length_append.symm (by rw [← List.length_append];exact hN') hK
 rw [← hC l l2 j hj]
 unfold sP
 split
 ·rename_i h;exact hf j h
 ·rename_i h
  refine hh _ ?_
  rw [Nat.add_mul] at hj
  omega
end
section
variable {P:Program} {G:Gh} {ops:Array Oper} {o:Oper} {s:AS} {K:AS→Prop} {n:Nat} {R:Exit→AS→Prop}
def pI (P:Program) (G:Gh) (ops:Array Oper) (n:Nat) (t:dO) (s:AS) (K:AS→Prop):Prop :=
 ∀ St a w,aC G St s a w→∀ Q:Exit→Act→World→Prop,(∀ s' a' w',K s'→wd G s' a' w'→Q .normal a' w')→∃ St':Nat→Prop,(∀ b,St b→St' b)∧jl P ops Q (fun b=>St' b∨b=n) t a w
theorem Kl (h:K s):pI P G ops n .done s K:=fun St _ _ hr _ hQ=>⟨St,fun _ h=>h,hQ _ _ _ h ⟨_,hr⟩⟩
theorem OM {t:dO} {v:CV} (hw:be G ops o s true) (hd:ck G o=true) (h:cq P G o s v) (hk:pI P G ops n t (s.put o.dst v) K):pI P G ops n (.rd o t) s K:=fun St a w hr Q hQ=>by
 obtain ⟨x,hx,hv⟩:=h St a w hr
 obtain ⟨St',hs,h2⟩:=hk _ _ _ (hr.put (ef hd) hv) Q hQ
 exact ⟨St',hs,x,.inl (gO.grow (S:=St) (fun b hb=>.inl (hs b hb)) (.inl ⟨hw St a w hr,fun W hW=>hx W hW⟩)),h2⟩
theorem Ng {t:dO} {v:CV} (hw:be G ops o s true) (hd:ck G o=true) (hb:Fn ops o=true) (h:lg P G o s v) (hk:pI P G ops n t (s.put o.dst v) K):pI P G ops n (.rd o t) s K:=fun St a w hr Q hQ=>by
 obtain ⟨x,hx,hv⟩:=h St a w hr
 obtain ⟨St',hs,h2⟩:=hk _ _ _ (hr.put (ef hd) hv) Q hQ
 exact ⟨St',hs,x,.inr ⟨hb,.inl ⟨hw St a w hr,fun W hW=>hx W hW⟩⟩,h2⟩
def ME (P:Program) (G:Gh) (n:Nat) (o:Oper) (s:AS) (v:CV):Prop:=∀ St a w,aC G St s a w→∃ x,(∀ W:World,W.heap[n]?=w.heap[n]?→(execOp a.eval o).run P W=.ok (.value x) W)∧bv G.al St w v x
theorem Nh {t:dO} {v:CV} (hw:be G ops o s true) (hd:ck G o=true) (h:ME P G n o s v) (hk:pI P G ops n t (s.put o.dst v) K):pI P G ops n (.rd o t) s K:=fun St a w hr Q hQ=>by
 obtain ⟨x,hx,hv⟩:=h St a w hr
 obtain ⟨St',hs,h2⟩:=hk _ _ _ (hr.put (ef hd) hv) Q hQ
 exact ⟨St',hs,x,.inl (.inl ⟨hw St a w hr,fun W hW=>hx W (hW n (.inr rfl))⟩),h2⟩
theorem AR {St:Nat→Prop} {a:Act} {w:World} {j m:Nat} {f:Nat→CV} (hr:aC G St s a w) (hj:s.H[j]?=some (some n,.blk m f)):n<w.heap.size∧¬ St n:=by
 obtain ⟨fp,hp⟩:=hr.hp
 have:=hp.own j n (((hp.rep j (some n) _ hj).1 n).2 rfl)
 exact ⟨this.1,this.2.1⟩
theorem LO {St:Nat→Prop} {a:Act} {w:World} {i j m N:Nat} {g:Option Nat} {f F:Nat→CV} (hr:aC G St s a w) (hj:s.H[j]?=some (some n,.blk m f)) (hi:s.H[i]?=some (g,.blk N F)) (hij:i≠j):g≠some n:=by
 rintro rfl
 obtain ⟨fp,hp⟩:=hr.hp
 exact hij (hp.dis i j n (((hp.rep i (some n) _ hi).1 n).2 rfl) (((hp.rep j (some n) _ hj).1 n).2 rfl))
theorem ON {t:dO} {i j m N:Nat} {g:Option Nat} {f F:Nat→CV} (hw:be G ops o s true) (hm:td o=true) (hj:s.H[j]?=some (some n,.blk m f)) (hi:s.H[i]?=some (g,.blk N F)) (hij:i≠j) (h:Nb P G g o s (fun s'=>pI P G ops n t s' K)):pI P G ops n (.one o t) s K:=fun St a w hr Q hQ=>by
 refine ⟨St,fun _ h=>h,?_⟩
 unfold jl
 rw [if_pos (hw St a w hr)]
 have hn:=AR hr hj
 have hg:=LO hr hj hi hij
 refine Oper.wp_mono (fun a' w' ⟨hb,St',hs,s',h1,h2⟩=>?_) (h St a w hr Q)
 obtain ⟨St2,hs2,h3⟩:=h1 St' a' w' h2 Q hQ
 refine ⟨⟨fun b hb'=>?_,fun h=>by rw [Option.any_some,hm] at h;cases h⟩,_,fun b hb=>hb.imp (fun h=>hs2 b (hs b h)) id,h3⟩
 rcases hb' with hb'|rfl
 ·refine hb b (hr.s3 b hb') ?_
  rintro rfl
  obtain ⟨fp,hp⟩:=hr.hp
  exact (hp.own i b (((hp.rep i (some b) _ hi).1 b).2 rfl)).2.1 hb'
 ·exact hb b hn.1 hg
theorem OO {t:dO} {j m:Nat} {f:Nat→CV} (hw:be G ops o s true) (hj:s.H[j]?=some (some n,.blk m f)) (h:lb P G o s (fun s'=>pI P G ops n t s' K)):pI P G ops n (.one o t) s K:=fun St a w hr Q hQ=>by
 refine ⟨St,fun _ h=>h,?_⟩
 unfold jl
 rw [if_pos (hw St a w hr)]
 have hn:=AR hr hj
 refine Oper.wp_mono (fun a' w' ⟨hb,St',hs,s',h1,h2⟩=>?_) (h St a w hr Q)
 obtain ⟨St2,hs2,h3⟩:=h1 St' a' w' h2 Q hQ
 refine ⟨⟨fun b hb'=>?_,fun _=>hb⟩,_,fun b hb=>hb.imp (fun h=>hs2 b (hs b h)) id,h3⟩
 rcases hb' with hb'|rfl
 ·exact hb.block b (hr.s3 b hb')
 ·exact hb.block b hn.1
theorem Nf {p:Oper} {t u:dO} (h1:pI P G ops n (.one o t) s K) (h2:pI P G ops n (.one p u) s K):pI P G ops n (.two o t p u) s K:=fun St a w hr Q hQ=>by
 obtain ⟨S1,hs1,h3⟩:=h1 St a w hr Q hQ
 obtain ⟨S2,hs2,h4⟩:=h2 St a w hr Q hQ
 have h3:=mn (S:=fun b=>St b∨b=n) (fun b hb=>hb.imp (hs1 b) id) h3
 have h4:=mn (S:=fun b=>St b∨b=n) (fun b hb=>hb.imp (hs2 b) id) h4
 unfold jl at h3 h4
 exact ⟨St,fun _ h=>h,h3,h4⟩
theorem jW {tr:dO} {s':AS} (he:cU G s s') (h:pI P G ops n tr s' K):pI P G ops n tr s K:=fun St a w hr Q hQ=>by
 obtain ⟨S1,h1,h2⟩:=he St a w hr
 obtain ⟨S2,h3,h4⟩:=h S1 a w h2 Q hQ
 exact ⟨S2,fun b hb=>h3 b (h1 b hb),h4⟩
theorem C5 {id:Nat} (n:Nat) (u:jV) (hmix:P.follows .mixedOrders=true) (hs:Region.noSelect ops=true) (hul:u.len=ops.size) (huin:u.within ops.size=true) (hu:du .any ops u (Array.replicate ops.size false)=true)
  (h:pI P G ops n (az ops u) s (R .normal)) (hd:BM G.rd ops=true:=by rfl):bj P G (.region id ops true) s R:=fun a w ⟨St,hr⟩ Q hQ =>
 let ⟨_,_,h5⟩:=h St a w.drew (hr.ext (jQ w)) (NoPanic (wg Q)) (fun s'' a'' w'' h3 h4=>NoPanic.normal (hQ .normal s'' a'' w'' h3 h4))
 qn hd hmix (M9 u hs hul huin hu h5)
theorem HG {t:TypeId} {x:Operand} {d:TypeDesc} {i off N:Nat} {f:Nat→CV} {v:CV} (ho:o.op=.load t x) (hx:s.eval x=.op i (some n) off) (hH:Holds s i (some n) N f) (h1:P.underlying t=some d) (ha:jT P t=false) (hn:off<N) (hv:f off=v):ME P G n o s v:=fun St a w h=>by
 obtain ⟨b,hb,e⟩:=ka h hx
 cases hb
 obtain ⟨hg,cur,ty,z,hh,hle,hc⟩:=i7 h hH
 have hlt:off<cur.size:=by omega
 have hcell:w.cell? ⟨n,off,none⟩=some (cur.getD off undef):=by
  rw [cell_of_row w n off cur ty z hh];simp [hlt]
 refine ⟨_,fun W hW=>kB ho e (im h1 ha ?_),hv ▸ hc off hn⟩
 exact (cY hW off).trans hcell
end
section
variable {P:Program} {G:Gh} {ops:Array Oper} {o:Oper} {s:AS} {env:List (Nat×CV)} {b0:Nat→CV} {H:List (Option Nat×bp)} {K:AS→Prop} {i n:Nat} {t:jV} {R:Exit→AS→Prop}
theorem PB {t:TypeId} {x:Operand} {i off N:Nat} {f:Nat→CV} {v:CV} (ho:o.op=.load t x:=by exact rfl) (hx:s.eval x=.op i (some n) off:=by exact rfl) (hH:Holds s i (some n) N f:=by first|exact .inl rfl|exact .inr rfl) (hv:f off=v:=by first|exact mU rfl|exact pZ rfl) (hn:off<N:=by first|decide|omega|(dsimp only at *;omega)) (hT:CQ P t=true:=by kernel_rfl):ME P G n o s v:=by
 obtain ⟨d,h1,ha⟩:=qS hT
 exact HG ho hx hH h1 ha hn hv
theorem QO {d:Nat} {v:CV} (h:ME P G n (dR ops.toList i) ⟨env,b0,H⟩ v) (hk:pI P G ops n (az ops t) ⟨(d,v)::env,b0,H⟩ K) (hd:(dR ops.toList i).dst=some d:=by exact rfl) (hN:Nat.blt d G.N=true:=by exact rfl) (hw:be G ops (dR ops.toList i) ⟨env,b0,H⟩ true:=by first|exact bq rfl|exact ce rfl rfl rfl rfl true rfl) (hi:Nat.blt i ops.size=true:=by exact rfl):pI P G ops n (az ops (.rd i t)) ⟨env,b0,H⟩ K:=by
 rw [mT hi]
 exact Nh hw (by simp only [ck,hd];exact hN) h (by simp only [AS.put,hd];exact hk)
theorem FQ {d:Nat} {v:CV} (h:cq P G (dR ops.toList i) ⟨env,b0,H⟩ v) (hk:pI P G ops n (az ops t) ⟨(d,v)::env,b0,H⟩ K) (hd:(dR ops.toList i).dst=some d:=by exact rfl) (hN:Nat.blt d G.N=true:=by exact rfl) (hw:be G ops (dR ops.toList i) ⟨env,b0,H⟩ true:=by first|exact bq rfl|exact ce rfl rfl rfl rfl true rfl) (hi:Nat.blt i ops.size=true:=by exact rfl):pI P G ops n (az ops (.rd i t)) ⟨env,b0,H⟩ K:=by
 rw [mT hi]
 exact OM hw (by simp only [ck,hd];exact hN) h (by simp only [AS.put,hd];exact hk)
theorem Q7 {d:Nat} {v:CV} (h:lg P G (dR ops.toList i) ⟨env,b0,H⟩ v) (hk:pI P G ops n (az ops t) ⟨(d,v)::env,b0,H⟩ K) (hd:(dR ops.toList i).dst=some d:=by exact rfl) (hN:Nat.blt d G.N=true:=by exact rfl) (hw:be G ops (dR ops.toList i) ⟨env,b0,H⟩ true:=by first|exact bq rfl|exact ce rfl rfl rfl rfl true rfl) (hb:Fn ops (dR ops.toList i)=true:=by kernel_rfl) (hi:Nat.blt i ops.size=true:=by exact rfl):pI P G ops n (az ops (.rd i t)) ⟨env,b0,H⟩ K:=by
 rw [mT hi]
 exact Ng hw (by simp only [ck,hd];exact hN) hb h (by simp only [AS.put,hd];exact hk)
theorem PG (j:Nat) {m:Nat} {f:Nat→CV} (h:lb P G (dR ops.toList i) ⟨env,b0,H⟩ (fun s'=>pI P G ops n (az ops t) s' K)) (hj:H[j]?=some (some n,.blk m f):=by exact rfl) (hw:be G ops (dR ops.toList i) ⟨env,b0,H⟩ true:=by first|exact bq rfl|exact ce rfl rfl rfl rfl true rfl) (hi:Nat.blt i ops.size=true:=by exact rfl):pI P G ops n (az ops (.one i t)) ⟨env,b0,H⟩ K:=by rw [gA hi];exact OO hw hj h
theorem LX (j i0:Nat) {m N:Nat} {g:Option Nat} {f F:Nat→CV} (h:Nb P G g (dR ops.toList i) ⟨env,b0,H⟩ (fun s'=>pI P G ops n (az ops t) s' K)) (hj:H[j]?=some (some n,.blk m f):=by exact rfl) (h0:H[i0]?=some (g,.blk N F):=by exact rfl) (hij:i0≠j:=by decide) (hw:be G ops (dR ops.toList i) ⟨env,b0,H⟩ true:=by first|exact bq rfl|exact ce rfl rfl rfl rfl true rfl) (hm:td (dR ops.toList i)=true:=by exact rfl) (hi:Nat.blt i ops.size=true:=by exact rfl):pI P G ops n (az ops (.one i t)) ⟨env,b0,H⟩ K:=by rw [gA hi];exact ON hw hm hj h0 hij h
theorem Qw (h:K s):pI P G ops n (az ops .done) s K:=Kl h
theorem M0 {j:Nat} {u:jV} (h1:pI P G ops n (az ops (.one i t)) s K) (h2:pI P G ops n (az ops (.one j u)) s K) (hi:Nat.blt i ops.size=true:=by exact rfl) (hj:Nat.blt j ops.size=true:=by exact rfl):pI P G ops n (az ops (.two i t j u)) s K:=by
 rw [gA hi] at h1
 rw [gA hj] at h2
 simp only [az,ly hi,ly hj]
 exact Nf h1 h2
theorem CP (m:Nat) (F:Nat→CV) {t:TypeId} {p q:Operand} {i off n:Nat} {g:Option Nat} {f:Nat→CV} {c:CV} {l:List CV} (hF:∀ j,j<n→ab (mo f off l j) (F j)) (hK:K ⟨env,b0,H.set i (g,.blk n F)⟩) (ho:o.op=.store t p q:=by exact rfl) (hx:(⟨env,b0,H⟩:AS).eval p=.op i g off:=by exact rfl) (hH:H[i]?=some (g,.blk n f):=by exact rfl) (hy:(⟨env,b0,H⟩:AS).eval q=c:=by first|exact s8 rfl|exact s9 rfl rfl rfl|exact tc rfl) (hl:ek c=some l:=by exact rfl) (hm:l.length=m:=by exact rfl) (h5:(P.info? t).map (·.size)=some m:=by kernel_rfl) (hleaf:l.all fo=true:=by exact rfl) (hn:off+m≤n:=by first|decide|omega|(dsimp only at *;omega)) (hd:o.dst=none:=by exact rfl):Nb P G g o ⟨env,b0,H⟩ K :=
 Is ho hx hH hy hl h5 hm hleaf hn F hF hd hK
theorem Qu {id:Nat} (n:Nat) (u:jV) (h:pI P G ops n (az ops u) s (R .normal)) (hmix:P.follows .mixedOrders=true:=by kernel_rfl) (hs:Region.noSelect ops=true:=by kernel_rfl) (hul:u.len=ops.size:=by exact rfl) (huin:u.within ops.size=true:=by kernel_rfl) (hu:du .any ops u (Array.replicate ops.size false)=true:=by kernel_rfl) (hd:BM G.rd ops=true:=by rfl):bj P G (.region id ops true) s R:=C5 n u hmix hs hul huin hu h hd
end
end
section
def JV (_:Nat):Prop:=True
theorem jv (k:Nat) {n:Nat} (_:JV n) (_:Nat.beq (Nat.mod n 10) k=true:=by exact rfl):JV (Nat.div n 10):=trivial
structure JB (B:Prop):Prop where v:B
theorem jU (n:Nat) {A B:Prop} (b:B) (h:JV n→JB B→A:=by
 intro c b
 repeat (first|(replace c:=jv 1 c;refine jq IH ?_)|(replace c:=jv 2 c;refine jq QM ?_)|(replace c:=jv 3 c;refine jq Oe ?_)|(replace c:=jv 4 c;refine Q2 ?_)|(replace c:=jv 5 c;refine jN ?_)|(replace c:=jv 6 c;refine cy ?_)|(replace c:=jv 7 c;refine iy ?_)|(replace c:=jv 8 c;refine QX ?_)|(replace c:=jv 9 c;refine jq IJ ?_)|(replace c:=jv 0 c;first|(replace c:=jv 1 c;refine jS ?_)|(replace c:=jv 2 c;refine jB ?_)|(replace c:=jv 3 c;refine jq QK ?_)|(replace c:=jv 4 c;refine jq IG ?_)|(replace c:=jv 5 c;refine eL mS ?_)|(replace c:=jv 6 c;refine jq vl ?_)|(replace c:=jv 7 c;refine bV IH ?_)|(replace c:=jv 8 c;refine BO ?_)|(replace c:=jv 9 c;refine jq (da 0 1 false) ?_)|(replace c:=jv 0 c;first|(replace c:=jv 1 c;refine jq (da 1 1 false) ?_)|(replace c:=jv 2 c;refine QN ?_)|(replace c:=jv 3 c;refine Q4 ?_)|(replace c:=jv 4 c;refine Q6 ?_)|(replace c:=jv 5 c;refine jq Pu ?_)|(replace c:=jv 6 c;refine QW ?_)|(replace c:=jv 7 c;refine jq fb ?_)|(replace c:=jv 8 c;refine bV QM ?_)|(replace c:=jv 9 c;refine jq Qo ?_)|(replace c:=jv 0 c;first|(replace c:=jv 1 c;refine jq (da 2 1 false) ?_)|(replace c:=jv 2 c;refine QY ?_)|(replace c:=jv 3 c;refine ii ?_)|(replace c:=jv 4 c;refine Q5 ?_)|(replace c:=jv 5 c;refine yY ?_)|(replace c:=jv 6 c;refine jX ?_)|(replace c:=jv 7 c;refine jR ?_)|(replace c:=jv 8 c;refine cX (hv:=?_))|(replace c:=jv 9 c;refine Q3 ?_)|(replace c:=jv 0 c;first|(replace c:=jv 1 c;refine Ki mS ?_)|(replace c:=jv 2 c;refine bV Oe ?_)|(replace c:=jv 3 c;refine bV IJ ?_)|(replace c:=jv 4 c;refine jq Pv ?_)|(replace c:=jv 5 c;refine bV IG ?_)|(replace c:=jv 6 c;refine jq CN ?_)|(replace c:=jv 7 c;refine bV vl ?_)|(replace c:=jv 8 c;refine Qv ?_)|(replace c:=jv 9 c;refine bV fb ?_)|(replace c:=jv 0 c;first|(replace c:=jv 1 c;refine bV QK ?_)|(replace c:=jv 2 c;refine jq Qq ?_)|(replace c:=jv 3 c;refine bV Pu ?_)|(replace c:=jv 4 c;refine ig IH ?_)|(replace c:=jv 5 c;refine jq Q1 ?_)|(replace c:=jv 6 c;refine jq Q0 ?_)|(replace c:=jv 7 c;refine QV ?_)|(replace c:=jv 8 c;refine jq (GA .i64 .u8) ?_)|(replace c:=jv 9 c;refine bV (da 0 1 false) ?_)|(replace c:=jv 0 c;first|(replace c:=jv 1 c;refine jq QZ ?_)|(replace c:=jv 2 c;refine jq (fb (i:=0)) ?_)|(replace c:=jv 3 c;refine bV Pt ?_)|(replace c:=jv 4 c;refine bV (dy 3) ?_)|(replace c:=jv 5 c;refine jq (da 3 1 false) ?_)|(replace c:=jv 6 c;refine jq (da 5 1 false) ?_)|(replace c:=jv 7 c;refine jq (da 4 1 false) ?_)|(replace c:=jv 8 c;refine bV (da 1 1 false) ?_)|(replace c:=jv 9 c;refine ig IG ?_)|(replace c:=jv 0 c;first|(replace c:=jv 1 c;refine ig (da 0 1 false) ?_)|(replace c:=jv 2 c;refine jq (da 6 1 false) ?_)|(replace c:=jv 3 c;refine bV CO ?_)|(replace c:=jv 4 c;refine QU ?_)|(replace c:=jv 5 c;refine MS mS ?_)|(replace c:=jv 6 c;refine ig (da 1 1 false) ?_)|(replace c:=jv 7 c;refine jq (Ps .i64) ?_)|(replace c:=jv 8 c;refine jq CM ?_)|(replace c:=jv 9 c;refine jq tH ?_)|(replace c:=jv 0 c;first|(replace c:=jv 1 c;refine jq Pt ?_))))))))))
 exact b.v):A:=h trivial ⟨b⟩
end
section
variable {gs:List Nat} [fZ gs]

theorem ml {gs:List Nat} (l:List UInt8) (hl:l.length≤100000000000):bM gs Tryz.prog 131 [bu l] (bu l):=by
 refine ai 8 Tryz.func131 fun al w0 F0 St0=>?_;refine jU 167516 ?_;refine wS (bq rfl) rfl rfl rfl Tryz.underlying22 rfl rfl (fun h357=>?_) ?_
 ·refine jU 51690005 ?_
  refine jR (ii (cX (hv:=ab.nilS' h357)))
 ·refine jU 68103005 ?_
  refine ak (aU 0 1 f7 fun p1=>?_)
  refine jU 1 ?_
  refine ar (bC (l:=[]) rfl rfl rfl (Nat.zero_le _) (fun j hj=>absurd hj (Nat.not_lt_zero j)) (dj rfl) rfl (fun j hj=>by simp only [Nat.div_one];exact cZ) Tryz.underlying22 iM qi f7 rB rfl (by (simp;omega)) (fun j hj=>rfl) rfl rfl (fun p2=>?_))
  refine jU 51 ?_;refine jE (freeze 0 rfl) ?_;refine jE (kE 2 ([]++l) rfl rfl (by rfl) rfl) ?_
  refine jR (cX (hv:=ab.bs (List.nil_append l)))
theorem xB {gs:List Nat} (c:UInt8):bM gs Tryz.prog 276 [.c (.int .u8 (c.toNat:Nat))] (.c (.bool false)):=by
 refine ai 6 Tryz.func276 fun al w0 F0 St0=>?_;refine jU 512116516 ?_
 refine jR (cX (hv:=cB (by simp)))
def f5 (a b:UInt8):Int:=if a.toNat<b.toNat then -1 else if b.toNat<a.toNat then 1 else 0
theorem Mv {gs:List Nat} (a b:UInt8):bM gs Tryz.prog 264 [.c (.int .u8 (a.toNat:Nat)),.c (.int .u8 (b.toNat:Nat))] (.c (.int .i64 (f5 a b))):=by
 refine ai 20 Tryz.func264 fun al w0 F0 St0=>?_;refine jU 16516 ?_
 refine ak (ap (xB a) ?_)
 refine jU 1651 ?_
 refine ak (ap (xB b) ?_)
 refine jU 516751 ?_;refine aq (fun h43=>?_) fun h43=>?_
 ·refine jU 5167 ?_;refine aq (fun h44=>?_) fun h44=>?_
  ·refine jU 8000300030007000516 ?_
   (exfalso;simp at *;done)
  refine jU 800030007000516810 ?_
  (exfalso;simp at *;done)
 refine jU 5167810 ?_;refine aq (fun h49=>?_) fun h49=>?_
 ·refine jU 800030007000516 ?_
  (exfalso;simp at *;done)
 refine jU 521167810 ?_;refine aq (fun h52=>?_) fun h52=>?_
 ·refine jU 800030007000516 ?_
  (refine cI ?_;unfold f5;split <;> omega)
 refine jU 521167810 ?_;refine aq (fun h55=>?_) fun h55=>?_
 ·refine jU 800030007000516 ?_
  (refine cI ?_;unfold f5;split <;> omega)
 refine jU 80007000516810 ?_
 (refine cI ?_;unfold f5;split <;> omega)
def eo:List UInt8→List UInt8→Int
 | [],[]=>0
 | [],_::_=>-1
 | _::_,[]=>1
 | a::l,b::r=>if f5 a b≠0 then f5 a b else eo l r
theorem ry:∀ l r:List UInt8,decide (eo l r<0)=Op.bytesLess l r
 | [],[]=>by simp [eo,Op.bytesLess]
 | [],_::_=>by simp [eo,Op.bytesLess]
 | _::_,[]=>by simp [eo,Op.bytesLess]
 | a::l,b::r=>by
  have ih:=ry l r
  rw [eo,Op.bytesLess,← ih]
  have h1:(a<b)↔a.toNat<b.toNat:=UInt8.lt_iff_toNat_lt
  have h2:(a=b)↔a.toNat=b.toNat:=UInt8.toNat_inj.symm
  rw [Bool.eq_iff_iff]
  simp only [decide_eq_true_eq,Bool.or_eq_true,Bool.and_eq_true,beq_iff_eq,h1,h2]
  by_cases h3:a.toNat<b.toNat
  ·simp [f5,h3]
  ·by_cases h4:b.toNat<a.toNat
   ·simp [f5,h3,h4]
    omega
   ·have h5:a.toNat=b.toNat:=by omega
    simp [f5,h5]
theorem sK {l r:List UInt8} {i:Nat} (h1:i<l.length) (h2:i<r.length):eo (l.drop i) (r.drop i)=if f5 (l.getD i 0) (r.getD i 0)≠0 then f5 (l.getD i 0) (r.getD i 0) else eo (l.drop (i+1)) (r.drop (i+1)):=by
 rw [List.drop_eq_getElem_cons h1,List.drop_eq_getElem_cons h2,eo]
 simp [List.getD,h1,h2]
theorem Bw {gs:List Nat} (l r:List UInt8):bM gs Tryz.prog 238 [bu l,bu r] (.c (.int .i64 (eo l r))):=by
 refine kg 0 rfl fun hlen=>?_;refine ai 36 Tryz.func238 fun al w0 F0 St0=>?_;refine jU 20513167516 ?_;refine aF (α:=Nat) [4,5,6,7,8,11,12,13,14,15,16,17,18,19,20,21,22,23,24,25,26,27,28,29,30] (fun i=>[(11,.c (.int .i64 (i:Nat)))]) (fun _=>[]) (fun i=>i≤l.length∧i≤r.length∧eo (l.drop i) (r.drop i)=eo l r) (fun i=>l.length-i) (0) ?_ (fun _=>rfl) ?_ ?_ ?_
 ·exact ⟨by omega,by omega,rfl⟩
 ·(repeat (first|exact bZ.nil|refine bZ.cons cZ ?_))
 ·(repeat (exact aS.nil))
 ·rintro i ⟨hi,hj,he⟩
  refine jU 7526 ?_;refine aq (fun h58=>?_) fun h58=>?_
  rotate_left
  ·refine jU 5231316784000200020006000 ?_;refine aq (fun h67=>?_) fun h67=>?_
   ·refine jU 800030007000516 ?_;refine cI ?_
    have h1:l.drop i=[]:=List.drop_eq_nil_of_le jO
    rw [← he,h1]
    (rw [List.drop_eq_getElem_cons (show i<r.length by omega)];rfl)
   refine jU 80007000516810 ?_;refine cI ?_
   have h1:l.drop i=[]:=List.drop_eq_nil_of_le jO
   rw [← he,h1]
   (rw [List.drop_eq_nil_of_le (show r.length≤i by omega)];rfl)
  refine jU 52311675116070016207810 ?_;refine aq (fun h59=>?_) fun h59=>?_
  ·refine jU 80003000500030003000500030007000516 ?_;refine cI ?_
   have:r.drop i=[]:=List.drop_eq_nil_of_le jO
   rw [← he,this,List.drop_eq_getElem_cons jO]
   rfl
  refine jU 1165160700116810 ?_
  refine ak (ap (Mv (l.getD i 0) (r.getD i 0)) ?_)
  refine jU 521651 ?_;refine aq (fun h63=>?_) fun h63=>?_
  ·refine jU 80003000500030003000500070005116 ?_;refine cI ?_
   rw [← he,sK (l:=l) (r:=r) (i:=i) jO jO,if_pos h63]
  refine jU 8519200840010 ?_;refine aw (i+1) ?_ ?_
  ·exact ⟨by omega,by omega,by rw [← he,sK (l:=l) (r:=r) (i:=i) jO jO,if_neg h63]⟩
  ·omega

def L4 (l:List Int) (x:Int):Int:=if x ∈ l then (l.idxOf x:Nat) else -1
theorem CS {gs:List Nat} (l:List Int) (x:Int):bM gs Tryz.prog 275 [wl l,.c (.int .i64 x)] (.c (.int .i64 (L4 l x))):=by
 refine kg 0 rfl fun hlen=>?_;refine ai 19 Tryz.func275 fun al w0 F0 St0=>?_;refine jU 20513167516 ?_;refine aF (α:=Nat) [4,5,8,9,10,11,12,13,14,15,16,17,18] (fun i=>[(8,.c (.int .i64 (i:Nat)))]) (fun _=>[]) (fun i=>i≤l.length∧x ∉ l.take i) (fun i=>l.length-i) (0) ?_ (fun _=>rfl) ?_ ?_ ?_
 ·exact ⟨by omega,by simp⟩
 ·(repeat (first|exact bZ.nil|refine bZ.cons cZ ?_))
 ·(repeat (exact aS.nil))
 ·rintro i ⟨hi,he⟩
  refine jU 7526 ?_;refine aq (fun h97=>?_) fun h97=>?_
  rotate_left
  ·refine jU 8000700051684000200020006000 ?_;refine cI ?_
   have:l.take i=l:=List.take_of_length_le jO
   rw [this] at he
   unfold L4
   rw [if_neg he]
  refine jU 526070011165116207810 ?_;refine aq (fun h98=>?_) fun h98=>?_
  ·refine jU 80003000500030003000500070005116 ?_;refine cI ?_
   have hlt:i<l.length:=by omega
   have e:l.getD i 0=l[i]:=by simp [List.getD,hlt]
   have hm:x ∈ l:=by rw [h98,e];exact List.getElem_mem hlt
   have hx:l.idxOf x=i:=by
    have e2:l=l.take i++l[i]::l.drop (i+1):=by rw [← List.drop_eq_getElem_cons hlt,List.take_append_drop]
    rw [e2,List.idxOf_append,if_neg he,h98,e]
    rw [← List.drop_eq_getElem_cons hlt,List.drop_eq_getElem_cons hlt,List.idxOf_cons_self,List.length_take]
    omega
   unfold L4
   rw [if_pos hm,hx]
  refine jU 8519200840010 ?_;refine aw (i+1) ?_ ?_
  ·exact ⟨by omega,fun hm=>by
    rw [List.take_succ_eq_append_getElem jO] at hm
    rcases List.mem_append.1 hm with h|h
    ·exact he h
    ·have e:l.getD i 0=l[i]:=by simp [List.getD,show i<l.length by omega]
     simp at h
     rw [e] at h98
     exact h98 h⟩
  ·omega
theorem wA {gs:List Nat} (l:List Int) (x:Int):bM gs Tryz.prog 262 [wl l,.c (.int .i64 x)] (.c (.bool (decide (x ∈ l)))):=by
 refine ai 9 Tryz.func262 fun al w0 F0 St0=>?_;refine jU 116516 ?_
 refine ak (ap (CS l x) ?_)
 refine jU 80007000512 ?_;refine cB ?_
 unfold L4
 split <;> simp_all <;> omega

def yB (l:List UInt8) (i:Nat):List UInt8:=(List.range l.length).map fun j=>if j<i∨l.length≤j+i then l.reverse.getD j 0 else l.getD j 0
theorem lV {l:List UInt8} {i j:Nat} (h:j<l.length):(yB l i).getD j 0=if j<i∨l.length≤j+i then l.reverse.getD j 0 else l.getD j 0:=by simp [yB,List.getD,h]
theorem DF {l:List UInt8} {j:Nat} (h:j<l.length):l.reverse.getD j 0=l.getD (l.length-1-j) 0:=by
 simp [List.getD,List.getElem?_reverse h,show l.length-1-j<l.length by omega]
theorem Hq {l:List UInt8} {i:Nat} (h:l.length≤2 * i+1):yB l i=l.reverse:=by
 apply List.ext_getElem
 ·simp [yB]
 ·intro j h1 h2
  have hj:j<l.length:=by simpa using h2
  have e:=lV (i:=i) hj
  simp only [List.getD_eq_getElem?_getD,List.getElem?_eq_getElem h1,List.getElem?_eq_getElem h2,List.getElem?_eq_getElem hj,Option.getD_some] at e
  rw [e]
  split
  ·rfl
  ·have:j=l.length-1-j:=by omega
   rw [List.getElem_reverse]
   congr 1
theorem EY (l:List UInt8):yB l 0=l:=by
 apply List.ext_getElem
 ·simp [yB]
 ·intro j h1 h2
  have e:=lV (i:=0) h2
  simp only [List.getD_eq_getElem?_getD,List.getElem?_eq_getElem h1,List.getElem?_eq_getElem h2,Option.getD_some] at e
  rw [e,jK]
def QE (g:Option Nat) (l:List UInt8):CV→List (Option Nat×bp)→Prop:=fun r H'=>r=.c (.tuple #[])∧H'=[(g,.blk l.length (ft l))]
theorem ll {gs:List Nat} (g:Option Nat) (l:List UInt8) (hl:l.length≤100000000000):AC gs Tryz.prog 218 [(g,.blk l.length (ft l))] [.os 0 g 0 l.length 1] (QE g l.reverse):=by
 refine ai 28 Tryz.func218 fun al w0 F0 St0=>?_;refine jU 205119316 ?_;refine aF (α:=Nat) [2,3,7,8,9,10,11,12,13,14,15,16,17,18,19,20,21,22,23,24,25,26,27] (fun i=>[(2,.c (.int .i64 (i:Nat))),(3,.c (.int .i64 ((l.length:Int)-1-i)))]) (fun i=>[(g,.blk l.length (ft (yB l i)))]) (fun i=>2 * i≤l.length+1) (fun i=>l.length-i) (0) ?_ (fun _=>rfl) ?_ ?_ ?_
 ·show 2 * 0≤l.length+1;omega
 ·exact .cons cZ (.cons (cI jO) .nil)
 ·exact .blk rfl (fun j hj=>by rw [EY];exact cZ) .nil
 ·rintro i (hi:2 * i≤l.length+1)
  refine jU 521167 ?_;refine aq (fun h484=>?_) fun h484=>?_
  rotate_left
  ·refine jU 4000200020006000 ?_
   exact bQ (.inr rfl) _ _ [0] jD rfl (bN rfl) ⟨rfl,by show [(g,bp.blk l.length (ft (yB l i)))]=_;rw [Hq jO,List.length_reverse]⟩
  refine jU 207810 ?_;refine jI (.rd 0 (.rd 1 (.rd 2 (.rd 3 (.rd 4 (.rd 5 (.rd 6 (.rd 7 (.rd 8 (.rd 9 (.rd 10 (.rd 11 (.rd 12 (.one 13 (.rd 14 (.one 15 .done)))))))))))))))) ?_;refine jU 400000400000400000400000400000400000 ?_;refine ig (fb (i:=(l.length-1-i)) (hz:=by omega)) ?_;refine jU 40000040000050000000 ?_;refine ig (fb (i:=i) (hz:=by omega)) ?_;refine MS mS ?_;refine ig (fb (i:=i) (hz:=by omega)) ?_
  refine iL (ax 1 ?_)
  refine ig (fb (i:=(l.length-1-i)) (hz:=by omega)) ?_
  refine iL (ax 1 ?_)
  refine jU 851191912008400700000 ?_
  refine aw (i+1) ?_ ?_ (h7:=?_)
  ·show 2 * (i+1)≤l.length+1;omega
  ·omega
  ·exact .blk rfl (fun j hj=>by
    refine (ab.of_eq (uj _ _ _ j)).trans ?_
    have hj:j<l.length:=hj
    have e3:=lV (i:=i+1) hj
    have ri:=@DF l i jO
    have rj:=@DF l (l.length-1-i) jO
    have ei:=@lV l i i jO
    have ej:=@lV l i (l.length-1-i) jO
    rw [jK] at ei ej
    rw [show l.length-1-(l.length-1-i)=i by omega] at rj
    show ab (if j=_ then _ else mo (ft (yB l i)) i [_] j) _
    rw [uj]
    unfold ft
    by_cases h1:j=l.length-1-i
    ·rw [if_pos h1]
     subst h1
     exact cI (by rw [ei,e3,if_pos (.inr jO),rj])
    ·rw [if_neg h1]
     by_cases h2:j=i
     ·rw [if_pos h2]
      subst h2
      exact cI (by rw [ej,e3,if_pos (.inl jO),ri])
     ·rw [if_neg h2]
      have e0:=lV (i:=i) hj
      refine cI ?_
      rw [e0,e3]
      by_cases h3:j<i∨l.length≤j+i
      ·rw [if_pos h3,jP]
      ·rw [if_neg h3,jK]) .nil
end
section
def bG (t:Int):Bool:=decide (t=48∨t=49∨(160≤t∧t<176))
def r6:List Int:=[1,2,3,4,5,6,10,12,24]
def bP (t:Int):Bool:=bG t || decide ((1≤t∧t≤6)∨t=10∨t=12∨t=24)
theorem sW (t:Int):decide (t ∈ r6)=decide ((1≤t∧t≤6)∨t=10∨t=12∨t=24):=by
 refine decide_eq_decide.2 ?_
 simp only [r6,List.mem_cons,List.not_mem_nil,or_false]
 omega
def b8 (n:Nat):UInt8:=UInt8.ofNat n
theorem vZ {n:Nat} (h:n<256):(b8 n).toNat=n:=by
 unfold b8
 rw [UInt8.toNat_ofNat']
 omega
theorem eX (n:Nat):(b8 n).toNat=n % 256:=by
 unfold b8
 rw [UInt8.toNat_ofNat']
def gF (n:Nat):List UInt8 :=
 if n<128 then [b8 n] else if n<256 then [129,b8 n] else if n<65536 then [130,b8 (n / 256),b8 n]
 else if n<16777216 then [131,b8 (n / 65536),b8 (n / 256),b8 n] else [132,b8 (n / 16777216),b8 (n / 65536),b8 (n / 256),b8 n]
theorem tU (n:Nat):1≤(gF n).length∧(gF n).length≤5:=by
 unfold gF
 split
 ·simp
 ·split
  ·simp
  ·split
   ·simp
   ·split <;> simp
def dl (tag:Int) (body:List UInt8):List UInt8:=UInt8.ofNat tag.toNat::(gF body.length++body)
def lO (l:List UInt8):Nat:=l.foldl (fun n c=>n * 256+c.toNat) 0
theorem JZ (l:List UInt8) (c:UInt8):lO (l++[c])=lO l * 256+c.toNat:=by simp [lO]
theorem BD {l:List UInt8} {i:Nat} (h:i<l.length):lO (l.take (i+1))=lO (l.take i) * 256+(l.getD i 0).toNat:=by
 rw [List.take_succ_eq_append_getElem h,JZ]
 simp [List.getD,h]
theorem De (l:List UInt8):lO l<256 ^ l.length:=by
 have key:∀ (r:List UInt8) (n k:Nat),n<256 ^ k→r.foldl (fun n c=>n * 256+c.toNat) n<256 ^ (k+r.length):=by
  intro r
  induction r with
  | nil=>intro n k h;simpa using h
  | cons c r ih =>
   intro n k h
   have:=ih (n * 256+c.toNat) (k+1) (by have:=c.toNat_lt;rw [Nat.pow_succ];omega)
   simpa [Nat.add_assoc,Nat.add_comm 1] using this
 have:=key l 0 0 jD
 simpa [lO] using this

structure Ms where
 e:Nat
 n:Nat
 rest:List UInt8
def cd (b:List UInt8):Ms :=
 if b.length=0 then ⟨2,0,[]⟩ else
 let c:=(b.getD 0 0).toNat
 let r:=b.drop 1
 if c≤127 then ⟨0,c,r⟩ else
 if c=128∨132<c then ⟨4,0,[]⟩ else
 if r.length<c-128 then ⟨2,0,[]⟩ else
 if lO (r.take (c-128))≤127∨(r.getD 0 0).toNat=0 then ⟨4,0,[]⟩ else ⟨0,lO (r.take (c-128)),r.drop (c-128)⟩
theorem vc {b r:List UInt8} {c:Nat} (h:b.length≠0) (hc:c=(b.getD 0 0).toNat) (hr:r=b.drop 1):cd b=if c≤127 then ⟨0,c,r⟩ else
 if c=128∨132<c then ⟨4,0,[]⟩ else
 if r.length<c-128 then ⟨2,0,[]⟩ else
 if lO (r.take (c-128))≤127∨(r.getD 0 0).toNat=0 then ⟨4,0,[]⟩ else ⟨0,lO (r.take (c-128)),r.drop (c-128)⟩:=by
 subst hc hr
 unfold cd
 rw [if_neg h]
theorem pW (b:List UInt8):(cd b).rest.length≤b.length-1∧((cd b).e≠0→(cd b).rest=[]∧(cd b).n=0)∧(cd b).e≤4:=by
 unfold cd
 split
 ·simp
 ·dsimp only
  split
  ·simp
  ·split
   ·simp
   ·split
    ·simp
    ·split
     ·simp
     ·refine ⟨?_,by simp,by simp⟩
      simp
      omega

structure Nx where
 e:Nat
 tag:Nat
 body:List UInt8
 rest:List UInt8
def ah (b:List UInt8):Nx :=
 if b.length=0 then ⟨2,0,[],[]⟩ else
 if bP ((b.getD 0 0).toNat:Nat)=false then ⟨5,0,[],[]⟩ else
 let m:=cd (b.drop 1)
 if m.e≠0 then ⟨m.e,0,[],[]⟩ else
 if 65530<m.n then ⟨3,0,[],[]⟩ else
 if m.rest.length<m.n then ⟨2,0,[],[]⟩ else ⟨0,(b.getD 0 0).toNat,m.rest.take m.n,m.rest.drop m.n⟩
theorem AH {b:List UInt8} {t:Nat} {m:Ms} (h:b.length≠0) (ht:t=(b.getD 0 0).toNat) (hk:bP (t:Nat)=true) (hm:m=cd (b.drop 1)):ah b=if m.e≠0 then ⟨m.e,0,[],[]⟩ else
 if 65530<m.n then ⟨3,0,[],[]⟩ else
 if m.rest.length<m.n then ⟨2,0,[],[]⟩ else ⟨0,t,m.rest.take m.n,m.rest.drop m.n⟩:=by
 subst ht hm
 unfold ah
 rw [if_neg h,if_neg (by rw [hk];exact Bool.noConfusion)]
theorem ew (b:List UInt8):(ah b).e≤5∧(ah b).tag≤255∧(ah b).body.length≤65530∧(ah b).body.length≤b.length∧(ah b).rest.length≤b.length∧((ah b).e=0→(ah b).rest.length<b.length):=by
 unfold ah
 split
 ·simp
 ·split
  ·simp
  ·dsimp only
   have hm:=pW (b.drop 1)
   split
   ·refine ⟨by dsimp only;omega,by simp,by simp,by simp,by simp,fun h=>by dsimp only at h;omega⟩
   ·split
    ·simp
    ·split
     ·simp
     ·have h8:=(b.getD 0 0).toNat_lt
      have hm1:=hm.1
      rw [List.length_drop] at hm1
      refine ⟨by simp,by dsimp only;omega,by rw [List.length_take];omega,by rw [List.length_take];omega,by rw [List.length_drop];omega,fun _=>by rw [List.length_drop];omega⟩

def fI (rec:Nat→List UInt8→Nat×Nat) (set:Bool) (lv:Nat):Nat→List UInt8→List UInt8→Nat→Nat×Nat
 | 0,_,_,dp=>(dp,0)
 | fuel+1,b,last,dp =>
  if b.length=0 then (dp,0) else
  if (ah b).e≠0 then (0,(ah b).e) else
  if lv≤1 then (0,6) else
  if (rec (ah b).tag (ah b).body).2≠0 then (0,(rec (ah b).tag (ah b).body).2) else
  if set=true∧Op.bytesLess (b.take (b.length-(ah b).rest.length)) last=true then (0,7) else
  fI rec set lv fuel (ah b).rest (b.take (b.length-(ah b).rest.length)) (max dp ((rec (ah b).tag (ah b).body).1+1))
def bm:Nat→Nat→List UInt8→Nat×Nat
 | 0,_,_=>(1,0)
 | lv+1,tag,body=>if bG tag=false then (1,0) else fI (bm lv) (decide (tag=49)) (lv+1) body.length body [] 1
theorem AP (rec:Nat→List UInt8→Nat×Nat) (set:Bool) (lv B:Nat) (hr:∀ t b,(rec t b).1≤B∧(rec t b).2≤7):∀ (fuel:Nat) (b last:List UInt8) (dp:Nat),dp≤B+1→(fI rec set lv fuel b last dp).1≤B+1∧(fI rec set lv fuel b last dp).2≤7
 | 0,_,_,dp,h=>⟨h,by simp [fI]⟩
 | fuel+1,b,last,dp,h=>by
  have h1:=ew b
  have h2:=hr (ah b).tag (ah b).body
  unfold fI
  split
  ·exact ⟨h,by simp⟩
  ·split
   ·exact ⟨by simp,by simp;omega⟩
   ·split
    ·exact ⟨by simp,by simp⟩
    ·split
     ·exact ⟨by simp,by simp;omega⟩
     ·split
      ·exact ⟨by simp,by simp⟩
      ·exact AP rec set lv B hr fuel _ _ _ jO
theorem oG:∀ (lv tag:Nat) (body:List UInt8),(bm lv tag body).1≤lv+1∧(bm lv tag body).2≤7
 | 0,_,_=>by simp [bm]
 | lv+1,tag,body=>by
  unfold bm
  split
  ·exact ⟨by simp,by simp⟩
  ·exact AP _ _ _ _ (fun t b=>oG lv t b) _ _ _ _ jO
def af (b:List UInt8):Nat×Nat :=
 if 65536<b.length then (0,3) else
 if (ah b).e≠0 then (0,(ah b).e) else
 if 0<(ah b).rest.length then (0,4) else bm 16 (ah b).tag (ah b).body
theorem Gk (b:List UInt8):(af b).1≤17∧(af b).2≤7:=by
 have h1:=ew b
 have h2:=oG 16 (ah b).tag (ah b).body
 unfold af
 split
 ·simp
 ·split
  ·exact ⟨by simp,by simp;omega⟩
  ·split
   ·simp
   ·exact h2

theorem In {n:Nat} (r:List UInt8) (h:n<4294967296):cd (gF n++r)=⟨0,n,r⟩:=by
 unfold gF
 split
 ·rename_i h1
  simp [cd,vZ (show n<256 by omega)]
  omega
 ·split
  ·rename_i h1 h2
   simp [cd,vZ h2,lO]
   omega
  ·split
   ·rename_i h1 h2 h3
    simp [cd,eX,lO]
    rw [jK,jK];congr 1;omega
   ·split
    ·rename_i h1 h2 h3 h4
     simp [cd,eX,lO]
     rw [jK,jK];congr 1;omega
    ·rename_i h1 h2 h3 h4
     simp [cd,eX,lO]
     rw [jK,jK];congr 1;omega
theorem AF {tag:Int} {body r:List UInt8} (hk:bP tag=true) (hb:body.length≤65530):ah (dl tag body++r)=⟨0,tag.toNat,body,r⟩:=by
 have ht:0≤tag∧tag<256:=by
  unfold bP bG at hk
  simp at hk
  omega
 have e0:(UInt8.ofNat tag.toNat).toNat=tag.toNat:=vZ (n:=tag.toNat) jO
 have hm:=In (n:=body.length) (body++r) jO
 have e1:((tag.toNat:Nat):Int)=tag:=by omega
 unfold ah dl
 simp only [List.cons_append,List.length_cons,List.getD_cons_zero,e0,e1,hk,List.drop_succ_cons,List.drop_zero,List.append_assoc,hm]
 rw [jK,if_neg (by simp),if_neg (by simp),jK,if_neg (by simp)]
 simp
end
end Am
end Go.Proofs.YthlpfjnkieaeeaaGreatDoor
namespace Go.Proofs.YthlpfjnkieaeeaaGreatDoor
set_option linter.unusedVariables false
open Go.RowKit Go.Extern.Stop Go.Stop Go.Extern

theorem A4 (v:Value) (w:World):(callFunc 135 #[.iface 356 v]).run Tryz.prog w=.ok (.value (.iface 249 (.agg #[.pointer (some ⟨31,356,none⟩)]))) w:=by kernel_rfl
theorem qX (w:World):(callFunc 336 #[.agg #[.pointer (some ⟨31,356,none⟩)]]).run Tryz.prog w=.ok (.value (.bool true)) w:=by kernel_rfl
theorem kP (v : Value) (w : World) : (Go.method 488 249 v "Comparable").run Tryz.prog w = .ok (336, v) w := by kernel_rfl
theorem IP:(Tryz.prog.info? 356).map (·.comparable)=some true:=by kernel_rfl
theorem IN:(Tryz.prog.info? 378).map (·.size)=some 1:=by kernel_rfl
theorem Pl (v:Value) (xT:TypeId) (w:World):(Instr.typeAssert (.iface 356 v) xT 251 true).run Tryz.prog w=.ok (.tuple #[.nilIface,.bool false]) w:=run_typeAssert_lacksB Tryz.underlying251 (by kernel_rfl) (by kernel_rfl) v xT w
theorem FA (v:Value) (xT:TypeId) (w:World):(Instr.typeAssert (.iface 356 v) xT 254 true).run Tryz.prog w=.ok (.tuple #[.nilIface,.bool false]) w:=run_typeAssert_lacksB Tryz.underlying254 (by kernel_rfl) (by kernel_rfl) v xT w
theorem Cz (v:Value) (xT:TypeId) (w:World):(Instr.typeAssert (.iface 356 v) xT 255 true).run Tryz.prog w=.ok (.tuple #[.nilIface,.bool false]) w:=run_typeAssert_lacksB Tryz.underlying255 (by kernel_rfl) (by kernel_rfl) v xT w

set_option maxHeartbeats 400000 in
theorem LY (a:Addr) (w:World) :
  Calls Tryz.prog 61 #[.iface 356 (.pointer (some a)),.iface 356 (.pointer (some a))] w fun e w'=>e=.returned (.bool true)∧w=w':=by
 obtain ⟨i,hi,hcmp⟩:=Option.map_eq_some_iff.1 IP
 obtain ⟨j,hj,hjs⟩:=Option.map_eq_some_iff.1 IN
 have tT:=A4
 have cT:=qX
 have mR:=kP
 have heq:=run_eql_iface_ptr_same (P:=Tryz.prog) w a Tryz.underlying25 Tryz.underlying356 hi hcmp hj
 go_enter Tryz.func61,Tryz.ntmps61
 go_wp2
 refine wp_loop_rounds 1 ?_
 rw [rounds_succ]
 go_wp2
 go_ret
 exact ⟨rfl,rfl⟩

set_option maxHeartbeats 400000 in
theorem IM (a b:Addr) (ca cb:Array Value) (ta tb:TypeId) (w:World) (hne:a≠b) (ha:w.heap[a.block]?=some (.cells ca ta (0,0))) (hb:w.heap[b.block]?=some (.cells cb tb (0,0))) :
  Calls Tryz.prog 61 #[.iface 356 (.pointer (some a)),.iface 356 (.pointer (some b))] w fun e w'=>e=.returned (.bool false)∧w=w':=by
 obtain ⟨i,hi,hcmp⟩:=Option.map_eq_some_iff.1 IP
 obtain ⟨j,hj,hjs⟩:=Option.map_eq_some_iff.1 IN
 have tT:=A4
 have cT:=qX
 have mR:=kP
 have nE:=Pl
 have uE:=FA
 have vE:=Cz
 have heq:=run_eql_iface_ptr_other (P:=Tryz.prog) w Tryz.underlying25 Tryz.underlying356 hi hcmp hj (by rw [hjs];decide) hne ha hb
 go_enter Tryz.func61,Tryz.ntmps61
 go_wp2
 refine wp_loop_rounds 1 ?_
 rw [rounds_succ]
 go_wp2
 go_ret
 exact ⟨rfl,rfl⟩

theorem M1 {w:World} {al:List Addr} (h:MD w al) (m k:Nat) (hm0:m≠0) (hm:m≤28) (hk:k<28) :
  Calls Tryz.prog 61 #[ev al m,ev al (k+1)] w fun e w'=>e=.returned (.bool (decide (m=k+1)))∧w=w':=by
 have hl:al.length=28:=h.len.trans (by rw [eN.eq];rfl)
 obtain ⟨a,ha⟩:∃ a,al[m-1]?=some a:=⟨al[m-1],List.getElem?_eq_getElem jO⟩
 obtain ⟨b,hb⟩:∃ b,al[k]?=some b:=⟨al[k],List.getElem?_eq_getElem jO⟩
 have e1:ev al m=.iface 356 (.pointer (some a)):=by simp [ev,hm0,ha]
 have e2:ev al (k+1)=.iface 356 (.pointer (some b)):=by simp [ev,hb]
 rw [e1,e2]
 by_cases hmk:m=k+1
 ·subst hmk
  simp only [Nat.add_sub_cancel] at ha
  obtain rfl:=Option.some.inj (ha.symm.trans hb)
  simp only [decide_true]
  exact LY a w
 ·have hne:a≠b:=by
   intro e
   subst e
   have all:∀ i,i<28→((mg gs)[i]?).any (fun g=>(rG gs).contains g)=true:=by decide
   have get:∀ i,i<28→∃ g,(mg gs)[i]?=some g∧g ∈ rG gs:=fun i hi=>by
    have h1:=all i hi
    cases h2:(mg gs)[i]? with
    | none=>rw [h2] at h1;cases h1
    | some g=>rw [h2] at h1;exact ⟨g,rfl,List.contains_iff_mem.1 h1⟩
   obtain ⟨g1,k1,k2⟩:=get (m-1) jO
   obtain ⟨g2,k3,k4⟩:=get k hk
   have:=h.nd (m-1) k g1 g2 k1 k2 k3 k4 (ha.trans hb.symm)
   omega
  simp only [hmk,decide_false]
  obtain ⟨ca,ta,h1⟩:=h.row a (List.mem_of_getElem? ha)
  obtain ⟨cb,tb,h2⟩:=h.row b (List.mem_of_getElem? hb)
  exact IM a b ca cb ta tb w hne h1 h2
end Go.Proofs.YthlpfjnkieaeeaaGreatDoor
namespace Go.Proofs.YthlpfjnkieaeeaaGreatDoor
set_option linter.unusedVariables false
open Go.RowKit

def M2 (al:List Addr):Array Value:=#[ev al 1,ev al 2,ev al 3,ev al 4,ev al 5,ev al 6,ev al 7,ev al 8,ev al 9,ev al 10,ev al 11,ev al 12,ev al 13,ev al 14,ev al 15,ev al 16,ev al 17,ev al 18,ev al 19,ev al 20,ev al 21,ev al 22,ev al 23,ev al 24,ev al 25,ev al 26,ev al 27,ev al 28]
theorem Mf (al:List Addr) (k:Nat) (hk:k<28):(M2 al)[k]?=some (ev al (k+1)):=by
 have:∀ k,k<28→(M2 al)[k]?=some (ev al (k+1)):=by
  intro k hk
  match k,hk with
  | 0,_=>rfl
  | 1,_=>rfl
  | 2,_=>rfl
  | 3,_=>rfl
  | 4,_=>rfl
  | 5,_=>rfl
  | 6,_=>rfl
  | 7,_=>rfl
  | 8,_=>rfl
  | 9,_=>rfl
  | 10,_=>rfl
  | 11,_=>rfl
  | 12,_=>rfl
  | 13,_=>rfl
  | 14,_=>rfl
  | 15,_=>rfl
  | 16,_=>rfl
  | 17,_=>rfl
  | 18,_=>rfl
  | 19,_=>rfl
  | 20,_=>rfl
  | 21,_=>rfl
  | 22,_=>rfl
  | 23,_=>rfl
  | 24,_=>rfl
  | 25,_=>rfl
  | 26,_=>rfl
  | 27,_=>rfl
  | k+28,h=>omega
 exact this k hk

set_option maxRecDepth 100000 in
set_option maxHeartbeats 400000 in
theorem LB {w:World} {al:List Addr} (h:MD w al) (m:Nat) (hm:m≤28) :
  Calls Tryz.prog 12 #[ev al m] w fun e w'=>e=.returned (.int .i64 m)∧Below w.heap.size w w':=by
 by_cases h0:m=0
 ·subst h0
  have e0:decide ((0:Nat)=0)=true:=rfl
  go_enter Tryz.func12,Tryz.ntmps12
  go_wp2
  go_ret
  exact ⟨rfl,Below.refl _ _⟩
 ·have hd:decide (m=0)=false:=by simpa using h0
  have g0:w.cell? ⟨1,0,none⟩=some (ev al 1):=h.var 0 _ rfl jD
  have g1:w.cell? ⟨2,0,none⟩=some (ev al 2):=h.var 1 _ rfl jD
  have g2:w.cell? ⟨3,0,none⟩=some (ev al 3):=h.var 2 _ rfl jD
  have g3:w.cell? ⟨0,0,none⟩=some (ev al 4):=h.var 3 _ rfl jD
  have g4:w.cell? ⟨4,0,none⟩=some (ev al 5):=h.var 4 _ rfl jD
  have g5:w.cell? ⟨5,0,none⟩=some (ev al 6):=h.var 5 _ rfl jD
  have g6:w.cell? ⟨6,0,none⟩=some (ev al 7):=h.var 6 _ rfl jD
  have g7:w.cell? ⟨7,0,none⟩=some (ev al 8):=h.var 7 _ rfl jD
  have g8:w.cell? ⟨8,0,none⟩=some (ev al 9):=h.var 8 _ rfl jD
  have g9:w.cell? ⟨9,0,none⟩=some (ev al 10):=h.var 9 _ rfl jD
  have g10:w.cell? ⟨10,0,none⟩=some (ev al 11):=h.var 10 _ rfl jD
  have g11:w.cell? ⟨11,0,none⟩=some (ev al 12):=h.var 11 _ rfl jD
  have g12:w.cell? ⟨12,0,none⟩=some (ev al 13):=h.var 12 _ rfl jD
  have g13:w.cell? ⟨13,0,none⟩=some (ev al 14):=h.var 13 _ rfl jD
  have g14:w.cell? ⟨14,0,none⟩=some (ev al 15):=h.var 14 _ rfl jD
  have g15:w.cell? ⟨15,0,none⟩=some (ev al 16):=h.var 15 _ rfl jD
  have g16:w.cell? ⟨16,0,none⟩=some (ev al 17):=h.var 16 _ rfl jD
  have g17:w.cell? ⟨17,0,none⟩=some (ev al 18):=h.var 17 _ rfl jD
  have g18:w.cell? ⟨18,0,none⟩=some (ev al 19):=h.var 18 _ rfl jD
  have g19:w.cell? ⟨19,0,none⟩=some (ev al 20):=h.var 19 _ rfl jD
  have g20:w.cell? ⟨20,0,none⟩=some (ev al 21):=h.var 20 _ rfl jD
  have g21:w.cell? ⟨21,0,none⟩=some (ev al 22):=h.var 21 _ rfl jD
  have g22:w.cell? ⟨22,0,none⟩=some (ev al 23):=h.var 22 _ rfl jD
  have g23:w.cell? ⟨23,0,none⟩=some (ev al 24):=h.var 23 _ rfl jD
  have g24:w.cell? ⟨24,0,none⟩=some (ev al 25):=h.var 24 _ rfl jD
  have g25:w.cell? ⟨25,0,none⟩=some (ev al 26):=h.var 25 _ rfl jD
  have g26:w.cell? ⟨26,0,none⟩=some (ev al 27):=h.var 26 _ rfl jD
  have g27:w.cell? ⟨27,0,none⟩=some (ev al 28):=h.var 27 _ rfl jD
  have HB:Hid (Below w.heap.size w (w.alloc (.cells (M2 al) 25))):=(Below.refl _ _).alloc (Nat.le_refl _) _
  have HS:Hid (MD (w.alloc (.cells (M2 al) 25)) al):=h.below HB.out
  have HC:Hid (∀ k,k<28→(w.alloc (.cells (M2 al) 25)).cell? ⟨w.heap.size,k,none⟩=some (ev al (k+1))):=fun k hk=>by
   rw [World.cell?_alloc_mark]
   exact Mf al k hk
  clear h
  go_enter Tryz.func12,Tryz.ntmps12
  go_wp2_with (refine ye (o:=⟨some 36,_,_,_,_,_⟩) (.slice (some ⟨w.heap.size,0,none⟩) 28 28) (w.alloc (.cells (M2 al) 25)) rfl (by kernel_rfl) ?_)
  clear g0 g1 g2 g3 g4 g5 g6 g7 g8 g9 g10 g11 g12 g13 g14 g15 g16 g17 g18 g19 g20 g21 g22 g23 g24 g25 g26 g27
  show Code.wp _ _ _ _ (w.alloc (.cells (M2 al) 25))
  generalize hW:w.alloc (.cells (M2 al) 25)=W at HB HS HC ⊢
  have HW:=Lib.hid hW
  clear hW
  go_loop [39] (fun i=>∃ k:Nat,k<m∧i=.int .i64 k) (fun i=>28-(intOf i).toNat)
  case atStart=>exact ⟨0,by omega,rfl⟩
  case round =>
   obtain ⟨k,hk,rfl⟩:=hrel
   have hc:=HC.out k jO
   by_cases hlast:m=k+1
   ·subst hlast
    have C:=Lib.hid (M1 HS.out (k+1) k h0 hm jO)
    go_wp2_with (go_at_call 61;refine (C.out).mono ?_;rintro e w' ⟨rfl,rfl⟩)
    go_ret
    exact ⟨by simp,HB.out⟩
   ·have hdd:decide (m=k+1)=false:=by simpa using hlast
    have C:=Lib.hid (M1 HS.out m k h0 hm jO)
    go_wp2_with (go_at_call 61;refine (C.out).mono ?_;rintro e w' ⟨rfl,rfl⟩)
    go_round
    case rel=>exact ⟨k+1,by omega,by go_num⟩
    case measure=>simp [intOf];omega
end Go.Proofs.YthlpfjnkieaeeaaGreatDoor
namespace Go.Proofs.YthlpfjnkieaeeaaGreatDoor
set_option linter.unusedVariables false
namespace Am
open Go.RowKit
section
variable {gs:List Nat} [eN gs]
theorem Ik (m:Nat) (hm:m≤28):bM gs Tryz.prog 12 [.err m] (.c (.int .i64 m)) :=
 oC fun al w St vals hs hv hr=>by
  have h0:vals.getD 0 undef=ev al m:=hr 0
  rw [GK hv,h0]
  exact LB hs.std m hm
end
section
variable {gs:List Nat} [fZ gs]

theorem tS {gs:List Nat} (t:Int):bM gs Tryz.prog 126 [.c (.int .i64 t)] (.c (.bool (bG t))):=by
 refine ai 17 Tryz.func126 fun al w0 F0 St0=>?_;refine jU 1216516 ?_;refine ay 5 (fun g31=>?_) fun g31=>?_
 ·refine jU 8000700051100000000444444110000000044 ?_;refine cB ?_
  (simp [bG, *];done)
 refine jU 150021 ?_;refine ay 9 (fun g31_2=>?_) fun g31_2=>?_
 ·refine jU 8000700051100000000444444 ?_;refine cB ?_
  (simp [bG, *];done)
 refine jU 121 ?_;refine ay 12 (fun g31_3=>?_) fun g31_3=>?_
 ·refine jU 800070005150010000000021 ?_;refine cB ?_
  (simp [bG, *];done)
 refine jU 800070005150050044 ?_;refine cB ?_
 (simp [bG, *];done)
theorem qB {gs:List Nat} (t:Int):bM gs Tryz.prog 134 [.c (.int .i64 t)] (.c (.bool (bG t))):=by
 refine ai 17 Tryz.func134 fun al w0 F0 St0=>?_;refine jU 1216516 ?_;refine ay 5 (fun g13=>?_) fun g13=>?_
 ·refine jU 8000700051100000000444444110000000044 ?_;refine cB ?_
  (simp [bG, *];done)
 refine jU 150021 ?_;refine ay 9 (fun g13_2=>?_) fun g13_2=>?_
 ·refine jU 8000700051100000000444444 ?_;refine cB ?_
  (simp [bG, *];done)
 refine jU 121 ?_;refine ay 12 (fun g13_3=>?_) fun g13_3=>?_
 ·refine jU 800070005150010000000021 ?_;refine cB ?_
  (simp [bG, *];omega)
 refine jU 800070005150050044 ?_;refine cB ?_
 (simp [bG, *];done)
theorem HT {gs:List Nat}:bM gs Tryz.prog 263 [] (wl r6):=by
 refine ai 2 Tryz.func263 fun al w0 F0 St0=>?_;refine jU 6516 ?_
 refine ak (aU 9 1 nj fun p1=>?_)
 refine jU 51 ?_;refine jE (freeze 0 rfl) ?_;refine jE (mr 0 (r6) rfl rfl rfl rfl (fun j hj=>lA (r6) j hj)) ?_
 refine jR (cX (hv:=cZ))
theorem AU {gs:List Nat} (t:Int):bM gs Tryz.prog 236 [.c (.int .i64 t)] (.c (.bool (bP t))):=by
 refine ai 10 Tryz.func236 fun al w0 F0 St0=>?_;refine jU 16516 ?_
 refine ak (ap (tS _) ?_)
 refine jU 1 ?_;refine ay 5 (fun g35=>?_) fun g35=>?_
 ·refine jU 8000700051100000000444 ?_;refine cB ?_
  try rw [sW]
  (simp [bP,bG, *];done)
 refine ak (ap HT ?_)
 refine jU 1 ?_
 refine ak (ap (wA r6 t) ?_)
 refine jU 8000700051500 ?_;refine cB ?_
 try rw [sW]
 (simp [bP,bG, *];done)
theorem EW {gs:List Nat} (t:Int):bM gs Tryz.prog 132 [.c (.int .i64 t)] (.c (.bool (bP t))):=by
 refine ai 25 Tryz.func132 fun al w0 F0 St0=>?_;refine jU 16516 ?_
 refine ak (ap (qB _) ?_)
 refine jU 1 ?_;refine ay 5 (fun g16=>?_) fun g16=>?_
 ·refine jU 8000700051100000000441100000000441100000000441100000000444444 ?_;refine cB ?_
  (simp [bP,bG, *];done)
 refine jU 121 ?_;refine ay 8 (fun g16_2=>?_) fun g16_2=>?_
 rotate_left
 ·refine jU 150021150050044 ?_;refine ay 17 (fun g16_3=>?_) fun g16_3=>?_
  ·refine jU 800070005110000000044110000000044 ?_;refine cB ?_
   (simp [bP,bG, *];done)
  refine jU 150021 ?_;refine ay 21 (fun g16_4=>?_) fun g16_4=>?_
  ·refine jU 800070005110000000044 ?_;refine cB ?_
   (simp [bP,bG, *];done)
  refine jU 800070005150021 ?_;refine cB ?_
  (simp [bP,bG, *];done)
 refine jU 150010000000021 ?_;refine ay 13 (fun g16_3=>?_) fun g16_3=>?_
 ·refine jU 800070005110000000044110000000044110000000044 ?_;refine cB ?_
  (simp [bP,bG, *];done)
 refine jU 150021 ?_;refine ay 17 (fun g16_4=>?_) fun g16_4=>?_
 ·refine jU 800070005110000000044110000000044 ?_;refine cB ?_
  (simp [bP,bG, *];done)
 refine jU 150021 ?_;refine ay 21 (fun g16_5=>?_) fun g16_5=>?_
 ·refine jU 800070005110000000044 ?_;refine cB ?_
  (simp [bP,bG, *];done)
 refine jU 800070005150021 ?_;refine cB ?_
 (simp [bP,bG, *];done)
theorem DE {gs:List Nat} (n:Nat) (hn:n<4294967296):bM gs Tryz.prog 133 [.c (.int .i64 n)] (bu (gF n)):=by
 refine ai 50 Tryz.func133 fun al w0 F0 St0=>?_;refine jU 52167516 ?_;refine aq (fun h21=>?_) fun h21=>?_
 ·refine jU 80000016 ?_
  refine ak (aU 1 1 f7 fun p1=>?_)
  refine jU 51 ?_;refine jE (freeze 0 rfl) ?_;refine jE (gP 2 ([b8 n]) rfl rfl rfl rfl (.cons (cI ((by rw [eX];omega))) .nil)) ?_
  refine jR (ii (cX (hv:=ab.bs (by unfold gF;rw [jP]))))
 refine jU 52167810 ?_;refine aq (fun h24=>?_) fun h24=>?_
 ·refine jU 80000016 ?_
  refine ak (aU 2 1 f7 fun p1=>?_)
  refine jU 51 ?_;refine jE (freeze 0 rfl) ?_;refine jE (gP 2 ([129,b8 n]) rfl rfl rfl rfl (.cons (cI (rfl)) (.cons (cI ((by rw [eX];omega))) .nil))) ?_
  refine jR (ii (cX (hv:=ab.bs (by unfold gF;rw [jK,jP]))))
 refine jU 52167810 ?_;refine aq (fun h27=>?_) fun h27=>?_
 ·refine jU 8000001000000180000060000016 ?_
  refine ak (aU 3 1 f7 fun p1=>?_)
  refine jU 51 ?_;refine jE (freeze 0 rfl) ?_;refine jE (gP 2 ([130,b8 (n / 256),b8 n]) rfl rfl rfl rfl (.cons (cI (rfl)) (.cons (cI ((by rw [eX];omega))) (.cons (cI ((by rw [eX];omega))) .nil)))) ?_
  refine jR (ii (cX (hv:=ab.bs (by unfold gF;rw [jK,jK,jP]))))
 refine jU 52167810 ?_;refine aq (fun h30=>?_) fun h30=>?_
 ·refine jU 800000100000018000001000000600000180000060000016 ?_
  refine ak (aU 4 1 f7 fun p1=>?_)
  refine jU 51 ?_;refine jE (freeze 0 rfl) ?_;refine jE (gP 2 ([131,b8 (n / 65536),b8 (n / 256),b8 n]) rfl rfl rfl rfl (.cons (cI (rfl)) (.cons (cI ((by rw [eX];omega))) (.cons (cI ((by rw [eX];omega))) (.cons (cI ((by rw [eX];omega))) .nil))))) ?_
  refine jR (ii (cX (hv:=ab.bs (by unfold gF;rw [jK,jK,jK,jP]))))
 refine jU 80000010000001800000100000060000018000001000000600000180000060000016810 ?_
 refine ak (aU 5 1 f7 fun p1=>?_)
 refine jU 51 ?_;refine jE (freeze 0 rfl) ?_;refine jE (gP 2 ([132,b8 (n / 16777216),b8 (n / 65536),b8 (n / 256),b8 n]) rfl rfl rfl rfl (.cons (cI (rfl)) (.cons (cI ((by rw [eX];omega))) (.cons (cI ((by rw [eX];omega))) (.cons (cI ((by rw [eX];omega))) (.cons (cI ((by rw [eX];omega))) .nil)))))) ?_
 refine jR (cX (hv:=ab.bs (by unfold gF;rw [jK,jK,jK,jK])))
def tG (n k:Nat):List UInt8:=(List.range k).map fun i=>b8 (n / 256 ^ i)
theorem xt (n k:Nat):tG n (k+1)=tG n k++[b8 (n / 256 ^ k)]:=by simp [tG,List.range_succ]
theorem AN (n k:Nat):(tG n k).length=k:=by simp [tG]
theorem xx {gs:List Nat} (n:Nat) (hn:n<65536):bM gs Tryz.prog 239 [.c (.int .i64 n)] (bu (gF n)):=by
 refine ai 28 Tryz.func239 fun al w0 F0 St0=>?_;refine jU 52167516 ?_;refine aq (fun h39=>?_) fun h39=>?_
 ·refine jU 80000016 ?_
  refine ak (aU 1 1 f7 fun p1=>?_)
  refine jU 51 ?_;refine jE (freeze 0 rfl) ?_;refine jE (gP 2 ([b8 n]) rfl rfl rfl rfl (.cons (cI ((by rw [eX];omega))) .nil)) ?_
  refine jR (ii (cX (hv:=ab.bs (by unfold gF;rw [jP]))))
 refine jU 207516810 ?_;refine jE (tQ 3 1 (ft []) rfl) ?_;refine aF (α:=Nat×Option Nat) [0,3,9,10,11,12,13,14,15,16,17] (fun (k,g)=>[(0,.c (.int .i64 ((n / 256 ^ k:Nat):Int))),(3,.os 0 g 0 (tG n k).length 1)]) (fun (k,g)=>[(g,.blk (tG n k).length (ft (tG n k)))]) (fun k=>k.1=0∨k.1=1∨(k.1=2∧256≤n)) (fun k=>2-k.1) ((0,none)) ?_ (fun _=>rfl) ?_ ?_ ?_
 ·exact .inl rfl
 ·exact .cons (cI (by simp)) (.cons cZ .nil)
 ·exact .same .nil
 ·rintro ⟨k,g'⟩ (hk:k=0∨k=1∨(k=2∧256≤n))
  refine jU 52167 ?_;refine aq (fun h43=>?_) fun h43=>?_
  ·refine jU 207810 ?_
   have hlk:=AN n k
   have hk3:k≤2:=by omega
   refine jU 11200 ?_;refine jq (Qp .i64 .u8) ?_
   refine ak (aU 1 1 f7 fun p1=>?_)
   refine ar (bC (l2:=[b8 (n / 256 ^ k)]) rfl rfl rfl (Nat.le_refl _) (fun _ _=>cZ) (aY rfl (.inl rfl) jD) rfl (dt (.cons (cI ((by rw [eX];generalize n / 256 ^ k=q;(simp only [IntKind.wrap_u8];omega)))) .nil)) Tryz.underlying22 iM qi f7 rB rfl (by (simp;omega)) (eM rfl rfl) rfl rfl (fun p2=>?_))
   refine jU 1200840051 ?_;refine jq (uU rfl rfl rfl (by (omega)) _ rfl) ?_;refine jU 851 ?_
   refine aw ((k+1,p2)) ?_ ?_ (h5:=?_) (h7:=?_)
   ·show k+1=0∨k+1=1∨(k+1=2∧256≤n)
    rcases hk with rfl|rfl|⟨rfl,h2⟩
    ·omega
    ·simp at h43;omega
    ·simp at h43;omega
   ·show 2-(k+1)<2-k
    rcases hk with rfl|rfl|⟨rfl,h2⟩
    ·omega
    ·omega
    ·simp at h43;omega
   ·simp only [xt]
    exact .cons (cI (by rw [Nat.pow_succ,← Nat.div_div_eq_div_mul,Int.fdiv_eq_ediv_of_nonneg _ jD];rfl)) (.cons cZ .nil)
   ·simp only [xt]
    exact .same .nil
  refine jU 84000200020006000 ?_
  have hlk:=AN n k
  have hk3:k≤2:=by omega
  refine jU 80000093116 ?_
  refine ak (aU 1 1 f7 fun p1=>?_)
  refine ar (bC (l2:=[b8 (128+k)]) rfl rfl rfl (Nat.le_refl _) (fun _ _=>cZ) (aY rfl (.inl rfl) jD) rfl (dt (.cons (cI ((by rw [eX];simp only [hlk];omega))) .nil)) Tryz.underlying22 iM qi f7 rB rfl (by (simp;omega)) (eM rfl rfl) rfl rfl (fun p2=>?_))
  refine jU 1651 ?_
  refine ar (aJ 0 (ll _ (tG n k++[b8 (128+k)]) (by simp [hlk];omega)) ?_)
  refine jU 51165 ?_;refine jE (freeze 0 rfl) ?_;refine jE (kE 2 ((tG n k++[b8 (128+k)]).reverse) rfl rfl (by simp) rfl) ?_;refine jU 80007000 ?_;refine ab.bs ?_
  rcases hk with rfl|rfl|⟨rfl,h2⟩
  ·simp at h43;omega
  ·simp at h43
   unfold gF
   rw [jK,jP]
   simp [tG,List.range_succ]
   rfl
  ·unfold gF
   rw [jK,jK,jP]
   simp [tG,List.range_succ]
   rfl
def P1 (tag:Nat) (body:List UInt8):CV:=.agg 2 (fl [.c (.int .i64 tag),bu body])
theorem CF (b:List UInt8):bM gs Tryz.prog 237 [bu b] (.tup 3 (fl [.c (.int .i64 (cd b).n),bu (cd b).rest,.err (cd b).e])):=by
 refine ai 67 Tryz.func237 fun al w0 F0 St0=>?_;refine jU 52316751116 ?_;refine aq (fun h72=>?_) fun h72=>?_
 ·refine iy ?_;refine ff (.rd 0 (.rd 1 (.rd 2 (.rd 3 .done)))) ?_;refine bV (dy 1) ?_;refine jU 800030007000880707070 ?_
  have:b.length=0:=by omega
  unfold cd
  rw [if_pos this]
  exact ab.tup3 cZ cN cZ
 refine jU 7810 ?_;refine ff (.rd 0 (.rd 1 (.rd 2 (.rd 3 (.rd 4 (.rd 5 (.rd 6 (.rd 7 .done)))))))) ?_;refine jU 70 ?_;refine bV (fb (i:=0)) ?_;refine bV vl ?_;refine bV (Ps .i64) ?_;refine jU 70 ?_;refine bV (nF (hz1:=(show (1:Int)=((1:Nat):Int) from rfl))) ?_;refine jU 78807070 ?_
 obtain ⟨c,hc⟩:∃ c,c=(b.getD 0 0).toNat:=⟨_,rfl⟩
 obtain ⟨r,hr⟩:∃ r,r=b.drop 1:=⟨_,rfl⟩
 have c8:c<256:=by rw [hc];exact (b.getD 0 0).toNat_lt
 have hM:=vc jO hc hr
 refine jE (bF 5 (.c (.int .i64 (c:Nat))) (cI (by rw [hc]))) ?_;refine jE (bF 0 (bu r) (ab.bs hr.symm)) ?_;refine jU 5216 ?_;refine aq (fun h76=>?_) fun h76=>?_
 ·refine jU 8000300070005111116 ?_
  rw [hM,jP]
  exact ab.tup3 cZ cZ ab.nil
 refine jU 121620751916810 ?_;refine ay 29 (fun g81=>?_) fun g81=>?_
 ·refine jU 790005110000000044 ?_;refine ff (.rd 0 (.rd 1 (.rd 2 (.rd 3 .done)))) ?_;refine jU 80003000500070008807070704000000 ?_
  rw [hM,jK,jP]
  exact ab.tup3 cZ cN cZ
 refine jU 5150021 ?_;refine aq (fun h81=>?_) fun h81=>?_
 ·refine iy ?_;refine ff (.rd 0 (.rd 1 (.rd 2 (.rd 3 .done)))) ?_;refine jU 80003000500070008807070704000000 ?_
  rw [hM,jK,jP]
  exact ab.tup3 cZ cN cZ
 refine jU 5121316 ?_;refine aq (fun h83=>?_) fun h83=>?_
 ·refine iy ?_;refine ff (.rd 0 (.rd 1 (.rd 2 (.rd 3 .done)))) ?_;refine bV (dy 1) ?_;refine jU 8000300050007000880707070 ?_
  rw [hM,jK,jK,jP]
  exact ab.tup3 cZ cN cZ
 refine jU 840010 ?_
 obtain ⟨w,hw⟩:∃ w,w=c-128:=⟨_,rfl⟩
 have hwr:w≤r.length:=by omega
 refine jE (bF 6 (.c (.int .i64 (w:Nat))) (cI jO)) ?_;refine jU 7516 ?_
 have htl:(r.take w).length=w:=by simp;omega
 refine jU 2051390000000116 ?_;refine aF (α:=Nat) [7,9,44,45,46,47,48,49,50,51,52,53] (fun i=>[(7,.c (.int .i64 (lO ((r.take w).take i):Nat))),(44,.c (.int .i64 (i:Nat)))]) (fun _=>[]) (fun i=>i≤w) (fun i=>w-i) (0) ?_ (fun _=>rfl) ?_ ?_ ?_
 ·exact Nat.zero_le _
 ·(repeat (first|exact bZ.nil|refine bZ.cons cZ ?_))
 ·(repeat (exact aS.nil))
 ·rintro i (hi:i≤w)
  have htl:(r.take w).length=w:=by simp;omega
  refine jU 7526 ?_;refine aq (fun h87=>?_) fun h87=>?_
  ·refine jU 207810 ?_
   have htl:(r.take w).length=w:=by simp;omega
   refine jU 51607006 ?_
   have hbn:=De ((r.take w).take i)
   have hbl:((r.take w).take i).length=i:=by simp;omega
   have hb3:lO ((r.take w).take i)<16777216:=by
    rw [hbl] at hbn
    have:i≤3:=by omega
    have:=Nat.pow_le_pow_right (n:=256) jD this
    omega
   have hc8:=((r.take w).getD i 0).toNat_lt
   refine jU 1200 ?_;refine jq (Hv rfl rfl rfl (by (omega)) (((lO ((r.take w).take i) * 256:Nat):Int)) ((by show IntKind.i64.wrap (((lO ((r.take w).take i):Nat):Int) * 2 ^ 8)=_;rw [IntWalk.i64_in _ jO];omega))) ?_;refine jU 8400519700000001 ?_
   have htl:(r.take w).length=w:=by simp;omega
   refine jU 8519200 ?_
   refine aw (i+1) ?_ ?_ (h5:=?_)
   ·show i+1≤w;omega
   ·omega
   ·exact .cons (cI (by rw [BD jO];omega)) (.cons cZ .nil)
  refine jU 784000200020006000 ?_
  have hiw:i=w:=by omega
  have htt:(r.take w).take i=r.take (c-128):=by rw [hiw,hw,List.take_take,Nat.min_self]
  refine jE (bF 7 (.c (.int .i64 (lO (r.take (c-128)):Nat))) (cI (by rw [htt]))) ?_;refine jU 1216 ?_;refine ay 56 (fun g90=>?_) fun g90=>?_
  ·refine jU 7900051000000004444 ?_;refine ff (.rd 0 (.rd 1 (.rd 2 (.rd 3 .done)))) ?_;refine jU 8000300070008807070704000000 ?_
   rw [hM,jK,jK,jK,jP]
   exact ab.tup3 cZ cN cZ
  refine jU 550026020000001 ?_;refine aq (fun h90=>?_) fun h90=>?_
  ·refine iy ?_;refine ff (.rd 0 (.rd 1 (.rd 2 (.rd 3 .done)))) ?_;refine jU 8000300070008807070704000000 ?_
   rw [hM,jK,jK,jK,jP]
   exact ab.tup3 cZ cN cZ
  refine jU 7810 ?_;refine ff (.rd 0 (.rd 1 (.rd 2 (.rd 3 (.rd 4 (.rd 5 (.rd 6 .done))))))) ?_;refine jU 707070 ?_;refine bV nF ?_;refine jU 80007000880707070 ?_
  rw [hM,jK,jK,jK,jK]
  refine ab.tup3 cZ (ab.bs ?_) ab.nil
  rw [hw]
end
section
variable {gs:List Nat} [fZ gs]

theorem yK (b:List UInt8) (hb:b.length≤10000000):bM gs Tryz.prog 197 [bu b] (.tup 3 (fl [P1 (ah b).tag (ah b).body,bu (ah b).rest,.err (ah b).e])):=by
 have hml:=pW (b.drop 1)
 refine ai 56 Tryz.func197 fun al w0 F0 St0=>?_;refine cy ?_
 refine ak (bD (n:=2) gC rfl fun p1=>?_)
 refine jU 523167511 ?_;refine aq (fun h98=>?_) fun h98=>?_
 ·refine iy ?_;refine jI (.rd 0 (.rd 1 (.one 2 (.rd 3 (.rd 4 .done))))) ?_;refine ig (ae (n:=2) rfl gC pD rfl rfl) ?_;refine ig (dy 1) ?_
  refine iL (ax 2 ?_)
  refine jU 8700000400000400000 ?_
  refine jR (ii (cX (hres:=er rfl (bz 2) aG aG) (hv:=?_)))
  have:b.length=0:=by omega
  unfold ah
  rw [if_pos this]
  exact ab.tup3 (ab.agg2 cZ cN) cN cZ
 refine jU 7517000000060200000016810 ?_
 obtain ⟨t,ht⟩:∃ t,t=(b.getD 0 0).toNat:=⟨_,rfl⟩
 refine jE (bF 5 (.c (.int .i64 (t:Nat))) (cI (by rw [ht]))) ?_;refine jU 16 ?_
 refine ak (ap (AU _) ?_)
 refine jU 530 ?_;refine aq (fun h102=>?_) fun h102=>?_
 ·refine iy ?_;refine jI (.rd 0 (.rd 1 (.one 2 (.rd 3 (.rd 4 .done))))) ?_;refine ig (ae (n:=2) rfl gC pD rfl rfl) ?_;refine ig (dy 4) ?_
  refine iL (ax 2 ?_)
  refine jU 8700000400000400000 ?_
  refine jR (ii (cX (hres:=er rfl (bz 2) aG aG) (hv:=?_)))
  have hk:bP (t:Nat)=false:=by simpa using h102
  unfold ah
  rw [jK,if_pos (by rw [← ht];exact hk)]
  exact ab.tup3 (ab.agg2 cZ cN) cN cZ
 refine jU 810 ?_
 have hk:bP (t:Nat)=true:=by simpa using h102
 have hN:=AH jO ht hk rfl
 refine jU 16 ?_;refine jq (nF (hz1:=(show (1:Int)=((1:Nat):Int) from rfl))) ?_
 refine ak (ap (CF _) ?_)
 refine jU 515000001620751119009009001 ?_;refine aq (fun h107=>?_) fun h107=>?_
 ·refine cy ?_;refine jq (ae (n:=2) rfl gC pD rfl rfl) ?_;refine jU 1 ?_
  refine ar (ax 2 ?_)
  refine jU 511 ?_
  refine jR (yY (ii (cX (hres:=er rfl (bz 2) aG aG) (hv:=?_))))
  rw [hN,jP]
  exact ab.tup3 (ab.agg2 cZ cN) cN cZ
 refine jU 51216 ?_;refine aq (fun h109=>?_) fun h109=>?_
 ·refine iy ?_;refine jI (.rd 0 (.rd 1 (.one 2 (.rd 3 (.rd 4 .done))))) ?_;refine ig (ae (n:=2) rfl gC pD rfl rfl) ?_;refine ig (dy 2) ?_
  refine iL (ax 2 ?_)
  refine jU 8700000400000400000 ?_
  refine jR (yY (ii (cX (hres:=er rfl (bz 2) aG aG) (hv:=?_))))
  rw [hN,jK,jP]
  exact ab.tup3 (ab.agg2 cZ cN) cN cZ
 refine jU 5123116 ?_;refine aq (fun h111=>?_) fun h111=>?_
 ·refine iy ?_;refine jI (.rd 0 (.rd 1 (.one 2 (.rd 3 (.rd 4 .done))))) ?_;refine ig (ae (n:=2) rfl gC pD rfl rfl) ?_;refine ig (dy 1) ?_
  refine iL (ax 2 ?_)
  refine jU 8700000400000400000 ?_
  refine jR (yY (ii (cX (hres:=er rfl (bz 2) aG aG) (hv:=?_))))
  rw [hN,jK,jK,jP]
  exact ab.tup3 (ab.agg2 cZ cN) cN cZ
 refine jU 7840010 ?_;refine py 10 (.rd 0 (.rd 1 (.rd 2 (.rd 3 (.rd 6 (.rd 7 (.rd 8 (.one 4 (.rd 5 (.one 9 .done)))))))))) ?_;refine jU 707070 ?_;refine bV tH ?_;refine jU 7070 ?_;refine bV nF ?_
 refine kO (ap (ml ((cd (b.drop 1)).rest.take (cd (b.drop 1)).n) (by rw [List.length_take];have:=hml.1;rw [List.length_drop] at this;omega)) ?_)
 refine bV (ae (n:=2) rfl gC pD rfl rfl) ?_
 refine kO (ap (ml ((cd (b.drop 1)).rest.drop (cd (b.drop 1)).n) (by rw [List.length_drop];have:=hml.1;rw [List.length_drop] at this;omega)) ?_)
 refine BO ?_
 show cV _ _ _ _ _ _
 refine ar (ax 2 ?_)
 refine jU 8511 ?_
 refine jR (cX (hres:=er rfl (bz 2) aG aG) (hv:=?_))
 rw [hN,jK,jK,jK]
 exact ab.tup3 (ab.agg2 cZ cZ) cZ ab.nil

theorem pf (rec:Nat→List UInt8→Nat×Nat) (set:Bool) (lv fuel:Nat) (last:List UInt8) (dp:Nat):fI rec set lv fuel [] last dp=(dp,0):=by
 cases fuel <;> simp [fI]
theorem bS (rec:Nat→List UInt8→Nat×Nat) (set:Bool) (lv fuel:Nat) (b last:List UInt8) (dp:Nat) (hb:0<b.length) (hf:b.length≤fuel):fI rec set lv fuel b last dp =
  if (ah b).e≠0 then (0,(ah b).e) else
  if lv≤1 then (0,6) else
  if (rec (ah b).tag (ah b).body).2≠0 then (0,(rec (ah b).tag (ah b).body).2) else
  if set=true∧Op.bytesLess (b.take (b.length-(ah b).rest.length)) last=true then (0,7) else
  fI rec set lv (fuel-1) (ah b).rest (b.take (b.length-(ah b).rest.length)) (max dp ((rec (ah b).tag (ah b).body).1+1)):=by
 obtain ⟨m,rfl⟩:∃ m,fuel=m+1:=⟨fuel-1,by omega⟩
 rw [fI,jK]
 rfl
structure WS where
 f:Nat
 b:List UInt8
 last:List UInt8
 dp:Nat
theorem GI:∀ (lv tag:Nat) (body:List UInt8),lv<16→body.length≤1000000→bM gs Tryz.prog 198 [P1 tag body,.c (.int .i64 ((lv+1:Nat):Int))] (.tup 2 (fl [.c (.int .i64 (bm (lv+1) tag body).1),.err (bm (lv+1) tag body).2])):=by
 intro lv
 induction lv using Nat.strongRecOn with
 | _ lv ih =>
 intro tag body hlv hbody
 have ih':1≤lv→∀ (tag:Nat) (body:List UInt8),body.length≤1000000→bM gs Tryz.prog 198 [P1 tag body,.c (.int .i64 (lv:Nat))] (.tup 2 (fl [.c (.int .i64 (bm lv tag body).1),.err (bm lv tag body).2])):=fun h tag body hb=>by
  have:=ih (lv-1) jO tag body jO hb
  rwa [show lv-1+1=lv by omega] at this
 have hR:∀ t b,(bm lv t b).1≤lv+1∧(bm lv t b).2≤7:=fun t b=>oG lv t b
 refine ai 70 Tryz.func198 fun al w0 F0 St0=>?_;refine cy ?_
 refine ak (cE 2 fun p1=>?_)
 refine jU 509067516511 ?_
 refine ak (ap (tS _) ?_)
 refine jU 530 ?_;refine aq (fun h134=>?_) fun h134=>?_
 ·refine jU 80003000700051116 ?_
  have hmd:bG (tag:Nat)=false:=decide_eq_false h134
  rw [bm,if_pos hmd]
  exact cT cZ ab.nil
 refine jU 810 ?_
 have hmd:bG (tag:Nat)=true:=decide_eq_true (Decidable.not_not.1 h134)
 have hw0:bm (lv+1) tag body=fI (bm lv) (decide (tag=49)) (lv+1) body.length body [] 1:=by
  rw [bm,if_neg (by rw [hmd];exact Bool.noConfusion)]
 refine jU 20515010067516 ?_;refine aF (α:=WS×Option Nat) [4,5,6,7,8,9,10,11,12,13,21,22,23,24,25,26,27,28,29,30,31,32,33,34,35,36,37,38,39,40,41,42,43,44,45,46,47,48,49,50,51,52,53,54,55,56,57,58,59,60,61,62,63,64,65,66,67,68] (fun (x,g)=>[(6,.c (.int .i64 (x.dp:Nat))),(7,bu x.last),(8,bu x.b)]) (fun (x,g)=>[(p1,.blk 2 (fl [.c (.int .i64 tag),bu body]))]) (fun x=>x.1.b.length≤x.1.f∧x.1.b.length≤1000000∧x.1.dp≤lv+2∧fI (bm lv) (decide (tag=49)) (lv+1) x.1.f x.1.b x.1.last x.1.dp=bm (lv+1) tag body) (fun x=>x.1.f) ((⟨body.length,body,[],1⟩,none)) ?_ (fun _=>rfl) ?_ ?_ ?_
 ·exact ⟨Nat.le_refl _,hbody,by show 1≤lv+2;omega,hw0.symm⟩
 ·exact .cons cZ (.cons cN (.cons cZ .nil))
 ·exact .same .nil
 ·rintro ⟨x,g'⟩ ⟨hxf,hxb',hdp,hw⟩
  dsimp only at hxf hxb' hdp hw
  have hxb:x.b.length≤10000000:=by omega
  have hnb:=ew x.b
  refine jU 523167 ?_;refine aq (fun h138=>?_) fun h138=>?_
  rotate_left
  ·refine jU 800070005111684000200020006000 ?_
   have hnil:x.b=[]:=List.eq_nil_of_length_eq_zero jO
   rw [← hw,hnil,pf]
   exact cT cZ ab.nil
  refine jU 1620810 ?_
  refine ak (ap (yK x.b hxb) ?_)
  refine jU 9009009001 ?_
  refine ak (bD (n:=2) gC rfl fun p2=>?_)
  refine ar (ax 2 ?_)
  refine jU 5500000167511 ?_;refine aq (fun h140=>?_) fun h140=>?_
  ·refine jU 800030005000300050003000700051116 ?_
   rw [← hw,bS _ _ _ _ _ _ _ jO hxf,if_pos h140]
   exact cZ
  refine jU 52167810 ?_;refine aq (fun h143=>?_) fun h143=>?_
  ·refine iy ?_;refine ff (.rd 0 (.rd 1 (.rd 2 .done))) ?_;refine bV (dy 5) ?_;refine jU 80003000500030005000300070008807070 ?_
   rw [← hw,bS _ _ _ _ _ _ _ jO hxf,if_neg h140,jP]
   exact cZ
  refine jU 6810 ?_;refine eL (aV 2) ?_;refine jU 91 ?_
  refine ak (ap (ih' jO (ah x.b).tag (ah x.b).body jO) ?_ (ho:=rfl) (he:=(.cons (se rfl (ab.agg2 cZ cZ)) (.cons (se rfl (cI jO)) .nil))))
  refine jU 75119009001 ?_
  have hRx:=hR (ah x.b).tag (ah x.b).body
  refine jU 550000016 ?_;refine aq (fun h147=>?_) fun h147=>?_
  ·refine jU 800030005000300050003000700051116 ?_
   rw [← hw,bS _ _ _ _ _ _ _ jO hxf,if_neg h140,jK,if_pos h147]
   exact cZ
  refine jU 9313116810 ?_;refine jq (tH (hz2:=(show _=(((x.b.length-(ah x.b).rest.length):Nat):Int) by omega))) ?_;refine jU 1250906751 ?_;refine ay 56 (fun g151=>?_) fun g151=>?_
  rotate_left
  ·refine jU 911681030055004444 ?_;refine jq (DH rfl rfl rfl) ?_;refine jU 84005111120051 ?_
   refine aw ((⟨x.f-1,(ah x.b).rest,x.b.take (x.b.length-(ah x.b).rest.length),max x.dp ((bm lv (ah x.b).tag (ah x.b).body).1+1)⟩,none)) ?_ ?_ (h5:=?_) (h7:=?_)
   ·exact ⟨by dsimp only;omega,by dsimp only;omega,by dsimp only;omega,by
     dsimp only
     rw [← hw,bS _ _ _ _ _ _ _ jO hxf,if_neg h140,jK,if_neg h147,if_neg (by
      rintro ⟨h1,h2⟩
      have h1:=of_decide_eq_true h1
      rw [← ry] at h2
      have h2:=of_decide_eq_true h2
      omega)]⟩
   ·dsimp only
    omega
   ·exact .cons (cI (by dsimp only;omega)) (.cons cZ (.cons cZ .nil))
   ·exact .same .nil
  refine jU 11 ?_
  refine ak (ap (Bw (x.b.take (x.b.length-(ah x.b).rest.length)) x.last) ?_)
  refine jU 51000000002 ?_;refine aq (fun h151=>?_) fun h151=>?_
  ·refine iy ?_;refine ff (.rd 0 (.rd 1 (.rd 2 .done))) ?_;refine bV (dy 6) ?_;refine jU 80003000500030005000300070008807070 ?_
   rw [← hw,bS _ _ _ _ _ _ _ jO hxf,if_neg h140,jK,if_neg h147,if_pos ⟨decide_eq_true jO,by rw [← ry];exact decide_eq_true jO⟩]
   exact cZ
  refine jU 9116810 ?_;refine jq (DH rfl rfl rfl) ?_;refine jU 84005111120051 ?_
  refine aw ((⟨x.f-1,(ah x.b).rest,x.b.take (x.b.length-(ah x.b).rest.length),max x.dp ((bm lv (ah x.b).tag (ah x.b).body).1+1)⟩,none)) ?_ ?_ (h5:=?_) (h7:=?_)
  ·exact ⟨by dsimp only;omega,by dsimp only;omega,by dsimp only;omega,by
    dsimp only
    rw [← hw,bS _ _ _ _ _ _ _ jO hxf,if_neg h140,jK,if_neg h147,if_neg (by
     rintro ⟨h1,h2⟩
     have h1:=of_decide_eq_true h1
     rw [← ry] at h2
     have h2:=of_decide_eq_true h2
     omega)]⟩
  ·dsimp only
   omega
  ·exact .cons (cI (by dsimp only;omega)) (.cons cZ (.cons cZ .nil))
  ·exact .same .nil
end
section
variable {gs:List Nat} [fZ gs]

theorem JG (b:List UInt8) (hb:b.length≤10000000):bM gs Tryz.prog 125 [bu b] (.tup 2 (fl [.c (.int .i64 (af b).1),.err (af b).2])):=by
 have hnb:=ew b
 refine ai 30 Tryz.func125 fun al w0 F0 St0=>?_;refine jU 5231675116 ?_;refine aq (fun h162=>?_) fun h162=>?_
 ·refine iy ?_;refine ff (.rd 0 (.rd 1 (.rd 2 .done))) ?_;refine bV (dy 2) ?_;refine jU 8000300070008807070 ?_
  unfold af
  rw [jP]
  exact cZ
 refine jU 16810 ?_
 refine ak (ap (yK b hb) ?_)
 refine jU 9009009001 ?_
 refine ak (bD (n:=2) gC rfl fun p1=>?_)
 refine ar (ax 2 ?_)
 refine jU 5150000016207511 ?_;refine aq (fun h167=>?_) fun h167=>?_
 ·refine jU 800030005000700051116 ?_
  unfold af
  rw [jK,jP]
  exact cZ
 refine jU 512316 ?_;refine aq (fun h169=>?_) fun h169=>?_
 ·refine iy ?_;refine ff (.rd 0 (.rd 1 (.rd 2 .done))) ?_;refine jU 800030005000700088070704000000 ?_
  unfold af
  rw [jK,jK,jP]
  exact cZ
 refine jU 6840010 ?_;refine eL (aV 2) ?_
 refine ak (ap (GI 15 (ah b).tag (ah b).body jO jO) ?_ (ho:=rfl) (he:=(.cons (se rfl (ab.agg2 cZ cZ)) (.cons (se rfl cZ) .nil))))
 refine jU 80007000511900900 ?_
 unfold af
 rw [jK,jK,jK]
 exact cZ
theorem JM (b:List UInt8) (hb:b.length≤10000000):bM gs Tryz.prog 53 [bu b] (.err (af b).2):=by
 refine ai 11 Tryz.func53 fun al w0 F0 St0=>?_;refine jU 16516 ?_
 refine ak (ap (JG b hb) ?_)
 refine jU 51165119009001 ?_
 refine jR cX
theorem KU {gs:List Nat} (tag:Int) (body:List UInt8) (ht:0≤tag∧tag<256) (hb:body.length≤10000000):bM gs Tryz.prog 62 [.c (.int .i64 tag),bu body] (bu (dl tag body)):=by
 have hl:=tU body.length
 refine ai 14 Tryz.func62 fun al w0 F0 St0=>?_;refine jU 80000016516 ?_
 refine ak (aU 1 1 f7 fun p1=>?_)
 refine jU 31 ?_
 refine ak (ap (DE body.length jO) ?_)
 refine bg (gB 0 rfl (Nat.le_refl _) (fun _=>rfl) (Je (l2:=[b8 tag.toNat]) (.cons (cI ((by rw [eX];omega))) .nil))) ?_
 refine ar (bC (l:=[b8 tag.toNat]) rfl rfl rfl (Nat.le_refl _) (fun _ _=>cZ) (dj rfl) rfl (fun j hj=>by simp only [Nat.div_one];exact cZ) Tryz.underlying22 iM qi f7 rB rfl (by (simp;omega)) (fun j hj=>rfl) rfl rfl (fun p2=>?_))
 refine jU 1 ?_
 refine ar (bC rfl rfl rfl (Nat.le_refl _) (fun _ _=>cZ) (dj rfl) rfl (fun j hj=>by simp only [Nat.div_one];exact cZ) Tryz.underlying22 iM qi f7 rB rfl (by (simp;omega)) (fun j hj=>rfl) rfl rfl (fun p3=>?_))
 refine jU 51 ?_;refine jE (freeze 0 rfl) ?_;refine jE (kE 4 ([b8 tag.toNat]++gF body.length++body) rfl rfl (by rfl) rfl) ?_
 refine jR (cX (hv:=ab.bs (by simp [dl,b8])))
end
section
variable {gs:List Nat} [fZ gs]

theorem IX {gs:List Nat} (n:Nat) (hn:n≤100000000000):AC gs Tryz.prog 242 [] [.c (.slice none 0 0),.c (.int .i64 (n:Nat))] (we 0 1 0 fun _=>.top):=by
 refine ai 27 Tryz.func242 fun al w0 F0 St0=>?_;refine jU 52167516 ?_;refine aq (fun h423=>?_) fun h423=>?_
 ·exfalso;omega
 refine jU 1167810 ?_;refine jq (DI rfl rfl Tryz.underlying22) ?_;refine jU 5216519931 ?_;refine aq (fun h426=>?_) fun h426=>?_
 rotate_left
 ·refine jU 810 ?_;refine jE (tQ 0 1 (fun _=>.top) rfl) ?_;refine jU 70005116 ?_
  exact vK 0 (.inl rfl) (aA rfl (aP rfl)) rfl rfl (Nat.le_refl _) (fun _=>rfl) (fun j hj=>absurd hj (Nat.not_lt_zero j))
 refine jU 11200 ?_;refine jq (DI rfl rfl Tryz.underlying22) ?_;refine jq (E5 rfl rfl Tryz.underlying22 qi (dc _ _) (bY rfl (show _=((0:Nat):Int) by omega)) (by (omega)) (by (omega))) ?_;refine jU 1 ?_
 refine ak (Ot (F:=fun _=>.top) rfl rfl rfl (show _=((n:Nat):Int) by omega) (by (omega)) Tryz.underlying22 Tryz.underlying3 qi jD f7 rB (by (omega)) (by (omega)) rfl rfl rfl (fun p1=>?_))
 refine jU 31 ?_;refine jq (Od (hl:=(dc _ _)) (hu:=(bY rfl (show _=((0:Nat):Int) by omega)))) ?_;refine jU 851 ?_
 skip
 refine jU 70005116 ?_
 exact vK 0 (.inl rfl) (aA rfl (aP rfl)) rfl rfl (Nat.le_refl _) (fun _=>rfl) (fun j hj=>absurd hj (Nat.not_lt_zero j))
theorem m8 {gs:List Nat} (ls:List (List UInt8)) (h:cm ls≤10000000000) (hl:ls.length≤1000000):bM gs Tryz.prog 201 [BN ls] (bu ls.flatten):=by
 refine ai 36 Tryz.func201 fun al w0 F0 St0=>?_;refine jU 20513167516516 ?_;refine aF (α:=Nat) [3,5,11,12,13,14,15,16,17,18,19,20,21,22] (fun i=>[(3,.c (.int .i64 (cm (ls.take i):Nat))),(11,.c (.int .i64 (i:Nat)))]) (fun _=>[]) (fun i=>i≤ls.length) (fun i=>ls.length-i) (0) ?_ (fun _=>rfl) ?_ ?_ ?_
 ·exact Nat.zero_le _
 ·exact .cons cZ (.cons cZ .nil)
 ·(repeat (exact aS.nil))
 ·rintro i (hi:i≤ls.length)
  refine jU 7526 ?_;refine aq (fun h493=>?_) fun h493=>?_
  ·refine jU 51607006207810 ?_
   have hs1:=iV (ls:=ls) (i:=i) jO
   have hs2:=oK ls (i+1)
   refine jU 52165193116 ?_;refine aq (fun h495=>?_) fun h495=>?_
   ·exfalso;omega
   refine jU 8519200840010 ?_
   refine aw (i+1) ?_ ?_ (h5:=?_)
   ·show i+1≤ls.length;omega
   ·omega
   ·exact .cons (cI (by rw [iV jO];omega)) (.cons (cI jO) .nil)
  refine jU 84000200020006000 ?_
  have hs3:=oK ls i
  refine jU 16 ?_
  refine ak (FP (IX (cm (ls.take i)) jO) (fun p1=>?_))
  refine jU 2051316751 ?_;refine aF (α:=Nat×Option Nat) [6,8,27,28,29,30,31,32,33,34] (fun (j,g)=>[(6,.os 0 g 0 ((ls.take j).flatten).length 1),(27,.c (.int .i64 (j:Nat)))]) (fun (j,g)=>[(g,.blk ((ls.take j).flatten).length (ft (ls.take j).flatten))]) (fun j=>j.1≤ls.length) (fun j=>ls.length-j.1) ((0,p1)) ?_ (fun _=>rfl) ?_ ?_ ?_
  ·exact Nat.zero_le _
  ·exact .cons cZ (.cons cZ .nil)
  ·exact .blk rfl (fun j hj=>absurd hj (Nat.not_lt_zero j)) .nil
  ·rintro ⟨j,g'⟩ (hj:j≤ls.length)
   refine jU 7526 ?_;refine aq (fun h503=>?_) fun h503=>?_
   rotate_left
   ·refine jU 511684000200020006000 ?_;refine jE (freeze 0 rfl) ?_;refine jE (kE 2 ((ls.take j).flatten) rfl rfl (by rfl) rfl) ?_;refine jU 80007000 ?_;refine ab.bs ?_
    rw [List.take_of_length_le jO]
   refine jU 51607006207810 ?_
   have hf1:=iV (ls:=ls) (i:=j) jO
   have hf2:=oK ls (j+1)
   have hf3:=gt (ls.take j)
   refine jU 11200 ?_
   refine ar (bC rfl rfl rfl (Nat.le_refl _) (fun _ _=>cZ) (dj rfl) rfl (fun j hj=>by simp only [Nat.div_one];exact cZ) Tryz.underlying22 iM qi f7 rB rfl jO (fun j hj=>rfl) rfl rfl (fun p2=>?_))
   refine jU 8519200840051 ?_
   refine aw ((j+1,p2)) ?_ ?_ (h5:=?_) (h7:=?_)
   ·show j+1≤ls.length;omega
   ·show ls.length-(j+1)<ls.length-j;omega
   ·simp only [ia (show j<ls.length by omega)]
    exact .cons cZ (.cons (cI jO) .nil)
   ·simp only [ia (show j<ls.length by omega)]
    exact .same .nil
end
end Am
end Go.Proofs.YthlpfjnkieaeeaaGreatDoor
namespace Go.Proofs.YthlpfjnkieaeeaaGreatDoor
set_option linter.unusedVariables false
open Go.RowKit

def lx:List UInt8:=[201,202,203,204,205,206]
def sQ (w:World) (v:Value) (l:List UInt8):Prop :=
 ∃ g,v=.slice (some ⟨g,0,none⟩) l.length (l.length+6)∧l.length+6≤9223372036854775807∧∀ i,i<l.length+6→w.cell? ⟨g,i,none⟩=some (.int .u8 ((l++lx).getD i 0).toNat)
def BI (w:World) (g:Nat) (v:Value) (l:List UInt8):Prop :=
 v=.slice (some ⟨g,0,none⟩) l.length (l.length+6)∧l.length+6≤9223372036854775807∧∀ i,i<l.length+6→w.cell? ⟨g,i,none⟩=some (.int .u8 ((l++lx).getD i 0).toNat)
theorem sQ.below {a b:World} {v:Value} {l:List UInt8} (h:sQ a v l) (k:Below a.heap.size a b):sQ b v l:=by
 obtain ⟨g,rfl,h1,h2⟩:=h
 exact ⟨g,rfl,h1,fun i hi=>k9 k (h2 i hi)⟩
theorem sQ.bs {w:World} {v:Value} {l:List UInt8} (h:sQ w v l):Bs w v l:=by
 obtain ⟨g,rfl,h1,h2⟩:=h
 refine Bs.of_cells jO jO fun i hi=>?_
 rw [Nat.zero_add,h2 i jO]
 simp [List.getD,List.getElem?_append_left hi]

theorem FU:(Tryz.prog.info? 5).map (fun i=>(i.zero,i.size,i.bytes))=some (some (.int .u8 0),1,1):=by kernel_rfl

theorem xZ (l:List UInt8):∀ u ∈ l.map (fun c=>Value.int .u8 c.toNat),u.oneCell'=true:=by
 intro u hu
 obtain ⟨c,_,rfl⟩:=List.mem_map.1 hu
 rfl
theorem Bs.parts {w:World} {v:Value} {l:List UInt8} (h:Bs w v l) :
  ∃ ao cap,v=.slice ao l.length cap∧l.length≤cap∧cap≤9223372036854775807∧(ao=none→l.length=0∧cap=0) ∧
   ∀ ad,ao=some ad→∀ j u,(l.map fun c=>Value.int .u8 c.toNat)[j]?=some u→w.cell? (ad.add j)=some u:=by
 obtain ⟨ao,cap,rfl,h1,h2,h3,h4⟩:=h
 refine ⟨ao,cap,rfl,h1,h2,fun h=>⟨by have:=h3 h;omega,h3 h⟩,?_⟩
 intro ad had j u hu
 obtain ⟨hs,hc⟩:=h4 ad had
 obtain ⟨b,o,sp⟩:=ad
 have hj:j<l.length:=by
  have:=(List.getElem?_eq_some_iff.1 hu).1
  simpa using this
 have hs:=hs jO
 simp only at hs
 subst hs
 rw [Addr.add_lit,hc j hj]
 rw [List.getElem?_map,List.getElem?_eq_getElem hj] at hu
 simpa [List.getD,hj] using hu

set_option maxHeartbeats 400000 in
theorem CC {w:World} {v:Value} {l:List UInt8} (h:Bs w v l) (hl:l.length≤1000000) :
  Calls Tryz.prog 26 #[v] w fun e w'=>∃ v',e=.returned v'∧BI w' w.heap.size v' l∧Below w.heap.size w w':=by
 obtain ⟨i,hi,hz0,hz1,hz2⟩:=info_parts FU
 obtain ⟨ao,cap,rfl,h1,h2,h3,h4⟩:=h.parts
 have h4':∀ w1,w.grownBy w1 none→∀ ad,ao=some ad→∀ j u,(l.map fun c=>Value.int .u8 c.toNat)[j]?=some u→w1.cell? (ad.add j)=some u :=
  fun w1 hg ad had j u hu=>hg.cell (h4 ad had j u hu) (by simp)
 have HL:Hid (l.length≤1000000):=hl
 clear h hl
 have b0:(0:Int)≤l.length:=by omega
 have b1:(l.length:Int)≤1000000:=by have:=HL.out;omega
 go_enter Tryz.func26,Tryz.ntmps26
 go_wp2_with (at_make;go_loud (refine wpList_make_own _ rfl _ _ 22 rfl w.heap.size 5 i (.int .u8 0) 1 Tryz.underlying22 hi hz0 hz1 _ _ _ (l.length+6) rfl rfl ?c1 ?c2 ?c3 (Nat.le_refl _) ?_))
 case c1=>omega
 case c2=>rw [hz2];omega
 case c3=>have:=HL.out;unfold maxLen;omega
 intro w1 ho1 hg1
 have hc1:=h4' w1 hg1
 clear h4 h4'
 go_wp2_with (at_builtin;go_loud (refine wpList_append_fits_any w1 rfl (.tmp 7) (.tmp 8) 22 rfl w.heap.size 5 i 1 Tryz.underlying22 hi hz1 _ _ _ _ rfl ho1 ao l.length cap _ rfl ?d1 h3 hc1 (xZ l) ?d2 ?_))
 case d1=>simp
 case d2=>omega
 intro w2 ho2 hg2
 clear hc1
 have ho2':=ho2.alloc (.cells #[.int .u8 201,.int .u8 202,.int .u8 203,.int .u8 204,.int .u8 205,.int .u8 206] 5)
 go_wp2_with (at_builtin;go_loud (refine wpList_append_fits _ rfl (.tmp 9) (.tmp 10) 22 rfl w.heap.size 5 i 1 Tryz.underlying22 hi hz1 _ _ _ _ rfl ho2' ⟨w2.heap.size,0,none⟩ 6 6 (lx.map fun c=>.int .u8 c.toNat) rfl rfl ?e1 (xZ _) ?e2 ?_))
 case e2=>omega
 case e1 =>
  intro j u hu
  match j,hu with
  | 0,hu=>simp [lx] at hu;subst hu;simp [Addr.add]
  | 1,hu=>simp [lx] at hu;subst hu;simp [Addr.add]
  | 2,hu=>simp [lx] at hu;subst hu;simp [Addr.add]
  | 3,hu=>simp [lx] at hu;subst hu;simp [Addr.add]
  | 4,hu=>simp [lx] at hu;subst hu;simp [Addr.add]
  | 5,hu=>simp [lx] at hu;subst hu;simp [Addr.add]
  | j+6,hu=>simp [lx] at hu
 intro w3 ho3 hg3
 have HB:Hid (Below w.heap.size w w3):=(((((Below.refl _ _).grown hg1 (Nat.le_refl _) (by simp)).grown hg2 hg1.size (by simp)).alloc (Nat.le_trans hg1.size hg2.size) _).grown hg3 (by have:=hg1.size;have:=hg2.size;simp;omega) (by simp))
 have HO:=Lib.hid ho3
 clear ho3 hg1 hg2 hg3 ho1 ho2 ho2'
 go_wp2
 go_ret
 refine ⟨_,rfl,⟨rfl,by have:=HL.out;omega,fun k hk=>?_⟩,HB.out⟩
 have:=HO.out.cellAt k jO
 rw [this,← List.map_append,List.getElem?_map]
 have hk':k<(l++lx).length:=by simp [lx];omega
 rw [List.getElem?_eq_getElem hk']
 simp [List.getD,List.getElem?_eq_getElem hk']

theorem FF (i:Nat) (hi:i<6):((lx.getD i 0).toNat:Int)=201+i:=by
 match i,hi with
 | 0,_=>rfl
 | 1,_=>rfl
 | 2,_=>rfl
 | 3,_=>rfl
 | 4,_=>rfl
 | 5,_=>rfl

set_option maxRecDepth 100000 in
set_option maxHeartbeats 1000000 in
theorem ID {w:World} {v v2:Value} {l:List UInt8} (h:sQ w v l) (h2:Bs w v2 l) :
  Calls Tryz.prog 35 #[v,v2] w fun e w'=>e=.returned (.bool true)∧Below w.heap.size w w':=by
 have hb:=h.bs
 obtain ⟨g,rfl,hsz,hc⟩:=h
 obtain ⟨ao,cap,rfl,h1,h3,h4⟩:=h2.parts
 have s1:∀ n,(convert 22 9 (.slice (some ⟨g,0,none⟩) l.length (l.length+6))).run Tryz.prog (w.drewN n)=.ok (.string ⟨l.toArray⟩) (w.drewN n):=fun n =>
  gH (w:=w.drewN n) hb _ _ _ Tryz.underlying22 Tryz.underlying5 Tryz.underlying9
 have s2:∀ n,(convert 22 9 (.slice ao l.length cap)).run Tryz.prog (w.drewN n)=.ok (.string ⟨l.toArray⟩) (w.drewN n):=fun n =>
  gH (w:=w.drewN n) h2 _ _ _ Tryz.underlying22 Tryz.underlying5 Tryz.underlying9
 have s3:=s1 0
 have s4:=s2 0
 simp only [World.drewN] at s3 s4
 have HC:=Lib.hid hc
 clear hc hb h2 h4
 have b1:(l.length:Int)+6≤9223372036854775807:=by omega
 have b2:decide ((l.length:Int)+6<(l.length:Int)+6)=false:=by simp
 go_enter Tryz.func35,Tryz.ntmps35
 go_wp2
 go_quiet (fail)
 clear s1 s2 s3 s4 b2 h3 h1
 go_wp2
 go_loopw [6] (fun i wr=>∃ k:Nat,k≤6∧i=.int .i64 k∧Below w.heap.size w wr) (fun i _=>6-(intOf i).toNat)
 case atStart=>exact ⟨0,by omega,rfl,BC (Below.refl _ _) _⟩
 case round =>
  obtain ⟨k,hk,rfl,hB⟩:=hrel
  have HSZ:=Lib.hid hsz
  clear hsz
  by_cases hlt:(k:Int)<6
  ·have hcx:=k9 hB (HC.out (l.length+k) jO)
   have e:(((l++lx).getD (l.length+k) 0).toNat:Int)=201+k:=by
    rw [← FF k jO]
    simp [List.getD,List.getElem?_append_right]
   rw [e] at hcx
   clear e
   have hw:IntKind.u8.wrap (201+(k:Int))=201+k:=IntWalk.u8_in _ ⟨by omega,by omega⟩
   go_wp2
   go_roundw
   case rel=>exact ⟨k+1,by omega,by go_num,hB⟩
   case measure=>simp [intOf];omega
  ·go_wp2
   go_ret
   exact ⟨rfl,hB⟩
end Go.Proofs.YthlpfjnkieaeeaaGreatDoor
namespace Go.Proofs.YthlpfjnkieaeeaaGreatDoor
set_option linter.unusedVariables false
namespace Am
open Go.RowKit
section
variable {gs:List Nat} [fZ gs]
def N7 (l:List UInt8):SV where
 p St w v:=∃ g,St g∧BI w g v l
 st:=fun {St St' w w' v} hs hb ⟨g,h1,h2,h3,h4⟩=>⟨g,hs g h1,h2,h3,fun i hi=>sM (fun cur t z hc=>hb g cur t z h1 hc) (h4 i hi)⟩
 one:=fun {St w v} ⟨g,h1,h2,h3,h4⟩=>by rw [h2];exact ⟨rfl,rfl⟩
def Ir (l:List UInt8):CV:=.pv (N7 l)
theorem ab.mark {l:List UInt8}:ab (Ir l) (bu l):=fun al St w v ⟨g,h1,h2,h3,h4⟩=>by
 refine ⟨_,_,h2,by omega,h3,(fun h=>by cases h),fun a ha hn=>?_⟩
 cases ha
 refine ⟨rfl,h1,fun i j hi hj=>⟨_,by rw [show 0+(i * 1+j)=i by omega];exact h4 i jO,?_⟩⟩
 show _=_
 simp [List.getD,List.getElem?_append_left hi]
theorem Po {gs:List Nat} (l:List UInt8) (hl:l.length≤1000000):bM gs Tryz.prog 26 [bu l] (Ir l):=fun al w St F0 vals he hs hv=>by
 have h0:Bs w (vals.getD 0 undef) l:=pt (hv 0)
 rw [GK hs]
 refine (CC h0 hl).mono ?_
 rintro e w' ⟨v',h1,h2,h3⟩
 have hlt:w.heap.size<w'.heap.size:=World.block_lt_of_cell? w' ⟨w.heap.size,0,none⟩ (h2.2.2 0 jO)
 refine ⟨v',_,[],fun b=>St b∨b=w.heap.size,h1,⟨rfl,rfl⟩,⟨w.heap.size,.inr rfl,h2⟩,⟨h3.os,h3.tape,h3.output,h3.size,fun k hk _=>h3.block k hk,fun b cur t z hb=>⟨cur,z,(h3.block b (Array.getElem?_eq_some_iff.1 hb).1).trans hb,rfl⟩⟩,fun _ h=>.inl h,fun b hb=>?_,fun b hb=>?_,cH.none _ _ _ _ _⟩
 ·rcases hb with hb|rfl
  ·exact .inl hb
  ·exact .inr (.inl (Nat.le_refl _))
 ·rcases hb with hb|rfl
  ·exact Nat.lt_of_lt_of_le (he.s3 b hb) h3.size
  ·exact hlt
theorem LS {gs:List Nat} (l:List UInt8):bM gs Tryz.prog 35 [Ir l,bu l] (.c (.bool true)) :=
 oC fun al w St vals hs hv hr=>by
  obtain ⟨g,_,h1⟩:=hr 0
  have h2:Bs w (vals.getD 1 undef) l:=pt (hr 1)
  rw [ui hv]
  exact ID ⟨g,h1⟩ h2
end
section
variable {gs:List Nat} [fZ gs]

def pT (tag:Int) (body:List UInt8):Nat:=if bP tag=false then 5 else if 65530<body.length then 3 else 0
theorem od {t:Int} (h:bP t=true):0≤t∧t<256:=by
 unfold bP bG at h
 simp at h
 omega
theorem KF (tag:Int) (body:List UInt8) (hb:body.length≤1000000):bM gs Tryz.prog 199 [.agg 2 (fl [.c (.int .i64 tag),bu body])] (.tup 2 (fl [bu (if pT tag body=0 then dl tag body else []),.err (pT tag body)])):=by
 refine ai 28 Tryz.func199 fun al w0 F0 St0=>?_;refine cy ?_
 refine ak (cE 2 fun p1=>?_)
 refine jU 50906207511 ?_
 refine ak (ap (AU _) ?_)
 refine jU 5130 ?_;refine aq (fun h62=>?_) fun h62=>?_
 ·refine iy ?_;refine ff (.rd 0 (.rd 1 (.rd 2 .done))) ?_;refine bV (dy 4) ?_;refine jU 80003000500070008807070 ?_
  have hk:bP tag=false:=by simpa using h62
  have he:pT tag body=5:=by unfold pT;rw [if_pos hk]
  rw [he];exact cT cN cZ
 refine jU 5123501006 ?_;refine aq (fun h64=>?_) fun h64=>?_
 ·refine iy ?_;refine ff (.rd 0 (.rd 1 (.rd 2 .done))) ?_;refine bV (dy 2) ?_;refine jU 80003000500070008807070 ?_
  have hk:bP tag=true:=by simpa using h62
  have he:pT tag body=3:=by unfold pT;rw [if_neg (by rw [hk];exact Bool.noConfusion),jP]
  rw [he];exact cT cN cZ
 refine jU 7840010 ?_
 have hk:bP tag=true:=by simpa using h62
 have hkb:=od hk
 have he:pT tag body=0:=by unfold pT;rw [if_neg (by rw [hk];exact Bool.noConfusion),jK]
 have hlb:=tU body.length
 refine ff (.rd 0 (.rd 1 (.rd 2 (.rd 4 (.rd 5 (.rd 6 (.rd 8 (.rd 9 (.two 3 (.one 7 (.one 10 (.one 11 (.rd 12 (.rd 13 .done))))) 7 (.one 3 (.one 10 (.one 11 (.rd 12 (.rd 13 .done)))))))))))))) ?_;refine jU 10000900000 ?_;refine bV (GA .i64 .u8) ?_;refine jU 10000800000020000100008000000 ?_;refine DZ ?_ ?_
 ·refine kO (aU 1 1 f7 fun p2=>?_)
  refine kO (ap (xx body.length jO) ?_)
  refine lh (freeze 1 rfl) ?_;refine lh (gP 19 [UInt8.ofNat tag.toNat] rfl rfl rfl rfl (.cons (cI (by rw [UInt8.toNat_ofNat'];omega)) .nil)) ?_
  refine kO (aU 3 1 cJ fun p3=>?_)
  refine lh (freeze 2 rfl) ?_;refine lh (GT 26 [[UInt8.ofNat tag.toNat],gF body.length,body] rfl rfl rfl rfl (.cons cZ (.cons cZ (.cons cZ .nil)))) ?_
  refine kO (ap (m8 [[UInt8.ofNat tag.toNat],gF body.length,body] (by simp [cm];omega) (by simp)) ?_)
  refine jU 8807070 ?_
  refine jR (cX (hv:=cT (ab.bs (by rw [he,if_pos rfl];simp [dl])) (ab.nilE he)))
 ·refine kO (ap (xx body.length jO) ?_)
  refine kO (aU 1 1 f7 fun p2=>?_)
  refine lh (freeze 1 rfl) ?_;refine lh (gP 19 [UInt8.ofNat tag.toNat] rfl rfl rfl rfl (.cons (cI (by rw [UInt8.toNat_ofNat'];omega)) .nil)) ?_
  refine kO (aU 3 1 cJ fun p3=>?_)
  refine lh (freeze 2 rfl) ?_;refine lh (GT 26 [[UInt8.ofNat tag.toNat],gF body.length,body] rfl rfl rfl rfl (.cons cZ (.cons cZ (.cons cZ .nil)))) ?_
  refine kO (ap (m8 [[UInt8.ofNat tag.toNat],gF body.length,body] (by simp [cm];omega) (by simp)) ?_)
  refine jU 8807070 ?_
  refine jR (cX (hv:=cT (ab.bs (by rw [he,if_pos rfl];simp [dl])) (ab.nilE he)))
end
section
theorem xY (a b:UInt8):f5 b a=- f5 a b:=by
 unfold f5
 rcases Nat.lt_trichotomy a.toNat b.toNat with h|h|h
 ·rw [jK,if_pos h,if_pos h];rfl
 ·rw [jK,jK,jK,jK];rfl
 ·rw [if_pos h,jK,if_pos h]
theorem po {a b:UInt8} (h:f5 a b=0):a=b:=by
 unfold f5 at h
 split at h
 ·omega
 ·split at h
  ·omega
  ·exact UInt8.toNat_inj.1 jO
theorem vV (a b:UInt8):(f5 a b<0↔a.toNat<b.toNat)∧(f5 a b≤0↔a.toNat≤b.toNat):=by
 unfold f5
 split
 ·omega
 ·split <;> omega
theorem dW:∀ l r:List UInt8,eo r l=- eo l r
 | [],[]=>rfl
 | [],_::_=>rfl
 | _::_,[]=>rfl
 | a::l,b::r=>by
  have h:=xY a b
  have ih:=dW l r
  rw [eo,eo]
  by_cases e:f5 a b=0
  ·rw [jK,jK,ih]
  ·rw [jP,if_pos e,h]
theorem pn:∀ {l r:List UInt8},eo l r=0→l=r
 | [],[],_=>rfl
 | [],_::_,h=>by simp [eo] at h
 | _::_,[],h=>by simp [eo] at h
 | a::l,b::r,h=>by
  rw [eo] at h
  by_cases e:f5 a b=0
  ·rw [if_neg (fun x=>x e)] at h
   rw [po e,pn h]
  ·rw [if_pos e] at h;exact absurd h e
theorem m9:∀ {a b c:List UInt8},eo a b≤0→eo b c≤0→eo a c≤0
 | [],_,[],_,_=>Int.le_refl 0
 | [],_,_::_,_,_=>by show (-1:Int)≤0;decide
 | _::_,[],_,h,_=>by simp [eo] at h
 | _::_,_::_,[],_,h=>by simp [eo] at h
 | x::a,y::b,z::c,h1,h2=>by
  rw [eo] at h1 h2 ⊢
  have k1:=vV x y;have k2:=vV y z;have k3:=vV x z
  by_cases e1:f5 x y=0
  ·have e:=po e1
   subst e
   rw [if_neg (fun q=>q e1)] at h1
   by_cases e2:f5 x z=0
   ·rw [if_neg (fun q=>q e2)] at h2 ⊢
    exact m9 h1 h2
   ·rw [if_pos e2] at h2 ⊢;exact h2
  ·rw [if_pos e1] at h1
   by_cases e2:f5 y z=0
   ·have e:=po e2
    subst e
    rw [if_pos e1];exact h1
   ·rw [if_pos e2] at h2
    have e3:f5 x z≠0:=fun e=>by
     have:=po e
     subst this
     have:=xY x y
     omega
    rw [if_pos e3]
    omega
theorem xX (l:List UInt8):eo l l=0:=by have:=dW l l;omega
theorem JL {α:Type} (L:α→List UInt8):Go.Sort.SWO (fun x y:α=>decide (eo (L x) (L y)<0)) where
 irrefl:=fun x=>by rw [xX];rfl
 trans:=fun x y z h1 h2=>by
  simp only [decide_eq_true_eq] at h1 h2 ⊢
  have h3:=m9 (a:=L x) (b:=L y) (c:=L z) jO jO
  by_cases e:eo (L x) (L z)=0
  ·have:=pn e
   have h4:=dW (L y) (L z)
   rw [this] at h1
   omega
  ·omega
 ntrans:=fun x y z h1 h2=>by
  simp only [decide_eq_false_iff_not,Int.not_lt] at h1 h2 ⊢
  have s1:=dW (L x) (L y);have s2:=dW (L y) (L z);have s3:=dW (L x) (L z)
  have h3:=m9 (a:=L z) (b:=L y) (c:=L x) jO jO
  omega
def sl (a b:List UInt8):Bool:=decide (eo a b≤0)
theorem FK (a b:List UInt8):(sl a b || sl b a)=true:=by
 have:=dW a b
 unfold sl
 by_cases h:eo a b≤0
 ·simp [h]
 ·have:eo b a≤0:=by omega
  simp [this]
theorem sk (a b c:List UInt8) (h1:sl a b=true) (h2:sl b c=true):sl a c=true:=by
 unfold sl at h1 h2 ⊢
 simp only [decide_eq_true_eq] at h1 h2 ⊢
 exact m9 h1 h2
theorem Iz {a b:List UInt8} (h1:sl a b=true) (h2:sl b a=true):a=b:=by
 unfold sl at h1 h2
 simp only [decide_eq_true_eq] at h1 h2
 have:=dW a b
 exact pn jO
def fQ (ls:List (List UInt8)):List (List UInt8):=ls.mergeSort sl
theorem iW (ls:List (List UInt8)):(fQ ls).Perm ls:=List.mergeSort_perm ls sl
theorem qw (ls:List (List UInt8)):(fQ ls).Pairwise fun a b=>sl a b=true:=List.pairwise_mergeSort sk FK ls
theorem wR:∀ {l r:List (List UInt8)},l.Perm r→(l.Pairwise fun a b=>sl a b=true)→(r.Pairwise fun a b=>sl a b=true)→l=r
 | [],r,hp,_,_=>(List.nil_perm.1 hp).symm
 | a::l,[],hp,_,_=>absurd hp.symm.nil_eq (by simp)
 | a::l,b::r,hp,h1,h2=>by
  have ha:=List.pairwise_cons.1 h1
  have hb:=List.pairwise_cons.1 h2
  have e:a=b:=by
   have m1:a ∈ b::r:=hp.subset (List.mem_cons_self ..)
   have m2:b ∈ a::l:=hp.symm.subset (List.mem_cons_self ..)
   rcases List.mem_cons.1 m1 with h|h
   ·exact h
   ·rcases List.mem_cons.1 m2 with k|k
    ·exact k.symm
    ·exact Iz (ha.1 b k) (hb.1 a h)
  subst e
  rw [wR (List.perm_cons a |>.1 hp) ha.2 hb.2]
theorem zV {l r:List (List UInt8)} (hp:l.Perm r) (h:l.Pairwise fun a b=>sl a b=true):l=fQ r:=wR (hp.trans (iW r).symm) h (qw r)
theorem mw (ls:List (List UInt8)):(fQ ls).length=ls.length:=(iW ls).length_eq
end
section
open Go.RowKit Go.Lib
def bt (l:List UInt8) (i:Nat):Nat:=(l.getD i 0).toNat
theorem tz (l:List UInt8) (i:Nat):bt l i<256:=UInt8.toNat_lt _
def fj (l:List UInt8):Nat×Nat:=Lib.decodeN l.length (bt l 0) (bt l 1) (bt l 2) (bt l 3)
theorem lD (l:List UInt8) (i:Nat):((⟨l.toArray⟩:ByteArray).get! i).toNat=bt l i:=by
 show (l.toArray[i]!).toNat=_
 simp [bt,List.getD]
 rfl
theorem zf (l:List UInt8):decodeL l=fj l:=by
 unfold decodeL fj
 rw [Lib.decode_at,lD,lD,lD,lD]
 rfl
theorem kX (l:List UInt8):1≤(fj l).2∧(fj l).2≤4:=by
 unfold fj Lib.decodeN
 repeat' split
 all_goals simp
def tJ (c:Nat):Bool:=decide (c<32) || decide (c=127)
def iv:Nat→List UInt8→Bool
 | 0,_=>true
 | n+1,l=>if l=[] then true else if ((fj l).1=65533∧(fj l).2=1)∨tJ (fj l).1=true then false else iv n (l.drop (fj l).2)
def fO (l:List UInt8):Bool:=iv l.length l
def l9:Nat→List UInt8→Bool
 | 0,_=>true
 | n+1,l=>if l=[] then true else if tJ (fj l).1=true then false else l9 n (l.drop (fj l).2)
theorem xe:∀ (n:Nat) (l:List UInt8),iv n l=(l9 n l && validGoD n l)
 | 0,l=>rfl
 | n+1,l=>by
  rw [iv,l9,validGoD,xe n,zf]
  by_cases h:l=[]
  ·simp [h]
  ·rw [if_neg h,if_neg h,if_neg h]
   by_cases h1:tJ (fj l).1=true
   ·simp [h1]
   ·by_cases h2:(fj l).1=65533∧(fj l).2=1
    ·simp [h2]
    ·rw [if_neg (by simp [h1];intro h3 h4;exact h2 ⟨h3,h4⟩),if_neg h1,if_neg h2]
theorem vx:∀ (n m:Nat) (l:List UInt8),l.length≤n→l.length≤m→iv n l=iv m l
 | 0,m,l,h,_=>by
  have:l=[]:=List.length_eq_zero_iff.1 jO
  subst this
  cases m <;> simp [iv]
 | n+1,0,l,_,h=>by
  have:l=[]:=List.length_eq_zero_iff.1 jO
  subst this
  simp [iv]
 | n+1,m+1,l,h1,h2=>by
  rw [iv,iv]
  by_cases h:l=[]
  ·simp [h]
  ·have hw:=(kX l).1
   have hp:=List.length_pos_iff.2 h
   rw [vx n m _ (by simp;omega) (by simp;omega)]
theorem n9 {l:List UInt8} (h:l≠[]):fO l=if ((fj l).1=65533∧(fj l).2=1)∨tJ (fj l).1=true then false else fO (l.drop (fj l).2):=by
 have hp:=List.length_pos_iff.2 h
 have hw:=(kX l).1
 unfold fO
 obtain ⟨n,hn⟩:∃ n,l.length=n+1:=⟨l.length-1,by omega⟩
 rw [hn,iv,if_neg h,vx n (l.drop (fj l).2).length _ (by simp;omega) (Nat.le_refl _)]
theorem CA {n:Nat} {l:List UInt8} (h:l≠[]):l9 (n+1) l=if tJ (fj l).1=true then false else l9 n (l.drop (fj l).2):=by rw [l9,if_neg h]
theorem va:∀ (n m:Nat) (l:List UInt8),l.length≤n→l.length≤m→l9 n l=l9 m l
 | 0,m,l,h,_=>by
  have:l=[]:=List.length_eq_zero_iff.1 jO
  subst this
  cases m <;> simp [l9]
 | n+1,0,l,_,h=>by
  have:l=[]:=List.length_eq_zero_iff.1 jO
  subst this
  simp [l9]
 | n+1,m+1,l,h1,h2=>by
  rw [l9,l9]
  by_cases h:l=[]
  ·simp [h]
  ·have hw:=(kX l).1
   have hp:=List.length_pos_iff.2 h
   rw [va n m _ (by simp;omega) (by simp;omega)]
def sd (l:List UInt8):Bool:=l9 l.length l
theorem oc {l:List UInt8} (h:l≠[]):sd l=if tJ (fj l).1=true then false else sd (l.drop (fj l).2):=by
 have hp:=List.length_pos_iff.2 h
 have hw:=(kX l).1
 unfold sd
 obtain ⟨n,hn⟩:∃ n,l.length=n+1:=⟨l.length-1,by omega⟩
 rw [hn,CA h,va n (l.drop (fj l).2).length _ (by simp;omega) (Nat.le_refl _)]
theorem pU (l:List UInt8):fO l=(sd l && validD l):=xe _ _
theorem oV {l:List UInt8} (h:l≠[]) (h0:bt l 0<128):fO l=if bt l 0<32∨bt l 0=127 then false else fO (l.drop 1):=by
 have e:fj l=(bt l 0,1):=by unfold fj Lib.decodeN;rw [if_pos h0]
 rw [n9 h,e]
 simp only [tJ,Bool.or_eq_true,decide_eq_true_eq]
 by_cases h1:bt l 0<32∨bt l 0=127
 ·rw [if_pos (.inr h1),if_pos h1]
 ·rw [if_neg h1,jK]
theorem gM {l:List UInt8} (h:l≠[]) (hd:fj l=(65533,1)):fO l=false:=by
 rw [n9 h,hd,if_pos (.inl ⟨rfl,rfl⟩)]
theorem uL {l:List UInt8} (h:l≠[]) {c w:Nat} (hd:fj l=(c,w)) (hc:128≤c) (hw:2≤w):fO l=fO (l.drop w):=by
 rw [n9 h,hd,if_neg (by simp [tJ];omega)]
theorem eA {l:List UInt8} (h:128≤bt l 0) (h2:bt l 0<192∨248≤bt l 0):fj l=(65533,1):=by
 unfold fj Lib.decodeN
 rw [jK,jK,jK,jK]
theorem Eg {l:List UInt8} (h:192≤bt l 0) (h2:bt l 0<224):fj l=if l.length≤1∨bt l 1<128∨191<bt l 1∨(bt l 0-192) * 64+bt l 1-128<128 then (65533,1) else ((bt l 0-192) * 64+bt l 1-128,2):=by
 have:=tz l 1
 unfold fj Lib.decodeN
 rw [jK]
 by_cases h3:l.length≤1∨bt l 1<128∨191<bt l 1
 ·rw [jK,jK,jK,jP]
 ·rw [jP]
  have e:bt l 0 % 32 * 64+bt l 1 % 64=(bt l 0-192) * 64+bt l 1-128:=by omega
  rw [e]
  by_cases h4:(bt l 0-192) * 64+bt l 1-128<128
  ·rw [jK,jP]
  ·rw [jP,jK]
theorem xV {l:List UInt8} (h:224≤bt l 0) (h2:bt l 0<240):fj l=if l.length≤2∨(bt l 1<128∨191<bt l 1)∨(bt l 2<128∨191<bt l 2)∨((bt l 0-224) * 64+bt l 1-128) * 64+bt l 2-128<2048∨(55296≤((bt l 0-224) * 64+bt l 1-128) * 64+bt l 2-128∧((bt l 0-224) * 64+bt l 1-128) * 64+bt l 2-128<57344) then (65533,1) else (((bt l 0-224) * 64+bt l 1-128) * 64+bt l 2-128,3):=by
 have:=tz l 1
 have:=tz l 2
 unfold fj Lib.decodeN
 rw [jK,jK]
 by_cases h3:l.length≤2∨(bt l 1<128∨191<bt l 1)∨(bt l 2<128∨191<bt l 2)
 ·rw [jK,jK,jP]
 ·rw [jP]
  have e:bt l 0 % 16 * 4096+bt l 1 % 64 * 64+bt l 2 % 64=((bt l 0-224) * 64+bt l 1-128) * 64+bt l 2-128:=by omega
  rw [e]
  obtain ⟨c,hc⟩:∃ c,c=((bt l 0-224) * 64+bt l 1-128) * 64+bt l 2-128:=⟨_,rfl⟩
  have hlt:c≤65535:=by omega
  rw [← hc]
  by_cases h4:c<2048∨(55296≤c∧c<57344)
  ·rw [jK,jP]
  ·rw [jP,jK]
theorem Bt {l:List UInt8} (h:240≤bt l 0) (h2:bt l 0<248):fj l=if l.length≤3∨(bt l 1<128∨191<bt l 1)∨(bt l 2<128∨191<bt l 2)∨(bt l 3<128∨191<bt l 3)∨(((bt l 0-240) * 64+bt l 1-128) * 64+bt l 2-128) * 64+bt l 3-128<65536∨1114111<(((bt l 0-240) * 64+bt l 1-128) * 64+bt l 2-128) * 64+bt l 3-128 then (65533,1) else ((((bt l 0-240) * 64+bt l 1-128) * 64+bt l 2-128) * 64+bt l 3-128,4):=by
 have:=tz l 1
 have:=tz l 2
 have:=tz l 3
 unfold fj Lib.decodeN
 rw [jK,jK,jK]
 by_cases h3:l.length≤3∨(bt l 1<128∨191<bt l 1)∨(bt l 2<128∨191<bt l 2)∨(bt l 3<128∨191<bt l 3)
 ·rw [jK,jP]
 ·rw [jP]
  have e:bt l 0 % 8 * 262144+bt l 1 % 64 * 4096+bt l 2 % 64 * 64+bt l 3 % 64=(((bt l 0-240) * 64+bt l 1-128) * 64+bt l 2-128) * 64+bt l 3-128:=by omega
  rw [e]
  obtain ⟨c,hc⟩:∃ c,c=(((bt l 0-240) * 64+bt l 1-128) * 64+bt l 2-128) * 64+bt l 3-128:=⟨_,rfl⟩
  rw [← hc]
  by_cases h4:c<65536∨1114111<c
  ·rw [jK,jP]
  ·rw [jP,jK]
def aN (l:List UInt8) (most:Int):Nat:=if l.length=0 then 2 else if most<l.length then 3 else if fO l=false then 8 else 0
end
section
def B9 (n:Nat):Nat:=(List.range 8).foldl (fun a i=>a+n / 2 ^ i % 2 * 2 ^ (7-i)) 0
def sj (n:Nat):Nat:=(List.range 8).foldl (fun a i=>if n / 2 ^ i % 2=1 then i+1 else a) 0
def Ql (n:Nat):Nat:=(List.range 8).foldr (fun i a=>if n / 2 ^ i % 2=1 then i else a) 8
theorem OB {n:Nat} {p:Nat→Bool} (h:(List.range n).all p=true) {i:Nat} (hi:i<n):p i=true:=List.all_eq_true.1 h i (List.mem_range.2 hi)
theorem DU {i:Nat} (h:i<256):i<2 ^ sj i∧sj i≤8∧(sj i=0∨2 ^ (sj i-1)≤i):=by
 have:=OB (n:=256) (p:=fun i=>decide (i<2 ^ sj i∧sj i≤8∧(sj i=0∨2 ^ (sj i-1)≤i))) (by decide +kernel) h
 simpa using this
def QF (m n:Nat):Prop:=m<2 ^ n∧(n=0∨2 ^ (n-1)≤m)
def bl (m:Nat):Nat:=if 256≤m then 8+sj (m / 256) else sj m
theorem JX {m:Nat} (h:m<65536):QF m (bl m)∧bl m≤16:=by
 unfold bl
 split
 ·obtain ⟨h1,h2,h3⟩:=DU (i:=m / 256) jO
  refine ⟨⟨?_,?_⟩,by omega⟩
  ·rw [Nat.pow_add];omega
  ·right
   rcases h3 with h3|h3
   ·rw [h3] at h1;simp at h1;omega
   ·rw [show 8+sj (m / 256)-1=8+(sj (m / 256)-1) by
     have:sj (m / 256)≠0:=fun h=>by rw [h] at h1;simp at h1;omega
     omega,Nat.pow_add]
    omega
 ·obtain ⟨h1,h2,h3⟩:=DU (i:=m) jO
  exact ⟨⟨h1,h3⟩,by omega⟩
def CZ (m:Nat):List UInt8:=UInt8.ofNat ((8-bl m % 8) % 8)::(if bl m=0 then [] else if bl m≤8 then [UInt8.ofNat (B9 (m % 256))] else [UInt8.ofNat (B9 (m % 256)),UInt8.ofNat (B9 (m / 256))])
def AJ (b:List UInt8):Nat×Nat :=
 if b.length=0 then (0,2) else
 if 8≤(b.getD 0 0).toNat∨3<b.length∨(b.length=1∧0<(b.getD 0 0).toNat) then (0,4) else
 if b.length=1 then (0,0) else
 if Ql (b.getD (b.length-1) 0).toNat≠(b.getD 0 0).toNat then (0,4) else
 let m:=B9 (b.getD 1 0).toNat+256 * (if b.length=3 then B9 (b.getD 2 0).toNat else 0)
 if 32768≤m then (0,1) else (m,0)
theorem Ip (b:List UInt8):(AJ b).2≤4∧(AJ b).1<32768:=by
 unfold AJ
 split
 ·exact ⟨by decide,by decide⟩
 ·split
  ·exact ⟨by decide,by decide⟩
  ·split
   ·exact ⟨by decide,by decide⟩
   ·split
    ·exact ⟨by decide,by decide⟩
    ·dsimp only
     generalize B9 (b.getD 1 0).toNat+256 * (if b.length=3 then B9 (b.getD 2 0).toNat else 0)=m
     split
     ·exact ⟨by decide,by decide⟩
     ·exact ⟨by show 0≤4;decide,by show m<32768;omega⟩
end
end Am
end Go.Proofs.YthlpfjnkieaeeaaGreatDoor
