/- What the law leans on, part 5 -/
import Derived.Test.YtghminnpfnkbjaaGreatDoorM4RequestBody
import Derived.Stop.Asserts
import Derived.RowKitTokens
import Derived.Sort.Statements
import Derived.Lib.DecodeN
import Derived.Lib.ValidU
set_option maxRecDepth 100000
set_option maxHeartbeats 8000000
set_option linter.unusedVariables false
open Go.Proofs.Tryz
namespace Go.Proofs.YtghminnpfnkbjaaGreatDoor
namespace Am
open Go.RowKit
section
set_option maxHeartbeats 1000000
section
variable {P:Program} {G:Gh} {ops:Array Oper} {o:Oper} {s:AS} {K:AS→Prop} {t u:TypeId} {x y:Operand} {k:IntKind}
def T7 (P:Program) (G:Gh) (g:Option Nat) (o:Oper) (s:AS) (K:AS→Prop):Prop:=∀ St a w,ax G St s a w→∀ Q,o.wp P a w (fun a' w'=>(∀ q,q<w.heap.size→g≠some q→w'.heap[q]?=w.heap[q]?)∧∃ St',(∀ b,St b→St' b)∧∃ s',K s'∧ax G St' s' a' w') Q
theorem Kd {i off n m:Nat} {g:Option Nat} {f:Nat→CV} {c:CV} {l:List CV} (ho:o.op=.store t x y) (hx:s.eval x=.op i g off) (hH:s.H[i]?=some (g,.blk n f)) (hy:s.eval y=c) (hl:eH c=some l) (h5:(P.info? t).map (·.size)=some m) (hm:l.length=m) (hleaf:l.all fO=true) (hn:off+m≤n)
  (F:Nat→CV) (hF:∀ j,j<n→aa (fX f off l j) (F j)) (hd:bY G o=true) (hK:K (s.with o.dst (.c undef) (s.H.set i (g,.blk n F)))):T7 P G g o s K:=fun St a w hr Q=>by
 have ⟨info,hi,h6⟩:=ZG.1 h5
 obtain ⟨b,rfl,e⟩:=iY hr hx
 have hc:=qW (iY hr hy) hl
 have ⟨fp,hp⟩:=hr.hp
 obtain ⟨h00,cur,ty,hh,hle,hcell⟩:=hp.rep i (some b) _ hH
 have hst:=run_storeCells_at P b off ty (a.eval y).cells.toList 0 cur w hh (by simp [hc.1];omega) (C0 hc hleaf)
 simp only [afx] at hst
 have hrun:(execOp a.eval o).run P w=.ok .skip (w.setRow b (cur.toList.take off++(a.eval y).cells.toList++cur.toList.drop (off+(a.eval y).cells.toList.length)).toArray):=by
  simp only [execOp,ho,e]
  simp [Instr.storeAt,Instr.sureAddr,storeVar,sizeOf,typeInfo,hi,h6,hc.1,hm]
  rw [show (a.eval y).cells.toList.length=m by simp [hc.1,hm]] at hst
  simp [hst]
 unfold Oper.wp
 rw [hrun]
 have hlen:(a.eval y).cells.toList.length=m:=by simp [hc.1,hm]
 refine ⟨fun q _ hg=>setRow_other w b q _ (fun e=>hg (by rw [e])),St,fun _ h=>h,_,hK,?_⟩
 have hw:=hr.write hH hh (cs:=(cur.toList.take off++(a.eval y).cells.toList++cur.toList.drop (off+(a.eval y).cells.toList.length)).toArray) (by simp [hc.1];omega) (n':=n) (f':=F) (by simp [hc.1];omega) (fun j hj=>by
  refine hF j hj _ _ _ _ ?_
  rw [db,rL cur _ off (by rw [hlen];omega),hlen,hm]
  by_cases h1:off≤j∧j<off+m
  ·rw [Zz h1,Zz h1]
   have:=hc.2 (j-off) O
   simpa [List.getD] using this
  ·rw [Zy h1,Zy h1]
   exact hcell j hj)
 have:=hw.put (dst:=o.dst) (v:=.c undef) (x:=undef) (dB hd) rfl
 cases ho:o.dst with
 | none=>rw [ho] at this;exact this
 | some d=>rw [ho] at this;exact this
theorem F3 {e:TypeId} {z:Value} {i n m k N by_:Nat} {g:Option Nat} {f h:Nat→CV} (ho:o.op=.call ⟨.builtin .append,#[x,y],#[t,u]⟩) (hx:s.eval x=.os i g 0 n k) (hH:s.H[i]?=some (g,.blk N f)) (hN:n * k≤N)
  (hsrc:rl P G s y k m h) (h1:P.underlying t=some (.slice e)) (hu:dR P u=true) (h5:(P.info? e).map (·.size)=some k) (hz:(P.info? e).map (·.zero)=some (some z)) (hby:(P.info? e).map (·.bytes)=some by_)
  (h63:n+m≤9223372036854775807) (h48:(n+m) * by_≤140737488355328) (hzk:z.cells.size=k)
  (F:Nat→CV) (hF:∀ j,j<(n+m) * k→aa (pV (n * k) f h j) (F j)) (hleaf:∀ j,j<m * k→fO (h j)=true) (hd:bY G o=true)
  (hK:∀ g',K (s.with o.dst (.os i g' 0 (n+m) k) (s.H.set i (g',.blk ((n+m) * k) F)))):T7 P G g o s K:=fun St a w hr Q=>by
 have ⟨info,hi,hs⟩:=ZG.1 h5
 have ⟨info',hi',hz⟩:=ZG.1 hz
 obtain rfl:=Z3 (hi.symm.trans hi')
 have ⟨info',hi',hby⟩:=ZG.1 hby
 obtain rfl:=Z3 (hi.symm.trans hi')
 have ⟨news,hnl,hnr,hrun⟩:=hsrc St a w hr
 have he:=iY hr hx
 have hlen:(n+m) * k=n * k+m * k:=aRx ..
 -- the value's parts
 obtain ⟨base,cap,ev,hle,hcap,hbase⟩:∃ base cap,a.eval x=.slice base n cap∧n≤cap∧cap≤9223372036854775807∧((g=none∧base=none∧cap=0∧n=0)∨∃ b,g=some b∧base=some ⟨b,0,none⟩∧∃ cur t z,w.heap[b]?=some (.cells cur t z)∧0+cap * k≤cur.size):=by
  cases g with
  | none=>have ⟨h1,h2⟩:=he;exact ⟨none,0,by rw [h2,h1],by omega,by omega,.inl ⟨rfl,rfl,rfl,h1⟩⟩
  | some b=>have ⟨cap,h1,h2,h3,h4⟩:=he;exact ⟨_,cap,h1,h2,h3,.inr ⟨b,rfl,rfl,h4⟩⟩
 have hargs:(#[x,y]:Array Operand).map a.eval=#[a.eval x,a.eval y]:=by simp
 have put:∀ {w':World} {v:Value} {c:CV} {H:List (Option Nat×aW)},ax G St ⟨s.env,s.b,H⟩ a w'→aP G.al St w' c v→ax G St (s.with o.dst c H) (a.put o.dst v) w':=fun {w' v c H} h1 h2=>by
  have:=h1.put (dst:=o.dst) (dB hd) h2
  cases ho:o.dst with
  | none=>rw [ho] at this;exact this
  | some d=>rw [ho] at this;exact this
 by_cases hroom:n+m≤cap
 ·-- in place
  rcases hbase with ⟨hg,hb,hc0,hn0⟩|⟨b,hg,hb,cu,tt,zz,hcu,hfit⟩
  ·subst hg hb
   have hm0:m=0:=by omega
   subst hm0
   have hrun':=ic (t:=t) (u:=u) (ty:=o.type) h1 hu hi hs (hrun w rfl).1 (hrun w rfl).2 hroom (base:=none) (w':=w) (fun _ h=>by simp at h) (fun _=>rfl)
   unfold Oper.wp
   rw [eu ho (by rw [hargs,ev];exact hrun')]
   refine ⟨fun _ _ _=>rfl,St,fun _ h=>h,_,hK none,?_⟩
   have hlt:=(ZC.1 hH).1
   have hmv:ax G St ⟨s.env,s.b,s.H.set i (none,.blk ((n+0) * k) F)⟩ a w:=by
    refine ⟨hr.df,hr.sz,hr.env,hr.un,hr.s1,hr.s2,hr.s3,?_,hr.sn,hr.sg⟩
    have ⟨fp,hp⟩:=hr.hp
    refine ⟨fp,fun j q r hj=>?_,hp.dis,hp.own,fun j hj=>hp.out j (by simpa using hj)⟩
    by_cases hj2:j=i
    ·subst hj2
     simp [hlt] at hj
     obtain ⟨rfl,rfl⟩:=hj
     exact ⟨by simp [hn0],(hp.rep j none _ hH).2⟩
    ·rw [ZQ (Ne.symm hj2)] at hj
     exact hp.rep j q r hj
   exact put hmv ⟨by omega,by rw [hn0,hc0]⟩
  ·subst hg hb
   have ⟨fp,hp⟩:=hr.hp
   obtain ⟨hb0,cur,ty,hh,hle2,hcell⟩:=hp.rep i (some b) _ hH
   have hq:=Z3 (hcu.symm.trans hh)
   injection hq with e1 e2 e3
   have hfit:0+cap * k≤cur.size:=e1 ▸ hfit
   have hfit2:n * k+news.length≤cur.size:=by
    rw [hnl,← hlen]
    exact Z7 (aox _ hroom) O
   have hone:∀ v ∈ news,v.oneCell'=true:=fun v hv=>by
    have ⟨j,hj,e⟩:=a6x.1 hv
    have h2:=hnr j O
    rw [show news.getD j undef=v by simp [List.getD,hj,e]] at h2
    exact pH (hleaf j O) h2
   have hst:=run_storeCells_at P b (n * k) ty news 0 cur w hh (by simpa using hfit2) hone
   simp only [afx] at hst
   have hrun':=ic (t:=t) (u:=u) (ty:=o.type) h1 hu hi hs (hrun w rfl).1 (hrun w rfl).2 hroom (base:=some ⟨b,0,none⟩) (w':=w.setRow b (cur.toList.take (n * k)++news++cur.toList.drop (n * k+news.length)).toArray) (fun ad h=>by
    have h:=Z3 h
    subst h
    rw [fE,Nat.zero_add]
    exact hst) (fun h=>by simp at h)
   unfold Oper.wp
   rw [eu ho (by rw [hargs,ev];exact hrun')]
   refine ⟨fun q _ hg=>setRow_other w b q _ (fun e=>hg (by rw [e])),St,fun _ h=>h,_,hK (some b),?_⟩
   have hw:=hr.write hH hh (cs:=(cur.toList.take (n * k)++news++cur.toList.drop (n * k+news.length)).toArray) (by simp;omega) (n':=(n+m) * k) (f':=F) (by simp;omega) (fun j hj=>by
    refine hF j hj _ _ _ _ ?_
    rw [rL cur news (n * k) hfit2]
    unfold pV
    by_cases h3:j<n * k
    ·rw [Zz h3,jK];exact hcell j O
    ·rw [Zy h3,jP];exact hnr _ O)
   refine put hw ⟨cap,rfl,hroom,hcap,?_⟩
   exact ⟨_,_,_,setRow_heap w b cur _ _ _ hh,by simp;omega⟩
 ·-- a new row
  have hroom:cap<n+m:=by omega
  obtain ⟨olds,hol,hor,horun⟩:Bc P G.al St w (.slice base n cap) k n f:=by
   rcases hbase with ⟨hg,hb,hc0,hn0⟩|⟨b,hg,hb,_⟩
   ·subst hb hn0 hc0;exact pd
   ·subst hg hb
    have ⟨_,cur,tt,zz,hh,hle,hc⟩:=tV hr hH
    refine m8 (g:=fun j=>cur.getD j undef) fun j hj=>⟨?_,hc j O⟩
    have hlt:j<cur.size:=by omega
    rw [Nat.zero_add,cell_of_row w b j cur tt zz hh];simp [hlt]
  have hrun':=nR (t:=t) (u:=u) (ty:=o.type) h1 hu hi hs hz (fun W hW=>(hrun W hW).1) (fun W hW=>(horun W hW).2) (fun W hW=>(hrun W hW).2) hroom h63 (by rw [hby];exact h48)
  unfold Oper.wp
  rw [eu ho (by rw [hargs,ev];exact hrun')]
  refine ⟨fun q hq _=>(co w _).block q hq,St,fun _ h=>h,_,hK (some w.heap.size),?_⟩
  have hgc:n+m≤grownCap w (n+m) cap e∧grownCap w (n+m) cap e≤9223372036854775807:=by
   have hlt:=aNx (w.tape w.drawn (.appendCap (n+m) cap e)) (show 0<2 ^ 63-(n+m) by omega)
   simp only [grownCap,Question.cut]
   omega
  have hcell0:(w.drew.alloc (.cells (olds.toArray++news.toArray++Builtin.zeroCells z.cells (grownCap w (n+m) cap e-(n+m))) e)).heap[w.heap.size]?=some (.cells (olds.toArray++news.toArray++Builtin.zeroCells z.cells (grownCap w (n+m) cap e-(n+m))) e (0,0)):=heap_alloc_new w.drew _
  have hsize:(olds.toArray++news.toArray++Builtin.zeroCells z.cells (grownCap w (n+m) cap e-(n+m))).size=grownCap w (n+m) cap e * k:=by
   simp [Builtin.zeroCells,hol,hnl,hzk]
   rw [← aRx,← aRx]
   congr 1
   omega
  have hEvo:rc St w (w.drew.alloc (.cells (olds.toArray++news.toArray++Builtin.zeroCells z.cells (grownCap w (n+m) cap e-(n+m))) e)):=rc.of_below (co w _) hr.s3
  have hfr:=hr.fresh (co w _) (ZA _) hcell0 (n:=(n+m) * k) (f:=F) (by rw [hsize];exact aox _ hgc.1) (fun j hj=>by
   refine hF j hj _ _ _ _ (aP.evo hEvo (fun _ x=>x) _ _ ?_)
   unfold pV
   rw [BD olds news _ j O,hol]
   by_cases h3:j<n * k
   ·rw [Zz h3,Zz h3];exact hor j h3
   ·rw [Zy h3,Zy h3];exact hnr (j-n * k) O)
  have hkl:=hfr.move ((ZC.1 hH).1)
  refine put hkl ⟨_,rfl,hgc.1,hgc.2,_,_,_,hcell0,?_⟩
  rw [hsize]
  omega
end
section
variable {P:Program} {G:Gh} {ops:Array Oper} {o:Oper} {env:List (Nat×CV)} {b0:Nat→CV} {H:List (Option Nat×aW)} {K:AS→Prop} {t u:TypeId} {p q:Operand}
theorem NP {i off n m:Nat} {g:Option Nat} {f:Nat→CV} {c:CV} {l:List CV} (ho:o.op=.store t p q) (hx:(⟨env,b0,H⟩:AS).eval p=.op i g off) (hH:H[i]?=some (g,.blk n f)) (hy:(⟨env,b0,H⟩:AS).eval q=c) (hl:eH c=some l) (h5:(P.info? t).map (·.size)=some m) (hm:l.length=m) (hleaf:l.all fO=true) (hn:off+m≤n)
  (F:Nat→CV) (hF:∀ j,j<n→aa (fX f off l j) (F j)) (hd:o.dst=none) (hK:K ⟨env,b0,H.set i (g,.blk n F)⟩):T7 P G g o ⟨env,b0,H⟩ K :=
 Kd ho hx hH hy hl h5 hm hleaf hn F hF (Pi hd) (by rw [ug hd];exact hK)
theorem Kf {e:TypeId} {z:Value} {i n m k N by_ n' N' d:Nat} {g:Option Nat} {f h:Nat→CV} (ho:o.op=.call ⟨.builtin .append,#[p,q],#[t,u]⟩) (hx:(⟨env,b0,H⟩:AS).eval p=.os i g 0 n k) (hH:H[i]?=some (g,.blk N f)) (hN:n * k≤N)
  (hsrc:rl P G ⟨env,b0,H⟩ q k m h) (h1:P.underlying t=some (.slice e)) (hu:dR P u=true) (h5:(P.info? e).map (·.size)=some k) (hz:(P.info? e).map (·.zero)=some (some z)) (hby:(P.info? e).map (·.bytes)=some by_)
  (h63:n+m≤9223372036854775807) (h48:(n+m) * by_≤140737488355328) (hzk:z.cells.size=k)
  (F:Nat→CV) (hF:∀ j,j<(n+m) * k→aa (pV (n * k) f h j) (F j)) (hleaf:∀ j,j<m * k→fO (h j)=true) (hd:o.dst=some d) (hdN:Nat.blt d G.N=true) (hn':n+m=n') (hN':(n+m) * k=N')
  (hK:∀ g',K ⟨(d,.os i g' 0 n' k)::env,b0,H.set i (g',.blk N' F)⟩):T7 P G g o ⟨env,b0,H⟩ K :=
 F3 ho hx hH hN hsrc h1 hu h5 hz hby h63 h48 hzk F hF hleaf (kK hd hdN) fun g'=>by subst hn';subst hN';rw [dv hd];exact hK g'
theorem jQ {α:Type} {C:List α→Nat→CV} {k:Nat} (hC:Cy k C) {e:TypeId} {z:Value} {i n N N' by_ d:Nat} {t u:TypeId} {p q:Operand} {env:List (Nat×CV)} {b0:Nat→CV} {H:List (Option Nat×aW)} {K:AS→Prop} {g:Option Nat} {f h:Nat→CV} {l l2:List α} {m:Nat} (ho:o.op=.call ⟨.builtin .append,#[p,q],#[t,u]⟩) (hx:(⟨env,b0,H⟩:AS).eval p=.os i g 0 n k) (hn:n=l.length) (hH:H[i]?=some (g,.blk N f)) (hN:l.length * k≤N) (hf:∀ j,j<l.length * k→aa (f j) (C l j))
  (hsrc:rl P G ⟨env,b0,H⟩ q k m h) (hm:m=l2.length) (hh:∀ j,j<l2.length * k→aa (h j) (C l2 j)) (h1:P.underlying t=some (.slice e)) (hu:dR P u=true) (h5:(P.info? e).map (·.size)=some k) (hz:(P.info? e).map (·.zero)=some (some z)) (hby:(P.info? e).map (·.bytes)=some by_) (hzk:z.cells.size=k)
  (h63:l.length+l2.length≤9223372036854775807) (h48:(l.length+l2.length) * by_≤140737488355328) (hleaf:∀ j,j<m * k→fO (h j)=true) (hd:o.dst=some d) (hdN:Nat.blt d G.N=true) (hN':(l++l2).length * k=N')
  (hK:∀ g',K ⟨(d,.os i g' 0 (l++l2).length k)::env,b0,H.set i (g',.blk N' (C (l++l2)))⟩):T7 P G g o ⟨env,b0,H⟩ K:=by
 subst hm hn
 refine Kf ho hx hH hN hsrc h1 hu h5 hz hby h63 h48 hzk (C (l++l2)) (fun j hj=>?_) hleaf hd hdN ZD.symm (by rw [← ZD];exact hN') hK
 rw [← hC l l2 j hj]
 unfold pV
 split
 ·rename_i h;exact hf j h
 ·rename_i h
  refine hh _ ?_
  rw [aRx] at hj
  omega
end
section
variable {P:Program} {G:Gh} {ops:Array Oper} {o:Oper} {s:AS} {K:AS→Prop} {n:Nat} {R:Exit→AS→Prop}
def rB (P:Program) (G:Gh) (ops:Array Oper) (n:Nat) (t:dT) (s:AS) (K:AS→Prop):Prop :=
 ∀ St a w,ax G St s a w→∀ Q:Exit→Act→World→Prop,(∀ s' a' w',K s'→wm G s' a' w'→Q .normal a' w')→∃ St':Nat→Prop,(∀ b,St b→St' b)∧km P ops Q (fun b=>St' b∨b=n) t a w
theorem P7 (h:K s):rB P G ops n .done s K:=fun St _ _ hr _ hQ=>⟨St,fun _ h=>h,hQ _ _ _ h ⟨_,hr⟩⟩
theorem Wn {t:dT} {v:CV} (hw:aS G ops o s true) (hd:bY G o=true) (h:cj P G o s v) (hk:rB P G ops n t (s.put o.dst v) K):rB P G ops n (.rd o t) s K:=fun St a w hr Q hQ=>by
 have ⟨x,hx,hv⟩:=h St a w hr
 obtain ⟨St',hs,h2⟩:=hk _ _ _ (hr.put (dB hd) hv) Q hQ
 exact ⟨St',hs,x,.inl (iD.grow (S:=St) (fun b hb=>.inl (hs b hb)) (.inl ⟨hw St a w hr,fun W hW=>hx W hW⟩)),h2⟩
theorem Ua {t:dT} {v:CV} (hw:aS G ops o s true) (hd:bY G o=true) (hb:ownB ops o=true) (h:kf P G o s v) (hk:rB P G ops n t (s.put o.dst v) K):rB P G ops n (.rd o t) s K:=fun St a w hr Q hQ=>by
 have ⟨x,hx,hv⟩:=h St a w hr
 obtain ⟨St',hs,h2⟩:=hk _ _ _ (hr.put (dB hd) hv) Q hQ
 exact ⟨St',hs,x,.inr ⟨hb,.inl ⟨hw St a w hr,fun W hW=>hx W hW⟩⟩,h2⟩
def Tn (P:Program) (G:Gh) (n:Nat) (o:Oper) (s:AS) (v:CV):Prop:=∀ St a w,ax G St s a w→∃ x,(∀ W:World,W.heap[n]?=w.heap[n]?→(execOp a.eval o).run P W=.ok (.value x) W)∧aP G.al St w v x
theorem Ub {t:dT} {v:CV} (hw:aS G ops o s true) (hd:bY G o=true) (h:Tn P G n o s v) (hk:rB P G ops n t (s.put o.dst v) K):rB P G ops n (.rd o t) s K:=fun St a w hr Q hQ=>by
 have ⟨x,hx,hv⟩:=h St a w hr
 obtain ⟨St',hs,h2⟩:=hk _ _ _ (hr.put (dB hd) hv) Q hQ
 exact ⟨St',hs,x,.inl (.inl ⟨hw St a w hr,fun W hW=>hx W (hW n (.inr rfl))⟩),h2⟩
theorem DX {St:Nat→Prop} {a:Act} {w:World} {j m:Nat} {f:Nat→CV} (hr:ax G St s a w) (hj:s.H[j]?=some (some n,.blk m f)):n<w.heap.size∧¬ St n:=by
 have ⟨fp,hp⟩:=hr.hp
 have:=hp.own j n (((hp.rep j (some n) _ hj).1 n).2 rfl)
 exact ⟨this.1,this.2.1⟩
theorem R4 {St:Nat→Prop} {a:Act} {w:World} {i j m N:Nat} {g:Option Nat} {f F:Nat→CV} (hr:ax G St s a w) (hj:s.H[j]?=some (some n,.blk m f)) (hi:s.H[i]?=some (g,.blk N F)) (hij:i≠j):g≠some n:=by
 rintro rfl
 have ⟨fp,hp⟩:=hr.hp
 exact hij (hp.dis i j n (((hp.rep i (some n) _ hi).1 n).2 rfl) (((hp.rep j (some n) _ hj).1 n).2 rfl))
theorem Wo {t:dT} {i j m N:Nat} {g:Option Nat} {f F:Nat→CV} (hw:aS G ops o s true) (hm:vK o=true) (hj:s.H[j]?=some (some n,.blk m f)) (hi:s.H[i]?=some (g,.blk N F)) (hij:i≠j) (h:T7 P G g o s (fun s'=>rB P G ops n t s' K)):rB P G ops n (.one o t) s K:=fun St a w hr Q hQ=>by
 refine ⟨St,fun _ h=>h,?_⟩
 unfold km
 rw [Zz (hw St a w hr)]
 have hn:=DX hr hj
 have hg:=R4 hr hj hi hij
 refine Oper.wp_mono (fun a' w' ⟨hb,St',hs,s',h1,h2⟩=>?_) (h St a w hr Q)
 have ⟨St2,hs2,h3⟩:=h1 St' a' w' h2 Q hQ
 refine ⟨⟨fun b hb'=>?_,fun h=>by rw [cpx,hm] at h;cases h⟩,_,fun b hb=>hb.imp (fun h=>hs2 b (hs b h)) id,h3⟩
 rcases hb' with hb'|rfl
 ·refine hb b (hr.s3 b hb') ?_
  rintro rfl
  have ⟨fp,hp⟩:=hr.hp
  exact (hp.own i b (((hp.rep i (some b) _ hi).1 b).2 rfl)).2.1 hb'
 exact hb b hn.1 hg
theorem Wp {t:dT} {j m:Nat} {f:Nat→CV} (hw:aS G ops o s true) (hj:s.H[j]?=some (some n,.blk m f)) (h:kP P G o s (fun s'=>rB P G ops n t s' K)):rB P G ops n (.one o t) s K:=fun St a w hr Q hQ=>by
 refine ⟨St,fun _ h=>h,?_⟩
 unfold km
 rw [Zz (hw St a w hr)]
 have hn:=DX hr hj
 refine Oper.wp_mono (fun a' w' ⟨hb,St',hs,s',h1,h2⟩=>?_) (h St a w hr Q)
 have ⟨St2,hs2,h3⟩:=h1 St' a' w' h2 Q hQ
 refine ⟨⟨fun b hb'=>?_,fun _=>hb⟩,_,fun b hb=>hb.imp (fun h=>hs2 b (hs b h)) id,h3⟩
 rcases hb' with hb'|rfl
 exact hb.block b (hr.s3 b hb')
 exact hb.block b hn.1
theorem T9 {p:Oper} {t u:dT} (h1:rB P G ops n (.one o t) s K) (h2:rB P G ops n (.one p u) s K):rB P G ops n (.two o t p u) s K:=fun St a w hr Q hQ=>by
 have ⟨S1,hs1,h3⟩:=h1 St a w hr Q hQ
 have ⟨S2,hs2,h4⟩:=h2 St a w hr Q hQ
 have h3:=nH (S:=fun b=>St b∨b=n) (fun b hb=>hb.imp (hs1 b) id) h3
 have h4:=nH (S:=fun b=>St b∨b=n) (fun b hb=>hb.imp (hs2 b) id) h4
 unfold km at h3 h4
 exact ⟨St,fun _ h=>h,h3,h4⟩
theorem kQ {tr:dT} {s':AS} (he:cJ G s s') (h:rB P G ops n tr s' K):rB P G ops n tr s K:=fun St a w hr Q hQ=>by
 have ⟨S1,h1,h2⟩:=he St a w hr
 have ⟨S2,h3,h4⟩:=h S1 a w h2 Q hQ
 exact ⟨S2,fun b hb=>h3 b (h1 b hb),h4⟩
theorem GD {id:Nat} (n:Nat) (u:kl) (hmix:P.follows .mixedOrders=true) (hs:Region.noSelect ops=true) (hul:u.len=ops.size) (huin:u.within ops.size=true) (hu:dI .any ops u (Array.replicate ops.size false)=true)
  (h:rB P G ops n (av ops u) s (R .normal)) (hd:Fc G.rd ops=true:=by rfl):aY P G (.region id ops true) s R:=fun a w ⟨St,hr⟩ Q hQ =>
 let ⟨_,_,h5⟩:=h St a w.drew (hr.ext (kO w)) (NoPanic (yR Q)) (fun s'' a'' w'' h3 h4=>NoPanic.normal (hQ .normal s'' a'' w'' h3 h4))
 sx hd hmix (T5 u hs hul huin hu h5)
theorem MW {t:TypeId} {x:Operand} {d:TypeDesc} {i off N:Nat} {f:Nat→CV} {v:CV} (ho:o.op=.load t x) (hx:s.eval x=.op i (some n) off) (hH:Holds s i (some n) N f) (h1:P.underlying t=some d) (ha:iB P t=false) (hn:off<N) (hv:f off=v):Tn P G n o s v:=fun St a w h=>by
 have ⟨b,hb,e⟩:=iY h hx
 cases hb
 have ⟨hg,cur,ty,z,hh,hle,hc⟩:=iW h hH
 have hlt:off<cur.size:=by omega
 have hcell:w.cell? ⟨n,off,none⟩=some (cur.getD off undef):=by
  rw [cell_of_row w n off cur ty z hh];simp [hlt]
 refine ⟨_,fun W hW=>jW ho e (je h1 ha ?_),hv ▸ hc off hn⟩
 exact (cD hW off).trans hcell
end
section
variable {P:Program} {G:Gh} {ops:Array Oper} {o:Oper} {s:AS} {env:List (Nat×CV)} {b0:Nat→CV} {H:List (Option Nat×aW)} {K:AS→Prop} {i n:Nat} {t:kl} {R:Exit→AS→Prop}
theorem Xo {t:TypeId} {x:Operand} {i off N:Nat} {f:Nat→CV} {v:CV} (ho:o.op=.load t x:=by exact rfl) (hx:s.eval x=.op i (some n) off:=by exact rfl) (hH:Holds s i (some n) N f:=by first|exact .inl rfl|exact .inr rfl) (hv:f off=v:=by first|exact oq rfl|exact sa rfl) (hn:off<N:=by first|decide|omega|(dsimp only at *;omega)) (hT:Gf P t=true:=by kernel_rfl):Tn P G n o s v:=by
 have ⟨d,h1,ha⟩:=tj hT
 exact MW ho hx hH h1 ha hn hv
theorem Y1 {d:Nat} {v:CV} (h:Tn P G n (dW ops.toList i) ⟨env,b0,H⟩ v) (hk:rB P G ops n (av ops t) ⟨(d,v)::env,b0,H⟩ K) (hd:(dW ops.toList i).dst=some d:=by exact rfl) (hN:Nat.blt d G.N=true:=by exact rfl) (hw:aS G ops (dW ops.toList i) ⟨env,b0,H⟩ true:=by first|exact aU rfl|exact ck rfl rfl rfl rfl true rfl) (hi:Nat.blt i ops.size=true:=by exact rfl):rB P G ops n (av ops (.rd i t)) ⟨env,b0,H⟩ K:=by
 rw [oo hi]
 exact Ub hw (by simp only [bY,hd];exact hN) h (by simp only [AS.put,hd];exact hk)
theorem Kp {d:Nat} {v:CV} (h:cj P G (dW ops.toList i) ⟨env,b0,H⟩ v) (hk:rB P G ops n (av ops t) ⟨(d,v)::env,b0,H⟩ K) (hd:(dW ops.toList i).dst=some d:=by exact rfl) (hN:Nat.blt d G.N=true:=by exact rfl) (hw:aS G ops (dW ops.toList i) ⟨env,b0,H⟩ true:=by first|exact aU rfl|exact ck rfl rfl rfl rfl true rfl) (hi:Nat.blt i ops.size=true:=by exact rfl):rB P G ops n (av ops (.rd i t)) ⟨env,b0,H⟩ K:=by
 rw [oo hi]
 exact Wn hw (by simp only [bY,hd];exact hN) h (by simp only [AS.put,hd];exact hk)
theorem Zr {d:Nat} {v:CV} (h:kf P G (dW ops.toList i) ⟨env,b0,H⟩ v) (hk:rB P G ops n (av ops t) ⟨(d,v)::env,b0,H⟩ K) (hd:(dW ops.toList i).dst=some d:=by exact rfl) (hN:Nat.blt d G.N=true:=by exact rfl) (hw:aS G ops (dW ops.toList i) ⟨env,b0,H⟩ true:=by first|exact aU rfl|exact ck rfl rfl rfl rfl true rfl) (hb:ownB ops (dW ops.toList i)=true:=by kernel_rfl) (hi:Nat.blt i ops.size=true:=by exact rfl):rB P G ops n (av ops (.rd i t)) ⟨env,b0,H⟩ K:=by
 rw [oo hi]
 exact Ua hw (by simp only [bY,hd];exact hN) hb h (by simp only [AS.put,hd];exact hk)
theorem Xu (j:Nat) {m:Nat} {f:Nat→CV} (h:kP P G (dW ops.toList i) ⟨env,b0,H⟩ (fun s'=>rB P G ops n (av ops t) s' K)) (hj:H[j]?=some (some n,.blk m f):=by exact rfl) (hw:aS G ops (dW ops.toList i) ⟨env,b0,H⟩ true:=by first|exact aU rfl|exact ck rfl rfl rfl rfl true rfl) (hi:Nat.blt i ops.size=true:=by exact rfl):rB P G ops n (av ops (.one i t)) ⟨env,b0,H⟩ K:=by rw [eX hi];exact Wp hw hj h
theorem Sh (j i0:Nat) {m N:Nat} {g:Option Nat} {f F:Nat→CV} (h:T7 P G g (dW ops.toList i) ⟨env,b0,H⟩ (fun s'=>rB P G ops n (av ops t) s' K)) (hj:H[j]?=some (some n,.blk m f):=by exact rfl) (h0:H[i0]?=some (g,.blk N F):=by exact rfl) (hij:i0≠j:=by decide) (hw:aS G ops (dW ops.toList i) ⟨env,b0,H⟩ true:=by first|exact aU rfl|exact ck rfl rfl rfl rfl true rfl) (hm:vK (dW ops.toList i)=true:=by exact rfl) (hi:Nat.blt i ops.size=true:=by exact rfl):rB P G ops n (av ops (.one i t)) ⟨env,b0,H⟩ K:=by rw [eX hi];exact Wo hw hm hj h0 hij h
theorem YI (h:K s):rB P G ops n (av ops .done) s K:=P7 h
theorem TS {j:Nat} {u:kl} (h1:rB P G ops n (av ops (.one i t)) s K) (h2:rB P G ops n (av ops (.one j u)) s K) (hi:Nat.blt i ops.size=true:=by exact rfl) (hj:Nat.blt j ops.size=true:=by exact rfl):rB P G ops n (av ops (.two i t j u)) s K:=by
 rw [eX hi] at h1
 rw [eX hj] at h2
 simp only [av,jk hi,jk hj]
 exact T9 h1 h2
theorem Ge (m:Nat) (F:Nat→CV) {t:TypeId} {p q:Operand} {i off n:Nat} {g:Option Nat} {f:Nat→CV} {c:CV} {l:List CV} (hF:∀ j,j<n→aa (fX f off l j) (F j)) (hK:K ⟨env,b0,H.set i (g,.blk n F)⟩) (ho:o.op=.store t p q:=by exact rfl) (hx:(⟨env,b0,H⟩:AS).eval p=.op i g off:=by exact rfl) (hH:H[i]?=some (g,.blk n f):=by exact rfl) (hy:(⟨env,b0,H⟩:AS).eval q=c:=by first|exact vG rfl|exact vH rfl rfl rfl|exact vJ rfl) (hl:eH c=some l:=by exact rfl) (hm:l.length=m:=by exact rfl) (h5:(P.info? t).map (·.size)=some m:=by kernel_rfl) (hleaf:l.all fO=true:=by exact rfl) (hn:off+m≤n:=by first|decide|omega|(dsimp only at *;omega)) (hd:o.dst=none:=by exact rfl):T7 P G g o ⟨env,b0,H⟩ K :=
 NP ho hx hH hy hl h5 hm hleaf hn F hF hd hK
theorem YG {id:Nat} (n:Nat) (u:kl) (h:rB P G ops n (av ops u) s (R .normal)) (hmix:P.follows .mixedOrders=true:=by kernel_rfl) (hs:Region.noSelect ops=true:=by kernel_rfl) (hul:u.len=ops.size:=by exact rfl) (huin:u.within ops.size=true:=by kernel_rfl) (hu:dI .any ops u (Array.replicate ops.size false)=true:=by kernel_rfl) (hd:Fc G.rd ops=true:=by rfl):aY P G (.region id ops true) s R:=GD n u hmix hs hul huin hu h hd
end
end
def JV (_:Nat):Prop:=True
theorem jv (k:Nat) {n:Nat} (_:JV n) (_:Nat.beq (Nat.mod n 10) k=true:=by exact rfl):JV (Nat.div n 10):=trivial
structure JB (B:Prop):Prop where v:B
theorem U (n:Nat) {A B:Prop} (b:B) (h:JV n→JB B→A:=by
 intro c b
 repeat (first|(replace c:=jv 1 c;refine jq Lt ?_)|(replace c:=jv 2 c;refine jq Y0 ?_)|(replace c:=jv 3 c;refine jq Wb ?_)|(replace c:=jv 4 c;refine Zl ?_)|(replace c:=jv 5 c;refine jN ?_)|(replace c:=jv 6 c;refine eA ?_)|(replace c:=jv 7 c;refine ia ?_)|(replace c:=jv 8 c;refine Zg ?_)|(replace c:=jv 9 c;refine jq P3 ?_)|(replace c:=jv 0 c;first|(replace c:=jv 1 c;refine jS ?_)|(replace c:=jv 2 c;refine jB ?_)|(replace c:=jv 3 c;refine jq YZ ?_)|(replace c:=jv 4 c;refine jq Kj ?_)|(replace c:=jv 5 c;refine kj gy ?_)|(replace c:=jv 6 c;refine jq kF ?_)|(replace c:=jv 7 c;refine aJ Lt ?_)|(replace c:=jv 8 c;refine Az ?_)|(replace c:=jv 9 c;refine jq (en 0 1 false) ?_)|(replace c:=jv 0 c;first|(replace c:=jv 1 c;refine jq (en 1 1 false) ?_)|(replace c:=jv 2 c;refine Zm ?_)|(replace c:=jv 3 c;refine Zo ?_)|(replace c:=jv 4 c;refine Zq ?_)|(replace c:=jv 5 c;refine jq Xh ?_)|(replace c:=jv 6 c;refine Zf ?_)|(replace c:=jv 7 c;refine jq dP ?_)|(replace c:=jv 8 c;refine aJ Y0 ?_)|(replace c:=jv 9 c;refine jq Zi ?_)|(replace c:=jv 0 c;first|(replace c:=jv 1 c;refine jq (en 2 1 false) ?_)|(replace c:=jv 2 c;refine Zh ?_)|(replace c:=jv 3 c;refine l9 ?_)|(replace c:=jv 4 c;refine Zp ?_)|(replace c:=jv 5 c;refine Oh ?_)|(replace c:=jv 6 c;refine jX ?_)|(replace c:=jv 7 c;refine jR ?_)|(replace c:=jv 8 c;refine eN (hv:=?_))|(replace c:=jv 9 c;refine Zn ?_)|(replace c:=jv 0 c;first|(replace c:=jv 1 c;refine qF gy ?_)|(replace c:=jv 2 c;refine aJ Wb ?_)|(replace c:=jv 3 c;refine aJ P3 ?_)|(replace c:=jv 4 c;refine jq Xi ?_)|(replace c:=jv 5 c;refine aJ Kj ?_)|(replace c:=jv 6 c;refine jq zh ?_)|(replace c:=jv 7 c;refine aJ kF ?_)|(replace c:=jv 8 c;refine YH ?_)|(replace c:=jv 9 c;refine aJ dP ?_)|(replace c:=jv 0 c;first|(replace c:=jv 1 c;refine aJ YZ ?_)|(replace c:=jv 2 c;refine jq Vm ?_)|(replace c:=jv 3 c;refine aJ Xh ?_)|(replace c:=jv 4 c;refine jy Lt ?_)|(replace c:=jv 5 c;refine jq YD ?_)|(replace c:=jv 6 c;refine jq Zk ?_)|(replace c:=jv 7 c;refine Ze ?_)|(replace c:=jv 8 c;refine jq (wg .i64 .u8) ?_)|(replace c:=jv 9 c;refine aJ (en 0 1 false) ?_)|(replace c:=jv 0 c;first|(replace c:=jv 1 c;refine jq Zj ?_)|(replace c:=jv 2 c;refine jq (dP (i:=0)) ?_)|(replace c:=jv 3 c;refine aJ Xg ?_)|(replace c:=jv 4 c;refine aJ (cK 3) ?_)|(replace c:=jv 5 c;refine jq (en 3 1 false) ?_)|(replace c:=jv 6 c;refine jq (en 5 1 false) ?_)|(replace c:=jv 7 c;refine jq (en 4 1 false) ?_)|(replace c:=jv 8 c;refine aJ (en 1 1 false) ?_)|(replace c:=jv 9 c;refine jy Kj ?_)|(replace c:=jv 0 c;first|(replace c:=jv 1 c;refine jy (en 0 1 false) ?_)|(replace c:=jv 2 c;refine jq (en 6 1 false) ?_)|(replace c:=jv 3 c;refine aJ D8 ?_)|(replace c:=jv 4 c;refine Zd ?_)|(replace c:=jv 5 c;refine Yy gy ?_)|(replace c:=jv 6 c;refine jy (en 1 1 false) ?_)|(replace c:=jv 7 c;refine jq (r9 .i64) ?_)|(replace c:=jv 8 c;refine jq B8 ?_)|(replace c:=jv 9 c;refine jq D5 ?_)|(replace c:=jv 0 c;first|(replace c:=jv 1 c;refine jq Xg ?_))))))))))
 exact b.v):A:=h trivial ⟨b⟩
section
variable {gs:List Nat} [ib gs]
theorem lD {gs:List Nat} (l:I) (hl:l.length≤100000000000):cd gs prog 105 [bc l] (bc l):=by
 refine ae 8 func105 fun _ _ _ _=>?_;refine U 167516 ?_;refine qj (aU rfl) rfl rfl rfl underlying23 rfl rfl (fun h357=>?_) ?_
 ·refine U 51690005 ?_
  refine jR (l9 (eN (hv:=aa.nilS' h357)))
 ·refine U 68103005 ?_
  refine aq (aM 0 1 da fun p1=>?_)
  refine U 1 ?_
  refine aw (ay (l:=[]) rfl rfl rfl (ZL _) (fun j hj=>absurd hj (ZO j)) (cX rfl) rfl (fun j hj=>by simp only [anx];exact Z) underlying23 dV fR da jt rfl (by (simp;omega)) (fun j hj=>rfl) rfl rfl (fun p2=>?_))
  refine U 51 ?_;refine jE (freeze 0 rfl) ?_;refine jE (er 2 ([]++l) rfl rfl (by rfl) rfl) ?_
  refine jR (eN (hv:=aa.bs (List.nil_append l)))
theorem AB {gs:List Nat} (c:UInt8):cd gs prog 261 [.c (.int .u8 (c.toNat:Nat))] (.c (.bool false)):=by
 refine ae 6 func261 fun _ _ _ _=>?_;refine U 512116516 ?_
 refine jR (eN (hv:=cB (by simp)))
def gG (a b:UInt8):Int:=if a.toNat<b.toNat then -1 else if b.toNat<a.toNat then 1 else 0
theorem SY {gs:List Nat} (a b:UInt8):cd gs prog 240 [.c (.int .u8 (a.toNat:Nat)),.c (.int .u8 (b.toNat:Nat))] (.c (.int .i64 (gG a b))):=by
 refine ae 20 func240 fun _ _ _ _=>?_;refine U 16516 ?_
 refine aq (ak (AB a) ?_)
 refine U 1651 ?_
 refine aq (ak (AB b) ?_)
 refine U 516751 ?_;refine an (fun h43=>?_) fun h43=>?_
 ·refine U 5167 ?_;refine an (fun h44=>?_) fun h44=>?_
  ·refine U 8000300030007000516 ?_
   (exfalso;simp at *;done)
  refine U 800030007000516810 ?_
  (exfalso;simp at *;done)
 refine U 5167810 ?_;refine an (fun h49=>?_) fun h49=>?_
 ·refine U 800030007000516 ?_
  (exfalso;simp at *;done)
 refine U 521167810 ?_;refine an (fun h52=>?_) fun h52=>?_
 ·refine U 800030007000516 ?_
  (refine cI ?_;unfold gG;split<;>omega)
 refine U 521167810 ?_;refine an (fun h55=>?_) fun h55=>?_
 ·refine U 800030007000516 ?_
  (refine cI ?_;unfold gG;split<;>omega)
 refine U 80007000516810 ?_
 (refine cI ?_;unfold gG;split<;>omega)
def eS:I→I→Int
 | [],[]=>0
 | [],_::_=>-1
 | _::_,[]=>1
 | a::l,b::r=>if gG a b≠0 then gG a b else eS l r
theorem qT:∀ l r:I,decide (eS l r<0)=Op.bytesLess l r
 | [],[]=>by simp [eS,Op.bytesLess]
 | [],_::_=>by simp [eS,Op.bytesLess]
 | _::_,[]=>by simp [eS,Op.bytesLess]
 | a::l,b::r=>by
  have ih:=qT l r
  rw [eS,Op.bytesLess,← ih]
  have h1:(a<b)↔a.toNat<b.toNat:=UInt8.lt_iff_toNat_lt
  have h2:(a=b)↔a.toNat=b.toNat:=akx.symm
  rw [bmx]
  simp only [ZJ,atx,ZE,aUx,h1,h2]
  by_cases h3:a.toNat<b.toNat
  ·simp [gG,h3]
  ·by_cases h4:b.toNat<a.toNat
   ·simp [gG,h3,h4]
    omega
   ·have h5:a.toNat=b.toNat:=by omega
    simp [gG,h5]
theorem vj {l r:I} {i:Nat} (h1:i<l.length) (h2:i<r.length):eS (l.drop i) (r.drop i)=if gG (l.getD i 0) (r.getD i 0)≠0 then gG (l.getD i 0) (r.getD i 0) else eS (l.drop (i+1)) (r.drop (i+1)):=by
 rw [ZZ h1,ZZ h2,eS]
 simp [List.getD,h1,h2]
theorem ES {gs:List Nat} (l r:I):cd gs prog 204 [bc l,bc r] (.c (.int .i64 (eS l r))):=by
 refine fF 0 rfl fun hlen=>?_;refine ae 36 func204 fun _ _ _ _=>?_;refine U 20513167516 ?_;refine ar (α:=Nat) [4,5,6,7,8,11,12,13,14,15,16,17,18,19,20,21,22,23,24,25,26,27,28,29,30] (fun i=>[(11,.c (.int .i64 (i:Nat)))]) (fun _=>[]) (fun i=>i≤l.length∧i≤r.length∧eS (l.drop i) (r.drop i)=eS l r) (fun i=>l.length-i) (0) ?_ (fun _=>rfl) ?_ ?_ ?_
 exact ⟨by omega,by omega,rfl⟩
 ·(repeat (first|exact bh.nil|refine bh.cons Z ?_))
 ·(repeat (exact aD.nil))
 ·rintro i ⟨hi,hj,he⟩
  refine U 7526 ?_;refine aaa (fun h58=>?_) fun h58=>?_
  ·refine U 5231316784000200020006000 ?_;refine an (fun h67=>?_) fun h67=>?_
   ·refine U 800030007000516 ?_;refine cI ?_
    have h1:l.drop i=[]:=aux O
    rw [← he,h1]
    (rw [ZZ (show i<r.length by omega)];rfl)
   refine U 80007000516810 ?_;refine cI ?_
   have h1:l.drop i=[]:=aux O
   rw [← he,h1]
   (rw [aux (show r.length≤i by omega)];rfl)
  refine U 52311675116070016207810 ?_;refine an (fun h59=>?_) fun h59=>?_
  ·refine U 80003000500030003000500030007000516 ?_;refine cI ?_
   have:r.drop i=[]:=aux O
   rw [← he,this,ZZ O]
   rfl
  refine U 1165160700116810 ?_
  refine aq (ak (SY (l.getD i 0) (r.getD i 0)) ?_)
  refine U 521651 ?_;refine an (fun h63=>?_) fun h63=>?_
  ·refine U 80003000500030003000500070005116 ?_;refine cI ?_
   rw [← he,vj (l:=l) (r:=r) (i:=i) O O,Zz h63]
  refine U 8519200840010 ?_;refine am (i+1) ?_ ?_
  exact ⟨by omega,by omega,by rw [← he,vj (l:=l) (r:=r) (i:=i) O O,Zy h63]⟩
  omega
def Sp (l:List Int) (x:Int):Int:=if x ∈ l then (l.idxOf x:Nat) else -1
theorem Gn {gs:List Nat} (l:List Int) (x:Int):cd gs prog 251 [CE l,.c (.int .i64 x)] (.c (.int .i64 (Sp l x))):=by
 refine fF 0 rfl fun hlen=>?_;refine ae 19 func251 fun _ _ _ _=>?_;refine U 20513167516 ?_;refine ar (α:=Nat) [4,5,8,9,10,11,12,13,14,15,16,17,18] (fun i=>[(8,.c (.int .i64 (i:Nat)))]) (fun _=>[]) (fun i=>i≤l.length∧x ∉ l.take i) (fun i=>l.length-i) (0) ?_ (fun _=>rfl) ?_ ?_ ?_
 exact ⟨by omega,by simp⟩
 ·(repeat (first|exact bh.nil|refine bh.cons Z ?_))
 ·(repeat (exact aD.nil))
 ·rintro i ⟨hi,he⟩
  refine U 7526 ?_;refine aaa (fun h97=>?_) fun h97=>?_
  ·refine U 8000700051684000200020006000 ?_;refine cI ?_
   have:l.take i=l:=ZY O
   rw [this] at he
   unfold Sp
   rw [Zy he]
  refine U 526070011165116207810 ?_;refine an (fun h98=>?_) fun h98=>?_
  ·refine U 80003000500030003000500070005116 ?_;refine cI ?_
   have hlt:i<l.length:=by omega
   have e:l.getD i 0=l[i]:=by simp [List.getD,hlt]
   have hm:x ∈ l:=by rw [h98,e];exact aAx hlt
   have hx:l.idxOf x=i:=by
    have e2:l=l.take i++l[i]::l.drop (i+1):=by rw [← ZZ hlt,amx]
    rw [e2,List.idxOf_append,Zy he,h98,e]
    rw [← ZZ hlt,ZZ hlt,cVx,ZK]
    omega
   unfold Sp
   rw [Zz hm,hx]
  refine U 8519200840010 ?_;refine am (i+1) ?_ ?_
  ·exact ⟨by omega,fun hm=>by
    rw [ZH O] at hm
    rcases bcx.1 hm with h|h
    exact he h
    ·have e:l.getD i 0=l[i]:=by simp [List.getD,show i<l.length by omega]
     simp at h
     rw [e] at h98
     exact h98 h⟩
  omega
theorem zo {gs:List Nat} (l:List Int) (x:Int):cd gs prog 236 [CE l,.c (.int .i64 x)] (.c (.bool (decide (x ∈ l)))):=by
 refine ae 9 func236 fun _ _ _ _=>?_;refine U 116516 ?_
 refine aq (ak (Gn l x) ?_)
 refine U 80007000512 ?_;refine cB ?_
 unfold Sp
 split<;>simp_all<;>omega
def BH (l:I) (i:Nat):I:=(List.range l.length).map fun j=>if j<i∨l.length≤j+i then l.reverse.getD j 0 else l.getD j 0
theorem nh {l:I} {i j:Nat} (h:j<l.length):(BH l i).getD j 0=if j<i∨l.length≤j+i then l.reverse.getD j 0 else l.getD j 0:=by simp [BH,List.getD,h]
theorem Hj {l:I} {j:Nat} (h:j<l.length):l.reverse.getD j 0=l.getD (l.length-1-j) 0:=by
 simp [List.getD,cfx h,show l.length-1-j<l.length by omega]
theorem MI {l:I} {i:Nat} (h:l.length≤2 * i+1):BH l i=l.reverse:=by
 apply bgx
 ·simp [BH]
 ·intro j h1 h2
  have hj:j<l.length:=by simpa using h2
  have e:=nh (i:=i) hj
  simp only [ZB,ZM h1,ZM h2,ZM hj,asx] at e
  rw [e]
  split
  rfl
  ·have:j=l.length-1-j:=by omega
   rw [cWx]
   congr 1
theorem Jp (l:I):BH l 0=l:=by
 apply bgx
 ·simp [BH]
 ·intro j h1 h2
  have e:=nh (i:=0) h2
  simp only [ZB,ZM h1,ZM h2,asx] at e
  rw [e,jK]
def YS (g:Option Nat) (l:I):CV→List (Option Nat×aW)→Prop:=fun r H'=>r=.c (.tuple #[])∧H'=[(g,.blk l.length (aV l))]
theorem mm {gs:List Nat} (g:Option Nat) (l:I) (hl:l.length≤100000000000):AC gs prog 161 [(g,.blk l.length (aV l))] [.os 0 g 0 l.length 1] (YS g l.reverse):=by
 refine ae 28 func161 fun _ _ _ _=>?_;refine U 205119316 ?_;refine ar (α:=Nat) [2,3,7,8,9,10,11,12,13,14,15,16,17,18,19,20,21,22,23,24,25,26,27] (fun i=>[(2,.c (.int .i64 (i:Nat))),(3,.c (.int .i64 ((l.length:Int)-1-i)))]) (fun i=>[(g,.blk l.length (aV (BH l i)))]) (fun i=>2 * i≤l.length+1) (fun i=>l.length-i) (0) ?_ (fun _=>rfl) ?_ ?_ ?_
 show 2 * 0≤l.length+1;omega
 exact .cons Z (.cons (cI O) .nil)
 exact .blk rfl (fun j hj=>by rw [Jp];exact Z) .nil
 ·rintro i (hi:2 * i≤l.length+1)
  refine U 521167 ?_;refine aaa (fun h484=>?_) fun h484=>?_
  ·refine U 4000200020006000 ?_
   exact bi (.inr rfl) _ _ [0] jD rfl (br rfl) ⟨rfl,by show [(g,aW.blk l.length (aV (BH l i)))]=_;rw [MI O,a2x]⟩
  refine U 207810 ?_;refine lQ (.rd 0 (.rd 1 (.rd 2 (.rd 3 (.rd 4 (.rd 5 (.rd 6 (.rd 7 (.rd 8 (.rd 9 (.rd 10 (.rd 11 (.rd 12 (.one 13 (.rd 14 (.one 15 .done)))))))))))))))) ?_;refine U 400000400000400000400000400000400000 ?_;refine jy (dP (i:=(l.length-1-i)) (hz:=by omega)) ?_;refine U 40000040000050000000 ?_;refine jy (dP (i:=i) (hz:=by omega)) ?_;refine Yy gy ?_;refine jy (dP (i:=i) (hz:=by omega)) ?_
  refine lP (bn 1 ?_)
  refine jy (dP (i:=(l.length-1-i)) (hz:=by omega)) ?_
  refine lP (bn 1 ?_)
  refine U 851191912008400700000 ?_
  refine am (i+1) ?_ ?_ (h7:=?_)
  show 2 * (i+1)≤l.length+1;omega
  omega
  ·exact .blk rfl (fun j hj=>by
    refine (aa.of_eq (kq _ _ _ j)).trans ?_
    have hj:j<l.length:=hj
    have e3:=nh (i:=i+1) hj
    have ri:=@Hj l i O
    have rj:=@Hj l (l.length-1-i) O
    have ei:=@nh l i i O
    have ej:=@nh l i (l.length-1-i) O
    rw [jK] at ei ej
    rw [show l.length-1-(l.length-1-i)=i by omega] at rj
    show aa (if j=_ then _ else fX (aV (BH l i)) i [_] j) _
    rw [kq]
    unfold aV
    by_cases h1:j=l.length-1-i
    ·rw [Zz h1]
     subst h1
     exact cI (by rw [ei,e3,Zz (.inr O),rj])
    ·rw [Zy h1]
     by_cases h2:j=i
     ·rw [Zz h2]
      subst h2
      exact cI (by rw [ej,e3,Zz (.inl O),ri])
     ·rw [Zy h2]
      have e0:=nh (i:=i) hj
      refine cI ?_
      rw [e0,e3]
      by_cases h3:j<i∨l.length≤j+i
      ·rw [Zz h3,jP]
      ·rw [Zy h3,jK]) .nil
end
def bO (t:Int):Bool:=decide (t=48∨t=49∨(160≤t∧t<176))
def uA:List Int:=[1,2,3,4,5,6,10,12,24]
def bH (t:Int):Bool:=bO t || decide ((1≤t∧t≤6)∨t=10∨t=12∨t=24)
theorem vw (t:Int):decide (t ∈ uA)=decide ((1≤t∧t≤6)∨t=10∨t=12∨t=24):=by
 refine decide_eq_decide.2 ?_
 simp only [uA,Z9,ahx,or_false]
 omega
def b8 (n:Nat):UInt8:=UInt8.ofNat n
theorem yI {n:Nat} (h:n<256):(b8 n).toNat=n:=by
 unfold b8
 rw [ZT]
 omega
theorem fC (n:Nat):(b8 n).toNat=n % 256:=by
 unfold b8
 rw [ZT]
def ie (n:Nat):I :=
 if n<128 then [b8 n] else if n<256 then [129,b8 n] else if n<65536 then [130,b8 (n / 256),b8 n]
 else if n<16777216 then [131,b8 (n / 65536),b8 (n / 256),b8 n] else [132,b8 (n / 16777216),b8 (n / 65536),b8 (n / 256),b8 n]
theorem qB (n:Nat):1≤(ie n).length∧(ie n).length≤5:=by
 unfold ie
 split
 ·simp
 ·split
  ·simp
  ·split
   ·simp
   ·split<;>simp
def bB (tag:Int) (body:I):I:=UInt8.ofNat tag.toNat::(ie body.length++body)
def mY (l:I):Nat:=l.foldl (fun n c=>n * 256+c.toNat) 0
theorem PI (l:I) (c:UInt8):mY (l++[c])=mY l * 256+c.toNat:=by simp [mY]
theorem EZ {l:I} {i:Nat} (h:i<l.length):mY (l.take (i+1))=mY (l.take i) * 256+(l.getD i 0).toNat:=by
 rw [ZH h,PI]
 simp [List.getD,h]
theorem GM (l:I):mY l<256 ^ l.length:=by
 have key:∀ (r:I) (n k:Nat),n<256 ^ k→r.foldl (fun n c=>n * 256+c.toNat) n<256 ^ (k+r.length):=by
  intro r
  induction r with
  | nil=>intro n k h;simpa using h
  | cons c r ih =>
   intro n k h
   have:=ih (n * 256+c.toNat) (k+1) (by have:=c.toNat_lt;rw [bNx];omega)
   simpa [cix,Nat.add_comm 1] using this
 have:=key l 0 0 jD
 simpa [mY] using this
structure Ms where
 e:Nat
 n:Nat
 rest:I
def cm (b:I):Ms :=
 if b.length=0 then ⟨2,0,[]⟩ else
 let c:=(b.getD 0 0).toNat
 let r:=b.drop 1
 if c≤127 then ⟨0,c,r⟩ else
 if c=128∨132<c then ⟨4,0,[]⟩ else
 if r.length<c-128 then ⟨2,0,[]⟩ else
 if mY (r.take (c-128))≤127∨(r.getD 0 0).toNat=0 then ⟨4,0,[]⟩ else ⟨0,mY (r.take (c-128)),r.drop (c-128)⟩
theorem xS {b r:I} {c:Nat} (h:b.length≠0) (hc:c=(b.getD 0 0).toNat) (hr:r=b.drop 1):cm b=if c≤127 then ⟨0,c,r⟩ else
 if c=128∨132<c then ⟨4,0,[]⟩ else
 if r.length<c-128 then ⟨2,0,[]⟩ else
 if mY (r.take (c-128))≤127∨(r.getD 0 0).toNat=0 then ⟨4,0,[]⟩ else ⟨0,mY (r.take (c-128)),r.drop (c-128)⟩:=by
 subst hc hr
 unfold cm
 rw [Zy h]
theorem rY (b:I):(cm b).rest.length≤b.length-1∧((cm b).e≠0→(cm b).rest=[]∧(cm b).n=0)∧(cm b).e≤4:=by
 unfold cm
 split
 ·simp
 ·dsimp only
  split
  ·simp
  ·split
   ·simp
   ·split
    ·simp
    ·split
     ·simp
     ·refine ⟨?_,by simp,by simp⟩
      simp
      omega
structure Nx where
 e:Nat
 tag:Nat
 body:I
 rest:I
def ah (b:I):Nx :=
 if b.length=0 then ⟨2,0,[],[]⟩ else
 if bH ((b.getD 0 0).toNat:Nat)=false then ⟨5,0,[],[]⟩ else
 let m:=cm (b.drop 1)
 if m.e≠0 then ⟨m.e,0,[],[]⟩ else
 if 65530<m.n then ⟨3,0,[],[]⟩ else
 if m.rest.length<m.n then ⟨2,0,[],[]⟩ else ⟨0,(b.getD 0 0).toNat,m.rest.take m.n,m.rest.drop m.n⟩
theorem DN {b:I} {t:Nat} {m:Ms} (h:b.length≠0) (ht:t=(b.getD 0 0).toNat) (hk:bH (t:Nat)=true) (hm:m=cm (b.drop 1)):ah b=if m.e≠0 then ⟨m.e,0,[],[]⟩ else
 if 65530<m.n then ⟨3,0,[],[]⟩ else
 if m.rest.length<m.n then ⟨2,0,[],[]⟩ else ⟨0,t,m.rest.take m.n,m.rest.drop m.n⟩:=by
 subst ht hm
 unfold ah
 rw [Zy h,Zy (by rw [hk];exact Bool.noConfusion)]
theorem gT (b:I):(ah b).e≤5∧(ah b).tag≤255∧(ah b).body.length≤65530∧(ah b).body.length≤b.length∧(ah b).rest.length≤b.length∧((ah b).e=0→(ah b).rest.length<b.length):=by
 unfold ah
 split
 ·simp
 ·split
  ·simp
  ·dsimp only
   have hm:=rY (b.drop 1)
   split
   ·refine ⟨by dsimp only;omega,by simp,by simp,by simp,by simp,fun h=>by dsimp only at h;omega⟩
   ·split
    ·simp
    ·split
     ·simp
     ·have h8:=(b.getD 0 0).toNat_lt
      have hm1:=hm.1
      rw [ZI] at hm1
      refine ⟨by simp,by dsimp only;omega,by rw [ZK];omega,by rw [ZK];omega,by rw [ZI];omega,fun _=>by rw [ZI];omega⟩
def fZ (rec:Nat→I→Nat×Nat) (set:Bool) (lv:Nat):Nat→I→I→Nat→Nat×Nat
 | 0,_,_,dp=>(dp,0)
 | fuel+1,b,last,dp =>
  if b.length=0 then (dp,0) else
  if (ah b).e≠0 then (0,(ah b).e) else
  if lv≤1 then (0,6) else
  if (rec (ah b).tag (ah b).body).2≠0 then (0,(rec (ah b).tag (ah b).body).2) else
  if set=true∧Op.bytesLess (b.take (b.length-(ah b).rest.length)) last=true then (0,7) else
  fZ rec set lv fuel (ah b).rest (b.take (b.length-(ah b).rest.length)) (max dp ((rec (ah b).tag (ah b).body).1+1))
def be:Nat→Nat→I→Nat×Nat
 | 0,_,_=>(1,0)
 | lv+1,tag,body=>if bO tag=false then (1,0) else fZ (be lv) (decide (tag=49)) (lv+1) body.length body [] 1
theorem DW (rec:Nat→I→Nat×Nat) (set:Bool) (lv B:Nat) (hr:∀ t b,(rec t b).1≤B∧(rec t b).2≤7):∀ (fuel:Nat) (b last:I) (dp:Nat),dp≤B+1→(fZ rec set lv fuel b last dp).1≤B+1∧(fZ rec set lv fuel b last dp).2≤7
 | 0,_,_,dp,h=>⟨h,by simp [fZ]⟩
 | fuel+1,b,last,dp,h=>by
  have h1:=gT b
  have h2:=hr (ah b).tag (ah b).body
  unfold fZ
  split
  exact ⟨h,by simp⟩
  ·split
   exact ⟨by simp,by simp;omega⟩
   ·split
    exact ⟨by simp,by simp⟩
    ·split
     exact ⟨by simp,by simp;omega⟩
     ·split
      exact ⟨by simp,by simp⟩
      exact DW rec set lv B hr fuel _ _ _ O
theorem uh:∀ (lv tag:Nat) (body:I),(be lv tag body).1≤lv+1∧(be lv tag body).2≤7
 | 0,_,_=>by simp [be]
 | lv+1,tag,body=>by
  unfold be
  split
  exact ⟨by simp,by simp⟩
  exact DW _ _ _ _ (fun t b=>uh lv t b) _ _ _ _ O
def aR (b:I):Nat×Nat :=
 if 65536<b.length then (0,3) else
 if (ah b).e≠0 then (0,(ah b).e) else
 if 0<(ah b).rest.length then (0,4) else be 16 (ah b).tag (ah b).body
theorem NL {n:Nat} (r:I) (h:n<4294967296):cm (ie n++r)=⟨0,n,r⟩:=by
 unfold ie
 split
 ·rename_i h1
  simp [cm,yI (show n<256 by omega)]
  omega
 ·split
  ·rename_i h1 h2
   simp [cm,yI h2,mY]
   omega
  ·split
   ·rename_i h1 h2 h3
    simp [cm,fC,mY]
    rw [jK,jK];congr 1;omega
   ·split
    ·rename_i h1 h2 h3 h4
     simp [cm,fC,mY]
     rw [jK,jK];congr 1;omega
    ·rename_i h1 h2 h3 h4
     simp [cm,fC,mY]
     rw [jK,jK];congr 1;omega
theorem xN {tag:Int} {body r:I} (hk:bH tag=true) (hb:body.length≤65530):ah (bB tag body++r)=⟨0,tag.toNat,body,r⟩:=by
 have ht:0≤tag∧tag<256:=by
  unfold bH bO at hk
  simp at hk
  omega
 have e0:(UInt8.ofNat tag.toNat).toNat=tag.toNat:=yI (n:=tag.toNat) O
 have hm:=NL (n:=body.length) (body++r) O
 have e1:((tag.toNat:Nat):Int)=tag:=by omega
 unfold ah bB
 simp only [List.cons_append,List.length_cons,aLx,e0,e1,hk,c4x,cUx,Z8,hm]
 rw [jK,Zy (by simp),Zy (by simp),jK,Zy (by simp)]
 simp
end Am
end Go.Proofs.YtghminnpfnkbjaaGreatDoor
namespace Go.Proofs.YtghminnpfnkbjaaGreatDoor
open Go.RowKit Go.Extern.Stop Go.Stop Go.Extern
theorem Ec (v:Value) (w:World):(callFunc 89 #[.iface 338 v]).run prog w=.ok (.value (.iface 210 (.agg #[.pointer (some ⟨33,338,none⟩)]))) w:=by kernel_rfl
theorem tn (w:World):(callFunc 312 #[.agg #[.pointer (some ⟨33,338,none⟩)]]).run prog w=.ok (.value (.bool true)) w:=by kernel_rfl
theorem lR (v : Value) (w : World) : (Go.method 470 210 v "Comparable").run prog w = .ok (312, v) w := by kernel_rfl
theorem Oo:(prog.info? 338).map (·.comparable)=some true:=by kernel_rfl
theorem On:(prog.info? 360).map (·.size)=some 1:=by kernel_rfl
theorem W4 (v:Value) (xT:TypeId) (w:World):(Instr.typeAssert (.iface 338 v) xT 212 true).run prog w=.ok (.tuple #[.nilIface,.bool false]) w:=run_typeAssert_lacksB underlying212 (by kernel_rfl) (by kernel_rfl) v xT w
theorem J5 (v:Value) (xT:TypeId) (w:World):(Instr.typeAssert (.iface 338 v) xT 215 true).run prog w=.ok (.tuple #[.nilIface,.bool false]) w:=run_typeAssert_lacksB underlying215 (by kernel_rfl) (by kernel_rfl) v xT w
theorem FV (v:Value) (xT:TypeId) (w:World):(Instr.typeAssert (.iface 338 v) xT 216 true).run prog w=.ok (.tuple #[.nilIface,.bool false]) w:=run_typeAssert_lacksB underlying216 (by kernel_rfl) (by kernel_rfl) v xT w
theorem Si (a:Addr) (w:World) :
  Calls prog 33 #[.iface 338 (.pointer (some a)),.iface 338 (.pointer (some a))] w fun e w'=>e=.returned (.bool true)∧w=w':=by
 have ⟨i,hi,hcmp⟩:=ZG.1 Oo
 have ⟨j,hj,hjs⟩:=ZG.1 On
 have tT:=Ec
 have cT:=tn
 have mR:=lR
 have heq:=run_eql_iface_ptr_same (P:=prog) w a underlying37 underlying338 hi hcmp hj
 go_enter func33,ntmps33
 go_wp2
 refine wp_loop_rounds 1 ?_
 rw [rounds_succ]
 go_wp2
 go_ret
 exact ⟨rfl,rfl⟩
theorem Ok (a b:Addr) (ca cb:Array Value) (ta tb:TypeId) (w:World) (hne:a≠b) (ha:w.heap[a.block]?=some (.cells ca ta (0,0))) (hb:w.heap[b.block]?=some (.cells cb tb (0,0))) :
  Calls prog 33 #[.iface 338 (.pointer (some a)),.iface 338 (.pointer (some b))] w fun e w'=>e=.returned (.bool false)∧w=w':=by
 have ⟨i,hi,hcmp⟩:=ZG.1 Oo
 have ⟨j,hj,hjs⟩:=ZG.1 On
 have tT:=Ec
 have cT:=tn
 have mR:=lR
 have nE:=W4
 have uE:=J5
 have vE:=FV
 have heq:=run_eql_iface_ptr_other (P:=prog) w underlying37 underlying338 hi hcmp hj (by rw [hjs];decide) hne ha hb
 go_enter func33,ntmps33
 go_wp2
 refine wp_loop_rounds 1 ?_
 rw [rounds_succ]
 go_wp2
 go_ret
 exact ⟨rfl,rfl⟩
theorem Ol {w:World} {al:List Addr} (h:Tk w al) (m k:Nat) (hm0:m≠0) (hm:m≤28) (hk:k<28) :
  Calls prog 33 #[ev al m,ev al (k+1)] w fun e w'=>e=.returned (.bool (decide (m=k+1)))∧w=w':=by
 have hl:al.length=28:=h.len.trans (by rw [dO.eq];rfl)
 obtain ⟨a,ha⟩:∃ a,al[m-1]?=some a:=⟨al[m-1],ZM O⟩
 obtain ⟨b,hb⟩:∃ b,al[k]?=some b:=⟨al[k],ZM O⟩
 have e1:ev al m=.iface 338 (.pointer (some a)):=by simp [ev,hm0,ha]
 have e2:ev al (k+1)=.iface 338 (.pointer (some b)):=by simp [ev,hb]
 rw [e1,e2]
 by_cases hmk:m=k+1
 ·subst hmk
  simp only [Nat.add_sub_cancel] at ha
  obtain rfl:=Z3 (ha.symm.trans hb)
  simp only [decide_true]
  exact Si a w
 ·have hne:a≠b:=by
   intro e
   subst e
   have all:∀ i,i<28→((nz gs)[i]?).any (fun g=>(pF gs).contains g)=true:=by decide
   have get:∀ i,i<28→∃ g,(nz gs)[i]?=some g∧g ∈ pF gs:=fun i hi=>by
    have h1:=all i hi
    cases h2:(nz gs)[i]? with
    | none=>rw [h2] at h1;cases h1
    | some g=>rw [h2] at h1;exact ⟨g,rfl,bvx.1 h1⟩
   obtain ⟨g1,k1,k2⟩:=get (m-1) O
   have ⟨g2,k3,k4⟩:=get k hk
   have:=h.nd (m-1) k g1 g2 k1 k2 k3 k4 (ha.trans hb.symm)
   omega
  simp only [hmk,cNx]
  obtain ⟨ca,ta,h1⟩:=h.row a (azx ha)
  obtain ⟨cb,tb,h2⟩:=h.row b (azx hb)
  exact Ok a b ca cb ta tb w hne h1 h2
end Go.Proofs.YtghminnpfnkbjaaGreatDoor
namespace Go.Proofs.YtghminnpfnkbjaaGreatDoor
open Go.RowKit
def TY (al:List Addr):Array Value:=#[ev al 1,ev al 2,ev al 3,ev al 4,ev al 5,ev al 6,ev al 7,ev al 8,ev al 9,ev al 10,ev al 11,ev al 12,ev al 13,ev al 14,ev al 15,ev al 16,ev al 17,ev al 18,ev al 19,ev al 20,ev al 21,ev al 22,ev al 23,ev al 24,ev al 25,ev al 26,ev al 27,ev al 28]
theorem SG (al:List Addr) (k:Nat) (hk:k<28):(TY al)[k]?=some (ev al (k+1)):=by
 have:∀ k,k<28→(TY al)[k]?=some (ev al (k+1)):=by
  intro k hk
  match k,hk with
  | 0,_=>rfl
  | 1,_=>rfl
  | 2,_=>rfl
  | 3,_=>rfl
  | 4,_=>rfl
  | 5,_=>rfl
  | 6,_=>rfl
  | 7,_=>rfl
  | 8,_=>rfl
  | 9,_=>rfl
  | 10,_=>rfl
  | 11,_=>rfl
  | 12,_=>rfl
  | 13,_=>rfl
  | 14,_=>rfl
  | 15,_=>rfl
  | 16,_=>rfl
  | 17,_=>rfl
  | 18,_=>rfl
  | 19,_=>rfl
  | 20,_=>rfl
  | 21,_=>rfl
  | 22,_=>rfl
  | 23,_=>rfl
  | 24,_=>rfl
  | 25,_=>rfl
  | 26,_=>rfl
  | 27,_=>rfl
  | k+28,h=>omega
 exact this k hk
set_option maxRecDepth 100000 in
theorem RO {w:World} {al:List Addr} (h:Tk w al) (m:Nat) (hm:m≤28) :
  Calls prog 11 #[ev al m] w fun e w'=>e=.returned (.int .i64 m)∧Below w.heap.size w w':=by
 by_cases h0:m=0
 ·subst h0
  have e0:decide ((0:Nat)=0)=true:=rfl
  go_enter func11,ntmps11
  go_wp2
  go_ret
  exact ⟨rfl,Below.refl _ _⟩
 ·have hd:decide (m=0)=false:=by simpa using h0
  have g0:w.cell? ⟨0,0,none⟩=some (ev al 1):=h.var 0 _ rfl jD
  have g1:w.cell? ⟨1,0,none⟩=some (ev al 2):=h.var 1 _ rfl jD
  have g2:w.cell? ⟨2,0,none⟩=some (ev al 3):=h.var 2 _ rfl jD
  have g3:w.cell? ⟨3,0,none⟩=some (ev al 4):=h.var 3 _ rfl jD
  have g4:w.cell? ⟨4,0,none⟩=some (ev al 5):=h.var 4 _ rfl jD
  have g5:w.cell? ⟨5,0,none⟩=some (ev al 6):=h.var 5 _ rfl jD
  have g6:w.cell? ⟨6,0,none⟩=some (ev al 7):=h.var 6 _ rfl jD
  have g7:w.cell? ⟨7,0,none⟩=some (ev al 8):=h.var 7 _ rfl jD
  have g8:w.cell? ⟨8,0,none⟩=some (ev al 9):=h.var 8 _ rfl jD
  have g9:w.cell? ⟨9,0,none⟩=some (ev al 10):=h.var 9 _ rfl jD
  have g10:w.cell? ⟨10,0,none⟩=some (ev al 11):=h.var 10 _ rfl jD
  have g11:w.cell? ⟨11,0,none⟩=some (ev al 12):=h.var 11 _ rfl jD
  have g12:w.cell? ⟨12,0,none⟩=some (ev al 13):=h.var 12 _ rfl jD
  have g13:w.cell? ⟨13,0,none⟩=some (ev al 14):=h.var 13 _ rfl jD
  have g14:w.cell? ⟨14,0,none⟩=some (ev al 15):=h.var 14 _ rfl jD
  have g15:w.cell? ⟨15,0,none⟩=some (ev al 16):=h.var 15 _ rfl jD
  have g16:w.cell? ⟨16,0,none⟩=some (ev al 17):=h.var 16 _ rfl jD
  have g17:w.cell? ⟨17,0,none⟩=some (ev al 18):=h.var 17 _ rfl jD
  have g18:w.cell? ⟨18,0,none⟩=some (ev al 19):=h.var 18 _ rfl jD
  have g19:w.cell? ⟨19,0,none⟩=some (ev al 20):=h.var 19 _ rfl jD
  have g20:w.cell? ⟨20,0,none⟩=some (ev al 21):=h.var 20 _ rfl jD
  have g21:w.cell? ⟨21,0,none⟩=some (ev al 22):=h.var 21 _ rfl jD
  have g22:w.cell? ⟨22,0,none⟩=some (ev al 23):=h.var 22 _ rfl jD
  have g23:w.cell? ⟨23,0,none⟩=some (ev al 24):=h.var 23 _ rfl jD
  have g24:w.cell? ⟨24,0,none⟩=some (ev al 25):=h.var 24 _ rfl jD
  have g25:w.cell? ⟨25,0,none⟩=some (ev al 26):=h.var 25 _ rfl jD
  have g26:w.cell? ⟨26,0,none⟩=some (ev al 27):=h.var 26 _ rfl jD
  have g27:w.cell? ⟨27,0,none⟩=some (ev al 28):=h.var 27 _ rfl jD
  have HB:Hid (Below w.heap.size w (w.alloc (.cells (TY al) 37))):=(Below.refl _ _).alloc (ZA _) _
  have HS:Hid (Tk (w.alloc (.cells (TY al) 37)) al):=h.below HB.out
  have HC:Hid (∀ k,k<28→(w.alloc (.cells (TY al) 37)).cell? ⟨w.heap.size,k,none⟩=some (ev al (k+1))):=fun k hk=>by
   rw [World.cell?_alloc_mark]
   exact SG al k hk
  clear h
  go_enter func11,ntmps11
  go_wp2_with (refine Bj (o:=⟨some 36,_,_,_,_,_⟩) (.slice (some ⟨w.heap.size,0,none⟩) 28 28) (w.alloc (.cells (TY al) 37)) rfl (by kernel_rfl) ?_)
  clear g0 g1 g2 g3 g4 g5 g6 g7 g8 g9 g10 g11 g12 g13 g14 g15 g16 g17 g18 g19 g20 g21 g22 g23 g24 g25 g26 g27
  show Code.wp _ _ _ _ (w.alloc (.cells (TY al) 37))
  generalize hW:w.alloc (.cells (TY al) 37)=W at HB HS HC ⊢
  have HW:=Lib.hid hW
  clear hW
  go_loop [39] (fun i=>∃ k:Nat,k<m∧i=.int .i64 k) (fun i=>28-(intOf i).toNat)
  case atStart=>exact ⟨0,by omega,rfl⟩
  case round =>
   obtain ⟨k,hk,rfl⟩:=hrel
   have hc:=HC.out k O
   by_cases hlast:m=k+1
   ·subst hlast
    have C:=Lib.hid (Ol HS.out (k+1) k h0 hm O)
    go_wp2_with (go_at_call 33;refine (C.out).mono ?_;rintro e w' ⟨rfl,rfl⟩)
    go_ret
    exact ⟨by simp,HB.out⟩
   ·have hdd:decide (m=k+1)=false:=by simpa using hlast
    have C:=Lib.hid (Ol HS.out m k h0 hm O)
    go_wp2_with (go_at_call 33;refine (C.out).mono ?_;rintro e w' ⟨rfl,rfl⟩)
    go_round
    case rel=>exact ⟨k+1,by omega,by go_num⟩
    case measure=>simp [intOf];omega
end Go.Proofs.YtghminnpfnkbjaaGreatDoor
namespace Go.Proofs.YtghminnpfnkbjaaGreatDoor
namespace Am
open Go.RowKit
section
variable {gs:List Nat} [dO gs]
theorem NA (m:Nat) (hm:m≤28):cd gs prog 11 [.err m] (.c (.int .i64 m)) :=
 pX fun al w St vals hs hv hr=>by
  have h0:vals.getD 0 undef=ev al m:=hr 0
  rw [Tw hv,h0]
  exact RO hs.std m hm
end
section
variable {gs:List Nat} [ib gs]
theorem wA {gs:List Nat} (t:Int):cd gs prog 94 [.c (.int .i64 t)] (.c (.bool (bO t))):=by
 refine ae 17 func94 fun _ _ _ _=>?_;refine U 1216516 ?_;refine aH 5 (fun g31=>?_) fun g31=>?_
 ·refine U 8000700051100000000444444110000000044 ?_;refine cB ?_
  (simp [bO, *];done)
 refine U 150021 ?_;refine aH 9 (fun g31_2=>?_) fun g31_2=>?_
 ·refine U 8000700051100000000444444 ?_;refine cB ?_
  (simp [bO, *];done)
 refine U 121 ?_;refine aH 12 (fun g31_3=>?_) fun g31_3=>?_
 ·refine U 800070005150010000000021 ?_;refine cB ?_
  (simp [bO, *];done)
 refine U 800070005150050044 ?_;refine cB ?_
 (simp [bO, *];done)
theorem xk {gs:List Nat} (t:Int):cd gs prog 133 [.c (.int .i64 t)] (.c (.bool (bO t))):=by
 refine ae 17 func133 fun _ _ _ _=>?_;refine U 1216516 ?_;refine aH 5 (fun g13=>?_) fun g13=>?_
 ·refine U 8000700051100000000444444110000000044 ?_;refine cB ?_
  (simp [bO, *];done)
 refine U 150021 ?_;refine aH 9 (fun g13_2=>?_) fun g13_2=>?_
 ·refine U 8000700051100000000444444 ?_;refine cB ?_
  (simp [bO, *];done)
 refine U 121 ?_;refine aH 12 (fun g13_3=>?_) fun g13_3=>?_
 ·refine U 800070005150010000000021 ?_;refine cB ?_
  (simp [bO, *];omega)
 refine U 800070005150050044 ?_;refine cB ?_
 (simp [bO, *];done)
theorem M9 {gs:List Nat}:cd gs prog 237 [] (CE uA):=by
 refine ae 2 func237 fun _ _ _ _=>?_;refine U 6516 ?_
 refine aq (aM 9 1 rm fun p1=>?_)
 refine U 51 ?_;refine jE (freeze 0 rfl) ?_;refine jE (wZ 0 (uA) rfl rfl rfl rfl (fun j hj=>tB (uA) j hj)) ?_
 refine jR (eN (hv:=Z))
theorem DY {gs:List Nat} (t:Int):cd gs prog 197 [.c (.int .i64 t)] (.c (.bool (bH t))):=by
 refine ae 10 func197 fun _ _ _ _=>?_;refine U 16516 ?_
 refine aq (ak (wA _) ?_)
 refine U 1 ?_;refine aH 5 (fun g35=>?_) fun g35=>?_
 ·refine U 8000700051100000000444 ?_;refine cB ?_
  try rw [vw]
  (simp [bH,bO, *];done)
 refine aq (ak M9 ?_)
 refine U 1 ?_
 refine aq (ak (zo uA t) ?_)
 refine U 8000700051500 ?_;refine cB ?_
 try rw [vw]
 (simp [bH,bO, *];done)
theorem Jk {gs:List Nat} (t:Int):cd gs prog 211 [.c (.int .i64 t)] (.c (.bool (bH t))):=by
 refine ae 25 func211 fun _ _ _ _=>?_;refine U 16516 ?_
 refine aq (ak (xk _) ?_)
 refine U 1 ?_;refine aH 5 (fun g16=>?_) fun g16=>?_
 ·refine U 8000700051100000000441100000000441100000000441100000000444444 ?_;refine cB ?_
  (simp [bH,bO, *];done)
 refine U 121 ?_;refine aH 8 (fun g16_2=>?_) fun g16_2=>?_
 rotate_left
 ·refine U 150021150050044 ?_;refine aH 17 (fun g16_3=>?_) fun g16_3=>?_
  ·refine U 800070005110000000044110000000044 ?_;refine cB ?_
   (simp [bH,bO, *];done)
  refine U 150021 ?_;refine aH 21 (fun g16_4=>?_) fun g16_4=>?_
  ·refine U 800070005110000000044 ?_;refine cB ?_
   (simp [bH,bO, *];done)
  refine U 800070005150021 ?_;refine cB ?_
  (simp [bH,bO, *];done)
 refine U 150010000000021 ?_;refine aH 13 (fun g16_3=>?_) fun g16_3=>?_
 ·refine U 800070005110000000044110000000044110000000044 ?_;refine cB ?_
  (simp [bH,bO, *];done)
 refine U 150021 ?_;refine aH 17 (fun g16_4=>?_) fun g16_4=>?_
 ·refine U 800070005110000000044110000000044 ?_;refine cB ?_
  (simp [bH,bO, *];done)
 refine U 150021 ?_;refine aH 21 (fun g16_5=>?_) fun g16_5=>?_
 ·refine U 800070005110000000044 ?_;refine cB ?_
  (simp [bH,bO, *];done)
 refine U 800070005150021 ?_;refine cB ?_
 (simp [bH,bO, *];done)
theorem Hi {gs:List Nat} (n:Nat) (hn:n<4294967296):cd gs prog 152 [.c (.int .i64 n)] (bc (ie n)):=by
 refine ae 50 func152 fun _ _ _ _=>?_;refine U 52167516 ?_;refine an (fun h21=>?_) fun h21=>?_
 ·refine U 80000016 ?_
  refine aq (aM 1 1 da fun p1=>?_)
  refine U 51 ?_;refine jE (freeze 0 rfl) ?_;refine jE (ja 2 ([b8 n]) rfl rfl rfl rfl (.cons (cI ((by rw [fC];omega))) .nil)) ?_
  refine jR (l9 (eN (hv:=aa.bs (by unfold ie;rw [jP]))))
 refine U 52167810 ?_;refine an (fun h24=>?_) fun h24=>?_
 ·refine U 80000016 ?_
  refine aq (aM 2 1 da fun p1=>?_)
  refine U 51 ?_;refine jE (freeze 0 rfl) ?_;refine jE (ja 2 ([129,b8 n]) rfl rfl rfl rfl (.cons (cI (rfl)) (.cons (cI ((by rw [fC];omega))) .nil))) ?_
  refine jR (l9 (eN (hv:=aa.bs (by unfold ie;rw [jK,jP]))))
 refine U 52167810 ?_;refine an (fun h27=>?_) fun h27=>?_
 ·refine U 8000001000000180000060000016 ?_
  refine aq (aM 3 1 da fun p1=>?_)
  refine U 51 ?_;refine jE (freeze 0 rfl) ?_;refine jE (ja 2 ([130,b8 (n / 256),b8 n]) rfl rfl rfl rfl (.cons (cI (rfl)) (.cons (cI ((by rw [fC];omega))) (.cons (cI ((by rw [fC];omega))) .nil)))) ?_
  refine jR (l9 (eN (hv:=aa.bs (by unfold ie;rw [jK,jK,jP]))))
 refine U 52167810 ?_;refine an (fun h30=>?_) fun h30=>?_
 ·refine U 800000100000018000001000000600000180000060000016 ?_
  refine aq (aM 4 1 da fun p1=>?_)
  refine U 51 ?_;refine jE (freeze 0 rfl) ?_;refine jE (ja 2 ([131,b8 (n / 65536),b8 (n / 256),b8 n]) rfl rfl rfl rfl (.cons (cI (rfl)) (.cons (cI ((by rw [fC];omega))) (.cons (cI ((by rw [fC];omega))) (.cons (cI ((by rw [fC];omega))) .nil))))) ?_
  refine jR (l9 (eN (hv:=aa.bs (by unfold ie;rw [jK,jK,jK,jP]))))
 refine U 80000010000001800000100000060000018000001000000600000180000060000016810 ?_
 refine aq (aM 5 1 da fun p1=>?_)
 refine U 51 ?_;refine jE (freeze 0 rfl) ?_;refine jE (ja 2 ([132,b8 (n / 16777216),b8 (n / 65536),b8 (n / 256),b8 n]) rfl rfl rfl rfl (.cons (cI (rfl)) (.cons (cI ((by rw [fC];omega))) (.cons (cI ((by rw [fC];omega))) (.cons (cI ((by rw [fC];omega))) (.cons (cI ((by rw [fC];omega))) .nil)))))) ?_
 refine jR (eN (hv:=aa.bs (by unfold ie;rw [jK,jK,jK,jK])))
def wd (n k:Nat):I:=(List.range k).map fun i=>b8 (n / 256 ^ i)
theorem Ap (n k:Nat):wd n (k+1)=wd n k++[b8 (n / 256 ^ k)]:=by simp [wd,bSx]
theorem DU (n k:Nat):(wd n k).length=k:=by simp [wd]
theorem Av {gs:List Nat} (n:Nat) (hn:n<65536):cd gs prog 198 [.c (.int .i64 n)] (bc (ie n)):=by
 refine ae 28 func198 fun _ _ _ _=>?_;refine U 52167516 ?_;refine an (fun h39=>?_) fun h39=>?_
 ·refine U 80000016 ?_
  refine aq (aM 1 1 da fun p1=>?_)
  refine U 51 ?_;refine jE (freeze 0 rfl) ?_;refine jE (ja 2 ([b8 n]) rfl rfl rfl rfl (.cons (cI ((by rw [fC];omega))) .nil)) ?_
  refine jR (l9 (eN (hv:=aa.bs (by unfold ie;rw [jP]))))
 refine U 207516810 ?_;refine jE (mw 3 1 (aV []) rfl) ?_;refine ar (α:=Nat×Option Nat) [0,3,9,10,11,12,13,14,15,16,17] (fun (k,g)=>[(0,.c (.int .i64 ((n / 256 ^ k:Nat):Int))),(3,.os 0 g 0 (wd n k).length 1)]) (fun (k,g)=>[(g,.blk (wd n k).length (aV (wd n k)))]) (fun k=>k.1=0∨k.1=1∨(k.1=2∧256≤n)) (fun k=>2-k.1) ((0,none)) ?_ (fun _=>rfl) ?_ ?_ ?_
 exact .inl rfl
 exact .cons (cI (by simp)) (.cons Z .nil)
 exact .same .nil
 ·rintro ⟨k,g'⟩ (hk:k=0∨k=1∨(k=2∧256≤n))
  refine U 52167 ?_;refine an (fun h43=>?_) fun h43=>?_
  ·refine U 207810 ?_
   have hlk:=DU n k
   have hk3:k≤2:=by omega
   refine U 11200 ?_;refine jq (zg .i64 .u8) ?_
   refine aq (aM 1 1 da fun p1=>?_)
   refine aw (ay (l2:=[b8 (n / 256 ^ k)]) rfl rfl rfl (ZA _) (fun _ _=>Z) (aI rfl (.inl rfl) jD) rfl (bz (.cons (cI ((by rw [fC];generalize n / 256 ^ k=q;(simp only [IntKind.wrap_u8];omega)))) .nil)) underlying23 dV fR da jt rfl (by (simp;omega)) (cp rfl rfl) rfl rfl (fun p2=>?_))
   refine U 1200840051 ?_;refine jq (gP rfl rfl rfl (by omega) _ rfl) ?_;refine U 851 ?_
   refine am ((k+1,p2)) ?_ ?_ (h5:=?_) (h7:=?_)
   ·show k+1=0∨k+1=1∨(k+1=2∧256≤n)
    rcases hk with rfl|rfl|⟨rfl,h2⟩
    omega
    ·simp at h43;omega
    ·simp at h43;omega
   ·show 2-(k+1)<2-k
    rcases hk with rfl|rfl|⟨rfl,h2⟩
    omega
    omega
    ·simp at h43;omega
   ·simp only [Ap]
    exact .cons (cI (by rw [bNx,← bOx,aix _ jD];rfl)) (.cons Z .nil)
   ·simp only [Ap]
    exact .same .nil
  refine U 84000200020006000 ?_
  have hlk:=DU n k
  have hk3:k≤2:=by omega
  refine U 80000093116 ?_
  refine aq (aM 1 1 da fun p1=>?_)
  refine aw (ay (l2:=[b8 (128+k)]) rfl rfl rfl (ZA _) (fun _ _=>Z) (aI rfl (.inl rfl) jD) rfl (bz (.cons (cI ((by rw [fC];simp only [hlk];omega))) .nil)) underlying23 dV fR da jt rfl (by (simp;omega)) (cp rfl rfl) rfl rfl (fun p2=>?_))
  refine U 1651 ?_
  refine aw (aN 0 (mm _ (wd n k++[b8 (128+k)]) (by simp [hlk];omega)) ?_)
  refine U 51165 ?_;refine jE (freeze 0 rfl) ?_;refine jE (er 2 ((wd n k++[b8 (128+k)]).reverse) rfl rfl (by simp) rfl) ?_;refine U 80007000 ?_;refine aa.bs ?_
  rcases hk with rfl|rfl|⟨rfl,h2⟩
  ·simp at h43;omega
  ·simp at h43
   unfold ie
   rw [jK,jP]
   simp [wd,bSx]
   rfl
  ·unfold ie
   rw [jK,jK,jP]
   simp [wd,bSx]
   rfl
def X1 (tag:Nat) (body:I):CV:=.agg 2 (fl [.c (.int .i64 tag),bc body])
theorem FY (b:I):cd gs prog 209 [bc b] (.tup 3 (fl [.c (.int .i64 (cm b).n),bc (cm b).rest,.err (cm b).e])):=by
 refine ae 67 func209 fun _ _ _ _=>?_;refine U 52316751116 ?_;refine an (fun h72=>?_) fun h72=>?_
 ·refine ia ?_;refine dQ (.rd 0 (.rd 1 (.rd 2 (.rd 3 .done)))) ?_;refine aJ (cK 1) ?_;refine U 800030007000880707070 ?_
  have:b.length=0:=by omega
  unfold cm
  rw [Zz this]
  exact aa.tup3 Z cN Z
 refine U 7810 ?_;refine dQ (.rd 0 (.rd 1 (.rd 2 (.rd 3 (.rd 4 (.rd 5 (.rd 6 (.rd 7 .done)))))))) ?_;refine U 70 ?_;refine aJ (dP (i:=0)) ?_;refine aJ kF ?_;refine aJ (r9 .i64) ?_;refine U 70 ?_;refine aJ (o0 (hz1:=(show (1:Int)=((1:Nat):Int) from rfl))) ?_;refine U 78807070 ?_
 obtain ⟨c,hc⟩:∃ c,c=(b.getD 0 0).toNat:=⟨_,rfl⟩
 obtain ⟨r,hr⟩:∃ r,r=b.drop 1:=⟨_,rfl⟩
 have c8:c<256:=by rw [hc];exact (b.getD 0 0).toNat_lt
 have hM:=xS O hc hr
 refine jE (bj 5 (.c (.int .i64 (c:Nat))) (cI (by rw [hc]))) ?_;refine jE (bj 0 (bc r) (aa.bs hr.symm)) ?_;refine U 5216 ?_;refine an (fun h76=>?_) fun h76=>?_
 ·refine U 8000300070005111116 ?_
  rw [hM,jP]
  exact aa.tup3 Z Z aa.nil
 refine U 121620751916810 ?_;refine aH 29 (fun g81=>?_) fun g81=>?_
 ·refine U 790005110000000044 ?_;refine dQ (.rd 0 (.rd 1 (.rd 2 (.rd 3 .done)))) ?_;refine U 80003000500070008807070704000000 ?_
  rw [hM,jK,jP]
  exact aa.tup3 Z cN Z
 refine U 5150021 ?_;refine an (fun h81=>?_) fun h81=>?_
 ·refine ia ?_;refine dQ (.rd 0 (.rd 1 (.rd 2 (.rd 3 .done)))) ?_;refine U 80003000500070008807070704000000 ?_
  rw [hM,jK,jP]
  exact aa.tup3 Z cN Z
 refine U 5121316 ?_;refine an (fun h83=>?_) fun h83=>?_
 ·refine ia ?_;refine dQ (.rd 0 (.rd 1 (.rd 2 (.rd 3 .done)))) ?_;refine aJ (cK 1) ?_;refine U 8000300050007000880707070 ?_
  rw [hM,jK,jK,jP]
  exact aa.tup3 Z cN Z
 refine U 840010 ?_
 obtain ⟨w,hw⟩:∃ w,w=c-128:=⟨_,rfl⟩
 have hwr:w≤r.length:=by omega
 refine jE (bj 6 (.c (.int .i64 (w:Nat))) (cI O)) ?_;refine U 7516 ?_
 have htl:(r.take w).length=w:=by simp;omega
 refine U 2051390000000116 ?_;refine ar (α:=Nat) [7,9,44,45,46,47,48,49,50,51,52,53] (fun i=>[(7,.c (.int .i64 (mY ((r.take w).take i):Nat))),(44,.c (.int .i64 (i:Nat)))]) (fun _=>[]) (fun i=>i≤w) (fun i=>w-i) (0) ?_ (fun _=>rfl) ?_ ?_ ?_
 exact ZL _
 ·(repeat (first|exact bh.nil|refine bh.cons Z ?_))
 ·(repeat (exact aD.nil))
 ·rintro i (hi:i≤w)
  have htl:(r.take w).length=w:=by simp;omega
  refine U 7526 ?_;refine an (fun h87=>?_) fun h87=>?_
  ·refine U 207810 ?_
   have htl:(r.take w).length=w:=by simp;omega
   refine U 51607006 ?_
   have hbn:=GM ((r.take w).take i)
   have hbl:((r.take w).take i).length=i:=by simp;omega
   have hb3:mY ((r.take w).take i)<16777216:=by
    rw [hbl] at hbn
    have:i≤3:=by omega
    have:=apx (n:=256) jD this
    omega
   have hc8:=((r.take w).getD i 0).toNat_lt
   refine U 1200 ?_;refine jq (jh rfl rfl rfl (by omega) (((mY ((r.take w).take i) * 256:Nat):Int)) ((by show IntKind.i64.wrap (((mY ((r.take w).take i):Nat):Int) * 2 ^ 8)=_;rw [IntWalk.i64_in _ O];omega))) ?_;refine U 8400519700000001 ?_
   have htl:(r.take w).length=w:=by simp;omega
   refine U 8519200 ?_
   refine am (i+1) ?_ ?_ (h5:=?_)
   show i+1≤w;omega
   omega
   exact .cons (cI (by rw [EZ O];omega)) (.cons Z .nil)
  refine U 784000200020006000 ?_
  have hiw:i=w:=by omega
  have htt:(r.take w).take i=r.take (c-128):=by rw [hiw,hw,List.take_take,Nat.min_self]
  refine jE (bj 7 (.c (.int .i64 (mY (r.take (c-128)):Nat))) (cI (by rw [htt]))) ?_;refine U 1216 ?_;refine aH 56 (fun g90=>?_) fun g90=>?_
  ·refine U 7900051000000004444 ?_;refine dQ (.rd 0 (.rd 1 (.rd 2 (.rd 3 .done)))) ?_;refine U 8000300070008807070704000000 ?_
   rw [hM,jK,jK,jK,jP]
   exact aa.tup3 Z cN Z
  refine U 550026020000001 ?_;refine an (fun h90=>?_) fun h90=>?_
  ·refine ia ?_;refine dQ (.rd 0 (.rd 1 (.rd 2 (.rd 3 .done)))) ?_;refine U 8000300070008807070704000000 ?_
   rw [hM,jK,jK,jK,jP]
   exact aa.tup3 Z cN Z
  refine U 7810 ?_;refine dQ (.rd 0 (.rd 1 (.rd 2 (.rd 3 (.rd 4 (.rd 5 (.rd 6 .done))))))) ?_;refine U 707070 ?_;refine aJ o0 ?_;refine U 80007000880707070 ?_
  rw [hM,jK,jK,jK,jK]
  refine aa.tup3 Z (aa.bs ?_) aa.nil
  rw [hw]
theorem BU (b:I) (hb:b.length≤10000000):cd gs prog 169 [bc b] (.tup 3 (fl [X1 (ah b).tag (ah b).body,bc (ah b).rest,.err (ah b).e])):=by
 have hml:=rY (b.drop 1)
 refine ae 56 func169 fun _ _ _ _=>?_;refine eA ?_
 refine aq (dh (n:=2) gH rfl fun p1=>?_)
 refine U 523167511 ?_;refine an (fun h98=>?_) fun h98=>?_
 ·refine ia ?_;refine lQ (.rd 0 (.rd 1 (.one 2 (.rd 3 (.rd 4 .done))))) ?_;refine jy (au (n:=2) rfl gH ro rfl rfl) ?_;refine jy (cK 1) ?_
  refine lP (bn 2 ?_)
  refine U 8700000400000400000 ?_
  refine jR (l9 (eN (hres:=eP rfl (f5 2) bo bo) (hv:=?_)))
  have:b.length=0:=by omega
  unfold ah
  rw [Zz this]
  exact aa.tup3 (aa.agg2 Z cN) cN Z
 refine U 7517000000060200000016810 ?_
 obtain ⟨t,ht⟩:∃ t,t=(b.getD 0 0).toNat:=⟨_,rfl⟩
 refine jE (bj 5 (.c (.int .i64 (t:Nat))) (cI (by rw [ht]))) ?_;refine U 16 ?_
 refine aq (ak (DY _) ?_)
 refine U 530 ?_;refine an (fun h102=>?_) fun h102=>?_
 ·refine ia ?_;refine lQ (.rd 0 (.rd 1 (.one 2 (.rd 3 (.rd 4 .done))))) ?_;refine jy (au (n:=2) rfl gH ro rfl rfl) ?_;refine jy (cK 4) ?_
  refine lP (bn 2 ?_)
  refine U 8700000400000400000 ?_
  refine jR (l9 (eN (hres:=eP rfl (f5 2) bo bo) (hv:=?_)))
  have hk:bH (t:Nat)=false:=by simpa using h102
  unfold ah
  rw [jK,Zz (by rw [← ht];exact hk)]
  exact aa.tup3 (aa.agg2 Z cN) cN Z
 refine U 810 ?_
 have hk:bH (t:Nat)=true:=by simpa using h102
 have hN:=DN O ht hk rfl
 refine U 16 ?_;refine jq (o0 (hz1:=(show (1:Int)=((1:Nat):Int) from rfl))) ?_
 refine aq (ak (FY _) ?_)
 refine U 515000001620751119009009001 ?_;refine an (fun h107=>?_) fun h107=>?_
 ·refine eA ?_;refine jq (au (n:=2) rfl gH ro rfl rfl) ?_;refine U 1 ?_
  refine aw (bn 2 ?_)
  refine U 511 ?_
  refine jR (Oh (l9 (eN (hres:=eP rfl (f5 2) bo bo) (hv:=?_))))
  rw [hN,jP]
  exact aa.tup3 (aa.agg2 Z cN) cN Z
 refine U 51216 ?_;refine an (fun h109=>?_) fun h109=>?_
 ·refine ia ?_;refine lQ (.rd 0 (.rd 1 (.one 2 (.rd 3 (.rd 4 .done))))) ?_;refine jy (au (n:=2) rfl gH ro rfl rfl) ?_;refine jy (cK 2) ?_
  refine lP (bn 2 ?_)
  refine U 8700000400000400000 ?_
  refine jR (Oh (l9 (eN (hres:=eP rfl (f5 2) bo bo) (hv:=?_))))
  rw [hN,jK,jP]
  exact aa.tup3 (aa.agg2 Z cN) cN Z
 refine U 5123116 ?_;refine an (fun h111=>?_) fun h111=>?_
 ·refine ia ?_;refine lQ (.rd 0 (.rd 1 (.one 2 (.rd 3 (.rd 4 .done))))) ?_;refine jy (au (n:=2) rfl gH ro rfl rfl) ?_;refine jy (cK 1) ?_
  refine lP (bn 2 ?_)
  refine U 8700000400000400000 ?_
  refine jR (Oh (l9 (eN (hres:=eP rfl (f5 2) bo bo) (hv:=?_))))
  rw [hN,jK,jK,jP]
  exact aa.tup3 (aa.agg2 Z cN) cN Z
 refine U 7840010 ?_;refine mT 10 (.rd 0 (.rd 1 (.rd 2 (.rd 3 (.rd 6 (.rd 7 (.rd 8 (.one 4 (.rd 5 (.one 9 .done)))))))))) ?_;refine U 707070 ?_;refine aJ D5 ?_;refine U 7070 ?_;refine aJ o0 ?_
 refine gp (ak (lD ((cm (b.drop 1)).rest.take (cm (b.drop 1)).n) (by rw [ZK];have:=hml.1;rw [ZI] at this;omega)) ?_)
 refine aJ (au (n:=2) rfl gH ro rfl rfl) ?_
 refine gp (ak (lD ((cm (b.drop 1)).rest.drop (cm (b.drop 1)).n) (by rw [ZI];have:=hml.1;rw [ZI] at this;omega)) ?_)
 refine Az ?_
 show cQ _ _ _ _ _ _
 refine aw (bn 2 ?_)
 refine U 8511 ?_
 refine jR (eN (hres:=eP rfl (f5 2) bo bo) (hv:=?_))
 rw [hN,jK,jK,jK]
 exact aa.tup3 (aa.agg2 Z Z) Z aa.nil
theorem qz (rec:Nat→I→Nat×Nat) (set:Bool) (lv fuel:Nat) (last:I) (dp:Nat):fZ rec set lv fuel [] last dp=(dp,0):=by
 cases fuel<;>simp [fZ]
theorem cg (rec:Nat→I→Nat×Nat) (set:Bool) (lv fuel:Nat) (b last:I) (dp:Nat) (hb:0<b.length) (hf:b.length≤fuel):fZ rec set lv fuel b last dp =
  if (ah b).e≠0 then (0,(ah b).e) else
  if lv≤1 then (0,6) else
  if (rec (ah b).tag (ah b).body).2≠0 then (0,(rec (ah b).tag (ah b).body).2) else
  if set=true∧Op.bytesLess (b.take (b.length-(ah b).rest.length)) last=true then (0,7) else
  fZ rec set lv (fuel-1) (ah b).rest (b.take (b.length-(ah b).rest.length)) (max dp ((rec (ah b).tag (ah b).body).1+1)):=by
 obtain ⟨m,rfl⟩:∃ m,fuel=m+1:=⟨fuel-1,by omega⟩
 rw [fZ,jK]
 rfl
structure WS where
 f:Nat
 b:I
 last:I
 dp:Nat
theorem LJ:∀ (lv tag:Nat) (body:I),lv<16→body.length≤1000000→cd gs prog 191 [X1 tag body,.c (.int .i64 ((lv+1:Nat):Int))] (.tup 2 (fl [.c (.int .i64 (be (lv+1) tag body).1),.err (be (lv+1) tag body).2])):=by
 intro lv
 induction lv using Nat.strongRecOn with
 | _ lv ih =>
 intro tag body hlv hbody
 have ih':1≤lv→∀ (tag:Nat) (body:I),body.length≤1000000→cd gs prog 191 [X1 tag body,.c (.int .i64 (lv:Nat))] (.tup 2 (fl [.c (.int .i64 (be lv tag body).1),.err (be lv tag body).2])):=fun h tag body hb=>by
  have:=ih (lv-1) O tag body O hb
  rwa [show lv-1+1=lv by omega] at this
 have hR:∀ t b,(be lv t b).1≤lv+1∧(be lv t b).2≤7:=fun t b=>uh lv t b
 refine ae 70 func191 fun _ _ _ _=>?_;refine eA ?_
 refine aq (ee 2 fun p1=>?_)
 refine U 509067516511 ?_
 refine aq (ak (wA _) ?_)
 refine U 530 ?_;refine an (fun h134=>?_) fun h134=>?_
 ·refine U 80003000700051116 ?_
  have hmd:bO (tag:Nat)=false:=aex h134
  rw [be,Zz hmd]
  exact cT Z aa.nil
 refine U 810 ?_
 have hmd:bO (tag:Nat)=true:=abx (Decidable.not_not.1 h134)
 have hw0:be (lv+1) tag body=fZ (be lv) (decide (tag=49)) (lv+1) body.length body [] 1:=by
  rw [be,Zy (by rw [hmd];exact Bool.noConfusion)]
 refine U 20515010067516 ?_;refine ar (α:=WS×Option Nat) [4,5,6,7,8,9,10,11,12,13,21,22,23,24,25,26,27,28,29,30,31,32,33,34,35,36,37,38,39,40,41,42,43,44,45,46,47,48,49,50,51,52,53,54,55,56,57,58,59,60,61,62,63,64,65,66,67,68] (fun (x,g)=>[(6,.c (.int .i64 (x.dp:Nat))),(7,bc x.last),(8,bc x.b)]) (fun (x,g)=>[(p1,.blk 2 (fl [.c (.int .i64 tag),bc body]))]) (fun x=>x.1.b.length≤x.1.f∧x.1.b.length≤1000000∧x.1.dp≤lv+2∧fZ (be lv) (decide (tag=49)) (lv+1) x.1.f x.1.b x.1.last x.1.dp=be (lv+1) tag body) (fun x=>x.1.f) ((⟨body.length,body,[],1⟩,none)) ?_ (fun _=>rfl) ?_ ?_ ?_
 exact ⟨ZA _,hbody,by show 1≤lv+2;omega,hw0.symm⟩
 exact .cons Z (.cons cN (.cons Z .nil))
 exact .same .nil
 ·rintro ⟨x,g'⟩ ⟨hxf,hxb',hdp,hw⟩
  dsimp only at hxf hxb' hdp hw
  have hxb:x.b.length≤10000000:=by omega
  have hnb:=gT x.b
  refine U 523167 ?_;refine aaa (fun h138=>?_) fun h138=>?_
  ·refine U 800070005111684000200020006000 ?_
   have hnil:x.b=[]:=Z5 O
   rw [← hw,hnil,qz]
   exact cT Z aa.nil
  refine U 1620810 ?_
  refine aq (ak (BU x.b hxb) ?_)
  refine U 9009009001 ?_
  refine aq (dh (n:=2) gH rfl fun p2=>?_)
  refine aw (bn 2 ?_)
  refine U 5500000167511 ?_;refine an (fun h140=>?_) fun h140=>?_
  ·refine U 800030005000300050003000700051116 ?_
   rw [← hw,cg _ _ _ _ _ _ _ O hxf,Zz h140]
   exact Z
  refine U 52167810 ?_;refine an (fun h143=>?_) fun h143=>?_
  ·refine ia ?_;refine dQ (.rd 0 (.rd 1 (.rd 2 .done))) ?_;refine aJ (cK 5) ?_;refine U 80003000500030005000300070008807070 ?_
   rw [← hw,cg _ _ _ _ _ _ _ O hxf,Zy h140,jP]
   exact Z
  refine U 6810 ?_;refine kj (bD 2) ?_;refine U 91 ?_
  refine aq (ak (ih' O (ah x.b).tag (ah x.b).body O) ?_ (ho:=rfl) (he:=(.cons (se rfl (aa.agg2 Z Z)) (.cons (se rfl (cI O)) .nil))))
  refine U 75119009001 ?_
  have hRx:=hR (ah x.b).tag (ah x.b).body
  refine U 550000016 ?_;refine an (fun h147=>?_) fun h147=>?_
  ·refine U 800030005000300050003000700051116 ?_
   rw [← hw,cg _ _ _ _ _ _ _ O hxf,Zy h140,jK,Zz h147]
   exact Z
  refine U 9313116810 ?_;refine jq (D5 (hz2:=(show _=(((x.b.length-(ah x.b).rest.length):Nat):Int) by omega))) ?_;refine U 1250906751 ?_;refine aH 56 (fun g151=>?_) fun g151=>?_
  rotate_left
  ·refine U 911681030055004444 ?_;refine jq (Hn rfl rfl rfl) ?_;refine U 84005111120051 ?_
   refine am ((⟨x.f-1,(ah x.b).rest,x.b.take (x.b.length-(ah x.b).rest.length),max x.dp ((be lv (ah x.b).tag (ah x.b).body).1+1)⟩,none)) ?_ ?_ (h5:=?_) (h7:=?_)
   ·exact ⟨by dsimp only;omega,by dsimp only;omega,by dsimp only;omega,by
     dsimp only
     rw [← hw,cg _ _ _ _ _ _ _ O hxf,Zy h140,jK,Zy h147,Zy (by
      rintro ⟨h1,h2⟩
      have h1:=a9x h1
      rw [← qT] at h2
      have h2:=a9x h2
      omega)]⟩
   ·dsimp only
    omega
   exact .cons (cI (by dsimp only;omega)) (.cons Z (.cons Z .nil))
   exact .same .nil
  refine U 11 ?_
  refine aq (ak (ES (x.b.take (x.b.length-(ah x.b).rest.length)) x.last) ?_)
  refine U 51000000002 ?_;refine an (fun h151=>?_) fun h151=>?_
  ·refine ia ?_;refine dQ (.rd 0 (.rd 1 (.rd 2 .done))) ?_;refine aJ (cK 6) ?_;refine U 80003000500030005000300070008807070 ?_
   rw [← hw,cg _ _ _ _ _ _ _ O hxf,Zy h140,jK,Zy h147,Zz ⟨abx O,by rw [← qT];exact abx O⟩]
   exact Z
  refine U 9116810 ?_;refine jq (Hn rfl rfl rfl) ?_;refine U 84005111120051 ?_
  refine am ((⟨x.f-1,(ah x.b).rest,x.b.take (x.b.length-(ah x.b).rest.length),max x.dp ((be lv (ah x.b).tag (ah x.b).body).1+1)⟩,none)) ?_ ?_ (h5:=?_) (h7:=?_)
  ·exact ⟨by dsimp only;omega,by dsimp only;omega,by dsimp only;omega,by
    dsimp only
    rw [← hw,cg _ _ _ _ _ _ _ O hxf,Zy h140,jK,Zy h147,Zy (by
     rintro ⟨h1,h2⟩
     have h1:=a9x h1
     rw [← qT] at h2
     have h2:=a9x h2
     omega)]⟩
  ·dsimp only
   omega
  exact .cons (cI (by dsimp only;omega)) (.cons Z (.cons Z .nil))
  exact .same .nil
theorem Pr (b:I) (hb:b.length≤10000000):cd gs prog 147 [bc b] (.tup 2 (fl [.c (.int .i64 (aR b).1),.err (aR b).2])):=by
 have hnb:=gT b
 refine ae 30 func147 fun _ _ _ _=>?_;refine U 5231675116 ?_;refine an (fun h162=>?_) fun h162=>?_
 ·refine ia ?_;refine dQ (.rd 0 (.rd 1 (.rd 2 .done))) ?_;refine aJ (cK 2) ?_;refine U 8000300070008807070 ?_
  unfold aR
  rw [jP]
  exact Z
 refine U 16810 ?_
 refine aq (ak (BU b hb) ?_)
 refine U 9009009001 ?_
 refine aq (dh (n:=2) gH rfl fun p1=>?_)
 refine aw (bn 2 ?_)
 refine U 5150000016207511 ?_;refine an (fun h167=>?_) fun h167=>?_
 ·refine U 800030005000700051116 ?_
  unfold aR
  rw [jK,jP]
  exact Z
 refine U 512316 ?_;refine an (fun h169=>?_) fun h169=>?_
 ·refine ia ?_;refine dQ (.rd 0 (.rd 1 (.rd 2 .done))) ?_;refine U 800030005000700088070704000000 ?_
  unfold aR
  rw [jK,jK,jP]
  exact Z
 refine U 6840010 ?_;refine kj (bD 2) ?_
 refine aq (ak (LJ 15 (ah b).tag (ah b).body O O) ?_ (ho:=rfl) (he:=(.cons (se rfl (aa.agg2 Z Z)) (.cons (se rfl Z) .nil))))
 refine U 80007000511900900 ?_
 unfold aR
 rw [jK,jK,jK]
 exact Z
theorem yC (b:I) (hb:b.length≤10000000):cd gs prog 83 [bc b] (.err (aR b).2):=by
 refine ae 11 func83 fun _ _ _ _=>?_;refine U 16516 ?_
 refine aq (ak (Pr b hb) ?_)
 refine U 51165119009001 ?_
 refine jR eN
theorem QW {gs:List Nat} (tag:Int) (body:I) (ht:0≤tag∧tag<256) (hb:body.length≤10000000):cd gs prog 88 [.c (.int .i64 tag),bc body] (bc (bB tag body)):=by
 have hl:=qB body.length
 refine ae 14 func88 fun _ _ _ _=>?_;refine U 80000016516 ?_
 refine aq (aM 1 1 da fun p1=>?_)
 refine U 31 ?_
 refine aq (ak (Hi body.length O) ?_)
 refine aA (dt 0 rfl (ZA _) (fun _=>rfl) (AR (l2:=[b8 tag.toNat]) (.cons (cI ((by rw [fC];omega))) .nil))) ?_
 refine aw (ay (l:=[b8 tag.toNat]) rfl rfl rfl (ZA _) (fun _ _=>Z) (cX rfl) rfl (fun j hj=>by simp only [anx];exact Z) underlying23 dV fR da jt rfl (by (simp;omega)) (fun j hj=>rfl) rfl rfl (fun p2=>?_))
 refine U 1 ?_
 refine aw (ay rfl rfl rfl (ZA _) (fun _ _=>Z) (cX rfl) rfl (fun j hj=>by simp only [anx];exact Z) underlying23 dV fR da jt rfl (by (simp;omega)) (fun j hj=>rfl) rfl rfl (fun p3=>?_))
 refine U 51 ?_;refine jE (freeze 0 rfl) ?_;refine jE (er 4 ([b8 tag.toNat]++ie body.length++body) rfl rfl (by rfl) rfl) ?_
 refine jR (eN (hv:=aa.bs (by simp [bB,b8])))
theorem OI {gs:List Nat} (n:Nat) (hn:n≤100000000000):AC gs prog 205 [] [.c (.slice none 0 0),.c (.int .i64 (n:Nat))] (ss 0 1 0 fun _=>.top):=by
 refine ae 27 func205 fun _ _ _ _=>?_;refine U 52167516 ?_;refine an (fun h423=>?_) fun h423=>?_
 ·exfalso;omega
 refine U 1167810 ?_;refine jq (Hq rfl rfl underlying23) ?_;refine U 5216519931 ?_;refine aaa (fun h426=>?_) fun h426=>?_
 ·refine U 810 ?_;refine jE (mw 0 1 (fun _=>.top) rfl) ?_;refine U 70005116 ?_
  exact nA 0 (.inl rfl) (aK rfl (ai rfl)) rfl rfl (ZA _) (fun _=>rfl) (fun j hj=>absurd hj (ZO j))
 refine U 11200 ?_;refine jq (Hq rfl rfl underlying23) ?_;refine jq (Jr rfl rfl underlying23 fR (bv _ _) (ci rfl (show _=((0:Nat):Int) by omega)) (by omega) (by omega)) ?_;refine U 1 ?_
 refine aq (VL (F:=fun _=>.top) rfl rfl rfl (show _=((n:Nat):Int) by omega) (by omega) underlying23 underlying3 fR jD da jt (by omega) (by omega) rfl rfl rfl (fun p1=>?_))
 refine U 31 ?_;refine jq (Gb (hl:=(bv _ _)) (hu:=(ci rfl (show _=((0:Nat):Int) by omega)))) ?_;refine U 851 ?_
 skip
 refine U 70005116 ?_
 exact nA 0 (.inl rfl) (aK rfl (ai rfl)) rfl rfl (ZA _) (fun _=>rfl) (fun j hj=>absurd hj (ZO j))
theorem oB {gs:List Nat} (ls:Zx) (h:cw ls≤10000000000) (hl:ls.length≤1000000):cd gs prog 164 [we ls] (bc ls.flatten):=by
 refine ae 36 func164 fun _ _ _ _=>?_;refine U 20513167516516 ?_;refine ar (α:=Nat) [3,5,11,12,13,14,15,16,17,18,19,20,21,22] (fun i=>[(3,.c (.int .i64 (cw (ls.take i):Nat))),(11,.c (.int .i64 (i:Nat)))]) (fun _=>[]) (fun i=>i≤ls.length) (fun i=>ls.length-i) (0) ?_ (fun _=>rfl) ?_ ?_ ?_
 exact ZL _
 exact .cons Z (.cons Z .nil)
 ·(repeat (exact aD.nil))
 ·rintro i (hi:i≤ls.length)
  refine U 7526 ?_;refine an (fun h493=>?_) fun h493=>?_
  ·refine U 51607006207810 ?_
   have hs1:=jI (ls:=ls) (i:=i) O
   have hs2:=qc ls (i+1)
   refine U 52165193116 ?_;refine an (fun h495=>?_) fun h495=>?_
   ·exfalso;omega
   refine U 8519200840010 ?_
   refine am (i+1) ?_ ?_ (h5:=?_)
   show i+1≤ls.length;omega
   omega
   exact .cons (cI (by rw [jI O];omega)) (.cons (cI O) .nil)
  refine U 84000200020006000 ?_
  have hs3:=qc ls i
  refine U 16 ?_
  refine aq (yd (OI (cw (ls.take i)) O) (fun p1=>?_))
  refine U 2051316751 ?_;refine ar (α:=Nat×Option Nat) [6,8,27,28,29,30,31,32,33,34] (fun (j,g)=>[(6,.os 0 g 0 ((ls.take j).flatten).length 1),(27,.c (.int .i64 (j:Nat)))]) (fun (j,g)=>[(g,.blk ((ls.take j).flatten).length (aV (ls.take j).flatten))]) (fun j=>j.1≤ls.length) (fun j=>ls.length-j.1) ((0,p1)) ?_ (fun _=>rfl) ?_ ?_ ?_
  exact ZL _
  exact .cons Z (.cons Z .nil)
  exact .blk rfl (fun j hj=>absurd hj (ZO j)) .nil
  ·rintro ⟨j,g'⟩ (hj:j≤ls.length)
   refine U 7526 ?_;refine aaa (fun h503=>?_) fun h503=>?_
   ·refine U 511684000200020006000 ?_;refine jE (freeze 0 rfl) ?_;refine jE (er 2 ((ls.take j).flatten) rfl rfl (by rfl) rfl) ?_;refine U 80007000 ?_;refine aa.bs ?_
    rw [ZY O]
   refine U 51607006207810 ?_
   have hf1:=jI (ls:=ls) (i:=j) O
   have hf2:=qc ls (j+1)
   have hf3:=gW (ls.take j)
   refine U 11200 ?_
   refine aw (ay rfl rfl rfl (ZA _) (fun _ _=>Z) (cX rfl) rfl (fun j hj=>by simp only [anx];exact Z) underlying23 dV fR da jt rfl O (fun j hj=>rfl) rfl rfl (fun p2=>?_))
   refine U 8519200840051 ?_
   refine am ((j+1,p2)) ?_ ?_ (h5:=?_) (h7:=?_)
   show j+1≤ls.length;omega
   show ls.length-(j+1)<ls.length-j;omega
   ·simp only [iX (show j<ls.length by omega)]
    exact .cons Z (.cons (cI O) .nil)
   ·simp only [iX (show j<ls.length by omega)]
    exact .same .nil
end
end Am
end Go.Proofs.YtghminnpfnkbjaaGreatDoor
namespace Go.Proofs.YtghminnpfnkbjaaGreatDoor
open Go.RowKit
def TI:I:=[201,202,203,204,205,206]
def yS (w:World) (v:Value) (l:I):Prop :=
 ∃ g,v=.slice (some ⟨g,0,none⟩) l.length (l.length+6)∧l.length+6≤9223372036854775807∧∀ i,i<l.length+6→w.cell? ⟨g,i,none⟩=some (.int .u8 ((l++TI).getD i 0).toNat)
def PV (w:World) (g:Nat) (v:Value) (l:I):Prop :=
 v=.slice (some ⟨g,0,none⟩) l.length (l.length+6)∧l.length+6≤9223372036854775807∧∀ i,i<l.length+6→w.cell? ⟨g,i,none⟩=some (.int .u8 ((l++TI).getD i 0).toNat)
theorem yS.below {a b:World} {v:Value} {l:I} (h:yS a v l) (k:Below a.heap.size a b):yS b v l:=by
 obtain ⟨g,rfl,h1,h2⟩:=h
 exact ⟨g,rfl,h1,fun i hi=>lY k (h2 i hi)⟩
theorem yS.bs {w:World} {v:Value} {l:I} (h:yS w v l):Bs w v l:=by
 obtain ⟨g,rfl,h1,h2⟩:=h
 refine Bs.of_cells O O fun i hi=>?_
 rw [Nat.zero_add,h2 i O]
 simp [List.getD,ZF hi]
theorem Bs.parts {w:World} {v:Value} {l:I} (h:Bs w v l) :
  ∃ ao cap,v=.slice ao l.length cap∧l.length≤cap∧cap≤9223372036854775807∧(ao=none→l.length=0∧cap=0) ∧
   ∀ ad,ao=some ad→∀ j u,(l.map fun c=>Value.int .u8 c.toNat)[j]?=some u→w.cell? (ad.add j)=some u:=by
 obtain ⟨ao,cap,rfl,h1,h2,h3,h4⟩:=h
 refine ⟨ao,cap,rfl,h1,h2,fun h=>⟨by have:=h3 h;omega,h3 h⟩,?_⟩
 intro ad had j u hu
 have ⟨hs,hc⟩:=h4 ad had
 have ⟨b,o,sp⟩:=ad
 have hj:j<l.length:=by
  have:=(ZC.1 hu).1
  simpa using this
 have hs:=hs O
 simp only at hs
 subst hs
 rw [Addr.add_lit,hc j hj]
 rw [aBx,ZM hj] at hu
 simpa [List.getD,hj] using hu
end Go.Proofs.YtghminnpfnkbjaaGreatDoor
namespace Go.Proofs.YtghminnpfnkbjaaGreatDoor
namespace Am
open Go.RowKit
section
variable {gs:List Nat} [ib gs]
def Vc (l:I):SV where
 p St w v:=∃ g,St g∧PV w g v l
 st:=fun {St St' w w' v} hs hb ⟨g,h1,h2,h3,h4⟩=>⟨g,hs g h1,h2,h3,fun i hi=>vk (fun cur t z hc=>hb g cur t z h1 hc) (h4 i hi)⟩
 one:=fun {St w v} ⟨g,h1,h2,h3,h4⟩=>by rw [h2];exact ⟨rfl,rfl⟩
def W9 (l:I):CV:=.pv (Vc l)
theorem aa.mark {l:I}:aa (W9 l) (bc l):=fun al St w v ⟨g,h1,h2,h3,h4⟩=>by
 refine ⟨_,_,h2,by omega,h3,(fun h=>by cases h),fun a ha hn=>?_⟩
 cases ha
 refine ⟨rfl,h1,fun i j hi hj=>⟨_,by rw [show 0+(i * 1+j)=i by omega];exact h4 i O,?_⟩⟩
 show _=_
 simp [List.getD,ZF hi]
def rT (tag:Int) (body:I):Nat:=if bH tag=false then 5 else if 65530<body.length then 3 else 0
theorem pI {t:Int} (h:bH t=true):0≤t∧t<256:=by
 unfold bH bO at h
 simp at h
 omega
theorem Qz (tag:Int) (body:I) (hb:body.length≤1000000):cd gs prog 157 [.agg 2 (fl [.c (.int .i64 tag),bc body])] (.tup 2 (fl [bc (if rT tag body=0 then bB tag body else []),.err (rT tag body)])):=by
 refine ae 28 func157 fun _ _ _ _=>?_;refine eA ?_
 refine aq (ee 2 fun p1=>?_)
 refine U 50906207511 ?_
 refine aq (ak (DY _) ?_)
 refine U 5130 ?_;refine an (fun h62=>?_) fun h62=>?_
 ·refine ia ?_;refine dQ (.rd 0 (.rd 1 (.rd 2 .done))) ?_;refine aJ (cK 4) ?_;refine U 80003000500070008807070 ?_
  have hk:bH tag=false:=by simpa using h62
  have he:rT tag body=5:=by unfold rT;rw [Zz hk]
  rw [he];exact cT cN Z
 refine U 5123501006 ?_;refine an (fun h64=>?_) fun h64=>?_
 ·refine ia ?_;refine dQ (.rd 0 (.rd 1 (.rd 2 .done))) ?_;refine aJ (cK 2) ?_;refine U 80003000500070008807070 ?_
  have hk:bH tag=true:=by simpa using h62
  have he:rT tag body=3:=by unfold rT;rw [Zy (by rw [hk];exact Bool.noConfusion),jP]
  rw [he];exact cT cN Z
 refine U 7840010 ?_
 have hk:bH tag=true:=by simpa using h62
 have hkb:=pI hk
 have he:rT tag body=0:=by unfold rT;rw [Zy (by rw [hk];exact Bool.noConfusion),jK]
 have hlb:=qB body.length
 refine dQ (.rd 0 (.rd 1 (.rd 2 (.rd 4 (.rd 5 (.rd 6 (.rd 8 (.rd 9 (.two 3 (.one 7 (.one 10 (.one 11 (.rd 12 (.rd 13 .done))))) 7 (.one 3 (.one 10 (.one 11 (.rd 12 (.rd 13 .done)))))))))))))) ?_;refine U 10000900000 ?_;refine aJ (wg .i64 .u8) ?_;refine U 10000800000020000100008000000 ?_;refine ya ?_ ?_
 ·refine gp (aM 1 1 da fun p2=>?_)
  refine gp (ak (Av body.length O) ?_)
  refine ij (freeze 1 rfl) ?_;refine ij (ja 19 [UInt8.ofNat tag.toNat] rfl rfl rfl rfl (.cons (cI (by rw [ZT];omega)) .nil)) ?_
  refine gp (aM 3 1 eC fun p3=>?_)
  refine ij (freeze 2 rfl) ?_;refine ij (rI 26 [[UInt8.ofNat tag.toNat],ie body.length,body] rfl rfl rfl rfl (.cons Z (.cons Z (.cons Z .nil)))) ?_
  refine gp (ak (oB [[UInt8.ofNat tag.toNat],ie body.length,body] (by simp [cw];omega) (by simp)) ?_)
  refine U 8807070 ?_
  refine jR (eN (hv:=cT (aa.bs (by rw [he,Zz rfl];simp [bB])) (aa.nilE he)))
 ·refine gp (ak (Av body.length O) ?_)
  refine gp (aM 1 1 da fun p2=>?_)
  refine ij (freeze 1 rfl) ?_;refine ij (ja 19 [UInt8.ofNat tag.toNat] rfl rfl rfl rfl (.cons (cI (by rw [ZT];omega)) .nil)) ?_
  refine gp (aM 3 1 eC fun p3=>?_)
  refine ij (freeze 2 rfl) ?_;refine ij (rI 26 [[UInt8.ofNat tag.toNat],ie body.length,body] rfl rfl rfl rfl (.cons Z (.cons Z (.cons Z .nil)))) ?_
  refine gp (ak (oB [[UInt8.ofNat tag.toNat],ie body.length,body] (by simp [cw];omega) (by simp)) ?_)
  refine U 8807070 ?_
  refine jR (eN (hv:=cT (aa.bs (by rw [he,Zz rfl];simp [bB])) (aa.nilE he)))
end
theorem A6 (a b:UInt8):gG b a=- gG a b:=by
 unfold gG
 rcases bYx a.toNat b.toNat with h|h|h
 ·rw [jK,Zz h,Zz h];rfl
 ·rw [jK,jK,jK,jK];rfl
 ·rw [Zz h,jK,Zz h]
theorem qU {a b:UInt8} (h:gG a b=0):a=b:=by
 unfold gG at h
 split at h
 omega
 ·split at h
  omega
  exact akx.1 O
theorem yB (a b:UInt8):(gG a b<0↔a.toNat<b.toNat)∧(gG a b≤0↔a.toNat≤b.toNat):=by
 unfold gG
 split
 omega
 ·split<;>omega
theorem ec:∀ l r:I,eS r l=- eS l r
 | [],[]=>rfl
 | [],_::_=>rfl
 | _::_,[]=>rfl
 | a::l,b::r=>by
  have h:=A6 a b
  have ih:=ec l r
  rw [eS,eS]
  by_cases e:gG a b=0
  ·rw [jK,jK,ih]
  ·rw [jP,Zz e,h]
theorem qS:∀ {l r:I},eS l r=0→l=r
 | [],[],_=>rfl
 | [],_::_,h=>by simp [eS] at h
 | _::_,[],h=>by simp [eS] at h
 | a::l,b::r,h=>by
  rw [eS] at h
  by_cases e:gG a b=0
  ·rw [Zy (fun x=>x e)] at h
   rw [qU e,qS h]
  ·rw [Zz e] at h;exact absurd h e
theorem oE:∀ {a b c:I},eS a b≤0→eS b c≤0→eS a c≤0
 | [],_,[],_,_=>Int.le_refl 0
 | [],_,_::_,_,_=>by show (-1:Int)≤0;decide
 | _::_,[],_,h,_=>by simp [eS] at h
 | _::_,_::_,[],_,h=>by simp [eS] at h
 | x::a,y::b,z::c,h1,h2=>by
  rw [eS] at h1 h2 ⊢
  have k1:=yB x y;have k2:=yB y z;have k3:=yB x z
  by_cases e1:gG x y=0
  ·have e:=qU e1
   subst e
   rw [Zy (fun q=>q e1)] at h1
   by_cases e2:gG x z=0
   ·rw [Zy (fun q=>q e2)] at h2 ⊢
    exact oE h1 h2
   ·rw [Zz e2] at h2 ⊢;exact h2
  ·rw [Zz e1] at h1
   by_cases e2:gG y z=0
   ·have e:=qU e2
    subst e
    rw [Zz e1];exact h1
   ·rw [Zz e2] at h2
    have e3:gG x z≠0:=fun e=>by
     have:=qU e
     subst this
     have:=A6 x y
     omega
    rw [Zz e3]
    omega
theorem A5 (l:I):eS l l=0:=by have:=ec l l;omega
theorem Pv {α:Type} (L:α→I):Go.Sort.SWO (fun x y:α=>decide (eS (L x) (L y)<0)) where
 irrefl:=fun x=>by rw [A5];rfl
 trans:=fun x y z h1 h2=>by
  simp only [ZJ] at h1 h2 ⊢
  have h3:=oE (a:=L x) (b:=L y) (c:=L z) O O
  by_cases e:eS (L x) (L z)=0
  ·have:=qS e
   have h4:=ec (L y) (L z)
   rw [this] at h1
   omega
  omega
 ntrans:=fun x y z h1 h2=>by
  simp only [aGx,Int.not_lt] at h1 h2 ⊢
  have s1:=ec (L x) (L y);have s2:=ec (L y) (L z);have s3:=ec (L x) (L z)
  have h3:=oE (a:=L z) (b:=L y) (c:=L x) O O
  omega
def uN (a b:I):Bool:=decide (eS a b≤0)
theorem Ki (a b:I):(uN a b || uN b a)=true:=by
 have:=ec a b
 unfold uN
 by_cases h:eS a b≤0
 ·simp [h]
 ·have:eS b a≤0:=by omega
  simp [this]
theorem uL (a b c:I) (h1:uN a b=true) (h2:uN b c=true):uN a c=true:=by
 unfold uN at h1 h2 ⊢
 simp only [ZJ] at h1 h2 ⊢
 exact oE h1 h2
theorem N1 {a b:I} (h1:uN a b=true) (h2:uN b a=true):a=b:=by
 unfold uN at h1 h2
 simp only [ZJ] at h1 h2
 have:=ec a b
 exact qS O
def gz (ls:Zx):Zx:=ls.mergeSort uN
theorem jJ (ls:Zx):(gz ls).Perm ls:=List.mergeSort_perm ls uN
theorem sJ (ls:Zx):(gz ls).Pairwise fun a b=>uN a b=true:=List.pairwise_mergeSort uL Ki ls
theorem zM:∀ {l r:Zx},l.Perm r→(l.Pairwise fun a b=>uN a b=true)→(r.Pairwise fun a b=>uN a b=true)→l=r
 | [],r,hp,_,_=>(List.nil_perm.1 hp).symm
 | a::l,[],hp,_,_=>absurd hp.symm.nil_eq (by simp)
 | a::l,b::r,hp,h1,h2=>by
  have ha:=cyx.1 h1
  have hb:=cyx.1 h2
  have e:a=b:=by
   have m1:a ∈ b::r:=hp.subset (ZU ..)
   have m2:b ∈ a::l:=hp.symm.subset (ZU ..)
   rcases Z9.1 m1 with h|h
   exact h
   ·rcases Z9.1 m2 with k|k
    exact k.symm
    exact N1 (ha.1 b k) (hb.1 a h)
  subst e
  rw [zM (List.perm_cons a |>.1 hp) ha.2 hb.2]
theorem C4 {l r:Zx} (hp:l.Perm r) (h:l.Pairwise fun a b=>uN a b=true):l=gz r:=zM (hp.trans (jJ r).symm) h (sJ r)
theorem nM (ls:Zx):(gz ls).length=ls.length:=(jJ ls).length_eq
section
open Go.RowKit Go.Lib
def bt (l:I) (i:Nat):Nat:=(l.getD i 0).toNat
theorem vQ (l:I) (i:Nat):bt l i<256:=avx _
def fK (l:I):Nat×Nat:=Lib.decodeN l.length (bt l 0) (bt l 1) (bt l 2) (bt l 3)
theorem mG (l:I) (i:Nat):((⟨l.toArray⟩:ByteArray).get! i).toNat=bt l i:=by
 show (l.toArray[i]!).toNat=_
 simp [bt,List.getD]
 rfl
theorem Cl (l:I):decodeL l=fK l:=by
 unfold decodeL fK
 rw [Lib.decode_at,mG,mG,mG,mG]
 rfl
theorem lV (l:I):1≤(fK l).2∧(fK l).2≤4:=by
 unfold fK Lib.decodeN
 repeat' split
 all_goals simp
def wk (c:Nat):Bool:=decide (c<32) || decide (c=127)
def ji:Nat→I→Bool
 | 0,_=>true
 | n+1,l=>if l=[] then true else if ((fK l).1=65533∧(fK l).2=1)∨wk (fK l).1=true then false else ji n (l.drop (fK l).2)
def gw (l:I):Bool:=ji l.length l
def nk:Nat→I→Bool
 | 0,_=>true
 | n+1,l=>if l=[] then true else if wk (fK l).1=true then false else nk n (l.drop (fK l).2)
theorem z6:∀ (n:Nat) (l:I),ji n l=(nk n l && validGoD n l)
 | 0,l=>rfl
 | n+1,l=>by
  rw [ji,nk,validGoD,z6 n,Cl]
  by_cases h:l=[]
  ·simp [h]
  ·rw [Zy h,Zy h,Zy h]
   by_cases h1:wk (fK l).1=true
   ·simp [h1]
   ·by_cases h2:(fK l).1=65533∧(fK l).2=1
    ·simp [h2]
    ·rw [Zy (by simp [h1];intro h3 h4;exact h2 ⟨h3,h4⟩),Zy h1,Zy h2]
theorem yf:∀ (n m:Nat) (l:I),l.length≤n→l.length≤m→ji n l=ji m l
 | 0,m,l,h,_=>by
  have:l=[]:=alx.1 O
  subst this
  cases m<;>simp [ji]
 | n+1,0,l,_,h=>by
  have:l=[]:=alx.1 O
  subst this
  simp [ji]
 | n+1,m+1,l,h1,h2=>by
  rw [ji,ji]
  by_cases h:l=[]
  ·simp [h]
  ·have hw:=(lV l).1
   have hp:=aax.2 h
   rw [yf n m _ (by simp;omega) (by simp;omega)]
theorem px {l:I} (h:l≠[]):gw l=if ((fK l).1=65533∧(fK l).2=1)∨wk (fK l).1=true then false else gw (l.drop (fK l).2):=by
 have hp:=aax.2 h
 have hw:=(lV l).1
 unfold gw
 obtain ⟨n,hn⟩:∃ n,l.length=n+1:=⟨l.length-1,by omega⟩
 rw [hn,ji,Zy h,yf n (l.drop (fK l).2).length _ (by simp;omega) (ZA _)]
theorem FW {n:Nat} {l:I} (h:l≠[]):nk (n+1) l=if wk (fK l).1=true then false else nk n (l.drop (fK l).2):=by rw [nk,Zy h]
theorem xM:∀ (n m:Nat) (l:I),l.length≤n→l.length≤m→nk n l=nk m l
 | 0,m,l,h,_=>by
  have:l=[]:=alx.1 O
  subst this
  cases m<;>simp [nk]
 | n+1,0,l,_,h=>by
  have:l=[]:=alx.1 O
  subst this
  simp [nk]
 | n+1,m+1,l,h1,h2=>by
  rw [nk,nk]
  by_cases h:l=[]
  ·simp [h]
  ·have hw:=(lV l).1
   have hp:=aax.2 h
   rw [xM n m _ (by simp;omega) (by simp;omega)]
def uH (l:I):Bool:=nk l.length l
theorem pC {l:I} (h:l≠[]):uH l=if wk (fK l).1=true then false else uH (l.drop (fK l).2):=by
 have hp:=aax.2 h
 have hw:=(lV l).1
 unfold uH
 obtain ⟨n,hn⟩:∃ n,l.length=n+1:=⟨l.length-1,by omega⟩
 rw [hn,FW h,xM n (l.drop (fK l).2).length _ (by simp;omega) (ZA _)]
theorem rU (l:I):gw l=(uH l && validD l):=z6 _ _
theorem qo {l:I} (h:l≠[]) (h0:bt l 0<128):gw l=if bt l 0<32∨bt l 0=127 then false else gw (l.drop 1):=by
 have e:fK l=(bt l 0,1):=by unfold fK Lib.decodeN;rw [Zz h0]
 rw [px h,e]
 simp only [wk,atx,ZJ]
 by_cases h1:bt l 0<32∨bt l 0=127
 ·rw [Zz (.inr h1),Zz h1]
 ·rw [Zy h1,jK]
theorem iC {l:I} (h:l≠[]) (hd:fK l=(65533,1)):gw l=false:=by
 rw [px h,hd,Zz (.inl ⟨rfl,rfl⟩)]
theorem xr {l:I} (h:l≠[]) {c w:Nat} (hd:fK l=(c,w)) (hc:128≤c) (hw:2≤w):gw l=gw (l.drop w):=by
 rw [px h,hd,Zy (by simp [wk];omega)]
theorem eZ {l:I} (h:128≤bt l 0) (h2:bt l 0<192∨248≤bt l 0):fK l=(65533,1):=by
 unfold fK Lib.decodeN
 rw [jK,jK,jK,jK]
theorem Ii {l:I} (h:192≤bt l 0) (h2:bt l 0<224):fK l=if l.length≤1∨bt l 1<128∨191<bt l 1∨(bt l 0-192) * 64+bt l 1-128<128 then (65533,1) else ((bt l 0-192) * 64+bt l 1-128,2):=by
 have:=vQ l 1
 unfold fK Lib.decodeN
 rw [jK]
 by_cases h3:l.length≤1∨bt l 1<128∨191<bt l 1
 ·rw [jK,jK,jK,jP]
 ·rw [jP]
  have e:bt l 0 % 32 * 64+bt l 1 % 64=(bt l 0-192) * 64+bt l 1-128:=by omega
  rw [e]
  by_cases h4:(bt l 0-192) * 64+bt l 1-128<128
  ·rw [jK,jP]
  ·rw [jP,jK]
theorem A3 {l:I} (h:224≤bt l 0) (h2:bt l 0<240):fK l=if l.length≤2∨(bt l 1<128∨191<bt l 1)∨(bt l 2<128∨191<bt l 2)∨((bt l 0-224) * 64+bt l 1-128) * 64+bt l 2-128<2048∨(55296≤((bt l 0-224) * 64+bt l 1-128) * 64+bt l 2-128∧((bt l 0-224) * 64+bt l 1-128) * 64+bt l 2-128<57344) then (65533,1) else (((bt l 0-224) * 64+bt l 1-128) * 64+bt l 2-128,3):=by
 have:=vQ l 1
 have:=vQ l 2
 unfold fK Lib.decodeN
 rw [jK,jK]
 by_cases h3:l.length≤2∨(bt l 1<128∨191<bt l 1)∨(bt l 2<128∨191<bt l 2)
 ·rw [jK,jK,jP]
 ·rw [jP]
  have e:bt l 0 % 16 * 4096+bt l 1 % 64 * 64+bt l 2 % 64=((bt l 0-224) * 64+bt l 1-128) * 64+bt l 2-128:=by omega
  rw [e]
  obtain ⟨c,hc⟩:∃ c,c=((bt l 0-224) * 64+bt l 1-128) * 64+bt l 2-128:=⟨_,rfl⟩
  have hlt:c≤65535:=by omega
  rw [← hc]
  by_cases h4:c<2048∨(55296≤c∧c<57344)
  ·rw [jK,jP]
  ·rw [jP,jK]
theorem EP {l:I} (h:240≤bt l 0) (h2:bt l 0<248):fK l=if l.length≤3∨(bt l 1<128∨191<bt l 1)∨(bt l 2<128∨191<bt l 2)∨(bt l 3<128∨191<bt l 3)∨(((bt l 0-240) * 64+bt l 1-128) * 64+bt l 2-128) * 64+bt l 3-128<65536∨1114111<(((bt l 0-240) * 64+bt l 1-128) * 64+bt l 2-128) * 64+bt l 3-128 then (65533,1) else ((((bt l 0-240) * 64+bt l 1-128) * 64+bt l 2-128) * 64+bt l 3-128,4):=by
 have:=vQ l 1
 have:=vQ l 2
 have:=vQ l 3
 unfold fK Lib.decodeN
 rw [jK,jK,jK]
 by_cases h3:l.length≤3∨(bt l 1<128∨191<bt l 1)∨(bt l 2<128∨191<bt l 2)∨(bt l 3<128∨191<bt l 3)
 ·rw [jK,jP]
 ·rw [jP]
  have e:bt l 0 % 8 * 262144+bt l 1 % 64 * 4096+bt l 2 % 64 * 64+bt l 3 % 64=(((bt l 0-240) * 64+bt l 1-128) * 64+bt l 2-128) * 64+bt l 3-128:=by omega
  rw [e]
  obtain ⟨c,hc⟩:∃ c,c=(((bt l 0-240) * 64+bt l 1-128) * 64+bt l 2-128) * 64+bt l 3-128:=⟨_,rfl⟩
  rw [← hc]
  by_cases h4:c<65536∨1114111<c
  ·rw [jK,jP]
  ·rw [jP,jK]
def az (l:I) (most:Int):Nat:=if l.length=0 then 2 else if most<l.length then 3 else if gw l=false then 8 else 0
end
def Hk:I:=[0,128,64,192,32,160,96,224,16,144,80,208,48,176,112,240,8,136,72,200,40,168,104,232,24,152,88,216,56,184,120,248,4,132,68,196,36,164,100,228,20,148,84,212,52,180,116,244,12,140,76,204,44,172,108,236,28,156,92,220,60,188,124,252,2,130,66,194,34,162,98,226,18,146,82,210,50,178,114,242,10,138,74,202,42,170,106,234,26,154,90,218,58,186,122,250,6,134,70,198,38,166,102,230,22,150,86,214,54,182,118,246,14,142,78,206,46,174,110,238,30,158,94,222,62,190,126,254,1,129,65,193,33,161,97,225,17,145,81,209,49,177,113,241,9,137,73,201,41,169,105,233,25,153,89,217,57,185,121,249,5,133,69,197,37,165,101,229,21,149,85,213,53,181,117,245,13,141,77,205,45,173,109,237,29,157,93,221,61,189,125,253,3,131,67,195,35,163,99,227,19,147,83,211,51,179,115,243,11,139,75,203,43,171,107,235,27,155,91,219,59,187,123,251,7,135,71,199,39,167,103,231,23,151,87,215,55,183,119,247,15,143,79,207,47,175,111,239,31,159,95,223,63,191,127,255]
def HG:I:=[0,1,2,2,3,3,3,3,4,4,4,4,4,4,4,4,5,5,5,5,5,5,5,5,5,5,5,5,5,5,5,5,6,6,6,6,6,6,6,6,6,6,6,6,6,6,6,6,6,6,6,6,6,6,6,6,6,6,6,6,6,6,6,6,7,7,7,7,7,7,7,7,7,7,7,7,7,7,7,7,7,7,7,7,7,7,7,7,7,7,7,7,7,7,7,7,7,7,7,7,7,7,7,7,7,7,7,7,7,7,7,7,7,7,7,7,7,7,7,7,7,7,7,7,7,7,7,7,8,8,8,8,8,8,8,8,8,8,8,8,8,8,8,8,8,8,8,8,8,8,8,8,8,8,8,8,8,8,8,8,8,8,8,8,8,8,8,8,8,8,8,8,8,8,8,8,8,8,8,8,8,8,8,8,8,8,8,8,8,8,8,8,8,8,8,8,8,8,8,8,8,8,8,8,8,8,8,8,8,8,8,8,8,8,8,8,8,8,8,8,8,8,8,8,8,8,8,8,8,8,8,8,8,8,8,8,8,8,8,8,8,8,8,8,8,8,8,8,8,8,8,8,8,8,8,8]
def ND:I:=[8,0,1,0,2,0,1,0,3,0,1,0,2,0,1,0,4,0,1,0,2,0,1,0,3,0,1,0,2,0,1,0,5,0,1,0,2,0,1,0,3,0,1,0,2,0,1,0,4,0,1,0,2,0,1,0,3,0,1,0,2,0,1,0,6,0,1,0,2,0,1,0,3,0,1,0,2,0,1,0,4,0,1,0,2,0,1,0,3,0,1,0,2,0,1,0,5,0,1,0,2,0,1,0,3,0,1,0,2,0,1,0,4,0,1,0,2,0,1,0,3,0,1,0,2,0,1,0,7,0,1,0,2,0,1,0,3,0,1,0,2,0,1,0,4,0,1,0,2,0,1,0,3,0,1,0,2,0,1,0,5,0,1,0,2,0,1,0,3,0,1,0,2,0,1,0,4,0,1,0,2,0,1,0,3,0,1,0,2,0,1,0,6,0,1,0,2,0,1,0,3,0,1,0,2,0,1,0,4,0,1,0,2,0,1,0,3,0,1,0,2,0,1,0,5,0,1,0,2,0,1,0,3,0,1,0,2,0,1,0,4,0,1,0,2,0,1,0,3,0,1,0,2,0,1,0]
def dw (n:Nat):Nat:=(List.range 8).foldl (fun a i=>a+n / 2 ^ i % 2 * 2 ^ (7-i)) 0
def iy (n:Nat):Nat:=(List.range 8).foldl (fun a i=>if n / 2 ^ i % 2=1 then i+1 else a) 0
def re (n:Nat):Nat:=(List.range 8).foldr (fun i a=>if n / 2 ^ i % 2=1 then i else a) 8
theorem lZ {n:Nat} {p:Nat→Bool} (h:(List.range n).all p=true) {i:Nat} (hi:i<n):p i=true:=Z1.1 h i (a7x.2 hi)
theorem Th {n m:Nat} {p:Nat→Nat→Bool} (h:((List.range n).all fun i=>(List.range m).all fun j=>p i j)=true) {i j:Nat} (hi:i<n) (hj:j<m):p i j=true:=lZ (lZ h hi) hj
theorem zR {i:Nat} (h:i<256):(Hk.getD i 0).toNat=dw i:=by
 have:=lZ (n:=256) (p:=fun i=>(Hk.getD i 0).toNat == dw i) (by decide +kernel) h
 simpa using this
theorem Aw {i:Nat} (h:i<256):(HG.getD i 0).toNat=iy i:=by
 have:=lZ (n:=256) (p:=fun i=>(HG.getD i 0).toNat == iy i) (by decide +kernel) h
 simpa using this
theorem JY {i:Nat} (h:i<256):(ND.getD i 0).toNat=re i:=by
 have:=lZ (n:=256) (p:=fun i=>(ND.getD i 0).toNat == re i) (by decide +kernel) h
 simpa using this
theorem eL {i:Nat} (h:i<256):dw i<256:=by
 have:=lZ (n:=256) (p:=fun i=>decide (dw i<256)) (by decide +kernel) h
 simpa using this
theorem ni {i:Nat} (h:i<256):dw (dw i)=i:=by
 have:=lZ (n:=256) (p:=fun i=>dw (dw i) == i) (by decide +kernel) h
 simpa using this
theorem qC {i:Nat} (h:i<256):i<2 ^ iy i∧iy i≤8∧(iy i=0∨2 ^ (iy i-1)≤i):=by
 have:=lZ (n:=256) (p:=fun i=>decide (i<2 ^ iy i∧iy i≤8∧(iy i=0∨2 ^ (iy i-1)≤i))) (by decide +kernel) h
 simpa using this
theorem Dn {c v:Nat} (hc:c<8) (hv:v<2 ^ c):dw (v+2 ^ c)=dw v+2 ^ (7-c):=by
 have hb:v<256:=Z4 hv (apx (n:=2) jD (show c≤8 by omega))
 have:=Th (n:=8) (m:=256) (p:=fun c v=>decide (v<2 ^ c→dw (v+2 ^ c)=dw v+2 ^ (7-c))) (by decide +kernel) hc hb
 exact (a9x this) hv
def Lp (m n:Nat):Prop:=m<2 ^ n∧(n=0∨2 ^ (n-1)≤m)
theorem Ee {m n k:Nat} (h:Lp m n) (h':Lp m k):n=k:=by
 have ⟨h1,h2⟩:=h
 have ⟨h3,h4⟩:=h'
 rcases bYx n k with hlt|he|hlt
 ·have:=apx (n:=2) jD (show n≤k-1 by omega)
  rcases h4 with h4|h4<;>omega
 exact he
 ·have:=apx (n:=2) jD (show k≤n-1 by omega)
  rcases h2 with h2|h2<;>omega
def bl (m:Nat):Nat:=if 256≤m then 8+iy (m / 256) else iy m
theorem tX {m:Nat} (h:m<65536):Lp m (bl m)∧bl m≤16:=by
 unfold bl
 split
 ·obtain ⟨h1,h2,h3⟩:=qC (i:=m / 256) O
  refine ⟨⟨?_,?_⟩,by omega⟩
  ·rw [cFx];omega
  ·right
   rcases h3 with h3|h3
   ·rw [h3] at h1;simp at h1;omega
   ·rw [show 8+iy (m / 256)-1=8+(iy (m / 256)-1) by
     have:iy (m / 256)≠0:=fun h=>by rw [h] at h1;simp at h1;omega
     omega,cFx]
    omega
 ·obtain ⟨h1,h2,h3⟩:=qC (i:=m) O
  exact ⟨⟨h1,h3⟩,by omega⟩
theorem pD (M i:Nat):M % 2 ^ (i+1)=M % 2 ^ i+M / 2 ^ i % 2 * 2 ^ i:=by
 rw [bNx,Nat.mod_mul,b4x (2 ^ i)]
theorem Kt {M i n:Nat} (h:Lp (M % 2 ^ i) n) (hn:n≤i):Lp (M % 2 ^ (i+1)) (if M / 2 ^ i % 2=1 then i+1 else n):=by
 have hlt:=aNx M (cqx i)
 rw [pD]
 split
 ·rename_i hb
  rw [hb,dbx]
  exact ⟨by rw [bNx];omega,.inr (by simp)⟩
 ·rename_i hb
  rw [show M / 2 ^ i % 2=0 by omega,aKx,afx]
  exact h
def pr (x:Nat):Nat:=dw (x / 256)+256 * dw (x % 256)
theorem pp {x:Nat} (h:x<65536):pr x<65536:=by
 have h1:=eL (i:=x / 256) O
 have h2:=eL (i:=x % 256) O
 unfold pr;omega
def cn (m:Nat):I:=UInt8.ofNat ((8-bl m % 8) % 8)::(if bl m=0 then [] else if bl m≤8 then [UInt8.ofNat (dw (m % 256))] else [UInt8.ofNat (dw (m % 256)),UInt8.ofNat (dw (m / 256))])
def bW (b:I):Nat×Nat :=
 if b.length=0 then (0,2) else
 if 8≤(b.getD 0 0).toNat∨3<b.length∨(b.length=1∧0<(b.getD 0 0).toNat) then (0,4) else
 if b.length=1 then (0,0) else
 if re (b.getD (b.length-1) 0).toNat≠(b.getD 0 0).toNat then (0,4) else
 let m:=dw (b.getD 1 0).toNat+256 * (if b.length=3 then dw (b.getD 2 0).toNat else 0)
 if 32768≤m then (0,1) else (m,0)
end Am
end Go.Proofs.YtghminnpfnkbjaaGreatDoor
