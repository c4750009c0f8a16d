/- What the law leans on, part 13: AmY, W01b, W01c, W01d, W01e, W01f, W01g, W01k, W01h, W01i, W01s, W01j, P02m -/
import Derived.Test.YtghminnpfnkbjaaGreatDoorM12RequestRead

set_option maxRecDepth 100000
set_option maxHeartbeats 8000000
namespace Go.Proofs.YtghminnpfnkbjaaGreatDoor
set_option linter.unusedVariables false
namespace Am
open Go.RowKit
def dv (off:Nat) (F:Nat→CV) (j:Nat):CV:=if j<off then .top else F (j-off)
theorem la (off:Nat) (F:Nat→CV) (j:Nat):dv off F (off+j)=F j:=by unfold dv;rw [jK,Z2]
section
variable {P:Program} {G:Gh} {ops:Array Oper} {o:Oper} {s:AS} {K:AS→Prop} {t u:TypeId} {x y:Operand} {k:IntKind}
theorem E8 {e:TypeId} {z:Value} {i off n m k N by_:Nat} {g:Option Nat} {f h:Nat→CV} (ho:o.op=.call ⟨.builtin .append,#[x,y],#[t,u]⟩) (hx:s.eval x=.os i g off n k) (hH:s.H[i]?=some (g,.blk N f)) (hN:off+n * k≤N)
  (hsrc:uf P G s y k m h) (h1:P.underlying t=some (.slice e)) (hu:eL P u=true) (h5:(P.info? e).map (·.size)=some k) (hz:(P.info? e).map (·.zero)=some (some z)) (hby:(P.info? e).map (·.bytes)=some by_)
  (h63:n+m≤9223372036854775807) (h48:(n+m) * by_≤140737488355328) (hzk:z.cells.size=k)
  (F:Nat→CV) (hF:∀ j,j<(n+m) * k→aa (u5 (n * k) (fun j=>f (off+j)) h j) (F j)) (hleaf:∀ j,j<m * k→iS (h j)=true) (hd:cq G o=true)
  (hK:∀ g' off',K (s.with o.dst (.os i g' off' (n+m) k) (s.H.set i (g',.blk (off'+(n+m) * k) (dv off' F))))):ug P G o s K:=fun St a w hr Q=>by
 obtain ⟨info,hi,hs⟩:=YM.1 h5
 obtain ⟨info',hi',hz⟩:=YM.1 hz
 obtain rfl:=Y9 (hi.symm.trans hi')
 obtain ⟨info',hi',hby⟩:=YM.1 hby
 obtain rfl:=Y9 (hi.symm.trans hi')
 obtain ⟨news,hnl,hnr,hrun⟩:=hsrc St a w hr
 have he:=ji hr hx
 have hlen:(n+m) * k=n * k+m * k:=adx ..
 -- the value's parts
 obtain ⟨base,cap,ev,hle,hcap,hbase⟩:∃ base cap,a.eval x=.slice base n cap∧n≤cap∧cap≤9223372036854775807∧((g=none∧base=none∧cap=0∧n=0)∨∃ b,g=some b∧base=some ⟨b,off,none⟩∧∃ cur t z,w.heap[b]?=some (.cells cur t z)∧off+cap * k≤cur.size):=by
  cases g with
  | none=>obtain ⟨h1,h2⟩:=he;exact ⟨none,0,by rw [h2,h1],by omega,by omega,.inl ⟨rfl,rfl,rfl,h1⟩⟩
  | some b=>obtain ⟨cap,h1,h2,h3,h4⟩:=he;exact ⟨_,cap,h1,h2,h3,.inr ⟨b,rfl,rfl,h4⟩⟩
 have hargs:(#[x,y]:Array Operand).map a.eval=#[a.eval x,a.eval y]:=by simp
 have put:∀ {w':World} {v:Value} {c:CV} {H:List (Option Nat×bi)},az G St ⟨s.env,s.b,H⟩ a w'→ba G.al St w' c v→az G St (s.with o.dst c H) (a.put o.dst v) w':=fun {w' v c H} h1 h2=>by
  have:=h1.put (dst:=o.dst) (eC hd) h2
  cases ho:o.dst with
  | none=>rw [ho] at this;exact this
  | some d=>rw [ho] at this;exact this
 by_cases hroom:n+m≤cap
 ·-- in place
  rcases hbase with ⟨hg,hb,hc0,hn0⟩|⟨b,hg,hb,cu,tt,zz,hcu,hfit⟩
  ·subst hg hb
   have hm0:m=0:=by omega
   subst hm0
   have hrun':=kZ (t:=t) (u:=u) (ty:=o.type) h1 hu hi hs (hrun w rfl).1 (hrun w rfl).2 hroom (base:=none) (w':=w) (fun _ h=>by simp at h) (fun _=>rfl)
   unfold Oper.wp
   rw [gJ ho (by rw [hargs,ev];exact hrun')]
   refine ⟨eX.refl _ _,St,fun _ h=>h,_,hK none 0,?_⟩
   have hlt:=(YJ.1 hH).1
   have hmv:az G St ⟨s.env,s.b,s.H.set i (none,.blk (0+(n+0) * k) (dv 0 F))⟩ a w:=by
    refine ⟨hr.df,hr.sz,hr.env,hr.un,hr.s1,hr.s2,hr.s3,?_,hr.sn,hr.sg⟩
    obtain ⟨fp,hp⟩:=hr.hp
    refine ⟨fp,fun j q r hj=>?_,hp.dis,hp.own,fun j hj=>hp.out j (by simpa using hj)⟩
    by_cases hj2:j=i
    ·subst hj2
     simp [hlt] at hj
     obtain ⟨rfl,rfl⟩:=hj
     exact ⟨by simp [hn0],(hp.rep j none _ hH).2⟩
    ·rw [YZ (Ne.symm hj2)] at hj
     exact hp.rep j q r hj
   exact put hmv ⟨by omega,by rw [hn0,hc0]⟩
  ·subst hg hb
   obtain ⟨fp,hp⟩:=hr.hp
   obtain ⟨hb0,cur,ty,hh,hle2,hcell⟩:=hp.rep i (some b) _ hH
   have hq:=Y9 (hcu.symm.trans hh)
   injection hq with e1 e2 e3
   have hfit:off+cap * k≤cur.size:=e1 ▸ hfit
   have hfit2:off+n * k+news.length≤cur.size:=by
    have:=ZG k hroom
    rw [hlen] at this
    omega
   have hone:∀ v ∈ news,v.oneCell'=true:=fun v hv=>by
    obtain ⟨j,hj,e⟩:=aYx.1 hv
    have h2:=hnr j O
    rw [show news.getD j undef=v by simp [List.getD,hj,e]] at h2
    exact sl (hleaf j O) h2
   have hst:=run_storeCells_at P b (off+n * k) ty news 0 cur w hh (by simpa using hfit2) hone
   simp only [Zt] at hst
   have hrun':=kZ (t:=t) (u:=u) (ty:=o.type) h1 hu hi hs (hrun w rfl).1 (hrun w rfl).2 hroom (base:=some ⟨b,off,none⟩) (w':=w.setRow b (cur.toList.take (off+n * k)++news++cur.toList.drop (off+n * k+news.length)).toArray) (fun ad h=>by
    have h:=Y9 h
    subst h
    rw [f9]
    exact hst) (fun h=>by simp at h)
   unfold Oper.wp
   rw [gJ ho (by rw [hargs,ev];exact hrun')]
   refine ⟨fun q hq=>setRow_other w b q _ (fun e=>(hp.own i b ((hb0 b).2 rfl)).2.1 (e ▸ hq)),St,fun _ h=>h,_,hK (some b) off,?_⟩
   have hw:=hr.write hH hh (cs:=(cur.toList.take (off+n * k)++news++cur.toList.drop (off+n * k+news.length)).toArray) (by simp;omega) (n':=off+(n+m) * k) (f':=dv off F) (by simp;omega) (fun j hj=>by
    unfold dv
    by_cases h0:j<off
    ·rw [YF h0];trivial
    rw [YE h0]
    refine hF (j-off) O _ _ _ _ ?_
    rw [wj cur news (off+n * k) hfit2]
    unfold u5
    by_cases h3:j-off<n * k
    ·rw [YF h3,jK]
     dsimp only
     rw [show off+(j-off)=j by omega]
     exact hcell j O
    ·rw [YE h3,jP,show j-(off+n * k)=j-off-n * k by omega];exact hnr _ O)
   refine put hw ⟨cap,rfl,hroom,hcap,?_⟩
   exact ⟨_,_,_,setRow_heap w b cur _ _ _ hh,by simp;omega⟩
 ·-- a new row
  have hroom:cap<n+m:=by omega
  obtain ⟨olds,hol,hor,horun⟩:Ec P G.al St w (.slice base n cap) k n (fun j=>f (off+j)):=by
   rcases hbase with ⟨hg,hb,hc0,hn0⟩|⟨b,hg,hb,_⟩
   ·subst hb hn0 hc0;exact rQ
   ·subst hg hb
    obtain ⟨_,cur,tt,zz,hh,hle,hc⟩:=xE hr hH
    refine pJ (g:=fun j=>cur.getD (off+j) undef) fun j hj=>⟨?_,hc (off+j) O⟩
    have hlt:off+j<cur.size:=by omega
    rw [cell_of_row w b (off+j) cur tt zz hh];simp [hlt]
  have hrun':=rW (t:=t) (u:=u) (ty:=o.type) h1 hu hi hs hz (fun W hW=>(hrun W hW).1) (fun W hW=>(horun W hW).2) (fun W hW=>(hrun W hW).2) hroom h63 (by rw [hby];exact h48)
  unfold Oper.wp
  rw [gJ ho (by rw [hargs,ev];exact hrun')]
  refine ⟨iq hr (dB w _),St,fun _ h=>h,_,hK (some w.heap.size) 0,?_⟩
  have hgc:n+m≤grownCap w (n+m) cap e∧grownCap w (n+m) cap e≤9223372036854775807:=by
   have hlt:=Z0 (w.tape w.drawn (.appendCap (n+m) cap e)) (show 0<2 ^ 63-(n+m) by omega)
   simp only [grownCap,Question.cut]
   omega
  have hcell0:(w.drew.alloc (.cells (olds.toArray++news.toArray++Builtin.zeroCells z.cells (grownCap w (n+m) cap e-(n+m))) e)).heap[w.heap.size]?=some (.cells (olds.toArray++news.toArray++Builtin.zeroCells z.cells (grownCap w (n+m) cap e-(n+m))) e (0,0)):=heap_alloc_new w.drew _
  have hsize:(olds.toArray++news.toArray++Builtin.zeroCells z.cells (grownCap w (n+m) cap e-(n+m))).size=grownCap w (n+m) cap e * k:=by
   simp [Builtin.zeroCells,hol,hnl,hzk]
   rw [← adx,← adx]
   congr 1
   omega
  have hEvo:qS St w (w.drew.alloc (.cells (olds.toArray++news.toArray++Builtin.zeroCells z.cells (grownCap w (n+m) cap e-(n+m))) e)):=qS.of_below (dB w _) hr.s3
  have hfr:=hr.fresh (dB w _) (YG _) hcell0 (n:=0+(n+m) * k) (f:=dv 0 F) (by rw [hsize,Nat.zero_add];exact ZG _ hgc.1) (fun j hj=>by
   refine hF j O _ _ _ _ (ba.evo hEvo (fun _ x=>x) _ _ ?_)
   unfold u5
   rw [Ge olds news _ j O,hol]
   by_cases h3:j<n * k
   ·rw [YF h3,YF h3];exact hor j h3
   ·rw [YE h3,YE h3];exact hnr (j-n * k) O)
  have hkl:=hfr.move ((YJ.1 hH).1)
  refine put hkl ⟨_,rfl,hgc.1,hgc.2,_,_,_,hcell0,?_⟩
  rw [hsize]
  omega
end
section
variable {P:Program} {G:Gh} {o:Oper} {K:AS→Prop} {t u:TypeId} {p q:Operand} {env:List (Nat×CV)} {b0:Nat→CV} {H:List (Option Nat×bi)}
theorem Fb {e:TypeId} {z:Value} {i off N d by_ m:Nat} {g:Option Nat} {h:Nat→CV} {l l2:Z} (ho:o.op=.call ⟨.builtin .append,#[p,q],#[t,u]⟩) (hx:(⟨env,b0,H⟩:AS).eval p=.os i g off l.length 1) (hH:H[i]?=some (g,.blk N (dv off (bc l)))) (hN:off+l.length≤N)
  (hsrc:uf P G ⟨env,b0,H⟩ q 1 m h) (hm:m=l2.length) (hh:∀ j,j<l2.length→aa (h j) (bc l2 j)) (h1:P.underlying t=some (.slice e)) (hu:eL P u=true) (h5:(P.info? e).map (·.size)=some 1) (hz:(P.info? e).map (·.zero)=some (some z)) (hby:(P.info? e).map (·.bytes)=some by_) (hzk:z.cells.size=1)
  (h63:l.length+l2.length≤9223372036854775807) (h48:(l.length+l2.length) * by_≤140737488355328) (hleaf:∀ j,j<m * 1→iS (h j)=true) (hd:o.dst=some d) (hdN:Nat.blt d G.N=true)
  (hK:∀ g' off',K ⟨(d,.os i g' off' (l++l2).length 1)::env,b0,H.set i (g',.blk (off'+(l++l2).length) (dv off' (bc (l++l2))))⟩):ug P G o ⟨env,b0,H⟩ K:=by
 subst hm
 refine E8 ho hx hH O hsrc h1 hu h5 hz hby h63 h48 hzk (bc (l++l2)) (fun j hj=>?_) hleaf (kN hd hdN) (fun g' off'=>?_)
 ·unfold u5
  rw [Ze] at hj ⊢
  split
  ·rename_i h
   dsimp only
   rw [la]
   refine aa.of_eq ?_
   simp [bc,List.getD,YL h]
  ·rename_i h
   refine (hh _ O).trans (aa.of_eq ?_)
   simp [bc,List.getD,YX (bgx h)]
 ·rw [dG hd]
  have:=hK g' off'
  rw [YI] at this
  rw [Ze]
  exact this
theorem JU {e:TypeId} {i off m n l d:Nat} {g:Option Nat} {lo:Option Operand} {x:Operand} (ho:o.op=.slice t x lo none none) (hx:(⟨env,b0,H⟩:AS).eval x=.os i g off n m) (h1:P.underlying t=some (.slice e)) (h5:(P.info? e).map (·.size)=some m)
  (hl:Bd (⟨env,b0,H⟩:AS) 0 lo l) (hln:l≤n) (hd:o.dst=some d) (hN:Nat.blt d G.N=true) (hK:∀ off',(off'=off+l * m∨(l=n∧off'=off))→K ⟨(d,.os i g off' (n-l) m)::env,b0,H⟩):kQ P G o ⟨env,b0,H⟩ K:=fun St a w hr Q=>by
 have put:∀ {v:Value} {c:CV},ba G.al St w c v→az G St ⟨(d,c)::env,b0,H⟩ (a.put o.dst v) w:=fun {v c} h2=>by
  have:=hr.put (dst:=some d) (fun e he=>by obtain rfl:=Y9 he;exact YU hN) h2
  rw [hd]
  exact this
 by_cases h0:l=0∨l<n
 ·obtain ⟨v,hv,hrep⟩:=yV (G:=G) ho hx h1 h5 hl (bG _ _) hln (YG _) h0 St a w hr
  unfold Oper.wp
  rw [hv w (eX.refl _ _)]
  exact ⟨Below.refl _ _,St,fun _ h=>h,_,hK _ (.inl rfl),put hrep⟩
 ·have hl2:l=n:=by omega
  obtain ⟨info,hi',hs⟩:=YM.1 h5
  have he:=ji hr hx
  cases g with
  | none=>have:=he.1;omega
  | some b =>
   obtain ⟨cap,e0,h2,h3,cur,ty,z,h4,h6⟩:=he
   have hrun:(execOp a.eval o).run P w=.ok (.value (.slice (if cap=l then some ⟨b,off,none⟩ else some (Addr.add ⟨b,off,none⟩ (l * m))) (n-l) (cap-l))) w:=by
    have hb:∀ is W,(Instr.sliceBounds is n cap (lo.map a.eval) none none).run P W=.ok (l,n,cap) W:=fun is W=>iC hr hl (hi:=none) (bG _ _) hln (YG _) h2 is W
    refine iH ho ?_
    rw [e0]
    simp [Instr.sliceAt,Instr.slice,underlying,h1,hb,sizeOf,typeInfo,hi',hs]
   unfold Oper.wp
   rw [hrun]
   by_cases hc:cap=l
   ·rw [YF hc]
    exact ⟨Below.refl _ _,St,fun _ h=>h,_,hK off (.inr ⟨hl2,rfl⟩),put ⟨cap-l,rfl,by omega,by omega,cur,ty,z,h4,by rw [hc,aNx,ZQ];omega⟩⟩
   ·rw [YE hc,f9]
    refine ⟨Below.refl _ _,St,fun _ h=>h,_,hK _ (.inl rfl),put ⟨cap-l,rfl,by omega,by omega,cur,ty,z,h4,?_⟩⟩
    have:l * m+(cap-l) * m=cap * m:=by rw [← adx];congr 1;omega
    omega
end
def yt (l:List Nat) (j:Nat):CV:=.c (.int .u32 ((l.getD j 0:Nat):Int))
theorem FX {l:List Nat} {i v j:Nat} (hl:l.length=i):aa (gT (yt l) i [.c (.int .u32 ((v:Nat):Int))] j) (yt (l++[v]) j):=by
 rw [dE]
 refine aa.of_eq ?_
 by_cases h:j=i
 ·subst h
  rw [YF (by simp)]
  simp [yt,fl,List.getD,hl]
 ·rw [YE (by simp;omega)]
  unfold yt
  by_cases h2:j<i
  ·simp [List.getD,YL (show j<l.length by omega)]
  ·have e1:l[j]?=none:=Y6 O
   have e2:(l++[v])[j]?=none:=Y6 (by simp;omega)
   simp [List.getD,e1,e2]
theorem Q9 (r:Z) (off p:Nat):dv off (bc r) (off+p * 1)=.c (.int .u8 (((r.getD p 0).toNat:Nat):Int)):=by rw [la,Ze];rfl
theorem oZ (c:UInt8) {n:Nat} (hn:n≤24):c.toNat <<< n<jg:=by
 have h:=c.toNat_lt
 rw [aix]
 have h2:(2:Nat) ^ n≤2 ^ 24:=ZA jD hn
 have h3:c.toNat * 2 ^ n≤255 * 2 ^ 24:=Nat.mul_le_mul O h2
 unfold jg
 omega
theorem WU (c:UInt8):c.toNat<jg:=by have:=c.toNat_lt;unfold jg;omega
theorem Yd (a b c d:UInt8):((a.toNat <<< 24 ||| b.toNat <<< 16) ||| c.toNat <<< 8) ||| d.toNat=a.toNat * 16777216+b.toNat * 65536+c.toNat * 256+d.toNat:=by
 have ha:=a.toNat_lt
 have hb:=b.toNat_lt
 have hc:=c.toNat_lt
 have hd:=d.toNat_lt
 rw [Nat.or_assoc,Nat.or_assoc]
 rw [← aMx (show d.toNat<2 ^ 8 by omega)]
 rw [← aMx (show c.toNat <<< 8+d.toNat<2 ^ 16 by rw [aix];omega)]
 rw [← aMx (show b.toNat <<< 16+(c.toNat <<< 8+d.toNat)<2 ^ 24 by rw [aix,aix];omega)]
 simp only [aix]
 omega
theorem Vk (r:Z) {p:Nat} (h:p+3<64):Ko (r.take 64) p=(r.getD p 0).toNat * 16777216+(r.getD (p+1) 0).toNat * 65536+(r.getD (p+2) 0).toNat * 256+(r.getD (p+3) 0).toNat:=by
 have g:∀ q,q<64→(r.take 64).getD q 0=r.getD q 0:=fun q hq=>by simp [List.getD,hq]
 unfold Ko
 rw [g p O,g (p+1) O,g (p+2) O,g (p+3) O]
theorem HJ {b:Z} {i v:Nat} (h:i<16) (e:v=Ko b (4 * i)):aH b (i+1)=aH b i++[v]:=by
 show aH b i++[_]=_
 rw [YF h,e]
theorem HM {b:Z} {i v:Nat} (h:¬ i<16) (e:v=uz (aH b i) i):aH b (i+1)=aH b i++[v]:=by
 show aH b i++[_]=_
 rw [YE h,e]
theorem VN {z:Value} {n j:Nat} (h:z.cells=Array.replicate n (.int .u32 0)) (hj:j<n):aa (.c (z.cells.getD j undef)) (yt [] j):=aa.of_eq (by rw [h];simp [hj];rfl)
theorem Xy {r b:Z} {i:Nat} (hb:b=r.take 64) (h:i<16):(((r.getD (4 * i) 0).toNat <<< 24 ||| (r.getD (4 * i+1) 0).toNat <<< 16) ||| (r.getD (4 * i+2) 0).toNat <<< 8) ||| (r.getD (4 * i+3) 0).toNat=Ko b (4 * i):=by
 rw [hb,Vk r O]
 exact Yd _ _ _ _
theorem XJ (w:List Nat) (i:Nat):(((w.getD (i-16) 0+(dA (w.getD (i-15) 0) 7 ^^^ dA (w.getD (i-15) 0) 18 ^^^ w.getD (i-15) 0 >>> 3)) % 4294967296+w.getD (i-7) 0) % 4294967296+(dA (w.getD (i-2) 0) 17 ^^^ dA (w.getD (i-2) 0) 19 ^^^ w.getD (i-2) 0 >>> 10)) % 4294967296=uz w i:=by
 unfold uz Lm Ll jg
 generalize dA (w.getD (i-15) 0) 7 ^^^ dA (w.getD (i-15) 0) 18 ^^^ w.getD (i-15) 0 >>> 3=a
 generalize dA (w.getD (i-2) 0) 17 ^^^ dA (w.getD (i-2) 0) 19 ^^^ w.getD (i-2) 0 >>> 10=c
 omega
theorem HN {gs:List Nat} (g:Option Nat) (off:Nat) (r:Z) (h:64≤r.length) (hr:r.length≤1000000000000):AC gs Tryz.prog 267 [(g,.blk (off+r.length) (dv off (bc r)))] [.os 0 g off 64 1]
  (fun x H'=>x=.agg 64 (yt (aH (r.take 64) 64))∧H'=[(g,.blk (off+r.length) (dv off (bc r)))]):=by
 obtain ⟨b,hb⟩:∃ b,b=r.take 64:=⟨_,rfl⟩
 rw [← hb]
 refine aj 86 Tryz.func267 fun al w0 F0 St0=>?_;refine dP ?_
 refine au (cl (n:=64) SH rfl fun p1=>?_)
 refine U 65 ?_
 refine au (cl (n:=64) SH rfl fun p2=>?_)
 refine U 2051675 ?_;refine ax (α:=Nat) [4,5,6,7,8,9,10,11,12,13,14,15,16,17,18,19,20,21,22,23,24,25,26,27,28,29,30,31,32,33,34,35,36,37,38,39,40,41,42,43,44,45,46,47,48,49,50,51,52,53,54,55,56,57,58,59,60,61,62,63,64,65,66,67,68,69,70,71,72,73,74,75,76,77,78,79,80,81,82,83,84] (fun i=>[(7,.c (.int .i64 (i:Nat)))]) (fun i=>[(g,.blk (off+r.length) (dv off (bc r))),(p1,.blk 64 (fun _=>.top)),(p2,.blk 64 (yt (aH b i)))]) (fun i=>i≤64) (fun i=>64-i) (0) ?_ (fun _=>rfl) ?_ ?_ ?_
 ·simp
 ·(repeat (first|exact bz.nil|refine bz.cons I ?_))
 ·exact .same (.blk rfl (fun _ _=>aa.top _) (.blk rfl (fun j hj=>VN rfl hj) .nil))
 ·rintro i (hi:i≤64)
  refine U 7526 ?_;refine ap (fun h42=>?_) fun h42=>?_
  rotate_left
  ·refine U 684000200020006000 ?_;refine gw (bq 64) ?_
   refine aq (bo 64 (yt (aH b i)) ?_ ?_)
   ·exact (fun j hj=>by rw [dE,YF (by simp;omega),dJ];simp [List.getD,hj];exact I)
   refine U 70005 ?_
   obtain rfl:i=64:=by omega
   exact aJ (.inl rfl) rfl (av rfl (bD 64)) (aa.agg rfl fun j hj=>by show aa (yt _ (0+j)) _;rw [Nat.zero_add];exact I)
  refine U 521675116207810 ?_;refine ap (fun h43=>?_) fun h43=>?_
  ·refine gY ?_;refine lM 35 (.rd 0 (.rd 1 (.rd 2 (.rd 3 (.rd 4 (.rd 5 (.rd 6 (.rd 7 (.rd 8 (.rd 9 (.rd 10 (.rd 11 (.rd 12 (.rd 13 (.rd 14 (.rd 15 (.rd 16 (.rd 17 (.rd 18 (.rd 19 (.rd 20 (.rd 21 (.rd 22 (.rd 23 (.rd 24 (.rd 25 (.rd 26 (.rd 27 (.rd 28 (.rd 29 (.rd 30 (.rd 31 (.rd 32 (.rd 33 (.rd 34 .done))))))))))))))))))))))))))))))))))) ?_;refine U 30000707070 ?_;refine aM (gh (i:=4 * i) rfl rfl rfl Tryz.underlying23 ix O O) ?_;refine w8 (gm (hv:=Q9 r off (4 * i))) ?_;refine aM (ru .u32) ?_;refine aM (AW (n:=24) rfl rfl rfl jD (l9 (oZ _ jD))) ?_;refine U 30000300007070 ?_;refine aM (gh (i:=4 * i+1) rfl rfl rfl Tryz.underlying23 ix O O) ?_;refine w8 (gm (hv:=Q9 r off (4 * i+1))) ?_;refine aM (ru .u32) ?_;refine aM (AW (n:=16) rfl rfl rfl jD (l9 (oZ _ jD))) ?_;refine aM (nJ rfl rfl rfl (l9 (oZ _ jD)) (l9 (oZ _ jD))) ?_;refine U 30000300007070 ?_;refine aM (gh (i:=4 * i+2) rfl rfl rfl Tryz.underlying23 ix O O) ?_;refine w8 (gm (hv:=Q9 r off (4 * i+2))) ?_;refine aM (ru .u32) ?_;refine aM (AW (n:=8) rfl rfl rfl jD (l9 (oZ _ jD))) ?_;refine aM (nJ rfl rfl rfl (l9 (ux (oZ _ jD) (oZ _ jD))) (l9 (oZ _ jD))) ?_;refine U 30000300007070 ?_;refine aM (gh (i:=4 * i+3) rfl rfl rfl Tryz.underlying23 ix O O) ?_;refine w8 (gm (hv:=Q9 r off (4 * i+3))) ?_;refine aM (ru .u32) ?_;refine aM (nJ rfl rfl rfl (l9 (ux (ux (oZ _ jD) (oZ _ jD)) (oZ _ jD))) (l9 (WU _))) ?_;refine aM (bh rfl rfl rfl Tryz.underlying315 fm (show _=((i:Nat):Int) by omega) (by (omega))) ?_;refine xP ?_
   show cJ _ _ _ _ _ _
   refine aq (bo 1 (yt (aH b (i+1))) ?_ ?_)
   ·exact (fun j hj=>by rw [HJ O (Xy hb O)];exact FX (iB b i))
   refine U 8519200840002000600085 ?_
   refine aw (i+1) ?_ ?_ (h7:=?_)
   ·omega
   ·omega
   ·exact .same (.blk rfl (fun _ _=>aa.top _) (.same .nil))
  refine U 7810 ?_
  have hA:(aH b i).getD (i-15) 0<jg:=by rw [qZ b O];split;exact FL _ _;exact Z0 _ jD
  have hB:(aH b i).getD (i-2) 0<jg:=by rw [qZ b O];split;exact FL _ _;exact Z0 _ jD
  refine dY (.rd 0 (.rd 1 (.rd 2 (.rd 3 (.rd 4 (.rd 5 (.rd 6 (.rd 7 (.rd 8 (.rd 9 .done)))))))))) ?_;refine U 3000070 ?_;refine aM (bh rfl rfl rfl Tryz.underlying315 fm (show _=(((i-15):Nat):Int) by omega) (by (omega))) ?_;refine U 300007010000 ?_;refine aM (bh rfl rfl rfl Tryz.underlying315 fm (show _=(((i-2):Nat):Int) by omega) (by (omega))) ?_;refine U 880707010000 ?_;refine lM 29 (.rd 0 (.rd 1 (.rd 2 (.rd 3 (.rd 4 (.rd 5 (.rd 7 (.rd 10 (.rd 11 (.rd 14 (.rd 15 (.rd 16 (.rd 17 (.rd 19 (.rd 21 (.rd 24 (.rd 25 (.one 6 (.one 8 (.rd 9 (.rd 12 (.rd 13 (.rd 18 (.one 20 (.one 22 (.rd 23 (.rd 26 (.rd 27 (.rd 28 .done))))))))))))))))))))))))))))) ?_;refine U 300007070 ?_;refine aM (bh rfl rfl rfl Tryz.underlying315 fm (show _=(((i-16):Nat):Int) by omega) (by (omega))) ?_;refine U 70707010000 ?_;refine aM (i9 (n:=3) rfl rfl rfl jD) ?_;refine U 3000070 ?_;refine aM (bh rfl rfl rfl Tryz.underlying315 fm (show _=(((i-7):Nat):Int) by omega) (by (omega))) ?_;refine U 70707010000 ?_;refine aM (i9 (n:=10) rfl rfl rfl jD) ?_
  refine ir (ar (eZ _ 7 hA jD jD) ?_)
  refine ir (ar (eZ _ 18 hA jD jD) ?_)
  refine aM (dt rfl rfl rfl (l9 (be hA)) (l9 (be hA))) ?_;refine aM (dt rfl rfl rfl (l9 (gz (be hA) (be hA))) (l9 (nG hA))) ?_;refine aM (ft rfl rfl rfl) ?_;refine aM (ft rfl rfl rfl) ?_
  refine ir (ar (eZ _ 17 hB jD jD) ?_)
  refine ir (ar (eZ _ 19 hB jD jD) ?_)
  refine aM (dt rfl rfl rfl (l9 (be hB)) (l9 (be hB))) ?_;refine aM (dt rfl rfl rfl (l9 (gz (be hB) (be hB))) (l9 (nG hB))) ?_;refine aM (ft rfl rfl rfl) ?_;refine aM (bh rfl rfl rfl Tryz.underlying315 fm (show _=((i:Nat):Int) by omega) (by (omega))) ?_;refine xP ?_
  show cJ _ _ _ _ _ _
  refine aq (bo 1 (yt (aH b (i+1))) ?_ ?_)
  ·exact (fun j hj=>by rw [HM O (XJ (aH b i) i)];exact FX (iB b i))
  refine U 851920084005 ?_
  refine aw (i+1) ?_ ?_ (h7:=?_)
  ·omega
  ·omega
  ·exact .same (.blk rfl (fun _ _=>aa.top _) (.same .nil))
section
variable {P:Program} {G:Gh} {o:Oper} {s:AS} {t u:TypeId} {x y:Operand} {k:IntKind}
theorem F4 {St:Nat→Prop} {a:Act} {w:World} (h:az G St s a w) (hS:∀ t ∈ oH,t.1 ∈ pn G.gs) {g:Nat} {vs:List Value} (hm:(g,vs) ∈ oH):ba G.al St w (.rp vs.length fun j=>.c (vs.getD j undef)) (.pointer (some ⟨g,0,none⟩)) :=
 ⟨g,0,rfl,h.sg.1 g (hS _ hm),fun j hj=>⟨_,by rw [Nat.zero_add];exact h.sn.tbl _ hm (hS _ hm) j _ (YR hj),by simp [List.getD,hj];rfl⟩⟩
theorem IB {e:TypeId} {n i g:Nat} {z:Int} {vs:List Value} (hS:∀ t ∈ oH,t.1 ∈ pn G.gs) (hm:(g,vs) ∈ oH) (ho:o.op=.indexAddr t (.global g) y) (hy:s.eval y=.c (.int k z)) (h1:P.underlying t=some (.array n e)) (h5:(P.info? e).map (·.size)=some 1) (hz:z=(i:Int)) (hi:i<n) (hn:n=vs.length):ci P G o s (.rp 1 fun _=>.c (vs.getD i undef)):=fun St a w h=>by
 obtain ⟨info,h5i,h6⟩:=YM.1 h5
 obtain ⟨b,q,e0,hb,hf⟩:=F4 h hS hm
 obtain ⟨rfl,rfl⟩:b=g∧q=0:=by
  injection e0 with e1
  have e2:=Y9 e1
  injection e2 with e3 e4 _
  exact ⟨e3.symm,e4.symm⟩
 have ey:a.eval y=.int k z:=kM h hy
 refine ⟨.pointer (some ⟨b,0+i * 1,none⟩),fun W _=>?_,b,0+i * 1,rfl,hb,fun j hj=>?_⟩
 ·simp only [execOp,ho,ey]
  refine lY ?_
  subst hz
  simp [Instr.indexAt,asIntOf,underlying,h1,sizeOf,typeInfo,h5i,h6,hi,f9,Instr.sureAddr,Act.eval]
 ·obtain rfl:j=0:=by omega
  have:=hf i O
  simpa using this
theorem Iw {d:TypeDesc} {m g:Nat} {vs:List Value} (hS:∀ t ∈ oH,t.1 ∈ pn G.gs) (hm:(g,vs) ∈ oH) (ho:o.op=.load t (.global g)) (h1:P.underlying t=some d) (ha:iw P t=true) (h5:(P.info? t).map (·.size)=some m) (hn:m≤vs.length):ci P G o s (.agg m fun j=>.c (vs.getD j undef)):=fun St a w h=>by
 obtain ⟨info,h5i,h6⟩:=YM.1 h5
 obtain ⟨b,q,e,hb,hf⟩:=F4 h hS hm
 obtain ⟨c,hc⟩:=oh (fun j (hj:j<vs.length)=>hf j hj)
 subst h6
 refine ⟨_,fun W hW=>lx ho e (kX h1 ha h5i (g:=c) fun j hj=>?_),_,rfl,by simp,fun i hi=>?_⟩
 ·exact (db (hW b hb) _).trans (hc j O).1
 ·simp [hi];exact (hc i O).2
theorem Qz {a:Nat} (ho:o.op=.unOp .xor t x) (hx:s.eval x=.c (.int .u32 (a:Nat))) (ha:a<jg):ci P G o s (.c (.int .u32 ((nP a:Nat):Int))):=fun _ _ _ h =>
 ⟨_,fun W _=>by
  simp only [execOp,ho,kM h hx]
  refine lY (v:=.int .u32 ((nP a:Nat):Int)) ?_
  have e:BitVec.ofInt IntKind.u32.bits IntKind.u32.max=BitVec.ofInt IntKind.u32.bits ((4294967295:Nat):Int):=rfl
  have e2:4294967295 ^^^ a=nP a:=by
   refine bqx fun i=>?_
   rw [bTx,CW ha,show (4294967295:Nat)=2 ^ 32-1 from rfl,Nat.testBit_two_pow_sub_one]
   by_cases hi:i<32
   ·simp [hi]
   ·simp [hi,UU ha (bgx hi)]
  have e3:IntKind.u32.wrap (BitVec.ofInt IntKind.u32.bits IntKind.u32.max ^^^ BitVec.ofInt IntKind.u32.bits ((a:Nat):Int)).toNat=((nP a:Nat):Int):=by
   rw [BitVec.toNat_xor,e,my (k:=.u32) (by show _∧_;omega),my (l9 ha),e2]
   exact cC (l9 (not_lt a))
  simp [Op.unary,Op.intBits,IntKind.signed]
  exact e3,rfl⟩
theorem yY {z:Value} {e:TypeId} {len m:Nat} {parts:Array (Nat×Operand)} {l:List CV} {n:Nat} (ho:o.op=.build t parts) (h1:P.underlying t=some (.array len e)) (h5:(P.info? e).map (·.size)=some m) (hz:(P.info? t).map (·.zero)=some (some z))
  (hf:sE (fun i=>some (i * m,m)) (z.cells.toList.map .c) (parts.toList.map fun p=>(p.1,s.eval p.2))=some l) (hn:l.length=n):ci P G o s (.agg n (fl l)):=fun St a w h=>by
 obtain ⟨info,hi,hz⟩:=YM.1 hz
 obtain ⟨info5,h5i,h6⟩:=YM.1 h5
 obtain ⟨cs',k1,h2⟩:=sD (al:=G.al) (St:=St) (w:=w) (parts.toList.map fun p=>(p.1,a.eval p.2)) _ (z.cells.toList.map .c) z.cells l ⟨by simp,fun i hi=>by
   have hi:i<z.cells.size:=by simpa using hi
   rw [dJ];simp [List.getD,hi];rfl⟩ (by simp) (fun i hi=>by
   have hi:i<parts.size:=by simpa using hi
   simp [List.getD,hi]
   exact h.eval _) hf
 refine ⟨.agg cs',fun W _=>?_,cs',rfl,by rw [h2.1,hn],fun i hi=>h2.2 i O⟩
 simp only [execOp,ho]
 refine lY ?_
 have k1':Instr.fill (fun i=>some (i * m,m)) z.cells (parts.map fun p=>(p.1,a.eval p.2)).toList=some cs':=by simpa using k1
 simp only [Instr.build,zeroValue,typeInfo,Sem.run_bind,run_program,Result.andThen_ok,hi,Sem.run_pure,hz,underlying,h1,sizeOf,h5i,h6,k1']
theorem yX {e:TypeId} {len n i:Nat} {f:Nat→CV} {v:CV} {z:Int} {k':IntKind} (ho:o.op=.index t x y) (hx:s.eval x=.agg n f) (hy:s.eval y=.c (.int k z)) (h1:P.underlying t=some (.array len e)) (h3:P.underlying e=some (.int k')) (h5:(P.info? e).map (·.size)=some 1)
  (hz:z=(i:Int)) (hi:i<len) (hn:i<n) (hv:f i=v):ci P G o s v:=fun St a w h=>by
 obtain ⟨info,h5i,h6⟩:=YM.1 h5
 obtain ⟨cs,e',hn',hf⟩:=ji h hx
 refine ⟨cs.getD i undef,fun W _=>?_,hv ▸ hf _ hn⟩
 simp only [execOp,ho,e',kM h hy]
 refine lY ?_
 subst hz
 have:i<cs.size:=by omega
 have h4:iw P e=false:=by unfold iw;rw [h3]
 simp [Instr.index,asIntOf,underlying,h1,hi,part,lh h3,h4,sizeOf,typeInfo,h5i,h6,this]
end
def hF (ws:List Nat) (c8 c9:CV) (j:Nat):CV:=if j<8 then yt ws j else if j=8 then c8 else c9
section
variable {gs:List Nat} [sZ gs]
theorem Xz:(32,kL.map fun (n:Nat)=>Value.int .u32 n) ∈ oH:=Y7 _ (Zs.2 rfl)
theorem Yh {i:Nat} (h:i<64):(kL.map fun (n:Nat)=>Value.int .u32 n).getD i undef=.int .u32 ((kL.getD i 0:Nat):Int):=by
 have hl:i<kL.length:=h
 simp [List.getD,hl]
def tP (v:List Nat) (k w:Nat):Nat:=((((v.getD 7 0+((dA (v.getD 4 0) 6 ^^^ dA (v.getD 4 0) 11) ^^^ dA (v.getD 4 0) 25)) % 4294967296+((v.getD 4 0 &&& v.getD 5 0) ^^^ (nP (v.getD 4 0) &&& v.getD 6 0))) % 4294967296+k) % 4294967296+w) % 4294967296
def uP (v:List Nat):Nat:=(((dA (v.getD 0 0) 2 ^^^ dA (v.getD 0 0) 13) ^^^ dA (v.getD 0 0) 22)+(((v.getD 0 0 &&& v.getD 1 0) ^^^ (v.getD 0 0 &&& v.getD 2 0)) ^^^ (v.getD 1 0 &&& v.getD 2 0))) % 4294967296
theorem V1 {v:List Nat} (h:jp v) (k w:Nat):tP v k w=tM v k w % 4294967296:=by
 have e:=Ka (h.2 4) (h.2 5) (h.2 6)
 unfold tP tM P0
 unfold cY at e ⊢
 rw [e]
 generalize dA (v.getD 4 0) 6 ^^^ dA (v.getD 4 0) 11 ^^^ dA (v.getD 4 0) 25=a
 generalize (v.getD 4 0 &&& v.getD 5 0) ||| (nP (v.getD 4 0) &&& v.getD 6 0)=c
 omega
theorem VX (v:List Nat):uP v=uM v % 4294967296:=by
 unfold uP uM P1 cY
 rw [Rj]
theorem Cu {v:List Nat} (h:jp v) (k w j:Nat) (hj:j<8):aa (fl [.c (.int .u32 (((tP v k w+uP v) % 4294967296:Nat):Int)),.c (.int .u32 ((v.getD 0 0:Nat):Int)),.c (.int .u32 ((v.getD 1 0:Nat):Int)),.c (.int .u32 ((v.getD 2 0:Nat):Int)),.c (.int .u32 (((v.getD 3 0+tP v k w) % 4294967296:Nat):Int)),.c (.int .u32 ((v.getD 4 0:Nat):Int)),.c (.int .u32 ((v.getD 5 0:Nat):Int)),.c (.int .u32 ((v.getD 6 0:Nat):Int))] j) (yt (o8 v k w) j):=by
 rw [V1 h,VX]
 rcases j with _|_|_|_|_|_|_|_|j
 ·exact cI (by show _=(((tM v k w+uM v) % 4294967296:Nat):Int);omega)
 ·exact I
 ·exact I
 ·exact I
 ·exact cI (by show _=(((v.getD 3 0+tM v k w) % 4294967296:Nat):Int);omega)
 ·exact I
 ·exact I
 ·exact I
 ·omega
theorem LD {ws V:List Nat} {b:Z} {i:Nat} (hVe:V=dR ws b i) (hV:jp V) {l:List CV} (hl:l=[.c (.int .u32 (((tP V (kL.getD i 0) ((aH b 64).getD i 0)+uP V) % 4294967296:Nat):Int)),.c (.int .u32 ((V.getD 0 0:Nat):Int)),.c (.int .u32 ((V.getD 1 0:Nat):Int)),.c (.int .u32 ((V.getD 2 0:Nat):Int)),.c (.int .u32 (((V.getD 3 0+tP V (kL.getD i 0) ((aH b 64).getD i 0)) % 4294967296:Nat):Int)),.c (.int .u32 ((V.getD 4 0:Nat):Int)),.c (.int .u32 ((V.getD 5 0:Nat):Int)),.c (.int .u32 ((V.getD 6 0:Nat):Int))]) (j:Nat) (hj:j<8):aa (fl l j) (yt (dR ws b (i+1)) j):=by
 subst hl
 have:=Cu hV (kL.getD i 0) ((aH b 64).getD i 0) j hj
 subst hVe
 exact this
theorem Es {n j:Nat} {f F:Nat→CV} {c:CV} (hj:j<n) (h:aa (F j) c):aa (gT f 0 ((List.range n).map F) j) c:=by
 rw [dE,YF (by simp;exact hj),dJ]
 simpa [List.getD,hj] using h
def xK (ws v:List Nat) (c8 c9:CV) (i j:Nat):CV:=if j<8∧j<i then .c (.int .u32 (((cY ws j+cY v j) % 4294967296:Nat):Int)) else hF ws c8 c9 j
theorem Pg {ws v:List Nat} {c8 c9:CV} {i j:Nat} (hi:i<8):aa (gT (xK ws v c8 c9 i) i [.c (.int .u32 (((cY ws i+cY v i) % 4294967296:Nat):Int))] j) (xK ws v c8 c9 (i+1) j):=by
 rw [dE]
 by_cases h:j=i
 ·subst h
  rw [YF (by simp),aNx]
  unfold xK
  rw [YF ⟨hi,by omega⟩]
  exact I
 ·rw [YE (by simp;omega)]
  unfold xK
  by_cases h2:j<8∧j<i
  ·rw [YF h2,jP];exact I
  ·rw [YE h2,jK];exact I
theorem Ph {ws:List Nat} (b:Z) {c8 c9:CV} (j:Nat):aa (xK ws (dR ws b 64) c8 c9 8 j) (hF (me ws b) c8 c9 j):=by
 unfold xK hF
 by_cases h:j<8
 ·rw [YF ⟨h,h⟩,YF h]
  refine aa.of_eq ?_
  unfold yt me
  rw [YH,ZB,aEx h]
  rfl
 ·rw [jK,YE h,YE h]
  exact I
theorem SD (ws v:List Nat) (c8 c9:CV) {i:Nat} (hi:i<8):xK ws v c8 c9 i i=.c (.int .u32 ((ws.getD i 0:Nat):Int)):=by
 unfold xK hF
 rw [jK,YF hi]
 rfl
theorem PX (n:Nat) (ws:List Nat) (c8 c9:CV) (g:Option Nat) (off:Nat) (r:Z) (hw:jp ws) (h:64≤r.length) (hr:r.length≤1000000000000):AC gs Tryz.prog 246 [jW [(some n,.blk 10 (hF ws c8 c9)),(g,.blk (off+r.length) (dv off (bc r)))]] [.op 0 (some n) 0,.os 1 g off 64 1]
  (fun x H'=>x=.c (.tuple #[])∧H'=[jW [(some n,.blk 10 (hF (me ws (r.take 64)) c8 c9)),(g,.blk (off+r.length) (dv off (bc r)))]]):=by
 obtain ⟨b,hb⟩:∃ b,b=r.take 64:=⟨_,rfl⟩
 have hsp:=HN (gs:=gs) g off r h hr
 rw [← hb] at hsp ⊢
 refine aj 111 Tryz.func246 fun al w0 F0 St0=>?_
 first
  |(refine jE (bag_pop 0 rfl) ?_;refine jE (bag_pop 0 rfl) ?_;refine jE (cn (H':=[(some n,.blk 10 (hF ws c8 c9)),(g,.blk (off+r.length) (dv off (bc r)))]) [1,2] jD rfl) ?_)
  | skip
 refine U 4016 ?_;refine gw (bq 8) ?_
 refine au (cl (n:=8) SI rfl fun p1=>?_)
 refine aq (bo 8 (yt ws) ?_ ?_)
 ·exact (fun j hj=>by rw [dE,YF (by simp;omega),dJ];simp [List.getD,hj,hF];exact I)
 refine U 1675 ?_
 refine aq (aQ 1 hsp ?_)
 refine U 2051 ?_;refine ax (α:=Nat) [5,6,7,8,9,10,17,18,19,20,21,22,23,24,25,26,27,28,29,30,31,32,33,34,35,36,37,38,39,40,41,42,43,44,45,46,47,48,49,50,51,52,53,54,55,56,57,58,59,60,61,62,63,64,65,66,67,68,69,70,71,72,73,74,75,76,77,78,79,80,81,82,83,84,85,86,87,88,89,90,91,92,93,94,95] (fun i=>[(17,.c (.int .i64 (i:Nat)))]) (fun i=>[(some n,.blk 10 (hF ws c8 c9)),(g,.blk (off+r.length) (dv off (bc r))),(p1,.blk 8 (yt (dR ws b i)))]) (fun i=>i≤64) (fun i=>64-i) (0) ?_ (fun _=>rfl) ?_ ?_ ?_
 ·simp
 ·(repeat (first|exact bz.nil|refine bz.cons I ?_))
 ·exact aP.refl _
 ·rintro i (hi:i≤64)
  refine U 7526 ?_;refine ap (fun h56=>?_) fun h56=>?_
  rotate_left
  ·refine U 2051684000200020006000 ?_;refine ax (α:=Nat) [11,96,97,98,99,100,101,102,103,104,105,106,107,108,109,110] (fun i=>[(96,.c (.int .i64 (i:Nat)))]) (fun i=>[(some n,.blk 10 (xK ws (dR ws b 64) c8 c9 i)),(g,.blk (off+r.length) (dv off (bc r))),(p1,.blk 8 (yt (dR ws b 64)))]) (fun i=>i≤8) (fun i=>8-i) (0) ?_ (fun _=>rfl) ?_ ?_ ?_
   ·simp
   ·(repeat (first|exact bz.nil|refine bz.cons I ?_))
   ·obtain rfl:i=64:=by omega
    exact .blk rfl (fun j hj=>aa.of_eq (by unfold xK;rw [jK])) (aP.refl _)
   ·rintro i2 (hi2:i2≤8)
    refine U 7526 ?_;refine ap (fun h62=>?_) fun h62=>?_
    rotate_left
    ·refine U 4000200020006000 ?_
     obtain rfl:i2=8:=by omega
     refine Bz (H':=?H2) ?hh ?hb
     case hh=>intro _ _ _ _ _ hx;exact hx.weak (i:=0) (m:=10) (F:=hF (me ws b) c8 c9) rfl (YG _) (fun j _=>Ph b j)
     case hb=>exact bO (gd:=fun _:Unit=>0) (E:=fun _=>[(some n,.blk 10 (hF (me ws b) c8 c9)),(g,.blk (off+r.length) (dv off (bc r)))]) (.inr rfl) _ () [0,1] jD rfl (cM rfl) ⟨rfl,rfl⟩
    refine U 5116207810 ?_;refine lM 11 (.rd 0 (.rd 1 (.rd 2 (.rd 3 (.rd 4 (.rd 5 (.rd 6 (.rd 7 (.rd 8 (.rd 9 (.rd 10 .done))))))))))) ?_;refine U 500007070 ?_;refine aM (bh rfl rfl rfl Tryz.underlying293 fm (show _=((i2:Nat):Int) by omega) (by (omega))) ?_;refine w8 (gm (hv:=SD ws (dR ws b 64) c8 c9 O)) ?_;refine U 70 ?_;refine aM (bh rfl rfl rfl Tryz.underlying293 fm (show _=((i2:Nat):Int) by omega) (by (omega))) ?_;refine w8 gm ?_;refine aM (ft rfl rfl rfl) ?_;refine aM RA ?_;refine aM (bh rfl rfl rfl Tryz.underlying293 fm (show _=((i2:Nat):Int) by omega) (by (omega))) ?_;refine xP ?_
    show cJ _ _ _ _ _ _
    refine aq (bo 1 (xK ws (dR ws b 64) c8 c9 (i2+1)) ?_ ?_)
    ·exact (fun j hj=>Pg O)
    refine U 851920084005 ?_
    refine aw (i2+1) ?_ ?_ (h7:=?_)
    ·omega
    ·omega
    ·exact aP.refl _
  refine U 16207810 ?_;refine jq (yX (i:=i) rfl rfl rfl Tryz.underlying315 Tryz.underlying257 fm rfl O O rfl) ?_;refine U 7511 ?_
  have hV:=nz hw b i
  obtain ⟨V,hVe⟩:∃ V,V=dR ws b i:=⟨_,rfl⟩
  rw [← hVe] at hV ⊢
  have h0:V.getD 0 0<jg:=hV.2 0
  have h1:V.getD 1 0<jg:=hV.2 1
  have h2:V.getD 2 0<jg:=hV.2 2
  have h4:V.getD 4 0<jg:=hV.2 4
  have h5:V.getD 5 0<jg:=hV.2 5
  have h6:V.getD 6 0<jg:=hV.2 6
  refine dY (.rd 0 (.rd 1 (.rd 2 (.rd 3 (.rd 4 (.rd 5 .done)))))) ?_;refine aM (bh rfl rfl rfl Tryz.underlying293 fm (show (0:Int)=((0:Nat):Int) from rfl) (by (omega))) ?_;refine w8 gm ?_;refine aM (bh rfl rfl rfl Tryz.underlying293 fm (show (4:Int)=((4:Nat):Int) from rfl) (by (omega))) ?_;refine U 7880707010000 ?_;refine dY (.rd 0 (.rd 1 (.rd 2 (.rd 4 (.rd 7 (.rd 11 (.rd 12 (.rd 13 (.rd 14 (.rd 15 (.rd 16 (.rd 17 (.rd 18 (.rd 19 (.rd 20 (.rd 22 (.rd 23 (.rd 24 (.rd 26 (.one 3 (.one 5 (.rd 6 (.one 8 (.rd 9 (.rd 10 (.rd 21 (.rd 25 (.rd 27 (.rd 28 .done))))))))))))))))))))))))))))) ?_;refine aM (bh rfl rfl rfl Tryz.underlying293 fm (show (7:Int)=((7:Nat):Int) from rfl) (by (omega))) ?_;refine U 7070707010000 ?_;refine aM (bh rfl rfl rfl Tryz.underlying293 fm (show (5:Int)=((5:Nat):Int) from rfl) (by (omega))) ?_;refine w8 gm ?_;refine aM (k9 rfl rfl rfl (l9 h4) (l9 h5)) ?_;refine U 70 ?_;refine aM (Qz rfl rfl h4) ?_;refine aM (bh rfl rfl rfl Tryz.underlying293 fm (show (6:Int)=((6:Nat):Int) from rfl) (by (omega))) ?_;refine w8 gm ?_;refine aM (k9 rfl rfl rfl (l9 (not_lt _)) (l9 h6)) ?_;refine aM (dt rfl rfl rfl (l9 (fB h4)) (l9 (fB (not_lt _)))) ?_;refine U 70 ?_;refine aM (IB (i:=i) sZ.a Xz rfl rfl Tryz.underlying315 fm rfl O rfl) ?_;refine aM (kC (hv:=by rw [Yh O])) ?_;refine U 70 ?_
  refine ir (ar (eZ _ 6 h4 jD jD) ?_)
  refine ir (ar (eZ _ 11 h4 jD jD) ?_)
  refine aM (dt rfl rfl rfl (l9 (be h4)) (l9 (be h4))) ?_
  refine ir (ar (eZ _ 25 h4 jD jD) ?_)
  refine aM (dt rfl rfl rfl (l9 (gz (be h4) (be h4))) (l9 (be h4))) ?_;refine aM (ft rfl rfl rfl) ?_;refine aM (ft rfl rfl rfl) ?_;refine aM (ft rfl rfl rfl) ?_;refine aM (ft rfl rfl rfl) ?_;refine U 788070 ?_;refine dY (.rd 0 (.rd 2 (.rd 5 (.rd 8 (.rd 9 (.rd 10 (.rd 11 (.rd 12 (.rd 13 (.rd 14 (.rd 15 (.rd 16 (.rd 17 (.rd 18 (.rd 19 (.rd 20 (.rd 21 (.rd 22 (.one 1 (.one 3 (.rd 4 (.one 6 (.rd 7 (.rd 23 (.rd 24 .done))))))))))))))))))))))))) ?_;refine U 70707070 ?_;refine aM (bh rfl rfl rfl Tryz.underlying293 fm (show (1:Int)=((1:Nat):Int) from rfl) (by (omega))) ?_;refine w8 gm ?_;refine aM (k9 rfl rfl rfl (l9 h0) (l9 h1)) ?_;refine U 70 ?_;refine aM (bh rfl rfl rfl Tryz.underlying293 fm (show (2:Int)=((2:Nat):Int) from rfl) (by (omega))) ?_;refine w8 gm ?_;refine aM (k9 rfl rfl rfl (l9 h0) (l9 h2)) ?_;refine aM (dt rfl rfl rfl (l9 (fB h0)) (l9 (fB h0))) ?_;refine aM (bh rfl rfl rfl Tryz.underlying293 fm (show (1:Int)=((1:Nat):Int) from rfl) (by (omega))) ?_;refine w8 gm ?_;refine aM (bh rfl rfl rfl Tryz.underlying293 fm (show (2:Int)=((2:Nat):Int) from rfl) (by (omega))) ?_;refine w8 gm ?_;refine aM (k9 rfl rfl rfl (l9 h1) (l9 h2)) ?_;refine aM (dt rfl rfl rfl (l9 (gz (fB h0) (fB h0))) (l9 (fB h1))) ?_
  refine ir (ar (eZ _ 2 h0 jD jD) ?_)
  refine ir (ar (eZ _ 13 h0 jD jD) ?_)
  refine aM (dt rfl rfl rfl (l9 (be h0)) (l9 (be h0))) ?_
  refine ir (ar (eZ _ 22 h0 jD jD) ?_)
  refine aM (dt rfl rfl rfl (l9 (gz (be h0) (be h0))) (l9 (be h0))) ?_;refine aM (ft rfl rfl rfl) ?_;refine U 1120088070 ?_;refine jq (ft rfl rfl rfl) ?_;refine U 1 ?_;refine jq (bh rfl rfl rfl Tryz.underlying293 fm (show (1:Int)=((1:Nat):Int) from rfl) (by (omega))) ?_;refine U 50 ?_;refine jq (bh rfl rfl rfl Tryz.underlying293 fm (show (2:Int)=((2:Nat):Int) from rfl) (by (omega))) ?_;refine U 50 ?_;refine jq (bh rfl rfl rfl Tryz.underlying293 fm (show (3:Int)=((3:Nat):Int) from rfl) (by (omega))) ?_;refine U 150 ?_;refine jq (ft rfl rfl rfl) ?_;refine U 1 ?_;refine jq (bh rfl rfl rfl Tryz.underlying293 fm (show (5:Int)=((5:Nat):Int) from rfl) (by (omega))) ?_;refine U 50 ?_;refine jq (bh rfl rfl rfl Tryz.underlying293 fm (show (6:Int)=((6:Nat):Int) from rfl) (by (omega))) ?_;refine U 50 ?_;refine jq (yY rfl Tryz.underlying293 fm SI rfl rfl) ?_
  refine aq (bo 8 (yt (dR ws b (i+1))) ?_ ?_)
  ·exact (fun j hj=>Es hj (LD hVe hV (by kernel_rfl) j hj))
  refine U 851920084005 ?_
  refine aw (i+1) ?_ ?_ (h7:=?_)
  ·omega
  ·omega
  ·exact aP.refl _
def kK (m:Z) (z:Nat×Option Nat×Nat):List (Option Nat×bi):=[(some z.1,.blk 10 (hF (fj m) (.os 1 z.2.1 z.2.2 (bY m).length 1) (.c (.int .i64 (m.length:Nat))))),(z.2.1,.blk (z.2.2+(bY m).length) (dv z.2.2 (bc (bY m))))]
def eI (n:Nat) (m:Z):Option Nat×bi:=mJ n (fun z:Nat×Option Nat×Nat=>z.1) (kK m)
section
variable {P:Program} {G:Gh} {c:Code} {R:Exit→AS→Prop} {n:Nat} {m:Z} {env:List (Nat×CV)} {b0:Nat→CV} {H:List (Option Nat×bi)}
theorem od (i:Nat) (hi:H[i]?=some (eI n m)) (h:∀ g off,bj P G c ⟨env,b0,H.set i (some n,.blk 10 (hF (fj m) (.os H.length g off (bY m).length 1) (.c (.int .i64 (m.length:Nat)))))++[(g,.blk (off+(bY m).length) (dv off (bc (bY m))))]⟩ R):bj P G c ⟨env,b0,H⟩ R:=by
 have hlt:=(YJ.1 hi).1
 refine mw i hi fun z hz=>?_
 obtain ⟨n',g,off⟩:=z
 obtain rfl:n'=n:=hz
 refine jE (cW i 10 (hF (fj m) (.os H.length g off (bY m).length 1) (.c (.int .i64 (m.length:Nat)))) (n:=10) (g:=some n') (f:=hF (fj m) (.os 1 g off (bY m).length 1) (.c (.int .i64 (m.length:Nat)))) ?_ (YG _) fun j hj=>?_) ?_
 ·show (H.set i _++_)[i]?=_
  rw [YL (by simpa using hlt)]
  simp [hlt]
 ·unfold hF
  split
  ·exact I
  ·split
   ·exact cO rfl
   ·exact I
 ·have:=h g off
  rw [← aPx (a:=(some n',bi.blk 10 (hF (fj m) (.os 1 g off (bY m).length 1) (.c (.int .i64 (m.length:Nat)))))),← bmx _ _ (by simpa using hlt)] at this
  exact this
end
theorem WK {ws:List Nat} {c8 c9 c:CV} (j:Nat):aa (gT (hF ws c8 c9) 8 [c] j) (hF ws c c9 j):=by
 rw [dE]
 unfold hF
 by_cases h:j=8
 ·subst h;rw [YF (by simp),YE jD,YF rfl];exact I
 ·rw [YE (by simp;omega)]
  by_cases h2:j<8
  ·rw [YF h2,YF h2];exact I
  ·rw [YE h2,YE h2,YE h,YE h];exact I
theorem XK {ws:List Nat} {c8 c9 c:CV} {j:Nat} (hj:j<10):aa (gT (hF ws c8 c9) 9 [c] j) (hF ws c8 c j):=by
 rw [dE]
 unfold hF
 by_cases h:j=9
 ·subst h;rw [YF (by simp),YE jD,YE jD];exact I
 ·rw [YE (by simp;omega)]
  by_cases h2:j<8
  ·rw [YF h2,YF h2];exact I
  ·rw [YE h2,YE h2,jP,jP];exact I
theorem Tl {ws:List Nat} {c8 c9 d:CV} (h:aa c8 d) (j:Nat):aa (hF ws c8 c9 j) (hF ws d c9 j):=by
 unfold hF
 split
 ·exact I
 ·split
  ·exact h
  ·exact I
theorem IW {r:Z} {off:Nat} (j:Nat):aa (dv off (bc r) j) (dv (off+64) (bc (r.drop 64)) j):=by
 unfold dv
 by_cases h:j<off+64
 ·rw [YF h];exact aa.top _
 ·rw [YE h,jK]
  refine aa.of_eq ?_
  unfold bc
  rw [YH,YH,afx,show 64+(j-(off+64))=j-off by omega]
theorem Q8 {x:Z} {q off off3:Nat} (hdl:(x.drop (64 * q)).length=x.length-64 * q) (hdl2:(x.drop (64 * (q+1))).length=x.length-64 * (q+1)) (h:off3=off+64 * 1∨(64=(x.drop (64 * q)).length∧off3=off)) (j:Nat) (hj:j<off3+(x.drop (64 * (q+1))).length):aa (dv off (bc (x.drop (64 * q))) j) (dv off3 (bc (x.drop (64 * (q+1)))) j):=by
 rcases h with rfl|⟨h1,rfl⟩
 ·have h:=IW (r:=x.drop (64 * q)) (off:=off) j
  rw [ZX,show 64 * q+64=64 * (q+1) by omega] at h
  exact h
 ·rw [hdl2] at hj
  unfold dv
  rw [jP,jP]
  exact I
theorem rJ (n:Nat) (m b:Z) (hl:m.length+b.length≤100000000000):AC gs Tryz.prog 226 [eI n m] [.op 0 (some n) 0,aV b] (fun x H'=>x=.c (.tuple #[])∧H'=[eI n (m++b)]):=by
 have hml:64 * (m.length / 64)≤m.length:=by omega
 have e1:fj m=eD firstL (m++b) (m.length / 64):=(xD firstL m b _ hml).symm
 have e2:bY m++b=(m++b).drop (64 * (m.length / 64)):=(brx hml).symm
 have hrl:=re m
 obtain ⟨x,hx⟩:∃ x,x=m++b:=⟨_,rfl⟩
 have hxl:x.length=m.length+b.length:=by rw [hx,YI]
 refine aj 45 Tryz.func226 fun al w0 F0 St0=>?_;refine od 0 rfl fun g off=>?_;refine U 4016 ?_;refine jq (fF 9 1 false) ?_;refine U 4093150 ?_;refine jq (fF 9 1 false) ?_
 refine aq (bo 1 (hF (fj m) (.os 1 g off (bY m).length 1) (.c (.int .i64 (x.length:Nat)))) ?_ ?_)
 ·exact (fun j hj=>(XK hj).trans (aa.of_eq (by rw [hxl];simp)))
 refine U 401165 ?_;refine jq (fF 8 1 false) ?_;refine U 150 ?_
 refine aq (Fb rfl rfl rfl (YG _) (ew rfl) rfl (fun j hj=>by simp only [ZN];exact I) Tryz.underlying23 fY ix er mx rfl O O (fun j hj=>rfl) rfl rfl (fun g2 off2=>?_))
 refine U 40 ?_;refine jq (fF 8 1 false) ?_
 refine aq (bo 1 (hF (fj m) (.os 1 g2 off2 (bY m++b).length 1) (.c (.int .i64 (x.length:Nat)))) ?_ ?_)
 ·exact (fun j hj=>WK j)
 refine U 205 ?_
 rw [e1,e2,← hx]
 refine ax (α:=Nat×Option Nat×Nat) [22,23,24,25,26,27,28,29,30,31,32,33,34,35,36,37,38,39,40,41,42,43,44] (fun (q,g,off)=>[]) (fun (q,g,off)=>[(some n,.blk 10 (hF (eD firstL x q) (.os 1 g off (x.drop (64 * q)).length 1) (.c (.int .i64 (x.length:Nat))))),(g,.blk (off+(x.drop (64 * q)).length) (dv off (bc (x.drop (64 * q)))))]) (fun (q,g,off)=>64 * q≤x.length) (fun (q,g,off)=>x.length-64 * q) ((m.length / 64,g2,off2)) ?_ (fun _=>rfl) ?_ ?_ ?_
 ·show 64 * (m.length / 64)≤x.length;omega
 ·(repeat (exact bz.nil))
 ·exact aP.refl _
 ·rintro ⟨q,g,off⟩ (hq:64 * q≤x.length)
  refine U 40167 ?_;refine jq (fF 8 1 false) ?_;refine U 52350 ?_;refine ap (fun h81=>?_) fun h81=>?_
  rotate_left
  ·refine U 4000200020006000 ?_
   have hdl:(x.drop (64 * q)).length=x.length-64 * q:=YN
   obtain rfl:q=x.length / 64:=by omega
   exact bO (gd:=fun z:Nat×Option Nat×Nat=>z.1) (E:=kK x) (.inr rfl) _ (n,g,off) [0,1] jD rfl (cM rfl) ⟨rfl,rfl⟩
  refine U 720810 ?_
  have hdl:(x.drop (64 * q)).length=x.length-64 * q:=YN
  have hdl2:(x.drop (64 * (q+1))).length=x.length-64 * (q+1):=YN
  refine lM 8 (.rd 0 (.rd 1 (.rd 2 (.rd 3 (.rd 4 (.rd 5 (.rd 6 (.rd 7 .done)))))))) ?_;refine U 5000070 ?_;refine aM (fF 0 8 true) ?_;refine U 5000070 ?_;refine aM (fF 8 1 false) ?_;refine w8 gm ?_;refine aM (Fe (hl:=(bG _ _)) (hu:=(cw rfl (show (64:Int)=((64:Nat):Int) from rfl)))) ?_;refine xP ?_
  show cJ _ _ _ _ _ _
  refine aI bag_new ?_;refine aI (bag_push 2 1 rfl rfl rfl) ?_;refine aI (bag_push 2 0 rfl rfl rfl) ?_;refine aI (cn (H':=[jW [(some n,.blk 10 (hF (eD firstL x q) (.os 1 g off (x.drop (64 * q)).length 1) (.c (.int .i64 (x.length:Nat))))),(g,.blk (off+(x.drop (64 * q)).length) (dv off (bc (x.drop (64 * q)))))]]) [2] jD rfl) ?_
  refine aq (aQ 0 (PX n _ _ _ g off (x.drop (64 * q)) (kU mb x q) O (by rw [YN];omega)) ?_)
  refine U 85 ?_;refine jE (bag_pop 0 rfl) ?_;refine jE (bag_pop 0 rfl) ?_;refine jE (cn (H':=[(some n,.blk 10 (hF (eD firstL x (q+1)) (.os 1 g off (x.drop (64 * q)).length 1) (.c (.int .i64 (x.length:Nat))))),(g,.blk (off+(x.drop (64 * q)).length) (dv off (bc (x.drop (64 * q)))))]) [1,2] jD rfl) ?_;refine U 4011200 ?_;refine jq (fF 8 1 false) ?_;refine U 50 ?_
  refine au (JU rfl rfl Tryz.underlying23 ix (cw rfl (show (64:Int)=((64:Nat):Int) from rfl)) O rfl rfl (fun off3 hoff=>?_))
  refine aI (cW 1 (off3+(x.drop (64 * (q+1))).length) (dv off3 (bc (x.drop (64 * (q+1))))) rfl (by rw [hdl2,hdl];omega) (fun j hj=>Q8 hdl hdl2 hoff j hj)) ?_;refine U 40 ?_;refine jq (fF 8 1 false) ?_
  refine aq (bo 1 (hF (eD firstL x (q+1)) (.os 1 g off3 (x.drop (64 * (q+1))).length 1) (.c (.int .i64 (x.length:Nat)))) ?_ ?_)
  ·exact (fun j hj=>(WK j).trans (Tl (aa.of_eq (by rw [show (x.drop (64 * (q+1))).length=(x.drop (64 * q)).length-64 by rw [hdl2,hdl];omega])) j))
  refine U 84005 ?_
  refine aw ((q+1,g,off3)) ?_ ?_ (h7:=?_)
  ·show 64 * (q+1)≤x.length;omega
  ·show x.length-64 * (q+1)<x.length-64 * q;omega
  ·exact aP.refl _
theorem XM:(29,firstL.map fun (n:Nat)=>Value.int .u32 n) ∈ oH:=Y2
theorem UV {c8 c9:CV} {l:List CV} (hl:l=[.c (.int .u32 ((firstL.getD 0 0:Nat):Int)),.c (.int .u32 ((firstL.getD 1 0:Nat):Int)),.c (.int .u32 ((firstL.getD 2 0:Nat):Int)),.c (.int .u32 ((firstL.getD 3 0:Nat):Int)),.c (.int .u32 ((firstL.getD 4 0:Nat):Int)),.c (.int .u32 ((firstL.getD 5 0:Nat):Int)),.c (.int .u32 ((firstL.getD 6 0:Nat):Int)),.c (.int .u32 ((firstL.getD 7 0:Nat):Int)),c8,c9]) {d8 d9:CV} (h8:aa c8 d8) (h9:aa c9 d9) (j:Nat) (hj:j<10):aa (fl l j) (hF firstL d8 d9 j):=by
 subst hl
 rcases j with _|_|_|_|_|_|_|_|_|_|j
 all_goals first|exact I|exact h8|exact h9|omega
theorem Xw {G:Gh} {env:List (Nat×CV)} {b0:Nat→CV} (n:Nat) {f:Nat→CV} (hf:∀ j,j<10→aa (f j) (hF firstL (.os 1 none 0 0 1) (.c (.int .i64 0)) j)):dh G ⟨env,b0,[(some n,.blk 10 f)]⟩ ⟨env,b0,[eI n []]⟩:=by
 refine (gL (G:=G) (s:=⟨env,b0,[(some n,.blk 10 f)]⟩) (dv 0 (bc []))).trans (dh.hrel fun h=>?_)
 have h2:=h.weak (i:=0) (n:=10) (m:=10) (F:=hF firstL (.os 1 none 0 0 1) (.c (.int .i64 0))) (g:=some n) (f:=f) rfl (YG _) hf
 have h4:=h2.closeN (gd:=fun z:Nat×Option Nat×Nat=>z.1) (E:=kK []) (n,none,0) 0 [1] jD (by simp) rfl
 exact h4.pick [0] jD rfl
theorem CZ:AC gs Tryz.prog 225 [] [] (fun r H'=>∃ n,r=.op 0 (some n) 0∧H'=[eI n []]):=by
 refine aj 4 Tryz.func225 fun al w0 F0 St0=>?_;refine U 6516 ?_;refine jq (Iw (m:=8) sZ.a XM rfl Tryz.underlying293 (by kernel_rfl) (by kernel_rfl) jD) ?_;refine jq (ai (n:=10) rfl vz wE rfl rfl) ?_
 refine au (ff 10 fun p1=>?_)
 refine U 51 ?_;refine cL (gW 0 rfl) fun ⟨n,hn⟩=>?_
 subst hn
 refine jE (Xw n (fun j hj=>UV (c8:=.c (.slice none 0 0)) (c9:=.c (.int .i64 0)) (d8:=.os 1 none 0 0 1) (d9:=.c (.int .i64 0)) (by kernel_rfl) (fun al St w v h=>⟨rfl,h⟩) I j hj)) ?_;refine U 7000 ?_
 exact bu (.inl rfl) [0] jD rfl (av rfl (ak rfl)) (cP (j:=0)) ⟨n,rfl,rfl⟩
end
theorem Ng {G:Gh} {s:AS} (d:Nat) {i off n k:Nat} (hl:look s.env s.b d=.os i none off n k):∀ a w,vy G s a w→n=0:=fun a w ⟨St,hr⟩=>by
 have:=ji hr (x:=.tmp d) hl
 exact this.1
theorem J9 {gs:List Nat} (l:Z) (g:Option Nat) (off:Nat) (hl:l.length≤100000000000):AC gs Tryz.prog 105 [(g,.blk (off+l.length) (dv off (bc l)))] [.os 0 g off l.length 1]
  (fun r H'=>∃ g2,r=.os 1 g2 0 l.length 1∧H'=[jW [(g,.blk (off+l.length) (dv off (bc l))),(g2,.blk (0+l.length) (dv 0 (bc l)))]]):=by
 refine aj 8 Tryz.func105 fun al w0 F0 St0=>?_;refine U 167516 ?_
 first|refine jq (QO rfl rfl rfl Tryz.underlying23) ?_|refine jq (Gn rfl rfl rfl Tryz.underlying23) ?_
 refine U 5 ?_;refine ap (fun h357=>?_) fun h357=>?_
 ·obtain rfl:g=none:=by cases g <;> simp at h357 ⊢
  refine cL (Ng 0 rfl) fun hn=>?_
  obtain rfl:l=[]:=Y1 hn
  refine U 516 ?_;refine jE (gL (dv 0 (bc []))) ?_;refine U 30007000 ?_
  exact bO (gd:=fun _:Unit=>0) (E:=fun _=>[(none,.blk (off+0) (dv off (bc []))),(none,.blk (0+0) (dv 0 (bc [])))]) (.inl rfl) (.os 1 none 0 0 1) () [0,1] jD rfl ((av rfl bJ).ent (show aa (.c (.slice none 0 0)) (.os 1 none 0 0 1) from fun al St w v h=>⟨rfl,h⟩)) ⟨none,rfl,rfl⟩
 refine U 6810 ?_
 refine au (aY 0 1 er fun p1=>?_)
 refine U 1 ?_
 refine aq (aR (l:=[]) rfl rfl rfl (YT _) (fun j hj=>absurd hj (YW j)) (aW rfl (.inl rfl) O) rfl (fun j hj=>by rw [la];exact I) Tryz.underlying23 fY ix er mx rfl (by simp;omega) (fun j hj=>by show iS (dv off (bc l) (off+j))=true;rw [la];rfl) rfl rfl (fun p2=>?_))
 refine U 700051 ?_
 refine Bz (H':=?H2) ?hh ?hb
 case hh=>intro _ _ _ _ _ hx;exact hx.weak (i:=1) (m:=0+l.length) (F:=dv 0 (bc l)) rfl (by simp) (fun j hj=>by unfold dv;rw [jK,ZP];exact I)
 case hb=>exact bO (gd:=fun _:Unit=>0) (E:=fun _=>[(g,.blk (off+l.length) (dv off (bc l))),(p2,.blk (0+l.length) (dv 0 (bc l)))]) (.inl rfl) (.os 1 p2 0 l.length 1) () [0,1] jD rfl (av rfl (ak rfl)) ⟨p2,rfl,rfl⟩
section
variable {P:Program} {G:Gh} {s:AS} {o:Oper} {K:AS→Prop}
theorem RX {f:FuncId} {x:Operand} {ats:Array TypeId} {l:Z} {off N i:Nat} {g:Option Nat} {F:Nat→CV} (ho:o.op=.call ⟨.value (.func f),#[x],ats⟩) (hc:bA P f=true) (hx:s.eval x=.os i g off l.length 1) (hH:s.H[i]?=some (g,.blk N F)) (hN:off+l.length≤N) (hF:∀ a,a<l.length→aa (F (off+a)) (bc l a))
  (hA:AC G.gs P f [] [aV l] (sV l.length 1 l.length (bc l))) (hd:cq G o=true)
  (hK:∀ g2,K (s.with o.dst (.os s.H.length g2 0 l.length 1) (s.H++[(g2,.blk l.length (bc l))]))):kQ P G o s K:=fun St a w hr Q'=>by
 unfold Oper.wp
 rw [tU ho hc]
 have he:=ji hr hx
 obtain ⟨fp,hp⟩:=hr.hp
 have hre:=hp.rep i g _ hH
 have hent:uR G.gs G.al (fun b=>St b∨g=some b) (fun _=>False) [] w:=by
  refine ⟨fun b hb=>?_,hr.sn,⟨fun y hy=>.inl (hr.sg.1 y hy),fun y hy=>.inl (hr.sg.2 y hy)⟩,⟨fun _ _=>False,fun i g r hi=>by simp at hi,fun _ _ _ h=>h.elim,fun _ _ h=>h.elim,fun _ _ _ h=>h⟩,fun _ h=>h.elim⟩
  rcases hb with hb|rfl
  ·exact hr.s3 b hb
  ·obtain ⟨_,cur,t,h1,_⟩:=hre
   exact (Y4.1 h1).1
 have harg:ba G.al (fun b=>St b∨g=some b) w (aV l) (a.eval x):=by
  cases g with
  | none =>
   obtain ⟨h1,h2⟩:=he
   exact ⟨none,0,by rw [h2,h1],by omega,by decide,fun _=>rfl,fun _ h=>by cases h⟩
  | some g =>
   obtain ⟨cap,h1,h2,h3,_⟩:=he
   obtain ⟨_,cur,t,hh,hle,hcc⟩:=hre
   refine ⟨_,cap,h1,h2,h3,(fun h=>by cases h),fun ad ha _=>?_⟩
   cases ha
   refine ⟨rfl,.inr rfl,fun p q hp' hq=>?_⟩
   obtain rfl:q=0:=by omega
   have hlt:off+(p * 1+0)<cur.size:=by omega
   refine ⟨cur.getD (off+(p * 1+0)) undef,?_,?_⟩
   ·show w.cell? ⟨g,off+(p * 1+0),none⟩=_
    have hlt2:off+p<cur.size:=by omega
    rw [cell_of_row w g _ cur t _ hh];simp [hlt2]
   ·have h5:=hF p hp' _ _ _ _ (hcc (off+p) O)
    rw [show off+(p * 1+0)=off+p by omega]
    exact h5
 refine (hA G.al w _ _ (#[x].map a.eval) hent (by simp) (fun j=>?_)).mono ?_
 ·rcases j with _|j
  ·simpa [fl] using harg
  ·show ba _ _ _ (fl [aV l] (j+1)) _
   rw [qj _ _ (by simp)]
   trivial
 ·rintro e w' ⟨v,r,H',St',rfl,⟨g2,rfl,rfl⟩,hv,hu,h3,h4,h5,h6⟩
  have hp':dr G.al St w' w.heap.size (fun _=>False) [(g2,.blk l.length (bc l))]:=by
   obtain ⟨fp',hp'⟩:=h6
   refine ⟨fp',fun j q r hj=>?_,hp'.dis,fun j b hb=>?_,hp'.out⟩
   ·have h7:=hp'.rep j q r hj
    rcases j with _|j
    ·simp at hj
     obtain ⟨rfl,rfl⟩:=hj
     cases g2 with
     | none=>exact h7
     | some g2=>exact h7
    ·simp at hj
   ·obtain ⟨c1,c2,c3⟩:=hp'.own j b hb
    exact ⟨c1,fun hs=>c2 (h3 b (.inl hs)),c3⟩
  refine ⟨hu.below,St,fun _ h=>h,_,hK g2,?_⟩
  have hv':ba G.al St w' (.os s.H.length g2 0 l.length 1) v:=by
   cases g2 with
   | none=>exact hv
   | some g2=>exact hv
  have:=(hr.after hu (fun _ h=>h) (fun b h=>.inl h) (fun b h=>Zf (hr.s3 b h) hu.below.size) hp').put (dst:=o.dst) (eC hd) hv'
  cases ho:o.dst with
  | none=>rw [ho] at this;exact this
  | some d=>rw [ho] at this;exact this
theorem pw {f:FuncId} {x:Operand} {ats:Array TypeId} {l:Z} {off N i d:Nat} {g:Option Nat} {F:Nat→CV} {env:List (Nat×CV)} {b0:Nat→CV} {H:List (Option Nat×bi)} (ho:o.op=.call ⟨.value (.func f),#[x],ats⟩) (hc:bA P f=true) (hx:(⟨env,b0,H⟩:AS).eval x=.os i g off l.length 1) (hH:H[i]?=some (g,.blk N F)) (hN:off+l.length≤N) (hF:∀ a,a<l.length→aa (F (off+a)) (bc l a))
  (hA:AC G.gs P f [] [aV l] (sV l.length 1 l.length (bc l))) (hd:o.dst=some d) (hdN:Nat.blt d G.N=true)
  (hK:∀ g2,K ⟨(d,.os H.length g2 0 l.length 1)::env,b0,H++[(g2,.blk l.length (bc l))]⟩):kQ P G o ⟨env,b0,H⟩ K :=
 RX ho hc hx hH hN hF hA (kN hd hdN) fun g2=>by rw [dG hd];exact hK g2
theorem nq {gs:List Nat} (l:Z) (hl:l.length≤100000000000):AC gs Tryz.prog 105 [] [aV l] (sV l.length 1 l.length (bc l)):=by
 refine aj 8 Tryz.func105 fun al w0 F0 St0=>?_;refine U 167516 ?_;refine pN (bw rfl) rfl rfl rfl Tryz.underlying23 rfl rfl (fun h357=>?_) ?_
 ·refine U 51690005 ?_;refine jE (mj 2 1 (bc l) rfl) ?_;refine U 30007000 ?_
  exact oE 0 (.inl rfl) (av rfl (ak rfl)) rfl O O (fun _=>by omega) (fun j hj=>by omega)
 ·refine U 68103005 ?_
  refine au (aY 0 1 er fun p1=>?_)
  refine U 1 ?_
  refine aq (aR (l:=[]) rfl rfl rfl (YT _) (fun j hj=>absurd hj (YW j)) (ew rfl) rfl (fun j hj=>by simp only [ZN];exact I) Tryz.underlying23 fY ix er mx rfl (by (simp;omega)) (fun j hj=>rfl) rfl rfl (fun p2=>?_))
  refine U 700051 ?_
  exact oE 0 (.inl rfl) (av rfl (ak rfl)) rfl (by simp) (by simp) (fun _=>by simp) (fun j hj=>I)
end
section
variable {gs:List Nat} [sZ gs]
theorem zM {ws:List Nat} {a8 a9 c8 c9 d8 d9:CV} {l:List CV} (hl:l=[hF ws a8 a9 (0+0),hF ws a8 a9 (0+1),hF ws a8 a9 (0+2),hF ws a8 a9 (0+3),hF ws a8 a9 (0+4),hF ws a8 a9 (0+5),hF ws a8 a9 (0+6),hF ws a8 a9 (0+7),c8,c9]) (h8:aa c8 d8) (h9:aa c9 d9) (j:Nat) (hj:j<10):aa (fl l j) (hF ws d8 d9 j):=by
 subst hl
 rcases j with _|_|_|_|_|_|_|_|_|_|j
 all_goals first|exact I|exact h8|exact h9|omega
theorem Sl {gs:List Nat} (n:Nat) (m:Z) (hm:m.length≤100000000000):AC gs Tryz.prog 247 [eI n m] [.op 0 (some n) 0] (fun r H'=>∃ n2,r=.op 1 (some n2) 0∧H'=[jW [eI n m,eI n2 m]]):=by
 have hrl:=re m
 refine aj 18 Tryz.func247 fun al w0 F0 St0=>?_;refine od 0 rfl fun g off=>?_;refine U 7516 ?_
 skip
 refine dY (.rd 0 (.rd 1 (.rd 2 (.rd 4 (.rd 5 (.rd 6 (.rd 7 (.rd 9 (.rd 10 (.rd 11 (.three 3 (.two 8 (.one 12 (.rd 13 (.one 14 (.rd 15 .done)))) 12 (.one 8 (.rd 13 (.one 14 (.rd 15 .done))))) 8 (.two 3 (.one 12 (.rd 13 (.one 14 (.rd 15 .done)))) 12 (.one 3 (.rd 13 (.one 14 (.rd 15 .done))))) 12 (.two 3 (.one 8 (.rd 13 (.one 14 (.rd 15 .done)))) 8 (.one 3 (.rd 13 (.one 14 (.rd 15 .done)))))))))))))))) ?_;refine U 5000070 ?_;refine aM (fF 0 8 true) ?_;refine U 5000070 ?_;refine aM (fF 8 1 false) ?_;refine U 500007010000 ?_;refine aM (fF 9 1 false) ?_;refine Rx ?_ ?_ ?_
 ·refine yb (bq 8) ?_;refine Dg ?_ ?_
  ·refine ir (pw rfl (by kernel_rfl) rfl rfl (YG _) (fun a ha=>by rw [la];exact I) (nq (bY m) O) rfl rfl (fun g2=>?_))
   refine yb gm ?_;refine aM (ai (n:=10) rfl vz wE rfl rfl) ?_
   refine ir (ff 10 fun p1=>?_)
   refine U 88070 ?_;refine cL (gW 2 rfl) fun ⟨n2,hn2⟩=>?_
   subst hn2
   refine jE (cW 2 (0+(bY m).length) (dv 0 (bc (bY m))) rfl (by simp) (fun j hj=>by unfold dv;rw [jK,ZP];exact I)) ?_;refine jE (cW 3 10 (hF (fj m) (.os 1 g2 0 (bY m).length 1) (.c (.int .i64 (m.length:Nat)))) rfl (YG _) (fun j hj=>zM (a8:=.os 1 g off (bY m).length 1) (a9:=.c (.int .i64 (m.length:Nat))) (c8:=.os 2 g2 0 (bY m).length 1) (c9:=.c (.int .i64 (m.length:Nat))) (by kernel_rfl) (cO rfl) I j hj)) ?_;refine jE (closeN (gd:=fun z:Nat×Option Nat×Nat=>z.1) (E:=kK m) (n,g,off) 0 [1] jD (by simp) rfl) ?_;refine jE (closeN (gd:=fun z:Nat×Option Nat×Nat=>z.1) (E:=kK m) (n2,g2,0) 3 [2] jD (by simp [lJ]) rfl) ?_;refine U 7000 ?_
   exact bO (gd:=fun _:Unit=>0) (E:=fun _=>[eI n m,eI n2 m]) (.inl rfl) (.op 1 (some n2) 0) () [0,3] jD rfl ((av (v:=.op 3 (some n2) 0) rfl (ak rfl)).ent cP) ⟨n2,rfl,rfl⟩
  ·refine yb gm ?_
   refine ir (pw rfl (by kernel_rfl) rfl rfl (YG _) (fun a ha=>by rw [la];exact I) (nq (bY m) O) rfl rfl (fun g2=>?_))
   refine aM (ai (n:=10) rfl vz wE rfl rfl) ?_
   refine ir (ff 10 fun p1=>?_)
   refine U 88070 ?_;refine cL (gW 2 rfl) fun ⟨n2,hn2⟩=>?_
   subst hn2
   refine jE (cW 2 (0+(bY m).length) (dv 0 (bc (bY m))) rfl (by simp) (fun j hj=>by unfold dv;rw [jK,ZP];exact I)) ?_;refine jE (cW 3 10 (hF (fj m) (.os 1 g2 0 (bY m).length 1) (.c (.int .i64 (m.length:Nat)))) rfl (YG _) (fun j hj=>zM (a8:=.os 1 g off (bY m).length 1) (a9:=.c (.int .i64 (m.length:Nat))) (c8:=.os 2 g2 0 (bY m).length 1) (c9:=.c (.int .i64 (m.length:Nat))) (by kernel_rfl) (cO rfl) I j hj)) ?_;refine jE (closeN (gd:=fun z:Nat×Option Nat×Nat=>z.1) (E:=kK m) (n,g,off) 0 [1] jD (by simp) rfl) ?_;refine jE (closeN (gd:=fun z:Nat×Option Nat×Nat=>z.1) (E:=kK m) (n2,g2,0) 3 [2] jD (by simp [lJ]) rfl) ?_;refine U 7000 ?_
   exact bO (gd:=fun _:Unit=>0) (E:=fun _=>[eI n m,eI n2 m]) (.inl rfl) (.op 1 (some n2) 0) () [0,3] jD rfl ((av (v:=.op 3 (some n2) 0) rfl (ak rfl)).ent cP) ⟨n2,rfl,rfl⟩
 ·refine ir (pw rfl (by kernel_rfl) rfl rfl (YG _) (fun a ha=>by rw [la];exact I) (nq (bY m) O) rfl rfl (fun g2=>?_))
  refine Dg ?_ ?_
  ·refine yb (bq 8) ?_;refine yb gm ?_;refine aM (ai (n:=10) rfl vz wE rfl rfl) ?_
   refine ir (ff 10 fun p1=>?_)
   refine U 88070 ?_;refine cL (gW 2 rfl) fun ⟨n2,hn2⟩=>?_
   subst hn2
   refine jE (cW 2 (0+(bY m).length) (dv 0 (bc (bY m))) rfl (by simp) (fun j hj=>by unfold dv;rw [jK,ZP];exact I)) ?_;refine jE (cW 3 10 (hF (fj m) (.os 1 g2 0 (bY m).length 1) (.c (.int .i64 (m.length:Nat)))) rfl (YG _) (fun j hj=>zM (a8:=.os 1 g off (bY m).length 1) (a9:=.c (.int .i64 (m.length:Nat))) (c8:=.os 2 g2 0 (bY m).length 1) (c9:=.c (.int .i64 (m.length:Nat))) (by kernel_rfl) (cO rfl) I j hj)) ?_;refine jE (closeN (gd:=fun z:Nat×Option Nat×Nat=>z.1) (E:=kK m) (n,g,off) 0 [1] jD (by simp) rfl) ?_;refine jE (closeN (gd:=fun z:Nat×Option Nat×Nat=>z.1) (E:=kK m) (n2,g2,0) 3 [2] jD (by simp [lJ]) rfl) ?_;refine U 7000 ?_
   exact bO (gd:=fun _:Unit=>0) (E:=fun _=>[eI n m,eI n2 m]) (.inl rfl) (.op 1 (some n2) 0) () [0,3] jD rfl ((av (v:=.op 3 (some n2) 0) rfl (ak rfl)).ent cP) ⟨n2,rfl,rfl⟩
  ·refine yb gm ?_;refine yb (bq 8) ?_;refine aM (ai (n:=10) rfl vz wE rfl rfl) ?_
   refine ir (ff 10 fun p1=>?_)
   refine U 88070 ?_;refine cL (gW 2 rfl) fun ⟨n2,hn2⟩=>?_
   subst hn2
   refine jE (cW 2 (0+(bY m).length) (dv 0 (bc (bY m))) rfl (by simp) (fun j hj=>by unfold dv;rw [jK,ZP];exact I)) ?_;refine jE (cW 3 10 (hF (fj m) (.os 1 g2 0 (bY m).length 1) (.c (.int .i64 (m.length:Nat)))) rfl (YG _) (fun j hj=>zM (a8:=.os 1 g off (bY m).length 1) (a9:=.c (.int .i64 (m.length:Nat))) (c8:=.os 2 g2 0 (bY m).length 1) (c9:=.c (.int .i64 (m.length:Nat))) (by kernel_rfl) (cO rfl) I j hj)) ?_;refine jE (closeN (gd:=fun z:Nat×Option Nat×Nat=>z.1) (E:=kK m) (n,g,off) 0 [1] jD (by simp) rfl) ?_;refine jE (closeN (gd:=fun z:Nat×Option Nat×Nat=>z.1) (E:=kK m) (n2,g2,0) 3 [2] jD (by simp [lJ]) rfl) ?_;refine U 7000 ?_
   exact bO (gd:=fun _:Unit=>0) (E:=fun _=>[eI n m,eI n2 m]) (.inl rfl) (.op 1 (some n2) 0) () [0,3] jD rfl ((av (v:=.op 3 (some n2) 0) rfl (ak rfl)).ent cP) ⟨n2,rfl,rfl⟩
 ·refine yb gm ?_;refine Dg ?_ ?_
  ·refine yb (bq 8) ?_
   refine ir (pw rfl (by kernel_rfl) rfl rfl (YG _) (fun a ha=>by rw [la];exact I) (nq (bY m) O) rfl rfl (fun g2=>?_))
   refine aM (ai (n:=10) rfl vz wE rfl rfl) ?_
   refine ir (ff 10 fun p1=>?_)
   refine U 88070 ?_;refine cL (gW 2 rfl) fun ⟨n2,hn2⟩=>?_
   subst hn2
   refine jE (cW 2 (0+(bY m).length) (dv 0 (bc (bY m))) rfl (by simp) (fun j hj=>by unfold dv;rw [jK,ZP];exact I)) ?_;refine jE (cW 3 10 (hF (fj m) (.os 1 g2 0 (bY m).length 1) (.c (.int .i64 (m.length:Nat)))) rfl (YG _) (fun j hj=>zM (a8:=.os 1 g off (bY m).length 1) (a9:=.c (.int .i64 (m.length:Nat))) (c8:=.os 2 g2 0 (bY m).length 1) (c9:=.c (.int .i64 (m.length:Nat))) (by kernel_rfl) (cO rfl) I j hj)) ?_;refine jE (closeN (gd:=fun z:Nat×Option Nat×Nat=>z.1) (E:=kK m) (n,g,off) 0 [1] jD (by simp) rfl) ?_;refine jE (closeN (gd:=fun z:Nat×Option Nat×Nat=>z.1) (E:=kK m) (n2,g2,0) 3 [2] jD (by simp [lJ]) rfl) ?_;refine U 7000 ?_
   exact bO (gd:=fun _:Unit=>0) (E:=fun _=>[eI n m,eI n2 m]) (.inl rfl) (.op 1 (some n2) 0) () [0,3] jD rfl ((av (v:=.op 3 (some n2) 0) rfl (ak rfl)).ent cP) ⟨n2,rfl,rfl⟩
  ·refine ir (pw rfl (by kernel_rfl) rfl rfl (YG _) (fun a ha=>by rw [la];exact I) (nq (bY m) O) rfl rfl (fun g2=>?_))
   refine yb (bq 8) ?_;refine aM (ai (n:=10) rfl vz wE rfl rfl) ?_
   refine ir (ff 10 fun p1=>?_)
   refine U 88070 ?_;refine cL (gW 2 rfl) fun ⟨n2,hn2⟩=>?_
   subst hn2
   refine jE (cW 2 (0+(bY m).length) (dv 0 (bc (bY m))) rfl (by simp) (fun j hj=>by unfold dv;rw [jK,ZP];exact I)) ?_;refine jE (cW 3 10 (hF (fj m) (.os 1 g2 0 (bY m).length 1) (.c (.int .i64 (m.length:Nat)))) rfl (YG _) (fun j hj=>zM (a8:=.os 1 g off (bY m).length 1) (a9:=.c (.int .i64 (m.length:Nat))) (c8:=.os 2 g2 0 (bY m).length 1) (c9:=.c (.int .i64 (m.length:Nat))) (by kernel_rfl) (cO rfl) I j hj)) ?_;refine jE (closeN (gd:=fun z:Nat×Option Nat×Nat=>z.1) (E:=kK m) (n,g,off) 0 [1] jD (by simp) rfl) ?_;refine jE (closeN (gd:=fun z:Nat×Option Nat×Nat=>z.1) (E:=kK m) (n2,g2,0) 3 [2] jD (by simp [lJ]) rfl) ?_;refine U 7000 ?_
   exact bO (gd:=fun _:Unit=>0) (E:=fun _=>[eI n m,eI n2 m]) (.inl rfl) (.op 1 (some n2) 0) () [0,3] jD rfl ((av (v:=.op 3 (some n2) 0) rfl (ak rfl)).ent cP) ⟨n2,rfl,rfl⟩
def sM (k:Nat):Z:=128::List.replicate k 0
theorem xr (k:Nat):(sM k).length=1+k:=by simp [sM];omega
theorem tX (k:Nat):sM k++[0]=sM (k+1):=by simp [sM,List.replicate_succ']
def rI (k n j:Nat):Z:=sM k++(VD n).take j
theorem BK (n:Nat):(VD n).length=8:=by simp [VD]
theorem DK (k n:Nat) {j:Nat} (h:j≤8):(rI k n j).length=1+k+j:=by simp [rI,xr,BK];omega
theorem tY (k n:Nat) {j:Nat} (h:j<8):rI k n j++[UInt8.ofNat (n >>> (8 * (7-j)))]=rI k n (j+1):=by
 unfold rI
 rw [Zb,YO (by rw [BK];exact h)]
 simp [VD]
theorem DL (n:Nat):rI ((119-n % 64) % 64) (8 * n) 8=rl n:=by
 unfold rI rl sM
 rw [Y0 (by rw [BK];omega)]
 rfl
theorem Sw (n:Nat) {j:Nat} (h:(j:Int)<8):IntKind.u8.wrap (((n:Nat) * 8:Int).fdiv (2 ^ min (8 * (7-(j:Int))).toNat IntKind.u64.bits))=((UInt8.ofNat ((8 * n) >>> (8 * (7-j)))).toNat:Int):=by
 have e1:min (8 * (7-(j:Int))).toNat IntKind.u64.bits=8 * (7-j):=by show min _ 64=_;omega
 have e2:(2:Int) ^ (8 * (7-j))=((2 ^ (8 * (7-j)):Nat):Int):=by simp
 rw [e1,Zz _ (b6x (Int.pow_pos jD)),e2,show ((n:Nat) * 8:Int)=((8 * n:Nat):Int) by omega,← a1x,ZM]
 generalize 8 * n / 2 ^ (8 * (7-j))=q
 rw [IntKind.wrap_u8]
 simp
def ER (h:List Nat) (i:Nat) (j:Nat):CV:=if j<4 * i then bc (wH h) j else .top
theorem CP:∀ (h:List Nat) (i b:Nat),i<h.length→b<4→(wH h).getD (4 * i+b) 0=UInt8.ofNat (cY h i >>> (8 * (3-b)))
 | [],_,_,hi,_=>absurd hi (YW _)
 | w::t,0,b,_,hb=>by
  rcases b with _|_|_|_|b <;> first|rfl|omega
 | w::t,i+1,b,hi,hb=>by
  have ih:=CP t i b (by simpa using hi) hb
  have e:wH (w::t)=[UInt8.ofNat (w >>> 24),UInt8.ofNat (w >>> 16),UInt8.ofNat (w >>> 8),UInt8.ofNat w]++wH t:=rfl
  rw [YH] at ih ⊢
  rw [e,YX (by simp;omega),show 4 * (i+1)+b-[UInt8.ofNat (w >>> 24),UInt8.ofNat (w >>> 16),UInt8.ofNat (w >>> 8),UInt8.ofNat w].length=4 * i+b by simp;omega]
  exact ih
theorem FY (a:Nat):IntKind.u8.wrap ((a:Nat):Int)=((UInt8.ofNat a).toNat:Int):=by
 rw [IntKind.wrap_u8]
 simp
theorem pi {ws:List Nat} {i:Nat} (hi:i<8) (hw:jp ws) (b:Nat) (hb:b<4):aa (.c (.int .u8 (IntKind.u8.wrap ((cY ws i >>> (8 * (3-b)):Nat):Int)))) (bc (wH ws) (4 * i+b)):=by
 unfold bc
 rw [CP ws i b (by rw [hw.1];exact hi) hb,FY]
 exact I
theorem Mo {ws:List Nat} {i:Nat} (hi:i<8) (hw:jp ws) (j:Nat):aa (gT (gT (gT (gT (ER ws i) (4 * i) [.c (.int .u8 (IntKind.u8.wrap ((cY ws i >>> 24:Nat):Int)))]) (4 * i+1) [.c (.int .u8 (IntKind.u8.wrap ((cY ws i >>> 16:Nat):Int)))]) (4 * i+2) [.c (.int .u8 (IntKind.u8.wrap ((cY ws i >>> 8:Nat):Int)))]) (4 * i+3) [.c (.int .u8 (IntKind.u8.wrap ((cY ws i:Nat):Int)))] j) (ER ws (i+1) j):=by
 simp only [mQ]
 unfold ER
 by_cases h3:j=4 * i+3
 ·rw [YF h3,jP,h3];exact pi hi hw 3 O
 rw [YE h3]
 by_cases h2:j=4 * i+2
 ·rw [YF h2,jP,h2];exact pi hi hw 2 O
 rw [YE h2]
 by_cases h1:j=4 * i+1
 ·rw [YF h1,jP,h1];exact pi hi hw 1 O
 rw [YE h1]
 by_cases h0:j=4 * i
 ·rw [YF h0,jP,h0];exact pi hi hw 0 O
 rw [YE h0]
 by_cases hj:j<4 * i
 ·rw [YF hj,jP];exact I
 ·rw [YE hj,jK];exact I
theorem Bv (f:Nat→CV) {n j:Nat} (h:j<n):fl (List.map f (List.range n)) j=f j:=by rw [dJ];simp [List.getD,h]
theorem xu (l:Z):aa (.agg 32 fun j=>gT (fun _=>.top) 0 (List.map (fun j=>bc l (0+j)) (List.range 32)) (0+j)) (.agg 32 (bc l)) :=
 aa.agg rfl fun j hj=>by
  rw [Nat.zero_add,dE,YF ⟨YT _,by simp;omega⟩,ZP,Bv _ hj,Nat.zero_add]
  exact I
theorem KX (n:Nat) (m:Z) (hm:m.length≤10000000000):AC gs Tryz.prog 228 [eI n m] [.op 0 (some n) 0] (fun r H'=>r=.agg 32 (bc (ij m))∧H'=[eI n m]):=by
 have hrl:=re m
 refine aj 85 Tryz.func228 fun al w0 F0 St0=>?_;refine dP ?_
 refine au (cl (n:=32) iJ rfl fun p1=>?_)
 refine U 165 ?_
 refine aq (Jn 0 (Sl n m O) ?_)
 rintro _ _ ⟨n2,rfl,rfl⟩;refine ⟨_,_,rfl,cP (j:=2),?_⟩
 refine U 51 ?_;refine jE (bag_pop 0 rfl) ?_;refine jE (bag_pop 0 rfl) ?_;refine jE (cn (H':=[eI n m,_,eI n2 m]) [2,1,3] jD rfl) ?_;refine jE (cW 1 32 (fun _=>.top) rfl (YG _) (fun j hj=>aa.top _)) ?_;refine od 2 rfl fun g off=>?_;refine dP ?_
 refine au (aY 1 1 er fun p3=>?_)
 refine U 20751 ?_;refine jE (cW 4 1 (bc (sM 0)) rfl (YG _) (fun j hj=>match j,hj with|0,_=>I|j+1,h=>absurd h O)) ?_;refine ax (α:=Nat×Option Nat) [4,13,14,15,16,17,18,19,20,21,22,23,24,25,26] (fun (k,ge)=>[(4,.os 4 ge 0 (sM k).length 1)]) (fun (k,ge)=>[eI n m,(p1,.blk 32 fun _=>.top),(some n2,.blk 10 (hF (fj m) (.os 3 g off (bY m).length 1) (.c (.int .i64 (m.length:Nat))))),(g,.blk (off+(bY m).length) (dv off (bc (bY m)))),(ge,.blk (sM k).length (bc (sM k)))]) (fun (k,ge)=>k≤(119-m.length % 64) % 64) (fun (k,ge)=>64-k) ((0,p3)) ?_ (fun _=>rfl) ?_ ?_ ?_
 ·exact YT _
 ·(repeat (first|exact bz.nil|refine bz.cons I ?_))
 ·simp only []
  exact aP.refl _
 ·rintro ⟨k,ge⟩ (hk:k≤(119-m.length % 64) % 64)
  have hel:=xr k
  refine U 40167 ?_;refine jq (fF 8 1 false) ?_;refine U 5210000009931350 ?_;refine ap (fun h97=>?_) fun h97=>?_
  ·refine U 120020810 ?_
   refine au (aY 1 1 er fun p4=>?_)
   refine aq (aR (l2:=[0]) rfl rfl rfl (YG _) (fun _ _=>I) (aW rfl (.inl rfl) jD) rfl (ck (.cons (cI (rfl)) .nil)) Tryz.underlying23 fY ix er mx rfl (by (simp;omega)) (dz rfl rfl) rfl rfl (fun p5=>?_))
   refine U 840051 ?_
   refine aw ((k+1,p5)) ?_ ?_ (h5:=?_) (h7:=?_)
   ·show k+1≤_;omega
   ·show 64-(k+1)<64-k;omega
   ·simp only [← tX]
    exact .cons I .nil
   ·simp only [← tX]
    exact aP.refl _
  refine U 401684000200020006000 ?_;refine jq (fF 9 1 false) ?_;refine U 50 ?_;refine jq (vi .i64 .u64) ?_;refine U 205167519 ?_
  have e0:rI k (8 * m.length) 0=sM k:=by simp [rI]
  refine ax (α:=Nat×Option Nat) [4,6,33,34,35,36,37,38,39,40,41,42,43,44,45] (fun (j,ge)=>[(33,.c (.int .i64 (j:Nat))),(4,.os 4 ge 0 (rI k (8 * m.length) j).length 1)]) (fun (j,ge)=>[eI n m,(p1,.blk 32 fun _=>.top),(some n2,.blk 10 (hF (fj m) (.os 3 g off (bY m).length 1) (.c (.int .i64 (m.length:Nat))))),(g,.blk (off+(bY m).length) (dv off (bc (bY m)))),(ge,.blk (rI k (8 * m.length) j).length (bc (rI k (8 * m.length) j)))]) (fun (j,ge)=>j≤8) (fun (j,ge)=>8-j) ((0,ge)) ?_ (fun _=>rfl) ?_ ?_ ?_
  ·exact YT _
  ·simp only [e0]
   exact .cons I (.cons I .nil)
  ·simp only [e0]
   exact aP.refl _
  ·rintro ⟨j,ge⟩ (hj:j≤8)
   have hbl:=DK k (8 * m.length) hj
   refine U 7526 ?_;refine ap (fun h101=>?_) fun h101=>?_
   ·refine U 991112005116207810 ?_;refine jq (jI rfl rfl rfl (by (omega)) _ rfl) ?_;refine jq (yc .u64 .u8) ?_
    refine au (aY 1 1 er fun p4=>?_)
    refine aq (aR (l2:=[UInt8.ofNat ((8 * m.length) >>> (8 * (7-j)))]) rfl rfl rfl (YG _) (fun _ _=>I) (aW rfl (.inl rfl) jD) rfl (ck (.cons (cI (Sw m.length O)) .nil)) Tryz.underlying23 fY ix er mx rfl (by (simp;omega)) (dz rfl rfl) rfl rfl (fun p5=>?_))
    refine U 8519200840051 ?_
    refine aw ((j+1,p5)) ?_ ?_ (h5:=?_) (h7:=?_)
    ·show j+1≤8;omega
    ·show 8-(j+1)<8-j;omega
    ·simp only [← tY k (8 * m.length) (show j<8 by omega)]
     exact .cons (cI O) (.cons I .nil)
    ·simp only [← tY k (8 * m.length) (show j<8 by omega)]
     exact aP.refl _
   refine U 84000200020006000 ?_
   obtain rfl:j=8:=by omega
   have hk2:k=(119-m.length % 64) % 64:=by omega
   have ep:rI k (8 * m.length) 8=rl m.length:=by rw [hk2];exact DL _
   have hpl:(rl m.length).length≤72:=by rw [← ep];omega
   simp only [ep]
   refine jE (cW 2 10 (hF (fj m) (.os 1 g off (bY m).length 1) (.c (.int .i64 (m.length:Nat)))) rfl (YG _) (fun j hj=>Tl (cO rfl) j)) ?_;refine jE (closeN (gd:=fun z:Nat×Option Nat×Nat=>z.1) (E:=kK m) (n2,g,off) 2 [3] jD (by simp) rfl) ?_;refine jE (freeze 4 rfl) ?_;refine jE (ia 4 (rl m.length) rfl rfl rfl rfl) ?_;refine U 116 ?_
   refine aq (aQ 2 (rJ n2 m (rl m.length) O) ?_)
   refine U 5 ?_;refine od 2 rfl fun g off=>?_;refine jE (cn (H':=[eI n m,(p1,.blk 32 fun _=>.top),(some n2,.blk 10 (hF (fj (m++rl m.length)) _ _))]) [0,1,2] jD rfl) ?_
   obtain ⟨ws,hws⟩:∃ ws,ws=fj (m++rl m.length):=⟨_,rfl⟩
   rw [← hws]
   have hw8:jp ws:=hws ▸ kU mb _ _
   refine dP ?_
   refine au (cl (n:=32) iJ rfl fun p5=>?_)
   refine U 401675 ?_;refine jq (fF 0 8 true) ?_;refine gw (bq 8) ?_;refine U 2051 ?_;refine jE (cW 2 10 (fun _=>.top) rfl (YG _) (fun j hj=>aa.top _)) ?_;refine jE (cW 3 32 (ER ws 0) rfl (YG _) (fun j hj=>by unfold ER;rw [jK];exact aa.top _)) ?_;refine ax (α:=Nat) [8,9,53,54,55,56,57,58,59,60,61,62,63,64,65,66,67,68,69,70,71,72,73,74,75,76,77,78,79,80,81,82,83] (fun i=>[(53,.c (.int .i64 (i:Nat)))]) (fun i=>[eI n m,(p1,.blk 32 fun _=>.top),(some n2,.blk 10 fun _=>.top),(p5,.blk 32 (ER ws i))]) (fun i=>i≤8) (fun i=>8-i) (0) ?_ (fun _=>rfl) ?_ ?_ ?_
   ·exact YT _
   ·(repeat (first|exact bz.nil|refine bz.cons I ?_))
   ·exact aP.refl _
   ·rintro i (hi:i≤8)
    refine U 7526 ?_;refine ap (fun h106=>?_) fun h106=>?_
    rotate_left
    ·refine U 84000200020006000 ?_
     obtain rfl:i=8:=by omega
     have hsm:wH ws=ij m:=by rw [hws];exact (Qa m).symm
     refine jE (cW 3 32 (bc (ij m)) rfl (YG _) (fun j hj=>by unfold ER;rw [jP,hsm];exact I)) ?_;refine dP ?_;refine gw (bq 32) ?_
     refine aq (aA 32 ?_)
     refine U 70005 ?_
     exact bu (.inl rfl) [0] jD rfl (av rfl (Aj (m:=32) rfl (.inl rfl) Tryz.underlying129 (by kernel_rfl) (by kernel_rfl) jD)) (xu (ij m)) ⟨rfl,rfl⟩
    refine U 16207810 ?_;refine jq (yX (i:=i) (v:=.c (.int .u32 ((cY ws i:Nat):Int))) rfl rfl rfl Tryz.underlying293 Tryz.underlying257 fm rfl O O (by show hF ws _ _ (0+0+i)=_;unfold hF yt cY;rw [jP,show 0+0+i=i by omega])) ?_;refine U 199199199191200511 ?_;refine jq (i9 (n:=24) rfl rfl rfl jD) ?_;refine jq (yc .u32 .u8) ?_;refine U 1 ?_;refine jq (i9 (n:=16) rfl rfl rfl jD) ?_;refine jq (yc .u32 .u8) ?_;refine U 1 ?_;refine jq (i9 (n:=8) rfl rfl rfl jD) ?_;refine jq (yc .u32 .u8) ?_;refine U 1 ?_;refine jq (yc .u32 .u8) ?_;refine jq (bh rfl rfl rfl Tryz.underlying129 ix rfl (by ((dsimp only at *;omega)))) ?_
    refine aq (aA 1 ?_)
    refine jq (bh rfl rfl rfl Tryz.underlying129 ix rfl (by ((dsimp only at *;omega)))) ?_
    refine aq (aA 1 ?_)
    refine jq (bh rfl rfl rfl Tryz.underlying129 ix rfl (by ((dsimp only at *;omega)))) ?_
    refine aq (aA 1 ?_)
    refine jq (bh rfl rfl rfl Tryz.underlying129 ix rfl (by ((dsimp only at *;omega)))) ?_
    refine aq (aA 1 ?_)
    refine U 851920084005 ?_
    refine aw (i+1) ?_ ?_ (h7:=?_)
    ·show i+1≤8;omega
    ·show 8-(i+1)<8-i;omega
    ·refine .same (.same (.same (.blk rfl (fun j hj=>?_) .nil)))
     exact Mo (i:=i) O hw8 j
end
def zA (t:Z) (k:Nat):Z:=t++sM k
def zB (t:Z) (k n j:Nat):Z:=t++rI k n j
theorem Ks (t:Z) (k:Nat):(zA t k).length=t.length+1+k:=by unfold zA;rw [YI,xr];omega
theorem Tz (t:Z) (k n:Nat) {j:Nat} (h:j≤8):(zB t k n j).length=t.length+1+k+j:=by unfold zB;rw [YI,DK k n h];omega
theorem Pt (t:Z):[]++t++[128]=zA t 0:=by simp [zA,sM]
theorem FW (t:Z) (k:Nat):zA t k++[0]=zA t (k+1):=by unfold zA;rw [Zb,tX]
theorem FU (t:Z) (k n:Nat):zA t k=zB t k n 0:=by simp [zA,zB,rI]
theorem FV (t:Z) (k n:Nat) {j:Nat} (h:j<8):zB t k n j++[UInt8.ofNat (n >>> (8 * (7-j)))]=zB t k n (j+1):=by unfold zB;rw [Zb,tY k n h]
theorem vx {m:Z} {j p:Nat} (hp:p<64):((m.drop (64 * j)).take 64).getD p 0=m.getD (64 * j+p) 0:=by
 rw [YH,ZV,YF hp,afx,YH]
theorem Sy {m:Z} {j i:Nat} (hi:i<16):Ko ((m.drop (64 * j)).take 64) (4 * i)=(m.getD (64 * j+4 * i) 0).toNat * 16777216+(m.getD (64 * j+4 * i+1) 0).toNat * 65536+(m.getD (64 * j+4 * i+2) 0).toNat * 256+(m.getD (64 * j+4 * i+3) 0).toNat:=by
 unfold Ko
 rw [vx O,vx O,vx O,vx O]
 rfl
theorem vP (b:Z) {i:Nat} (h:i<16):aH b i++[Ko b (4 * i)]=aH b (i+1):=by
 show _=aH b i++[_]
 rw [YF h]
theorem vQ (b:Z) {i:Nat} (h:16≤i):aH b i++[uz (aH b i) i]=aH b (i+1):=by
 show _=aH b i++[_]
 rw [jK]
theorem Ct (h:List Nat) (b:Z) (i:Nat):dR h b (i+1)=o8 (dR h b i) (cY kL i) (cY (aH b 64) i):=rfl
theorem ig {x:Nat} (h:x<jg):An .i64 (x:Nat):=dI.2 (Zf h jD)
theorem Wu (i:Nat):cY kL i<4294967296:=by
 have key:∀ n:Fin 64,cY kL n.val<4294967296:=by decide +kernel
 by_cases h:i<64
 ·exact key ⟨i,h⟩
 ·unfold cY
  rw [YH,Y6 (by show 64≤i;omega)]
  decide
theorem Ki {e g:Nat} (he:e<jg) (hg:g<jg):IntKind.i64.wrap (BitVec.ofInt (IntKind.bits .i64) (4294967295-(e:Int)) &&& BitVec.ofInt (IntKind.bits .i64) ((g:Nat):Int)).toNat=((nP e &&& g:Nat):Int):=by
 have he':e<4294967296:=he
 have h1:(4294967295-(e:Int))=((nP e:Nat):Int):=by unfold nP;omega
 rw [h1,BitVec.toNat_and,my (ig (not_lt e)),my (ig hg)]
 exact cC (ig (fB (not_lt e)))
def ya (h v:List Nat) (i:Nat):List Nat:=(List.range 8).map fun q=>if q<i then (cY h q+cY v q) % jg else cY h q
theorem pm (h v:List Nat) (i:Nat) {q:Nat} (hq:q<8):cY (ya h v i) q=if q<i then (cY h q+cY v q) % jg else cY h q:=by
 unfold ya cY
 simp [List.getD,hq]
theorem Ja {h v:List Nat} {i:Nat} (hi:i<8) {z:Int} (hz:z=(((cY h i+cY v i) % jg:Nat):Int)) (j:Nat) (hj:j<8):aa (gT (rn (ya h v i)) i [.c (.int .i64 z)] j) (rn (ya h v (i+1)) j):=by
 rw [mQ]
 unfold rn
 rw [pm h v (i+1) hj]
 by_cases e:j=i
 ·rw [YF e,jP,e,hz];exact I
 ·rw [YE e,pm h v i hj]
  by_cases e2:j<i
  ·rw [YF e2,jP];exact I
  ·rw [YE e2,jK];exact I
theorem I9 {h:List Nat} (v:List Nat) (j:Nat) (hj:j<8):aa (rn h j) (rn (ya h v 0) j):=by
 unfold rn
 rw [pm h v 0 hj,jK]
 exact I
theorem MQ (h v:List Nat) (b:Z) (hv:v=dR h b 64) (j:Nat) (hj:j<8):aa (rn (ya h v 8) j) (rn (me h b) j):=by
 unfold rn
 rw [pm _ _ 8 hj,YF hj,hv]
 unfold me cY
 simp only [List.getD,ZB,aEx hj,awx,Zw]
 exact I
def A5 (h:List Nat) (n j:Nat):CV:=if j<n then bc (wH h) j else .top
theorem IR {ws:List Nat} {i b:Nat} (hi:i<8) (hb:b<4) (hw:jp ws) (j:Nat):aa (gT (A5 ws (4 * i+b)) (4 * i+b) [.c (.int .u8 (IntKind.u8.wrap ((cY ws i >>> (24-8 * b):Nat):Int)))] j) (A5 ws (4 * i+b+1) j):=by
 rw [mQ]
 unfold A5
 by_cases e:j=4 * i+b
 ·rw [YF e,jP,e,show 24-8 * b=8 * (3-b) by omega];exact pi hi hw b hb
 ·rw [YE e]
  by_cases e2:j<4 * i+b
  ·rw [YF e2,jP];exact I
  ·rw [YE e2,jK];exact I
theorem KW (n:Nat) {j:Nat} (h:j<8):IntKind.u8.wrap (((8 * n:Nat):Int).fdiv (2 ^ min (8 * (7-(j:Int))).toNat (IntKind.bits .i64)))=((UInt8.ofNat ((8 * n) >>> (8 * (7-j)))).toNat:Int):=by
 rw [AF (8 * n) (8 * (7-j)) O O]
 exact FY _
theorem J1 (l:Z) (f:Nat→CV) (j:Nat) (hj:j<32):aa (gT f 0 (List.map (fun j=>bc l (0+j)) (List.range 32)) j) (bc l j):=by
 rw [dE,YF ⟨YT _,by simp;omega⟩,ZP,Bv _ hj,Nat.zero_add]
 exact I
theorem AM {gs:List Nat} (t:Z) (ht:t.length≤10000000000):cc gs Tryz.prog 192 [aV t] (.agg 32 (bc (ij t))):=by
 refine aj 321 Tryz.func192 fun al w0 F0 St0=>?_;refine dP ?_
 refine au (cl (n:=32) iJ rfl fun p1=>?_)
 refine U 65 ?_
 refine au (aY 0 1 er fun p2=>?_)
 refine U 1 ?_
 refine aq (aR (l:=[]) rfl rfl rfl (YT _) (fun j hj=>absurd hj (YW j)) (ew rfl) rfl (fun j hj=>by simp only [ZN];exact I) Tryz.underlying23 fY ix er mx rfl (by (simp;omega)) (fun j hj=>rfl) rfl rfl (fun p3=>?_))
 refine U 1651 ?_
 refine au (aY 1 1 er fun p4=>?_)
 refine aq (aR (l2:=[128]) rfl rfl rfl (YG _) (fun _ _=>I) (aW rfl (.inl rfl) jD) rfl (ck (.cons (cI (rfl)) .nil)) Tryz.underlying23 fY ix er mx rfl (by (simp;omega)) (dz rfl rfl) rfl rfl (fun p5=>?_))
 refine U 20751 ?_;refine jE (cW 0 32 (fun _=>.top) rfl (YG _) (fun j hj=>aa.top _)) ?_;refine jE (cn (H':=[_,_]) [0,1] jD rfl) ?_
 have e0:=Pt t
 refine ax (α:=Nat×Option Nat) [3,34,35,36,37,38,39,40] (fun (k,g)=>[(3,.os 1 g 0 (zA t k).length 1)]) (fun (k,g)=>[(p1,.blk 32 fun _=>.top),(g,.blk (zA t k).length (bc (zA t k)))]) (fun (k,g)=>k≤(119-t.length % 64) % 64) (fun (k,g)=>64-k) ((0,p5)) ?_ (fun _=>rfl) ?_ ?_ ?_
 ·exact YT _
 ·rw [e0];exact .cons (cO rfl) .nil
 ·rw [e0];exact aP.refl _
 ·rintro ⟨k,g⟩ (hk:k≤(119-t.length % 64) % 64)
  have hzl:=Ks t k
  refine U 5210000003167 ?_;refine ap (fun h89=>?_) fun h89=>?_
  ·refine U 120020810 ?_
   refine au (aY 1 1 er fun p6=>?_)
   refine aq (aR (l2:=[0]) rfl rfl rfl (YG _) (fun _ _=>I) (aW rfl (.inl rfl) jD) rfl (ck (.cons (cI (rfl)) .nil)) Tryz.underlying23 fY ix er mx rfl (by (simp;omega)) (dz rfl rfl) rfl rfl (fun p7=>?_))
   refine U 840051 ?_
   refine aw ((k+1,p7)) ?_ ?_ (h5:=?_) (h7:=?_)
   ·show k+1≤_;omega
   ·show 64-(k+1)<64-k;omega
   ·simp only [← FW]
    exact .cons I .nil
   ·simp only [← FW]
    exact aP.refl _
  refine U 20516751931684000200020006000 ?_
  have hzl:=Ks t k
  refine jE (aS 4 (.c (.int .i64 ((8 * t.length:Nat):Int))) (cI O)) ?_;refine ax (α:=Nat×Option Nat) [3,5,44,45,46,47,48,49,50,51,52,53,54,55,56] (fun (j,g)=>[(5,.c (.int .i64 (7-(j:Int)))),(3,.os 1 g 0 (zB t k (8 * t.length) j).length 1)]) (fun (j,g)=>[(p1,.blk 32 fun _=>.top),(g,.blk (zB t k (8 * t.length) j).length (bc (zB t k (8 * t.length) j)))]) (fun (j,g)=>j≤8) (fun (j,g)=>8-j) ((0,g)) ?_ (fun _=>rfl) ?_ ?_ ?_
  ·exact YT _
  ·simp only [← FU]
   exact .cons I (.cons I .nil)
  ·simp only [← FU]
   exact aP.refl _
  ·rintro ⟨j,g⟩ (hj:j≤8)
   have hbl:=Tz t k (8 * t.length) hj
   refine U 52167 ?_;refine ap (fun h93=>?_) fun h93=>?_
   ·refine U 9111200207810 ?_;refine jq (vi .i64 .u64) ?_;refine jq (jI rfl rfl rfl (by (omega)) _ rfl) ?_;refine jq (yc .i64 .u8) ?_
    refine au (aY 1 1 er fun p6=>?_)
    refine aq (aR (l2:=[UInt8.ofNat ((8 * t.length) >>> (8 * (7-j)))]) rfl rfl rfl (YG _) (fun _ _=>I) (aW rfl (.inl rfl) jD) rfl (ck (.cons (cI ((KW t.length O))) .nil)) Tryz.underlying23 fY ix er mx rfl (by (simp;omega)) (dz rfl rfl) rfl rfl (fun p7=>?_))
    refine U 85191200840051 ?_
    refine aw ((j+1,p7)) ?_ ?_ (h5:=?_) (h7:=?_)
    ·show j+1≤8;omega
    ·show 8-(j+1)<8-j;omega
    ·simp only [← FV t k (8 * t.length) (show j<8 by omega)]
     exact .cons (cI O) (.cons I .nil)
    ·simp only [← FV t k (8 * t.length) (show j<8 by omega)]
     exact aP.refl _
   refine U 84000200020006000 ?_
   obtain rfl:j=8:=by omega
   have hk2:k=(119-t.length % 64) % 64:=by omega
   have ep:zB t k (8 * t.length) 8=t++rl t.length:=by unfold zB;rw [hk2,DL]
   simp only [ep]
   obtain ⟨m,hm⟩:∃ m,m=t++rl t.length:=⟨_,rfl⟩
   have hml:m.length % 64=0:=by rw [hm,YI];exact Mm _
   have hmb:m.length≤10000000200:=by rw [hm,← ep];omega
   have hsm:ij t=wH (eD firstL m (m.length / 64)):=by rw [hm];rfl
   rw [← hm]
   refine jE (freeze 1 rfl) ?_;refine jE (ia 3 m rfl rfl rfl rfl) ?_;refine dP ?_
   refine au (Bm KR (fun p6=>?_))
   refine U 651 ?_
   refine au (Bm Oj (fun p7=>?_))
   refine U 20516751 ?_;refine jE (freeze 2 rfl) ?_;refine jE (Ax 6 kL rfl rfl rfl rfl (fun j hj=>I)) ?_;refine jE (cn (H':=[_,_]) [0,3] jD rfl) ?_;refine jE (aS 7 (.os 1 p7 0 8 1) (cO rfl)) ?_;refine ax (α:=Nat) [8,9,10,11,12,13,14,15,16,17,18,19,20,21,22,23,59,60,61,62,63,64,65,66,67,68,69,70,71,72,73,74,75,76,77,78,79,80,81,82,83,84,85,86,87,88,89,90,91,92,93,94,95,96,97,98,99,100,101,102,103,104,105,106,107,108,109,110,111,112,113,114,115,116,117,118,119,120,121,122,123,124,125,126,127,128,129,130,131,132,133,134,135,136,137,138,139,140,141,142,143,144,145,146,147,148,149,150,151,152,153,154,155,156,157,158,159,160,161,162,163,164,165,166,167,168,169,170,171,172,173,174,175,176,177,178,179,180,181,182,183,184,185,186,187,188,189,190,191,192,193,194,195,196,197,198,199,200,201,202,203,204,205,206,207,208,209,210,211,212,213,214,215,216,217,218,219,220,221,222,223,224,225,226,227,228,229,230,231,232,233,234,235,236,237,238,239,240,241,242,243,244,245,246,247,248,249,250,251,252,253,254,255,256,257,258,259,260,261,262,263,264,265,266,267,268,269,270,271,272,273,274,275,276,277,278,279,280,281,282,283,284,285,286,287,288,289,290,291,292,293,294] (fun j=>[(8,.c (.int .i64 ((64 * j:Nat):Int)))]) (fun j=>[(p1,.blk 32 fun _=>.top),(p7,.blk 8 (rn (eD firstL m j)))]) (fun j=>j≤m.length / 64) (fun j=>m.length / 64-j) (0) ?_ (fun _=>rfl) ?_ ?_ ?_
   ·exact YT _
   ·(repeat (first|exact bz.nil|refine bz.cons I ?_))
   ·exact aP.refl _
   ·rintro j (hj:j≤m.length / 64)
    have hw8:jp (eD firstL m j):=kU mb m j
    obtain ⟨hs,hhs⟩:∃ hs,hs=eD firstL m j:=⟨_,rfl⟩
    rw [← hhs] at hw8
    obtain ⟨b,hb⟩:∃ b,b=(m.drop (64 * j)).take 64:=⟨_,rfl⟩
    have hnext:eD firstL m (j+1)=me hs b:=by rw [hhs,hb];rfl
    rw [← hhs]
    refine U 5231167 ?_;refine ap (fun h98=>?_) fun h98=>?_
    rotate_left
    ·refine U 84000200020006000 ?_
     obtain rfl:j=m.length / 64:=by omega
     rw [← hhs] at hsm
     refine dP ?_;refine jq (yY rfl Tryz.underlying129 ix iJ rfl rfl) ?_
     refine au (cl (n:=32) iJ rfl fun p8=>?_)
     refine aq (aA 32 ?_)
     refine U 205131675 ?_;refine jE (cW 2 32 (A5 hs (4 * 0)) rfl (YG _) (fun j hj=>by unfold A5;rw [jK];exact aa.top _)) ?_;refine ax (α:=Nat) [25,26,27,298,299,300,301,302,303,304,305,306,307,308,309,310,311,312,313,314,315,316,317,318,319] (fun i=>[(298,.c (.int .i64 (i:Nat)))]) (fun i=>[(p1,.blk 32 fun _=>.top),(p7,.blk 8 (rn hs)),(p8,.blk 32 (A5 hs (4 * i)))]) (fun i=>i≤8) (fun i=>8-i) (0) ?_ (fun _=>rfl) ?_ ?_ ?_
     ·exact YT _
     ·(repeat (first|exact bz.nil|refine bz.cons I ?_))
     ·exact aP.refl _
     ·rintro i (hi:i≤8)
      refine U 7526 ?_;refine ap (fun h123=>?_) fun h123=>?_
      rotate_left
      ·refine U 84000200020006000 ?_
       obtain rfl:i=8:=by omega
       refine jE (cW 2 32 (bc (ij t)) rfl (YG _) (fun j hj=>by unfold A5;rw [jP,hsm];exact I)) ?_;refine dP ?_;refine gw (bq 32) ?_
       refine aq (bo 32 (bc (ij t)) ?_ ?_)
       ·exact (fun j hj=>J1 _ _ j hj)
       refine U 5 ?_
       refine jR (eA (hres:=av rfl (bD 32)) (hv:=aa.agg rfl fun j hj=>aa.of_eq (by rw [Nat.zero_add])))
      refine U 16207810 ?_;refine jq (dU (i:=i) (hz:=by omega)) ?_;refine U 2051651150 ?_;refine ax (α:=Nat) [27,303,304,305,306,307,308,309,310,311,312,313,314,315,316,317,318] (fun q=>[(27,.c (.int .i64 (q:Nat)))]) (fun q=>[(p1,.blk 32 fun _=>.top),(p7,.blk 8 (rn hs)),(p8,.blk 32 (A5 hs (4 * i+q)))]) (fun q=>q≤4) (fun q=>4-q) (0) ?_ (fun _=>rfl) ?_ ?_ ?_
      ·exact YT _
      ·(repeat (first|exact bz.nil|refine bz.cons I ?_))
      ·exact aP.refl _
      ·rintro q (hq:q≤4)
       refine U 52167 ?_;refine ap (fun h124=>?_) fun h124=>?_
       rotate_left
       ·refine U 851920084004000200020006000 ?_
        refine aw (i+1) ?_ ?_ (h7:=?_)
        ·show i+1≤8;omega
        ·show 8-(i+1)<8-i;omega
        ·obtain rfl:q=4:=by omega
         exact aP.refl _
       refine U 99119191200207810 ?_;refine jq (vi .i64 .u64) ?_;refine jq (jI rfl rfl rfl (by (omega)) (((cY hs i >>> (24-8 * q):Nat):Int)) ((AF _ (24-8 * q) O O))) ?_;refine jq (yc .i64 .u8) ?_;refine jq (bh rfl rfl rfl Tryz.underlying129 ix (show _=(((4 * i+q):Nat):Int) by omega) (by (omega))) ?_
       refine aq (bo 1 (A5 hs (4 * i+(q+1))) ?_ ?_)
       ·exact (fun j hj=>IR O O hw8 j)
       refine U 8519120084005 ?_
       refine aw (q+1) ?_ ?_ (h7:=?_)
       ·show q+1≤4;omega
       ·show 4-(q+1)<4-q;omega
       ·exact aP.refl _
    refine U 6207810 ?_
    refine au (aY 0 1 uh fun p8=>?_)
    refine U 20516751 ?_;refine ax (α:=Nat×Option Nat) [9,10,11,66,67,68,69,70,71,72,73,74,75,76,77,78,79,80,81,82,83,84,85,86,87,88,89,90,91,92,93,94,95,96,97,98,99,100,101,102,103,104,105] (fun (i,g)=>[(10,.c (.int .i64 (i:Nat))),(9,.os 2 g 0 (aH b i).length 1)]) (fun (i,g)=>[(p1,.blk 32 fun _=>.top),(p7,.blk 8 (rn hs)),(g,.blk (aH b i).length (rn (aH b i)))]) (fun (i,g)=>i≤16) (fun (i,g)=>16-i) ((0,p8)) ?_ (fun _=>rfl) ?_ ?_ ?_
    ·exact YT _
    ·exact .cons I (.cons I .nil)
    ·exact .same (.same (.blk rfl (fun j hj=>absurd hj (YW j)) .nil))
    ·rintro ⟨i,g⟩ (hi:i≤16)
     have hsl:=iB b i
     have b0:=(m.getD (64 * j+4 * i) 0).toNat_lt
     have b1:=(m.getD (64 * j+4 * i+1) 0).toNat_lt
     have b2:=(m.getD (64 * j+4 * i+2) 0).toNat_lt
     have b3:=(m.getD (64 * j+4 * i+3) 0).toNat_lt
     refine U 52167 ?_;refine ap (fun h100=>?_) fun h100=>?_
     ·refine U 5199116207810 ?_;refine lM 31 (.rd 0 (.rd 1 (.rd 2 (.rd 3 (.rd 4 (.rd 5 (.rd 6 (.rd 7 (.rd 8 (.rd 9 (.rd 10 (.rd 11 (.rd 12 (.rd 13 (.rd 14 (.rd 15 (.rd 16 (.rd 17 (.rd 18 (.rd 19 (.rd 20 (.rd 21 (.rd 22 (.rd 23 (.rd 24 (.rd 25 (.rd 26 (.rd 27 (.rd 28 (.rd 29 (.one 30 .done))))))))))))))))))))))))))))))) ?_;refine U 707070 ?_;refine aM (dU (i:=(64 * j+4 * i)) (hz:=by omega)) ?_;refine aM kC ?_;refine aM (ru .i64) ?_;refine aM (ic rfl rfl rfl (by (omega)) ((((m.getD (64 * j+4 * i) 0).toNat * 2 ^ 24:Nat):Int)) ((u9 _ 24 rfl jD O))) ?_;refine U 300007070 ?_;refine aM (dU (i:=(64 * j+4 * i+1)) (hz:=by omega)) ?_;refine aM kC ?_;refine aM (ru .i64) ?_;refine aM (ic rfl rfl rfl (by (omega)) ((((m.getD (64 * j+4 * i+1) 0).toNat * 2 ^ 16:Nat):Int)) ((u9 _ 16 rfl jD O))) ?_;refine U 30000707030000 ?_;refine aM (dU (i:=(64 * j+4 * i+2)) (hz:=by omega)) ?_;refine aM kC ?_;refine aM (ru .i64) ?_;refine aM (ic rfl rfl rfl (by (omega)) ((((m.getD (64 * j+4 * i+2) 0).toNat * 2 ^ 8:Nat):Int)) ((u9 _ 8 rfl jD O))) ?_;refine U 30000707030000 ?_;refine aM (dU (i:=(64 * j+4 * i+3)) (hz:=by omega)) ?_;refine aM kC ?_;refine aM (ru .i64) ?_;refine aM Nu ?_
      refine ir (aY 1 1 uh fun p9=>?_)
      refine xP ?_
      show cJ _ _ _ _ _ _
      refine aq (aF AP (l2:=[Ko b (4 * i)]) rfl rfl rfl rfl (by exact ZR (Ze _)) (fun _ _=>I) (aW rfl (.inl rfl) jD) rfl (NW (.cons (cI ((by rw [hb,Sy O];omega))) .nil)) Tryz.underlying106 sd PZ uh So rfl (by (simp;omega)) (by (simp;omega)) (bC rfl rfl) rfl rfl (Ze _) (fun p10=>?_))
      refine U 85191200840051 ?_
      refine aw ((i+1,p10)) ?_ ?_ (h5:=?_) (h7:=?_)
      ·show i+1≤16;omega
      ·show 16-(i+1)<16-i;omega
      ·simp only [← vP b (show i<16 by omega)]
       exact .cons (cI O) (.cons I .nil)
      ·simp only [← vP b (show i<16 by omega)]
       exact aP.refl _
     refine U 20516784000200020006000 ?_
     obtain rfl:i=16:=by omega
     refine ax (α:=Nat×Option Nat) [9,12,13,14,15,16,106,107,108,109,110,111,112,113,114,115,116,117,118,119,120,121,122,123,124,125,126,127,128,129,130,131,132,133,134,135,136,137,138,139,140,141,142,143,144,145,146,147,148,149,150,151,152,153,154] (fun (i,g)=>[(12,.c (.int .i64 (i:Nat))),(9,.os 2 g 0 (aH b i).length 1)]) (fun (i,g)=>[(p1,.blk 32 fun _=>.top),(p7,.blk 8 (rn hs)),(g,.blk (aH b i).length (rn (aH b i)))]) (fun (i,g)=>16≤i∧i≤64) (fun (i,g)=>64-i) ((16,g)) ?_ (fun _=>rfl) ?_ ?_ ?_
     ·exact ⟨YG _,by decide⟩
     ·exact .cons I (.cons I .nil)
     ·exact aP.refl _
     ·rintro ⟨i,g⟩ ⟨(hi1:16≤i),(hi:i≤64)⟩
      have hsl:=iB b i
      have wl:∀ q,q<i→cY (aH b i) q<jg:=fun q hq=>yJ b hq
      refine U 52167 ?_;refine ap (fun h104=>?_) fun h104=>?_
      ·refine U 7207810 ?_;refine dY (.rd 0 (.rd 1 (.rd 2 (.rd 3 (.rd 4 (.rd 5 (.rd 6 (.rd 7 (.rd 8 (.rd 9 (.rd 10 (.rd 11 .done)))))))))))) ?_;refine U 300007070 ?_;refine aM (dU (i:=(i-15)) (hz:=by omega)) ?_;refine U 30000707010000 ?_;refine aM (dU (i:=(i-2)) (hz:=by omega)) ?_;refine U 880707010000 ?_
       have hx:=wl (i-15) O
       have hy:=wl (i-2) O
       have hz1:=wl (i-16) O
       have hz2:=wl (i-7) O
       have hz1':cY (aH b i) (i-16)<4294967296:=hz1
       have hz2':cY (aH b i) (i-7)<4294967296:=hz2
       have hsa:Lm (cY (aH b i) (i-15))<4294967296:=gz (gz (be hx) (be hx)) (nG hx)
       have hsb:Ll (cY (aH b i) (i-2))<4294967296:=gz (gz (be hy) (be hy)) (nG hy)
       refine U 16 ?_
       refine au (ar (jZ (cY (aH b i) (i-15)) 7 (wl _ O) jD jD) ?_)
       refine U 1 ?_
       refine au (ar (jZ (cY (aH b i) (i-15)) 18 (wl _ O) jD jD) ?_)
       refine jq (dt rfl rfl rfl (ig (be hx)) (ig (be hx))) ?_;refine U 1 ?_;refine jq (i9 (n:=3) rfl rfl rfl jD) ?_;refine jq (dt rfl rfl rfl (ig (gz (be hx) (be hx))) (ig (nG hx))) ?_;refine U 51 ?_;refine jE (aS 15 (.c (.int .i64 ((Lm (cY (aH b i) (i-15)):Nat):Int))) I) ?_;refine U 16 ?_
       refine au (ar (jZ (cY (aH b i) (i-2)) 17 (wl _ O) jD jD) ?_)
       refine U 1 ?_
       refine au (ar (jZ (cY (aH b i) (i-2)) 19 (wl _ O) jD jD) ?_)
       refine jq (dt rfl rfl rfl (ig (be hy)) (ig (be hy))) ?_;refine U 1 ?_;refine jq (i9 (n:=10) rfl rfl rfl jD) ?_;refine jq (dt rfl rfl rfl (ig (gz (be hy) (be hy))) (ig (nG hy))) ?_;refine U 51 ?_;refine jE (aS 16 (.c (.int .i64 ((Ll (cY (aH b i) (i-2)):Nat):Int))) I) ?_;refine lM 18 (.rd 0 (.rd 1 (.rd 2 (.rd 3 (.rd 4 (.rd 5 (.rd 6 (.rd 7 (.rd 8 (.rd 9 (.rd 10 (.rd 11 (.rd 12 (.rd 13 (.rd 14 (.rd 15 (.rd 16 (.one 17 .done)))))))))))))))))) ?_;refine U 30000707070 ?_;refine aM (dU (i:=(i-16)) (hz:=by omega)) ?_;refine U 300007070300007010000 ?_;refine aM (dU (i:=(i-7)) (hz:=by omega)) ?_;refine U 30000703000010000 ?_;refine aM (mI rfl rfl rfl (((uz (aH b i) i:Nat):Int)) ((Eb (a:=cY (aH b i) (i-16)+Lm (cY (aH b i) (i-15))+cY (aH b i) (i-7)+Ll (cY (aH b i) (i-2))) O O))) ?_
       refine ir (aY 1 1 uh fun p9=>?_)
       refine xP ?_
       show cJ _ _ _ _ _ _
       refine aq (aF AP (l2:=[uz (aH b i) i]) rfl rfl rfl rfl (by exact ZR (Ze _)) (fun _ _=>I) (aW rfl (.inl rfl) jD) rfl (NW (.cons (cI (rfl)) .nil)) Tryz.underlying106 sd PZ uh So rfl (by (simp;omega)) (by (simp;omega)) (bC rfl rfl) rfl rfl (Ze _) (fun p10=>?_))
       refine U 85191200840051 ?_
       refine aw ((i+1,p10)) ?_ ?_ (h5:=?_) (h7:=?_)
       ·exact ⟨by omega,by omega⟩
       ·show 64-(i+1)<64-i;omega
       ·simp only [← vQ b hi1]
        exact .cons (cI O) (.cons I .nil)
       ·simp only [← vQ b hi1]
        exact aP.refl _
      refine U 84000200020006000 ?_
      obtain rfl:i=64:=by omega
      obtain ⟨W,hW⟩:∃ W,W=aH b 64:=⟨_,rfl⟩
      have hWl:W.length=64:=by rw [hW];exact iB b 64
      have hWt:∀ q,q<64→cY W q<4294967296:=fun q hq=>by rw [hW];exact yJ b hq
      have hWn:∀ i,dR hs b (i+1)=o8 (dR hs b i) (cY kL i) (cY W i):=fun i=>by rw [hW];exact Ct hs b i
      simp only [← hW]
      clear hW
      refine jE (freeze 2 rfl) ?_;refine jE (Ax 9 W rfl rfl rfl (ZO (YG _)) (fun j hj=>I)) ?_;refine dP ?_
      refine au (aY 0 1 uh fun p9=>?_)
      refine U 1 ?_
      refine aq (aF AP (l:=[]) (l2:=hs) rfl rfl rfl rfl (YT _) (fun j hj=>absurd hj (YW j)) (aW rfl (.inl rfl) jD) hw8.1.symm (fun j hj=>by rw [Nat.zero_add];exact I) Tryz.underlying106 sd PZ uh So rfl (by rw [hw8.1];decide) (by rw [hw8.1];decide) (fun j hj=>rfl) rfl rfl (Ze _) (fun p10=>?_))
      refine U 20516751 ?_;refine jE (freeze 3 rfl) ?_;refine jE (Ax 17 hs rfl rfl rfl (ZO (YG _)) (fun j hj=>I)) ?_;refine jE (cn (H':=[_,_]) [0,1] jD rfl) ?_;refine ax (α:=Nat×List Nat) [17,18,19,20,21,22,158,159,160,161,162,163,164,165,166,167,168,169,170,171,172,173,174,175,176,177,178,179,180,181,182,183,184,185,186,187,188,189,190,191,192,193,194,195,196,197,198,199,200,201,202,203,204,205,206,207,208,209,210,211,212,213,214,215,216,217,218,219,220,221,222,223,224,225,226,227,228,229,230,231,232,233,234,235,236,237,238,239,240,241,242,243,244,245,246,247,248,249,250,251,252,253,254,255,256,257,258,259,260,261,262,263,264,265,266,267,268,269,270,271,272,273,274,275] (fun (i,v)=>[(18,.c (.int .i64 (i:Nat))),(17,XZ v)]) (fun (i,v)=>[(p1,.blk 32 fun _=>.top),(p7,.blk 8 (rn hs))]) (fun (i,v)=>i≤64∧v=dR hs b i) (fun (i,v)=>64-i) ((0,hs)) ?_ (fun _=>rfl) ?_ ?_ ?_
      ·exact ⟨YT _,rfl⟩
      ·exact .cons I (.cons I .nil)
      ·exact aP.refl _
      ·rintro ⟨i,v⟩ ⟨(hi:i≤64),(hv:v=dR hs b i)⟩
       have hv8:jp v:=by rw [hv];exact nz hw8 b i
       have hvl:=hv8.1
       have vl:∀ q,cY v q<jg:=hv8.2
       have v3':cY v 3<4294967296:=vl 3
       have v7':cY v 7<4294967296:=vl 7
       have v4':cY v 4<4294967296:=vl 4
       have hkl:=Wu i
       have hk64:kL.length=64:=rfl
       refine U 52167 ?_;refine ap (fun h111=>?_) fun h111=>?_
       rotate_left
       ·refine U 205131684000200020006000 ?_
        obtain rfl:i=64:=by omega
        refine jE (cW 1 8 (rn (ya hs v 0)) rfl (YG _) (I9 v)) ?_
        have hvl8:=hv8.2
        refine ax (α:=Nat) [23,278,279,280,281,282,283,284,285,286,287,288,289,290,291,292,293,294] (fun i=>[(278,.c (.int .i64 (i:Nat)))]) (fun i=>[(p1,.blk 32 fun _=>.top),(p7,.blk 8 (rn (ya hs v i)))]) (fun i=>i≤8) (fun i=>8-i) (0) ?_ (fun _=>rfl) ?_ ?_ ?_
        ·exact YT _
        ·(repeat (first|exact bz.nil|refine bz.cons I ?_))
        ·exact aP.refl _
        ·rintro i (hi:i≤8)
         have hgi:i<8→cY (ya hs v i) i=cY hs i:=fun h=>by rw [pm hs v i h,jK]
         have hsi:cY hs i<4294967296:=hw8.2 i
         have hvi:cY v i<4294967296:=vl i
         refine U 7526 ?_;refine ap (fun h118=>?_) fun h118=>?_
         rotate_left
         ·refine U 8519120084004000200020006000 ?_
          refine aw (j+1) ?_ ?_ (h7:=?_)
          ·show j+1≤m.length / 64;omega
          ·show m.length / 64-(j+1)<m.length / 64-j;omega
          ·obtain rfl:i=8:=by omega
           rw [hnext]
           exact .same (.blk rfl (MQ hs v b hv) .nil)
         refine U 5116207810 ?_
         have hgi:=hgi O
         refine lM 13 (.rd 0 (.rd 1 (.rd 2 (.rd 3 (.rd 4 (.rd 5 (.rd 6 (.rd 7 (.rd 8 (.rd 9 (.rd 10 (.rd 11 (.rd 12 .done))))))))))))) ?_;refine U 70707070 ?_;refine aM (dU (i:=i) (hz:=by omega)) ?_;refine U 707010000 ?_;refine aM (dU (i:=i) (hz:=by omega)) ?_;refine U 3000070000 ?_;refine aM (mI rfl rfl rfl ((((cY hs i+cY v i) % jg:Nat):Int)) ((Eb (a:=cY hs i+cY v i) O O))) ?_;refine aM (dU (i:=i) (hz:=by omega)) ?_;refine xP ?_
         show cJ _ _ _ _ _ _
         refine aq (bo 1 (rn (ya hs v (i+1))) ?_ ?_)
         ·exact (fun j hj=>Ja O rfl j hj)
         refine U 851920084005 ?_
         refine aw (i+1) ?_ ?_ (h7:=?_)
         ·show i+1≤8;omega
         ·show 8-(i+1)<8-i;omega
         ·exact aP.refl _
       refine U 7207810 ?_;refine dY (.rd 0 (.rd 1 (.rd 2 (.rd 3 (.rd 4 (.rd 5 (.rd 6 (.rd 7 (.rd 8 (.rd 9 (.rd 10 (.rd 11 (.rd 12 (.rd 13 (.rd 14 (.rd 15 (.rd 16 .done))))))))))))))))) ?_;refine U 70 ?_;refine aM (dU (i:=4)) ?_;refine U 7070000 ?_;refine aM (dU (i:=5)) ?_;refine aM kC ?_;refine aM (k9 rfl rfl rfl (ig (vl 4)) (ig (vl 5))) ?_;refine U 70 ?_;refine aM (dU (i:=4)) ?_;refine U 703000070000 ?_;refine aM (dU (i:=6)) ?_;refine aM kC ?_;refine aM (mI rfl rfl rfl (((nP (cY v 4) &&& cY v 6:Nat):Int)) ((Ki (vl 4) (vl 6)))) ?_;refine aM (nJ rfl rfl rfl (ig (fB (vl 4))) (ig (fB (not_lt _)))) ?_;refine U 788070 ?_;refine dY (.rd 0 (.rd 1 (.rd 2 (.rd 3 (.rd 4 (.rd 5 (.rd 6 (.rd 7 (.rd 8 (.rd 9 (.rd 10 (.rd 11 (.rd 12 (.rd 13 (.rd 14 (.rd 15 (.rd 16 (.rd 17 (.rd 18 (.rd 19 (.rd 20 (.rd 21 (.rd 22 (.rd 23 .done)))))))))))))))))))))))) ?_;refine U 70 ?_;refine aM (dU (i:=0)) ?_;refine U 7070000 ?_;refine aM (dU (i:=1)) ?_;refine aM kC ?_;refine aM (k9 rfl rfl rfl (ig (vl 0)) (ig (vl 1))) ?_;refine U 70 ?_;refine aM (dU (i:=0)) ?_;refine U 7070000 ?_;refine aM (dU (i:=2)) ?_;refine aM kC ?_;refine aM (k9 rfl rfl rfl (ig (vl 0)) (ig (vl 2))) ?_;refine aM (nJ rfl rfl rfl (ig (fB (vl 0))) (ig (fB (vl 0)))) ?_;refine U 70 ?_;refine aM (dU (i:=1)) ?_;refine U 7070000 ?_;refine aM (dU (i:=2)) ?_;refine aM kC ?_;refine aM (k9 rfl rfl rfl (ig (vl 1)) (ig (vl 2))) ?_;refine aM (nJ rfl rfl rfl (ig (ux (fB (vl 0)) (fB (vl 0)))) (ig (fB (vl 1)))) ?_;refine U 788070 ?_
       have hch:(cY v 4 &&& cY v 5 ||| nP (cY v 4) &&& cY v 6)<4294967296:=ux (fB (vl 4)) (fB (not_lt _))
       have hmo:(cY v 0 &&& cY v 1 ||| cY v 0 &&& cY v 2 ||| cY v 1 &&& cY v 2)<4294967296:=ux (ux (fB (vl 0)) (fB (vl 0))) (fB (vl 1))
       have hsE:(dA (cY v 4) 6 ^^^ dA (cY v 4) 11 ^^^ dA (cY v 4) 25)<4294967296:=gz (gz (be (vl 4)) (be (vl 4))) (be (vl 4))
       have hsA:(dA (cY v 0) 2 ^^^ dA (cY v 0) 13 ^^^ dA (cY v 0) 22)<4294967296:=gz (gz (be (vl 0)) (be (vl 0))) (be (vl 0))
       have hwi:=hWt i O
       have htM:tM v (cY kL i) (cY W i)<21474836480:=by unfold tM P0;omega
       have huM:uM v<8589934592:=by unfold uM P1;omega
       refine dY (.rd 0 (.rd 1 (.rd 2 (.rd 3 (.rd 4 (.rd 5 (.rd 7 (.rd 8 (.rd 9 (.rd 12 (.rd 13 (.rd 14 (.rd 18 (.rd 20 (.rd 21 (.rd 22 (.rd 23 (.rd 25 (.rd 26 (.rd 27 (.rd 28 (.one 6 (.one 10 (.rd 11 (.one 15 (.rd 16 (.rd 17 (.rd 19 (.rd 24 (.rd 29 (.rd 30 .done))))))))))))))))))))))))))))))) ?_;refine U 70 ?_;refine aM (dU (i:=7)) ?_;refine U 7070000 ?_;refine aM (dU (i:=4)) ?_;refine U 7070000 ?_;refine aM (dU (i:=4)) ?_;refine U 7070000 ?_;refine aM (dU (i:=4)) ?_;refine U 70707070000 ?_;refine aM (dU (i:=i) (hz:=by omega)) ?_;refine U 707070000 ?_;refine aM (dU (i:=i) (hz:=by omega)) ?_;refine aM kC ?_
       refine ir (ar (jZ (cY v 4) 6 (vl 4) jD jD) ?_)
       refine ir (ar (jZ (cY v 4) 11 (vl 4) jD jD) ?_)
       refine aM (dt rfl rfl rfl (ig (be (vl 4))) (ig (be (vl 4)))) ?_
       refine ir (ar (jZ (cY v 4) 25 (vl 4) jD jD) ?_)
       refine aM (dt rfl rfl rfl (ig (gz (be (vl 4)) (be (vl 4)))) (ig (be (vl 4)))) ?_;refine U 78807030000300003000030000 ?_;refine dY (.rd 0 (.rd 1 (.rd 2 (.rd 4 (.rd 5 (.rd 6 (.rd 9 (.rd 10 (.rd 11 (.rd 14 (.one 3 (.one 7 (.rd 8 (.one 12 (.rd 13 (.rd 15 (.rd 16 .done))))))))))))))))) ?_;refine U 70 ?_;refine aM (dU (i:=0)) ?_;refine U 7070000 ?_;refine aM (dU (i:=0)) ?_;refine U 7070000 ?_;refine aM (dU (i:=0)) ?_;refine U 7070000 ?_
       refine ir (ar (jZ (cY v 0) 2 (vl 0) jD jD) ?_)
       refine ir (ar (jZ (cY v 0) 13 (vl 0) jD jD) ?_)
       refine aM (dt rfl rfl rfl (ig (be (vl 0))) (ig (be (vl 0)))) ?_
       refine ir (ar (jZ (cY v 0) 22 (vl 0) jD jD) ?_)
       refine aM (dt rfl rfl rfl (ig (gz (be (vl 0)) (be (vl 0)))) (ig (be (vl 0)))) ?_;refine U 8807030000 ?_;refine jE (aS 21 (.c (.int .i64 ((tM v (cY kL i) (cY W i):Nat):Int))) (cI (by unfold tM P0;omega))) ?_;refine jE (aS 22 (.c (.int .i64 ((uM v:Nat):Int))) (cI (by unfold uM P1;omega))) ?_;refine dY (.rd 0 (.rd 1 (.rd 2 (.rd 3 (.rd 4 (.rd 5 (.rd 6 (.rd 7 (.rd 8 (.rd 9 (.rd 10 (.rd 11 (.rd 12 (.rd 13 (.rd 14 (.rd 15 (.rd 16 (.rd 17 (.rd 18 (.rd 19 (.rd 20 (.rd 21 (.rd 22 (.rd 23 (.rd 24 (.rd 25 (.rd 26 (.rd 27 (.one 28 (.rd 29 .done)))))))))))))))))))))))))))))) ?_;refine U 300007070 ?_;refine aM (mI rfl rfl rfl ((((tM v (cY kL i) (cY W i)+uM v) % jg:Nat):Int)) ((Eb (a:=tM v (cY kL i) (cY W i)+uM v) O O))) ?_;refine U 70 ?_;refine aM (dU (i:=0)) ?_;refine U 7070000 ?_;refine aM (dU (i:=1)) ?_;refine U 7070000 ?_;refine aM (dU (i:=2)) ?_;refine U 7070000 ?_;refine aM (dU (i:=3)) ?_;refine U 300007070000 ?_;refine aM (mI rfl rfl rfl ((((cY v 3+tM v (cY kL i) (cY W i)) % jg:Nat):Int)) ((Eb (a:=cY v 3+tM v (cY kL i) (cY W i)) O O))) ?_;refine U 70 ?_;refine aM (dU (i:=4)) ?_;refine U 7070000 ?_;refine aM (dU (i:=5)) ?_;refine U 7070000 ?_;refine aM (dU (i:=6)) ?_;refine aM kC ?_
       refine ir (aY 8 1 uh fun p11=>?_)
       refine hZ (freeze 2 rfl) ?_;refine hZ (Ax 275 (o8 v (cY kL i) (cY W i)) rfl rfl rfl rfl (fun j hj=>by rcases j with _|_|_|_|_|_|_|_|j <;> first|exact I|exact absurd hj (by simp [o8]))) ?_;refine U 8519120084008070 ?_
       refine aw ((i+1,o8 v (cY kL i) (cY W i))) ?_ ?_ (h5:=?_) (h7:=?_)
       ·exact ⟨by omega,by rw [hWn,← hv]⟩
       ·show 64-(i+1)<64-i;omega
       ·exact .cons (cI O) (.cons I .nil)
       ·exact aP.refl _
section
variable {gs:List Nat} [sZ gs]
theorem nK {ls:YD} {i:Nat} (h:i<ls.length):(ls.take (i+1)).flatten=(ls.take i).flatten++ls.getD i []:=by
 rw [YO h,ZY]
 simp [List.getD,h]
theorem CL (ls:YD) (i:Nat):(ls.take i).flatten.length≤ls.flatten.length:=by
 have:=Y3 (fun l:YD=>l.flatten.length) (Zu i ls)
 simp only [ZY,YI] at this
 omega
theorem F5 (ls:YD) (hl:ls.length≤1000000) (hm:ls.flatten.length≤10000000000):cc gs Tryz.prog 229 [C9 ls] (.agg 32 (bc (ij ls.flatten))):=by
 refine aj 19 Tryz.func229 fun al w0 F0 St0=>?_;refine dP ?_
 refine au (cl (n:=32) iJ rfl fun p1=>?_)
 refine U 65 ?_
 refine au (ry CZ ?_)
 rintro _ _ ⟨n,rfl,rfl⟩
 refine U 2051316751 ?_;refine jE (aS 3 (.op 1 (some n) 0) cP) ?_;refine jE (cW 0 32 (fun _=>.top) rfl (YG _) (fun j hj=>aa.top _)) ?_;refine ax (α:=Nat) [5,9,10,11,12,13,14,15,16] (fun i=>[(9,.c (.int .i64 (i:Nat)))]) (fun i=>[(p1,.blk 32 fun _=>.top),eI n (ls.take i).flatten]) (fun i=>i≤ls.length) (fun i=>ls.length-i) (0) ?_ (fun _=>rfl) ?_ ?_ ?_
 ·exact YT _
 ·(repeat (first|exact bz.nil|refine bz.cons I ?_|refine bz.cons (cI O) ?_))
 ·exact aP.refl _
 ·rintro i (hi:i≤ls.length)
  refine U 7526 ?_;refine ap (fun h115=>?_) fun h115=>?_
  rotate_left
  ·refine U 84000200020006000 ?_
   obtain rfl:i=ls.length:=by omega
   simp only [Za]
   refine U 16 ?_
   refine aq (aQ 1 (KX n ls.flatten hm) ?_)
   refine aq (aA 32 ?_)
   refine U 5 ?_
   refine jR (eA (hres:=av rfl (bD 32)) (hv:=xu (ij ls.flatten)))
  refine U 7006207810 ?_
  first|refine gw gm ?_|refine jq kC ?_
  refine U 51 ?_
  have hp:=CL ls (i+1)
  rw [nK (show i<ls.length by omega),YI] at hp
  refine U 11200 ?_
  refine aq (aQ 1 (rJ n (ls.take i).flatten (ls.getD i []) O) ?_)
  refine U 851920084005 ?_
  refine aw (i+1) ?_ ?_ (h7:=?_)
  ·show i+1≤ls.length;omega
  ·show ls.length-(i+1)<ls.length-i;omega
  ·simp only [nK (show i<ls.length by omega)]
   exact aP.refl _
end
def rt (k:Z):Z:=if 64<k.length then ij k else k
def so (k:Z):Z:=rt k++List.replicate (64-(rt k).length) 0
def gj (k:Z) (x:UInt8):Z:=(so k).map (· ^^^ x)
def lG (k m:Z):Z:=ij (gj k 92++ij (gj k 54++m))
theorem w5 (k:Z):(rt k).length≤64:=by
 unfold rt
 split
 ·rw [pL];omega
 ·omega
theorem w6 (k:Z):(so k).length=64:=by
 have:=w5 k
 simp only [so,YI,avx]
 omega
theorem ko (k:Z) (x:UInt8):(gj k x).length=64:=by rw [gj,Zy,w6]
theorem m8 (k m:Z):(lG k m).length=32:=pL _
end Am
end Go.Proofs.YtghminnpfnkbjaaGreatDoor
