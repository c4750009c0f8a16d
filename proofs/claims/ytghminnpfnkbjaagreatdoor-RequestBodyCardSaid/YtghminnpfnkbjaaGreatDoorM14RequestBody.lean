/- What the law leans on, part 14 -/
import Derived.Test.YtghminnpfnkbjaaGreatDoorM13RequestBody
set_option maxRecDepth 100000
set_option maxHeartbeats 8000000
variable {gs:List Nat}
open Go.Proofs.Tryz
open List (set_cons_zero set_cons_succ cons_append nil_append length_cons length_nil)
namespace Go.Proofs.YtghminnpfnkbjaaGreatDoor
set_option linter.unusedVariables false
namespace Am
open Go.RowKit
section
variable {gs:List Nat} [ud gs]
def tK (k:Nat):I:=128::List.replicate k 0
theorem yt (k:Nat):(tK k).length=1+k:=by simp [tK];omega
theorem vd (k:Nat):tK k++[0]=tK (k+1):=by simp [tK,c1x]
def sr (k n j:Nat):I:=tK k++(We n).take j
theorem Ct (n:Nat):(We n).length=8:=by simp [We]
theorem EE (k n:Nat) {j:Nat} (h:j≤8):(sr k n j).length=1+k+j:=by simp [sr,yt,Ct];omega
theorem ve (k n:Nat) {j:Nat} (h:j<8):sr k n j++[UInt8.ofNat (n >>> (8 * (7-j)))]=sr k n (j+1):=by
 unfold sr
 rw [Z8,ZH (by rw [Ct];exact h)]
 simp [We]
theorem EF (n:Nat):sr ((119-n % 64) % 64) (8 * n) 8=rV n:=by
 unfold sr rV tK
 rw [ZY (by rw [Ct];omega)]
 rfl
theorem Ta (n:Nat) {j:Nat} (h:(j:Int)<8):IntKind.u8.wrap (((n:Nat) * 8:Int).fdiv (2 ^ min (8 * (7-(j:Int))).toNat IntKind.u64.bits))=((UInt8.ofNat ((8 * n) >>> (8 * (7-j)))).toNat:Int):=by
 have e1:min (8 * (7-(j:Int))).toNat IntKind.u64.bits=8 * (7-j):=by show min _ 64=_;omega
 have e2:(2:Int) ^ (8 * (7-j))=((2 ^ (8 * (7-j)):Nat):Int):=by simp
 rw [e1,aix _ (dax (Int.pow_pos jD)),e2,show ((n:Nat) * 8:Int)=((8 * n:Nat):Int) by omega,← b6x,aIx]
 generalize 8 * n / 2 ^ (8 * (7-j))=q
 rw [IntKind.wrap_u8]
 simp
def FQ (h:List Nat) (i:Nat) (j:Nat):CV:=if j<4 * i then aV (xG h) j else .top
theorem DD:∀ (h:List Nat) (i b:Nat),i<h.length→b<4→(xG h).getD (4 * i+b) 0=UInt8.ofNat (cS h i >>> (8 * (3-b)))
 | [],_,_,hi,_=>absurd hi (ZO _)
 | w::t,0,b,_,hb=>by
  rcases b with _|_|_|_|b<;>first|rfl|omega
 | w::t,i+1,b,hi,hb=>by
  have ih:=DD t i b (by simpa using hi) hb
  have e:xG (w::t)=[UInt8.ofNat (w >>> 24),UInt8.ofNat (w >>> 16),UInt8.ofNat (w >>> 8),UInt8.ofNat w]++xG t:=rfl
  rw [ZB] at ih ⊢
  rw [e,ZR (by simp;omega),show 4 * (i+1)+b-[UInt8.ofNat (w >>> 24),UInt8.ofNat (w >>> 16),UInt8.ofNat (w >>> 8),UInt8.ofNat w].length=4 * i+b by simp;omega]
  exact ih
theorem GZ (a:Nat):IntKind.u8.wrap ((a:Nat):Int)=((UInt8.ofNat a).toNat:Int):=by
 rw [IntKind.wrap_u8]
 simp
theorem pz {ws:List Nat} {i:Nat} (hi:i<8) (hw:ju ws) (b:Nat) (hb:b<4):aa (.c (.int .u8 (IntKind.u8.wrap ((cS ws i >>> (8 * (3-b)):Nat):Int)))) (aV (xG ws) (4 * i+b)):=by
 unfold aV
 rw [DD ws i b (by rw [hw.1];exact hi) hb,GZ]
 exact Z
theorem Nj {ws:List Nat} {i:Nat} (hi:i<8) (hw:ju ws) (j:Nat):aa (fX (fX (fX (fX (FQ ws i) (4 * i) [.c (.int .u8 (IntKind.u8.wrap ((cS ws i >>> 24:Nat):Int)))]) (4 * i+1) [.c (.int .u8 (IntKind.u8.wrap ((cS ws i >>> 16:Nat):Int)))]) (4 * i+2) [.c (.int .u8 (IntKind.u8.wrap ((cS ws i >>> 8:Nat):Int)))]) (4 * i+3) [.c (.int .u8 (IntKind.u8.wrap ((cS ws i:Nat):Int)))] j) (FQ ws (i+1) j):=by
 simp only [kq]
 unfold FQ
 by_cases h3:j=4 * i+3
 ·rw [Zz h3,jP,h3];exact pz hi hw 3 O
 rw [Zy h3]
 by_cases h2:j=4 * i+2
 ·rw [Zz h2,jP,h2];exact pz hi hw 2 O
 rw [Zy h2]
 by_cases h1:j=4 * i+1
 ·rw [Zz h1,jP,h1];exact pz hi hw 1 O
 rw [Zy h1]
 by_cases h0:j=4 * i
 ·rw [Zz h0,jP,h0];exact pz hi hw 0 O
 rw [Zy h0]
 by_cases hj:j<4 * i
 ·rw [Zz hj,jP];exact Z
 ·rw [Zy hj,jK];exact Z
theorem Ce (f:Nat→CV) {n j:Nat} (h:j<n):fl (List.map f (List.range n)) j=f j:=by rw [dK];simp [List.getD,h]
theorem yx (l:I):aa (.agg 32 fun j=>fX (fun _=>.top) 0 (List.map (fun j=>aV l (0+j)) (List.range 32)) (0+j)) (.agg 32 (aV l)) :=
 aa.agg rfl fun j hj=>by
  rw [Nat.zero_add,db,Zz ⟨ZL _,by simp;omega⟩,aJx,Ce _ hj,Nat.zero_add]
  exact Z
theorem Mb (n:Nat) (m:I) (hm:m.length≤10000000000):AC gs prog 228 [eQ n m] [.op 0 (some n) 0] (fun r H'=>r=.agg 32 (aV (iw m))∧H'=[eQ n m]):=by
 have hrl:=rO m
 refine ae 85 func228 fun _ _ _ _=>?_;refine eA ?_
 refine aq (dh (n:=32) iQ rfl fun p1=>?_)
 refine U 165 ?_
 refine aw (Kl 0 (SX n m O) ?_)
 rintro _ _ ⟨n2,rfl,rfl⟩;refine ⟨_,_,rfl,cP (j:=2),?_⟩
 refine U 51 ?_;refine jE (bag_pop 0 rfl) ?_;refine jE (bag_pop 0 rfl) ?_;refine jE (ce (H':=[eQ n m,_,eQ n2 m]) [2,1,3] jD rfl) ?_;refine jE (cE 1 32 (fun _=>.top) rfl (ZA _) (fun j hj=>aa.top _)) ?_;refine oC 2 rfl fun g off=>?_;refine eA ?_
 refine aq (aM 1 1 da fun p3=>?_)
 refine U 20751 ?_;refine jE (cE 4 1 (aV (tK 0)) rfl (ZA _) (fun j hj=>match j,hj with|0,_=>Z|j+1,h=>absurd h O)) ?_;refine ar (α:=Nat×Option Nat) [4,13,14,15,16,17,18,19,20,21,22,23,24,25,26] (fun (k,ge)=>[(4,.os 4 ge 0 (tK k).length 1)]) (fun (k,ge)=>[eQ n m,(p1,.blk 32 fun _=>.top),(some n2,.blk 10 (hF (fo m) (.os 3 g off (bV m).length 1) (.c (.int .i64 (m.length:Nat))))),(g,.blk (off+(bV m).length) (de off (aV (bV m)))),(ge,.blk (tK k).length (aV (tK k)))]) (fun (k,ge)=>k≤(119-m.length % 64) % 64) (fun (k,ge)=>64-k) ((0,p3)) ?_ (fun _=>rfl) ?_ ?_ ?_
 exact ZL _
 ·(repeat (first|exact bh.nil|refine bh.cons Z ?_))
 ·simp only []
  exact aD.refl _
 ·rintro ⟨k,ge⟩ (hk:k≤(119-m.length % 64) % 64)
  have hel:=yt k
  refine U 40167 ?_;refine jq (en 8 1 false) ?_;refine U 5210000009931350 ?_;refine an (fun h97=>?_) fun h97=>?_
  ·refine U 120020810 ?_
   refine aq (aM 1 1 da fun p4=>?_)
   refine aw (ay (l2:=[0]) rfl rfl rfl (ZA _) (fun _ _=>Z) (aI rfl (.inl rfl) jD) rfl (bz (.cons (cI (rfl)) .nil)) underlying23 dV fR da jt rfl (by (simp;omega)) (cp rfl rfl) rfl rfl (fun p5=>?_))
   refine U 840051 ?_
   refine am ((k+1,p5)) ?_ ?_ (h5:=?_) (h7:=?_)
   show k+1≤_;omega
   show 64-(k+1)<64-k;omega
   ·simp only [← vd]
    exact .cons Z .nil
   ·simp only [← vd]
    exact aD.refl _
  refine U 401684000200020006000 ?_;refine jq (en 9 1 false) ?_;refine U 50 ?_;refine jq (wg .i64 .u64) ?_;refine U 205167519 ?_
  have e0:sr k (8 * m.length) 0=tK k:=by simp [sr]
  refine ar (α:=Nat×Option Nat) [4,6,33,34,35,36,37,38,39,40,41,42,43,44,45] (fun (j,ge)=>[(33,.c (.int .i64 (j:Nat))),(4,.os 4 ge 0 (sr k (8 * m.length) j).length 1)]) (fun (j,ge)=>[eQ n m,(p1,.blk 32 fun _=>.top),(some n2,.blk 10 (hF (fo m) (.os 3 g off (bV m).length 1) (.c (.int .i64 (m.length:Nat))))),(g,.blk (off+(bV m).length) (de off (aV (bV m)))),(ge,.blk (sr k (8 * m.length) j).length (aV (sr k (8 * m.length) j)))]) (fun (j,ge)=>j≤8) (fun (j,ge)=>8-j) ((0,ge)) ?_ (fun _=>rfl) ?_ ?_ ?_
  exact ZL _
  ·simp only [e0]
   exact .cons Z (.cons Z .nil)
  ·simp only [e0]
   exact aD.refl _
  ·rintro ⟨j,ge⟩ (hj:j≤8)
   have hbl:=EE k (8 * m.length) hj
   refine U 7526 ?_;refine an (fun h101=>?_) fun h101=>?_
   ·refine U 991112005116207810 ?_;refine jq (gP rfl rfl rfl (by omega) _ rfl) ?_;refine jq (zg .u64 .u8) ?_
    refine aq (aM 1 1 da fun p4=>?_)
    refine aw (ay (l2:=[UInt8.ofNat ((8 * m.length) >>> (8 * (7-j)))]) rfl rfl rfl (ZA _) (fun _ _=>Z) (aI rfl (.inl rfl) jD) rfl (bz (.cons (cI (Ta m.length O)) .nil)) underlying23 dV fR da jt rfl (by (simp;omega)) (cp rfl rfl) rfl rfl (fun p5=>?_))
    refine U 8519200840051 ?_
    refine am ((j+1,p5)) ?_ ?_ (h5:=?_) (h7:=?_)
    show j+1≤8;omega
    show 8-(j+1)<8-j;omega
    ·simp only [← ve k (8 * m.length) (show j<8 by omega)]
     exact .cons (cI O) (.cons Z .nil)
    ·simp only [← ve k (8 * m.length) (show j<8 by omega)]
     exact aD.refl _
   refine U 84000200020006000 ?_
   obtain rfl:j=8:=by omega
   have hk2:k=(119-m.length % 64) % 64:=by omega
   have ep:sr k (8 * m.length) 8=rV m.length:=by rw [hk2];exact EF _
   have hpl:(rV m.length).length≤72:=by rw [← ep];omega
   simp only [ep]
   refine jE (cE 2 10 (hF (fo m) (.os 1 g off (bV m).length 1) (.c (.int .i64 (m.length:Nat)))) rfl (ZA _) (fun j hj=>TW (cO rfl) j)) ?_;refine jE (closeN (gd:=fun z:Nat×Option Nat×Nat=>z.1) (E:=kY m) (n2,g,off) 2 [3] jD (by simp) rfl) ?_;refine jE (freeze 4 rfl) ?_;refine jE (er 4 (rV m.length) rfl rfl rfl rfl) ?_;refine U 116 ?_
   refine aw (aN 2 (sw n2 m (rV m.length) O) ?_)
   refine U 5 ?_;refine oC 2 rfl fun g off=>?_;refine jE (ce (H':=[eQ n m,(p1,.blk 32 fun _=>.top),(some n2,.blk 10 (hF (fo (m++rV m.length)) _ _))]) [0,1,2] jD rfl) ?_
   obtain ⟨ws,hws⟩:∃ ws,ws=fo (m++rV m.length):=⟨_,rfl⟩
   rw [← hws]
   have hw8:ju ws:=hws ▸ la mg _ _
   refine eA ?_
   refine aq (dh (n:=32) iQ rfl fun p5=>?_)
   refine U 401675 ?_;refine jq (en 0 8 true) ?_;refine kj (bD 8) ?_;refine U 2051 ?_;refine jE (cE 2 10 (fun _=>.top) rfl (ZA _) (fun j hj=>aa.top _)) ?_;refine jE (cE 3 32 (FQ ws 0) rfl (ZA _) (fun j hj=>by unfold FQ;rw [jK];exact aa.top _)) ?_;refine ar (α:=Nat) [8,9,53,54,55,56,57,58,59,60,61,62,63,64,65,66,67,68,69,70,71,72,73,74,75,76,77,78,79,80,81,82,83] (fun i=>[(53,.c (.int .i64 (i:Nat)))]) (fun i=>[eQ n m,(p1,.blk 32 fun _=>.top),(some n2,.blk 10 fun _=>.top),(p5,.blk 32 (FQ ws i))]) (fun i=>i≤8) (fun i=>8-i) (0) ?_ (fun _=>rfl) ?_ ?_ ?_
   exact ZL _
   ·(repeat (first|exact bh.nil|refine bh.cons Z ?_))
   exact aD.refl _
   ·rintro i (hi:i≤8)
    refine U 7526 ?_;refine aaa (fun h106=>?_) fun h106=>?_
    ·refine U 84000200020006000 ?_
     obtain rfl:i=8:=by omega
     have hsm:xG ws=iw m:=by rw [hws];exact (QL m).symm
     refine jE (cE 3 32 (aV (iw m)) rfl (ZA _) (fun j hj=>by unfold FQ;rw [jP,hsm];exact Z)) ?_;refine eA ?_;refine kj (bD 32) ?_
     refine aw (bn 32 ?_)
     refine U 70005 ?_
     exact bL (.inl rfl) [0] jD rfl (aK rfl (Ba (m:=32) rfl (.inl rfl) underlying129 (by kernel_rfl) (by kernel_rfl) jD)) (yx (iw m)) ⟨rfl,rfl⟩
    refine U 16207810 ?_;refine jq (zX (i:=i) (v:=.c (.int .u32 ((cS ws i:Nat):Int))) rfl rfl rfl underlying293 underlying257 ft rfl O O (by show hF ws _ _ (0+0+i)=_;unfold hF zC cS;rw [jP,show 0+0+i=i by omega])) ?_;refine U 199199199191200511 ?_;refine jq (jg (n:=24) rfl rfl rfl jD) ?_;refine jq (zg .u32 .u8) ?_;refine U 1 ?_;refine jq (jg (n:=16) rfl rfl rfl jD) ?_;refine jq (zg .u32 .u8) ?_;refine U 1 ?_;refine jq (jg (n:=8) rfl rfl rfl jD) ?_;refine jq (zg .u32 .u8) ?_;refine U 1 ?_;refine jq (zg .u32 .u8) ?_;refine jq (aZ rfl rfl rfl underlying129 fR rfl (by ((dsimp only at *;omega)))) ?_
    refine aw (bn 1 ?_)
    refine jq (aZ rfl rfl rfl underlying129 fR rfl (by ((dsimp only at *;omega)))) ?_
    refine aw (bn 1 ?_)
    refine jq (aZ rfl rfl rfl underlying129 fR rfl (by ((dsimp only at *;omega)))) ?_
    refine aw (bn 1 ?_)
    refine jq (aZ rfl rfl rfl underlying129 fR rfl (by ((dsimp only at *;omega)))) ?_
    refine aw (bn 1 ?_)
    refine U 851920084005 ?_
    refine am (i+1) ?_ ?_ (h7:=?_)
    show i+1≤8;omega
    show 8-(i+1)<8-i;omega
    ·refine .same (.same (.same (.blk rfl (fun j hj=>?_) .nil)))
     exact Nj (i:=i) O hw8 j
end
def zA (t:I) (k:Nat):I:=t++tK k
def zB (t:I) (k n j:Nat):I:=t++sr k n j
theorem LB (t:I) (k:Nat):(zA t k).length=t.length+1+k:=by unfold zA;rw [ZD,yt];omega
theorem Uf (t:I) (k n:Nat) {j:Nat} (h:j≤8):(zB t k n j).length=t.length+1+k+j:=by unfold zB;rw [ZD,EE k n h];omega
theorem P9 (t:I):[]++t++[128]=zA t 0:=by simp [zA,tK]
theorem GX (t:I) (k:Nat):zA t k++[0]=zA t (k+1):=by unfold zA;rw [Z8,vd]
theorem GV (t:I) (k n:Nat):zA t k=zB t k n 0:=by simp [zA,zB,sr]
theorem GW (t:I) (k n:Nat) {j:Nat} (h:j<8):zB t k n j++[UInt8.ofNat (n >>> (8 * (7-j)))]=zB t k n (j+1):=by unfold zB;rw [Z8,ve k n h]
theorem wN {m:I} {j p:Nat} (hp:p<64):((m.drop (64 * j)).take 64).getD p 0=m.getD (64 * j+p) 0:=by
 rw [ZB,aXx,Zz hp,bsx,ZB]
theorem Tb {m:I} {j i:Nat} (hi:i<16):Lw ((m.drop (64 * j)).take 64) (4 * i)=(m.getD (64 * j+4 * i) 0).toNat * 16777216+(m.getD (64 * j+4 * i+1) 0).toNat * 65536+(m.getD (64 * j+4 * i+2) 0).toNat * 256+(m.getD (64 * j+4 * i+3) 0).toNat:=by
 unfold Lw
 rw [wN O,wN O,wN O,wN O]
 rfl
theorem xa (b:I) {i:Nat} (h:i<16):aG b i++[Lw b (4 * i)]=aG b (i+1):=by
 show _=aG b i++[_]
 rw [Zz h]
theorem xb (b:I) {i:Nat} (h:16≤i):aG b i++[vA (aG b i) i]=aG b (i+1):=by
 show _=aG b i++[_]
 rw [jK]
theorem Dh (h:List Nat) (b:I) (i:Nat):dY h b (i+1)=pm (dY h b i) (cS kL i) (cS (aG b 64) i):=rfl
theorem ir {x:Nat} (h:x<jj):Be .i64 (x:Nat):=dJ.2 (Z4 h jD)
theorem Xd (i:Nat):cS kL i<4294967296:=by
 have key:∀ n:Fin 64,cS kL n.val<4294967296:=by decide +kernel
 by_cases h:i<64
 exact key ⟨i,h⟩
 ·unfold cS
  rw [ZB,Z0 (by show 64≤i;omega)]
  decide
theorem Lj {e g:Nat} (he:e<jj) (hg:g<jj):IntKind.i64.wrap (BitVec.ofInt (IntKind.bits .i64) (4294967295-(e:Int)) &&& BitVec.ofInt (IntKind.bits .i64) ((g:Nat):Int)).toNat=((od e &&& g:Nat):Int):=by
 have he':e<4294967296:=he
 have h1:(4294967295-(e:Int))=((od e:Nat):Int):=by unfold od;omega
 rw [h1,BitVec.toNat_and,mE (ir (not_lt e)),mE (ir hg)]
 exact cU (ir (fD (not_lt e)))
def zd (h v:List Nat) (i:Nat):List Nat:=(List.range 8).map fun q=>if q<i then (cS h q+cS v q) % jj else cS h q
theorem pE (h v:List Nat) (i:Nat) {q:Nat} (hq:q<8):cS (zd h v i) q=if q<i then (cS h q+cS v q) % jj else cS h q:=by
 unfold zd cS
 simp [List.getD,hq]
theorem Ka {h v:List Nat} {i:Nat} (hi:i<8) {z:Int} (hz:z=(((cS h i+cS v i) % jj:Nat):Int)) (j:Nat) (hj:j<8):aa (fX (rX (zd h v i)) i [.c (.int .i64 z)] j) (rX (zd h v (i+1)) j):=by
 rw [kq]
 unfold rX
 rw [pE h v (i+1) hj]
 by_cases e:j=i
 ·rw [Zz e,jP,e,hz];exact Z
 ·rw [Zy e,pE h v i hj]
  by_cases e2:j<i
  ·rw [Zz e2,jP];exact Z
  ·rw [Zy e2,jK];exact Z
theorem J9 {h:List Nat} (v:List Nat) (j:Nat) (hj:j<8):aa (rX h j) (rX (zd h v 0) j):=by
 unfold rX
 rw [pE h v 0 hj,jK]
 exact Z
theorem NJ (h v:List Nat) (b:I) (hv:v=dY h b 64) (j:Nat) (hj:j<8):aa (rX (zd h v 8) j) (rX (mh h b) j):=by
 unfold rX
 rw [pE _ _ 8 hj,Zz hj,hv]
 unfold mh cS
 simp only [List.getD,aBx,bEx hj,bzx,asx]
 exact Z
def BR (h:List Nat) (n j:Nat):CV:=if j<n then aV (xG h) j else .top
theorem JP {ws:List Nat} {i b:Nat} (hi:i<8) (hb:b<4) (hw:ju ws) (j:Nat):aa (fX (BR ws (4 * i+b)) (4 * i+b) [.c (.int .u8 (IntKind.u8.wrap ((cS ws i >>> (24-8 * b):Nat):Int)))] j) (BR ws (4 * i+b+1) j):=by
 rw [kq]
 unfold BR
 by_cases e:j=4 * i+b
 ·rw [Zz e,jP,e,show 24-8 * b=8 * (3-b) by omega];exact pz hi hw b hb
 ·rw [Zy e]
  by_cases e2:j<4 * i+b
  ·rw [Zz e2,jP];exact Z
  ·rw [Zy e2,jK];exact Z
theorem Ma (n:Nat) {j:Nat} (h:j<8):IntKind.u8.wrap (((8 * n:Nat):Int).fdiv (2 ^ min (8 * (7-(j:Int))).toNat (IntKind.bits .i64)))=((UInt8.ofNat ((8 * n) >>> (8 * (7-j)))).toNat:Int):=by
 rw [Br (8 * n) (8 * (7-j)) O O]
 exact GZ _
theorem KV (l:I) (f:Nat→CV) (j:Nat) (hj:j<32):aa (fX f 0 (List.map (fun j=>aV l (0+j)) (List.range 32)) j) (aV l j):=by
 rw [db,Zz ⟨ZL _,by simp;omega⟩,aJx,Ce _ hj,Nat.zero_add]
 exact Z
theorem BA (t:I) (ht:t.length≤10000000000):cd gs prog 192 [bc t] (.agg 32 (aV (iw t))):=by
 refine ae 321 func192 fun _ _ _ _=>?_;refine eA ?_
 refine aq (dh (n:=32) iQ rfl fun p1=>?_)
 refine U 65 ?_
 refine aq (aM 0 1 da fun p2=>?_)
 refine U 1 ?_
 refine aw (ay (l:=[]) rfl rfl rfl (ZL _) (fun j hj=>absurd hj (ZO j)) (cX rfl) rfl (fun j hj=>by simp only [anx];exact Z) underlying23 dV fR da jt rfl (by (simp;omega)) (fun j hj=>rfl) rfl rfl (fun p3=>?_))
 refine U 1651 ?_
 refine aq (aM 1 1 da fun p4=>?_)
 refine aw (ay (l2:=[128]) rfl rfl rfl (ZA _) (fun _ _=>Z) (aI rfl (.inl rfl) jD) rfl (bz (.cons (cI (rfl)) .nil)) underlying23 dV fR da jt rfl (by (simp;omega)) (cp rfl rfl) rfl rfl (fun p5=>?_))
 refine U 20751 ?_;refine jE (cE 0 32 (fun _=>.top) rfl (ZA _) (fun j hj=>aa.top _)) ?_;refine jE (ce (H':=[_,_]) [0,1] jD rfl) ?_
 have e0:=P9 t
 refine ar (α:=Nat×Option Nat) [3,34,35,36,37,38,39,40] (fun (k,g)=>[(3,.os 1 g 0 (zA t k).length 1)]) (fun (k,g)=>[(p1,.blk 32 fun _=>.top),(g,.blk (zA t k).length (aV (zA t k)))]) (fun (k,g)=>k≤(119-t.length % 64) % 64) (fun (k,g)=>64-k) ((0,p5)) ?_ (fun _=>rfl) ?_ ?_ ?_
 exact ZL _
 ·rw [e0];exact .cons (cO rfl) .nil
 ·rw [e0];exact aD.refl _
 ·rintro ⟨k,g⟩ (hk:k≤(119-t.length % 64) % 64)
  have hzl:=LB t k
  refine U 5210000003167 ?_;refine an (fun h89=>?_) fun h89=>?_
  ·refine U 120020810 ?_
   refine aq (aM 1 1 da fun p6=>?_)
   refine aw (ay (l2:=[0]) rfl rfl rfl (ZA _) (fun _ _=>Z) (aI rfl (.inl rfl) jD) rfl (bz (.cons (cI (rfl)) .nil)) underlying23 dV fR da jt rfl (by (simp;omega)) (cp rfl rfl) rfl rfl (fun p7=>?_))
   refine U 840051 ?_
   refine am ((k+1,p7)) ?_ ?_ (h5:=?_) (h7:=?_)
   show k+1≤_;omega
   show 64-(k+1)<64-k;omega
   ·simp only [← GX]
    exact .cons Z .nil
   ·simp only [← GX]
    exact aD.refl _
  refine U 20516751931684000200020006000 ?_
  have hzl:=LB t k
  refine jE (bj 4 (.c (.int .i64 ((8 * t.length:Nat):Int))) (cI O)) ?_;refine ar (α:=Nat×Option Nat) [3,5,44,45,46,47,48,49,50,51,52,53,54,55,56] (fun (j,g)=>[(5,.c (.int .i64 (7-(j:Int)))),(3,.os 1 g 0 (zB t k (8 * t.length) j).length 1)]) (fun (j,g)=>[(p1,.blk 32 fun _=>.top),(g,.blk (zB t k (8 * t.length) j).length (aV (zB t k (8 * t.length) j)))]) (fun (j,g)=>j≤8) (fun (j,g)=>8-j) ((0,g)) ?_ (fun _=>rfl) ?_ ?_ ?_
  exact ZL _
  ·simp only [← GV]
   exact .cons Z (.cons Z .nil)
  ·simp only [← GV]
   exact aD.refl _
  ·rintro ⟨j,g⟩ (hj:j≤8)
   have hbl:=Uf t k (8 * t.length) hj
   refine U 52167 ?_;refine an (fun h93=>?_) fun h93=>?_
   ·refine U 9111200207810 ?_;refine jq (wg .i64 .u64) ?_;refine jq (gP rfl rfl rfl (by omega) _ rfl) ?_;refine jq (zg .i64 .u8) ?_
    refine aq (aM 1 1 da fun p6=>?_)
    refine aw (ay (l2:=[UInt8.ofNat ((8 * t.length) >>> (8 * (7-j)))]) rfl rfl rfl (ZA _) (fun _ _=>Z) (aI rfl (.inl rfl) jD) rfl (bz (.cons (cI ((Ma t.length O))) .nil)) underlying23 dV fR da jt rfl (by (simp;omega)) (cp rfl rfl) rfl rfl (fun p7=>?_))
    refine U 85191200840051 ?_
    refine am ((j+1,p7)) ?_ ?_ (h5:=?_) (h7:=?_)
    show j+1≤8;omega
    show 8-(j+1)<8-j;omega
    ·simp only [← GW t k (8 * t.length) (show j<8 by omega)]
     exact .cons (cI O) (.cons Z .nil)
    ·simp only [← GW t k (8 * t.length) (show j<8 by omega)]
     exact aD.refl _
   refine U 84000200020006000 ?_
   obtain rfl:j=8:=by omega
   have hk2:k=(119-t.length % 64) % 64:=by omega
   have ep:zB t k (8 * t.length) 8=t++rV t.length:=by unfold zB;rw [hk2,EF]
   simp only [ep]
   obtain ⟨m,hm⟩:∃ m,m=t++rV t.length:=⟨_,rfl⟩
   have hml:m.length % 64=0:=by rw [hm,ZD];exact Nh _
   have hmb:m.length≤10000000200:=by rw [hm,← ep];omega
   have hsm:iw t=xG (eM firstL m (m.length / 64)):=by rw [hm];rfl
   rw [← hm]
   refine jE (freeze 1 rfl) ?_;refine jE (er 3 m rfl rfl rfl rfl) ?_;refine eA ?_
   refine aq (yd LZ (fun p6=>?_))
   refine U 651 ?_
   refine aq (yd O3 (fun p7=>?_))
   refine U 20516751 ?_;refine jE (freeze 2 rfl) ?_;refine jE (Bo 6 kL rfl rfl rfl rfl (fun j hj=>Z)) ?_;refine jE (ce (H':=[_,_]) [0,3] jD rfl) ?_;refine jE (bj 7 (.os 1 p7 0 8 1) (cO rfl)) ?_;refine ar (α:=Nat) [8,9,10,11,12,13,14,15,16,17,18,19,20,21,22,23,59,60,61,62,63,64,65,66,67,68,69,70,71,72,73,74,75,76,77,78,79,80,81,82,83,84,85,86,87,88,89,90,91,92,93,94,95,96,97,98,99,100,101,102,103,104,105,106,107,108,109,110,111,112,113,114,115,116,117,118,119,120,121,122,123,124,125,126,127,128,129,130,131,132,133,134,135,136,137,138,139,140,141,142,143,144,145,146,147,148,149,150,151,152,153,154,155,156,157,158,159,160,161,162,163,164,165,166,167,168,169,170,171,172,173,174,175,176,177,178,179,180,181,182,183,184,185,186,187,188,189,190,191,192,193,194,195,196,197,198,199,200,201,202,203,204,205,206,207,208,209,210,211,212,213,214,215,216,217,218,219,220,221,222,223,224,225,226,227,228,229,230,231,232,233,234,235,236,237,238,239,240,241,242,243,244,245,246,247,248,249,250,251,252,253,254,255,256,257,258,259,260,261,262,263,264,265,266,267,268,269,270,271,272,273,274,275,276,277,278,279,280,281,282,283,284,285,286,287,288,289,290,291,292,293,294] (fun j=>[(8,.c (.int .i64 ((64 * j:Nat):Int)))]) (fun j=>[(p1,.blk 32 fun _=>.top),(p7,.blk 8 (rX (eM firstL m j)))]) (fun j=>j≤m.length / 64) (fun j=>m.length / 64-j) (0) ?_ (fun _=>rfl) ?_ ?_ ?_
   exact ZL _
   ·(repeat (first|exact bh.nil|refine bh.cons Z ?_))
   exact aD.refl _
   ·rintro j (hj:j≤m.length / 64)
    have hw8:ju (eM firstL m j):=la mg m j
    obtain ⟨hs,hhs⟩:∃ hs,hs=eM firstL m j:=⟨_,rfl⟩
    rw [← hhs] at hw8
    obtain ⟨b,hb⟩:∃ b,b=(m.drop (64 * j)).take 64:=⟨_,rfl⟩
    have hnext:eM firstL m (j+1)=mh hs b:=by rw [hhs,hb];rfl
    rw [← hhs]
    refine U 5231167 ?_;refine aaa (fun h98=>?_) fun h98=>?_
    ·refine U 84000200020006000 ?_
     obtain rfl:j=m.length / 64:=by omega
     rw [← hhs] at hsm
     refine eA ?_;refine jq (zY rfl underlying129 fR iQ rfl rfl) ?_
     refine aq (dh (n:=32) iQ rfl fun p8=>?_)
     refine aw (bn 32 ?_)
     refine U 205131675 ?_;refine jE (cE 2 32 (BR hs (4 * 0)) rfl (ZA _) (fun j hj=>by unfold BR;rw [jK];exact aa.top _)) ?_;refine ar (α:=Nat) [25,26,27,298,299,300,301,302,303,304,305,306,307,308,309,310,311,312,313,314,315,316,317,318,319] (fun i=>[(298,.c (.int .i64 (i:Nat)))]) (fun i=>[(p1,.blk 32 fun _=>.top),(p7,.blk 8 (rX hs)),(p8,.blk 32 (BR hs (4 * i)))]) (fun i=>i≤8) (fun i=>8-i) (0) ?_ (fun _=>rfl) ?_ ?_ ?_
     exact ZL _
     ·(repeat (first|exact bh.nil|refine bh.cons Z ?_))
     exact aD.refl _
     ·rintro i (hi:i≤8)
      refine U 7526 ?_;refine aaa (fun h123=>?_) fun h123=>?_
      ·refine U 84000200020006000 ?_
       obtain rfl:i=8:=by omega
       refine jE (cE 2 32 (aV (iw t)) rfl (ZA _) (fun j hj=>by unfold BR;rw [jP,hsm];exact Z)) ?_;refine eA ?_;refine kj (bD 32) ?_
       refine aw (bg 32 (aV (iw t)) ?_ ?_)
       exact (fun j hj=>KV _ _ j hj)
       refine U 5 ?_
       refine jR (eN (hres:=aK rfl (f5 32)) (hv:=aa.agg rfl fun j hj=>aa.of_eq (by rw [Nat.zero_add])))
      refine U 16207810 ?_;refine jq (dP (i:=i) (hz:=by omega)) ?_;refine U 2051651150 ?_;refine ar (α:=Nat) [27,303,304,305,306,307,308,309,310,311,312,313,314,315,316,317,318] (fun q=>[(27,.c (.int .i64 (q:Nat)))]) (fun q=>[(p1,.blk 32 fun _=>.top),(p7,.blk 8 (rX hs)),(p8,.blk 32 (BR hs (4 * i+q)))]) (fun q=>q≤4) (fun q=>4-q) (0) ?_ (fun _=>rfl) ?_ ?_ ?_
      exact ZL _
      ·(repeat (first|exact bh.nil|refine bh.cons Z ?_))
      exact aD.refl _
      ·rintro q (hq:q≤4)
       refine U 52167 ?_;refine aaa (fun h124=>?_) fun h124=>?_
       ·refine U 851920084004000200020006000 ?_
        refine am (i+1) ?_ ?_ (h7:=?_)
        show i+1≤8;omega
        show 8-(i+1)<8-i;omega
        ·obtain rfl:q=4:=by omega
         exact aD.refl _
       refine U 99119191200207810 ?_;refine jq (wg .i64 .u64) ?_;refine jq (gP rfl rfl rfl (by omega) (((cS hs i >>> (24-8 * q):Nat):Int)) ((Br _ (24-8 * q) O O))) ?_;refine jq (zg .i64 .u8) ?_;refine jq (aZ rfl rfl rfl underlying129 fR (show _=(((4 * i+q):Nat):Int) by omega) (by omega)) ?_
       refine aw (bg 1 (BR hs (4 * i+(q+1))) ?_ ?_)
       exact (fun j hj=>JP O O hw8 j)
       refine U 8519120084005 ?_
       refine am (q+1) ?_ ?_ (h7:=?_)
       show q+1≤4;omega
       show 4-(q+1)<4-q;omega
       exact aD.refl _
    refine U 6207810 ?_
    refine aq (aM 0 1 rm fun p8=>?_)
    refine U 20516751 ?_;refine ar (α:=Nat×Option Nat) [9,10,11,66,67,68,69,70,71,72,73,74,75,76,77,78,79,80,81,82,83,84,85,86,87,88,89,90,91,92,93,94,95,96,97,98,99,100,101,102,103,104,105] (fun (i,g)=>[(10,.c (.int .i64 (i:Nat))),(9,.os 2 g 0 (aG b i).length 1)]) (fun (i,g)=>[(p1,.blk 32 fun _=>.top),(p7,.blk 8 (rX hs)),(g,.blk (aG b i).length (rX (aG b i)))]) (fun (i,g)=>i≤16) (fun (i,g)=>16-i) ((0,p8)) ?_ (fun _=>rfl) ?_ ?_ ?_
    exact ZL _
    exact .cons Z (.cons Z .nil)
    exact .same (.same (.blk rfl (fun j hj=>absurd hj (ZO j)) .nil))
    ·rintro ⟨i,g⟩ (hi:i≤16)
     have hsl:=iH b i
     have b0:=(m.getD (64 * j+4 * i) 0).toNat_lt
     have b1:=(m.getD (64 * j+4 * i+1) 0).toNat_lt
     have b2:=(m.getD (64 * j+4 * i+2) 0).toNat_lt
     have b3:=(m.getD (64 * j+4 * i+3) 0).toNat_lt
     refine U 52167 ?_;refine an (fun h100=>?_) fun h100=>?_
     ·refine U 5199116207810 ?_;refine mT 31 (.rd 0 (.rd 1 (.rd 2 (.rd 3 (.rd 4 (.rd 5 (.rd 6 (.rd 7 (.rd 8 (.rd 9 (.rd 10 (.rd 11 (.rd 12 (.rd 13 (.rd 14 (.rd 15 (.rd 16 (.rd 17 (.rd 18 (.rd 19 (.rd 20 (.rd 21 (.rd 22 (.rd 23 (.rd 24 (.rd 25 (.rd 26 (.rd 27 (.rd 28 (.rd 29 (.one 30 .done))))))))))))))))))))))))))))))) ?_;refine U 707070 ?_;refine aJ (dP (i:=(64 * j+4 * i)) (hz:=by omega)) ?_;refine aJ kF ?_;refine aJ (r9 .i64) ?_;refine aJ (jh rfl rfl rfl (by omega) ((((m.getD (64 * j+4 * i) 0).toNat * 2 ^ 24:Nat):Int)) ((wt _ 24 rfl jD O))) ?_;refine U 300007070 ?_;refine aJ (dP (i:=(64 * j+4 * i+1)) (hz:=by omega)) ?_;refine aJ kF ?_;refine aJ (r9 .i64) ?_;refine aJ (jh rfl rfl rfl (by omega) ((((m.getD (64 * j+4 * i+1) 0).toNat * 2 ^ 16:Nat):Int)) ((wt _ 16 rfl jD O))) ?_;refine U 30000707030000 ?_;refine aJ (dP (i:=(64 * j+4 * i+2)) (hz:=by omega)) ?_;refine aJ kF ?_;refine aJ (r9 .i64) ?_;refine aJ (jh rfl rfl rfl (by omega) ((((m.getD (64 * j+4 * i+2) 0).toNat * 2 ^ 8:Nat):Int)) ((wt _ 8 rfl jD O))) ?_;refine U 30000707030000 ?_;refine aJ (dP (i:=(64 * j+4 * i+3)) (hz:=by omega)) ?_;refine aJ kF ?_;refine aJ (r9 .i64) ?_;refine aJ P3 ?_
      refine gp (aM 1 1 rm fun p9=>?_)
      refine Az ?_
      show cQ _ _ _ _ _ _
      refine aw (aB BF (l2:=[Lw b (4 * i)]) rfl rfl rfl rfl (by exact aqx (ZS _)) (fun _ _=>Z) (aI rfl (.inl rfl) jD) rfl (OF (.cons (cI ((by rw [hb,Tb O];omega))) .nil)) underlying106 oN Ls rm Lv rfl (by (simp;omega)) (by (simp;omega)) (bw rfl rfl) rfl rfl (ZS _) (fun p10=>?_))
      refine U 85191200840051 ?_
      refine am ((i+1,p10)) ?_ ?_ (h5:=?_) (h7:=?_)
      show i+1≤16;omega
      show 16-(i+1)<16-i;omega
      ·simp only [← xa b (show i<16 by omega)]
       exact .cons (cI O) (.cons Z .nil)
      ·simp only [← xa b (show i<16 by omega)]
       exact aD.refl _
     refine U 20516784000200020006000 ?_
     obtain rfl:i=16:=by omega
     refine ar (α:=Nat×Option Nat) [9,12,13,14,15,16,106,107,108,109,110,111,112,113,114,115,116,117,118,119,120,121,122,123,124,125,126,127,128,129,130,131,132,133,134,135,136,137,138,139,140,141,142,143,144,145,146,147,148,149,150,151,152,153,154] (fun (i,g)=>[(12,.c (.int .i64 (i:Nat))),(9,.os 2 g 0 (aG b i).length 1)]) (fun (i,g)=>[(p1,.blk 32 fun _=>.top),(p7,.blk 8 (rX hs)),(g,.blk (aG b i).length (rX (aG b i)))]) (fun (i,g)=>16≤i∧i≤64) (fun (i,g)=>64-i) ((16,g)) ?_ (fun _=>rfl) ?_ ?_ ?_
     exact ⟨ZA _,by decide⟩
     exact .cons Z (.cons Z .nil)
     exact aD.refl _
     ·rintro ⟨i,g⟩ ⟨(hi1:16≤i),(hi:i≤64)⟩
      have hsl:=iH b i
      have wl:∀ q,q<i→cS (aG b i) q<jj:=fun q hq=>zL b hq
      refine U 52167 ?_;refine an (fun h104=>?_) fun h104=>?_
      ·refine U 7207810 ?_;refine dQ (.rd 0 (.rd 1 (.rd 2 (.rd 3 (.rd 4 (.rd 5 (.rd 6 (.rd 7 (.rd 8 (.rd 9 (.rd 10 (.rd 11 .done)))))))))))) ?_;refine U 300007070 ?_;refine aJ (dP (i:=(i-15)) (hz:=by omega)) ?_;refine U 30000707010000 ?_;refine aJ (dP (i:=(i-2)) (hz:=by omega)) ?_;refine U 880707010000 ?_
       have hx:=wl (i-15) O
       have hy:=wl (i-2) O
       have hz1:=wl (i-16) O
       have hz2:=wl (i-7) O
       have hz1':cS (aG b i) (i-16)<4294967296:=hz1
       have hz2':cS (aG b i) (i-7)<4294967296:=hz2
       have hsa:Mp (cS (aG b i) (i-15))<4294967296:=gI (gI (aX hx) (aX hx)) (nN hx)
       have hsb:Mo (cS (aG b i) (i-2))<4294967296:=gI (gI (aX hy) (aX hy)) (nN hy)
       refine U 16 ?_
       refine aq (ak (kg (cS (aG b i) (i-15)) 7 (wl _ O) jD jD) ?_)
       refine U 1 ?_
       refine aq (ak (kg (cS (aG b i) (i-15)) 18 (wl _ O) jD jD) ?_)
       refine jq (dc rfl rfl rfl (ir (aX hx)) (ir (aX hx))) ?_;refine U 1 ?_;refine jq (jg (n:=3) rfl rfl rfl jD) ?_;refine jq (dc rfl rfl rfl (ir (gI (aX hx) (aX hx))) (ir (nN hx))) ?_;refine U 51 ?_;refine jE (bj 15 (.c (.int .i64 ((Mp (cS (aG b i) (i-15)):Nat):Int))) Z) ?_;refine U 16 ?_
       refine aq (ak (kg (cS (aG b i) (i-2)) 17 (wl _ O) jD jD) ?_)
       refine U 1 ?_
       refine aq (ak (kg (cS (aG b i) (i-2)) 19 (wl _ O) jD jD) ?_)
       refine jq (dc rfl rfl rfl (ir (aX hy)) (ir (aX hy))) ?_;refine U 1 ?_;refine jq (jg (n:=10) rfl rfl rfl jD) ?_;refine jq (dc rfl rfl rfl (ir (gI (aX hy) (aX hy))) (ir (nN hy))) ?_;refine U 51 ?_;refine jE (bj 16 (.c (.int .i64 ((Mo (cS (aG b i) (i-2)):Nat):Int))) Z) ?_;refine mT 18 (.rd 0 (.rd 1 (.rd 2 (.rd 3 (.rd 4 (.rd 5 (.rd 6 (.rd 7 (.rd 8 (.rd 9 (.rd 10 (.rd 11 (.rd 12 (.rd 13 (.rd 14 (.rd 15 (.rd 16 (.one 17 .done)))))))))))))))))) ?_;refine U 30000707070 ?_;refine aJ (dP (i:=(i-16)) (hz:=by omega)) ?_;refine U 300007070300007010000 ?_;refine aJ (dP (i:=(i-7)) (hz:=by omega)) ?_;refine U 30000703000010000 ?_;refine aJ (mQ rfl rfl rfl (((vA (aG b i) i:Nat):Int)) ((E9 (a:=cS (aG b i) (i-16)+Mp (cS (aG b i) (i-15))+cS (aG b i) (i-7)+Mo (cS (aG b i) (i-2))) O O))) ?_
       refine gp (aM 1 1 rm fun p9=>?_)
       refine Az ?_
       show cQ _ _ _ _ _ _
       refine aw (aB BF (l2:=[vA (aG b i) i]) rfl rfl rfl rfl (by exact aqx (ZS _)) (fun _ _=>Z) (aI rfl (.inl rfl) jD) rfl (OF (.cons (cI (rfl)) .nil)) underlying106 oN Ls rm Lv rfl (by (simp;omega)) (by (simp;omega)) (bw rfl rfl) rfl rfl (ZS _) (fun p10=>?_))
       refine U 85191200840051 ?_
       refine am ((i+1,p10)) ?_ ?_ (h5:=?_) (h7:=?_)
       exact ⟨by omega,by omega⟩
       show 64-(i+1)<64-i;omega
       ·simp only [← xb b hi1]
        exact .cons (cI O) (.cons Z .nil)
       ·simp only [← xb b hi1]
        exact aD.refl _
      refine U 84000200020006000 ?_
      obtain rfl:i=64:=by omega
      obtain ⟨W,hW⟩:∃ W,W=aG b 64:=⟨_,rfl⟩
      have hWl:W.length=64:=by rw [hW];exact iH b 64
      have hWt:∀ q,q<64→cS W q<4294967296:=fun q hq=>by rw [hW];exact zL b hq
      have hWn:∀ i,dY hs b (i+1)=pm (dY hs b i) (cS kL i) (cS W i):=fun i=>by rw [hW];exact Dh hs b i
      simp only [← hW]
      clear hW
      refine jE (freeze 2 rfl) ?_;refine jE (Bo 9 W rfl rfl rfl (bfx (ZA _)) (fun j hj=>Z)) ?_;refine eA ?_
      refine aq (aM 0 1 rm fun p9=>?_)
      refine U 1 ?_
      refine aw (aB BF (l:=[]) (l2:=hs) rfl rfl rfl rfl (ZL _) (fun j hj=>absurd hj (ZO j)) (aI rfl (.inl rfl) jD) hw8.1.symm (fun j hj=>by rw [Nat.zero_add];exact Z) underlying106 oN Ls rm Lv rfl (by rw [hw8.1];decide) (by rw [hw8.1];decide) (fun j hj=>rfl) rfl rfl (ZS _) (fun p10=>?_))
      refine U 20516751 ?_;refine jE (freeze 3 rfl) ?_;refine jE (Bo 17 hs rfl rfl rfl (bfx (ZA _)) (fun j hj=>Z)) ?_;refine jE (ce (H':=[_,_]) [0,1] jD rfl) ?_;refine ar (α:=Nat×List Nat) [17,18,19,20,21,22,158,159,160,161,162,163,164,165,166,167,168,169,170,171,172,173,174,175,176,177,178,179,180,181,182,183,184,185,186,187,188,189,190,191,192,193,194,195,196,197,198,199,200,201,202,203,204,205,206,207,208,209,210,211,212,213,214,215,216,217,218,219,220,221,222,223,224,225,226,227,228,229,230,231,232,233,234,235,236,237,238,239,240,241,242,243,244,245,246,247,248,249,250,251,252,253,254,255,256,257,258,259,260,261,262,263,264,265,266,267,268,269,270,271,272,273,274,275] (fun (i,v)=>[(18,.c (.int .i64 (i:Nat))),(17,YX v)]) (fun (i,v)=>[(p1,.blk 32 fun _=>.top),(p7,.blk 8 (rX hs))]) (fun (i,v)=>i≤64∧v=dY hs b i) (fun (i,v)=>64-i) ((0,hs)) ?_ (fun _=>rfl) ?_ ?_ ?_
      exact ⟨ZL _,rfl⟩
      exact .cons Z (.cons Z .nil)
      exact aD.refl _
      ·rintro ⟨i,v⟩ ⟨(hi:i≤64),(hv:v=dY hs b i)⟩
       have hv8:ju v:=by rw [hv];exact nI hw8 b i
       have hvl:=hv8.1
       have vl:∀ q,cS v q<jj:=hv8.2
       have v3':cS v 3<4294967296:=vl 3
       have v7':cS v 7<4294967296:=vl 7
       have v4':cS v 4<4294967296:=vl 4
       have hkl:=Xd i
       have hk64:kL.length=64:=rfl
       refine U 52167 ?_;refine aaa (fun h111=>?_) fun h111=>?_
       ·refine U 205131684000200020006000 ?_
        obtain rfl:i=64:=by omega
        refine jE (cE 1 8 (rX (zd hs v 0)) rfl (ZA _) (J9 v)) ?_
        have hvl8:=hv8.2
        refine ar (α:=Nat) [23,278,279,280,281,282,283,284,285,286,287,288,289,290,291,292,293,294] (fun i=>[(278,.c (.int .i64 (i:Nat)))]) (fun i=>[(p1,.blk 32 fun _=>.top),(p7,.blk 8 (rX (zd hs v i)))]) (fun i=>i≤8) (fun i=>8-i) (0) ?_ (fun _=>rfl) ?_ ?_ ?_
        exact ZL _
        ·(repeat (first|exact bh.nil|refine bh.cons Z ?_))
        exact aD.refl _
        ·rintro i (hi:i≤8)
         have hgi:i<8→cS (zd hs v i) i=cS hs i:=fun h=>by rw [pE hs v i h,jK]
         have hsi:cS hs i<4294967296:=hw8.2 i
         have hvi:cS v i<4294967296:=vl i
         refine U 7526 ?_;refine aaa (fun h118=>?_) fun h118=>?_
         ·refine U 8519120084004000200020006000 ?_
          refine am (j+1) ?_ ?_ (h7:=?_)
          show j+1≤m.length / 64;omega
          show m.length / 64-(j+1)<m.length / 64-j;omega
          ·obtain rfl:i=8:=by omega
           rw [hnext]
           exact .same (.blk rfl (NJ hs v b hv) .nil)
         refine U 5116207810 ?_
         have hgi:=hgi O
         refine mT 13 (.rd 0 (.rd 1 (.rd 2 (.rd 3 (.rd 4 (.rd 5 (.rd 6 (.rd 7 (.rd 8 (.rd 9 (.rd 10 (.rd 11 (.rd 12 .done))))))))))))) ?_;refine U 70707070 ?_;refine aJ (dP (i:=i) (hz:=by omega)) ?_;refine U 707010000 ?_;refine aJ (dP (i:=i) (hz:=by omega)) ?_;refine U 3000070000 ?_;refine aJ (mQ rfl rfl rfl ((((cS hs i+cS v i) % jj:Nat):Int)) ((E9 (a:=cS hs i+cS v i) O O))) ?_;refine aJ (dP (i:=i) (hz:=by omega)) ?_;refine Az ?_
         show cQ _ _ _ _ _ _
         refine aw (bg 1 (rX (zd hs v (i+1))) ?_ ?_)
         exact (fun j hj=>Ka O rfl j hj)
         refine U 851920084005 ?_
         refine am (i+1) ?_ ?_ (h7:=?_)
         show i+1≤8;omega
         show 8-(i+1)<8-i;omega
         exact aD.refl _
       refine U 7207810 ?_;refine dQ (.rd 0 (.rd 1 (.rd 2 (.rd 3 (.rd 4 (.rd 5 (.rd 6 (.rd 7 (.rd 8 (.rd 9 (.rd 10 (.rd 11 (.rd 12 (.rd 13 (.rd 14 (.rd 15 (.rd 16 .done))))))))))))))))) ?_;refine U 70 ?_;refine aJ (dP (i:=4)) ?_;refine U 7070000 ?_;refine aJ (dP (i:=5)) ?_;refine aJ kF ?_;refine aJ (lh rfl rfl rfl (ir (vl 4)) (ir (vl 5))) ?_;refine U 70 ?_;refine aJ (dP (i:=4)) ?_;refine U 703000070000 ?_;refine aJ (dP (i:=6)) ?_;refine aJ kF ?_;refine aJ (mQ rfl rfl rfl (((od (cS v 4) &&& cS v 6:Nat):Int)) ((Lj (vl 4) (vl 6)))) ?_;refine aJ (nT rfl rfl rfl (ir (fD (vl 4))) (ir (fD (not_lt _)))) ?_;refine U 788070 ?_;refine dQ (.rd 0 (.rd 1 (.rd 2 (.rd 3 (.rd 4 (.rd 5 (.rd 6 (.rd 7 (.rd 8 (.rd 9 (.rd 10 (.rd 11 (.rd 12 (.rd 13 (.rd 14 (.rd 15 (.rd 16 (.rd 17 (.rd 18 (.rd 19 (.rd 20 (.rd 21 (.rd 22 (.rd 23 .done)))))))))))))))))))))))) ?_;refine U 70 ?_;refine aJ (dP (i:=0)) ?_;refine U 7070000 ?_;refine aJ (dP (i:=1)) ?_;refine aJ kF ?_;refine aJ (lh rfl rfl rfl (ir (vl 0)) (ir (vl 1))) ?_;refine U 70 ?_;refine aJ (dP (i:=0)) ?_;refine U 7070000 ?_;refine aJ (dP (i:=2)) ?_;refine aJ kF ?_;refine aJ (lh rfl rfl rfl (ir (vl 0)) (ir (vl 2))) ?_;refine aJ (nT rfl rfl rfl (ir (fD (vl 0))) (ir (fD (vl 0)))) ?_;refine U 70 ?_;refine aJ (dP (i:=1)) ?_;refine U 7070000 ?_;refine aJ (dP (i:=2)) ?_;refine aJ kF ?_;refine aJ (lh rfl rfl rfl (ir (vl 1)) (ir (vl 2))) ?_;refine aJ (nT rfl rfl rfl (ir (vz (fD (vl 0)) (fD (vl 0)))) (ir (fD (vl 1)))) ?_;refine U 788070 ?_
       have hch:(cS v 4 &&& cS v 5 ||| od (cS v 4) &&& cS v 6)<4294967296:=vz (fD (vl 4)) (fD (not_lt _))
       have hmo:(cS v 0 &&& cS v 1 ||| cS v 0 &&& cS v 2 ||| cS v 1 &&& cS v 2)<4294967296:=vz (vz (fD (vl 0)) (fD (vl 0))) (fD (vl 1))
       have hsE:(dx (cS v 4) 6 ^^^ dx (cS v 4) 11 ^^^ dx (cS v 4) 25)<4294967296:=gI (gI (aX (vl 4)) (aX (vl 4))) (aX (vl 4))
       have hsA:(dx (cS v 0) 2 ^^^ dx (cS v 0) 13 ^^^ dx (cS v 0) 22)<4294967296:=gI (gI (aX (vl 0)) (aX (vl 0))) (aX (vl 0))
       have hwi:=hWt i O
       have htM:tM v (cS kL i) (cS W i)<21474836480:=by unfold tM QB;omega
       have huM:uM v<8589934592:=by unfold uM QC;omega
       refine dQ (.rd 0 (.rd 1 (.rd 2 (.rd 3 (.rd 4 (.rd 5 (.rd 7 (.rd 8 (.rd 9 (.rd 12 (.rd 13 (.rd 14 (.rd 18 (.rd 20 (.rd 21 (.rd 22 (.rd 23 (.rd 25 (.rd 26 (.rd 27 (.rd 28 (.one 6 (.one 10 (.rd 11 (.one 15 (.rd 16 (.rd 17 (.rd 19 (.rd 24 (.rd 29 (.rd 30 .done))))))))))))))))))))))))))))))) ?_;refine U 70 ?_;refine aJ (dP (i:=7)) ?_;refine U 7070000 ?_;refine aJ (dP (i:=4)) ?_;refine U 7070000 ?_;refine aJ (dP (i:=4)) ?_;refine U 7070000 ?_;refine aJ (dP (i:=4)) ?_;refine U 70707070000 ?_;refine aJ (dP (i:=i) (hz:=by omega)) ?_;refine U 707070000 ?_;refine aJ (dP (i:=i) (hz:=by omega)) ?_;refine aJ kF ?_
       refine gp (ak (kg (cS v 4) 6 (vl 4) jD jD) ?_)
       refine gp (ak (kg (cS v 4) 11 (vl 4) jD jD) ?_)
       refine aJ (dc rfl rfl rfl (ir (aX (vl 4))) (ir (aX (vl 4)))) ?_
       refine gp (ak (kg (cS v 4) 25 (vl 4) jD jD) ?_)
       refine aJ (dc rfl rfl rfl (ir (gI (aX (vl 4)) (aX (vl 4)))) (ir (aX (vl 4)))) ?_;refine U 78807030000300003000030000 ?_;refine dQ (.rd 0 (.rd 1 (.rd 2 (.rd 4 (.rd 5 (.rd 6 (.rd 9 (.rd 10 (.rd 11 (.rd 14 (.one 3 (.one 7 (.rd 8 (.one 12 (.rd 13 (.rd 15 (.rd 16 .done))))))))))))))))) ?_;refine U 70 ?_;refine aJ (dP (i:=0)) ?_;refine U 7070000 ?_;refine aJ (dP (i:=0)) ?_;refine U 7070000 ?_;refine aJ (dP (i:=0)) ?_;refine U 7070000 ?_
       refine gp (ak (kg (cS v 0) 2 (vl 0) jD jD) ?_)
       refine gp (ak (kg (cS v 0) 13 (vl 0) jD jD) ?_)
       refine aJ (dc rfl rfl rfl (ir (aX (vl 0))) (ir (aX (vl 0)))) ?_
       refine gp (ak (kg (cS v 0) 22 (vl 0) jD jD) ?_)
       refine aJ (dc rfl rfl rfl (ir (gI (aX (vl 0)) (aX (vl 0)))) (ir (aX (vl 0)))) ?_;refine U 8807030000 ?_;refine jE (bj 21 (.c (.int .i64 ((tM v (cS kL i) (cS W i):Nat):Int))) (cI (by unfold tM QB;omega))) ?_;refine jE (bj 22 (.c (.int .i64 ((uM v:Nat):Int))) (cI (by unfold uM QC;omega))) ?_;refine dQ (.rd 0 (.rd 1 (.rd 2 (.rd 3 (.rd 4 (.rd 5 (.rd 6 (.rd 7 (.rd 8 (.rd 9 (.rd 10 (.rd 11 (.rd 12 (.rd 13 (.rd 14 (.rd 15 (.rd 16 (.rd 17 (.rd 18 (.rd 19 (.rd 20 (.rd 21 (.rd 22 (.rd 23 (.rd 24 (.rd 25 (.rd 26 (.rd 27 (.one 28 (.rd 29 .done)))))))))))))))))))))))))))))) ?_;refine U 300007070 ?_;refine aJ (mQ rfl rfl rfl ((((tM v (cS kL i) (cS W i)+uM v) % jj:Nat):Int)) ((E9 (a:=tM v (cS kL i) (cS W i)+uM v) O O))) ?_;refine U 70 ?_;refine aJ (dP (i:=0)) ?_;refine U 7070000 ?_;refine aJ (dP (i:=1)) ?_;refine U 7070000 ?_;refine aJ (dP (i:=2)) ?_;refine U 7070000 ?_;refine aJ (dP (i:=3)) ?_;refine U 300007070000 ?_;refine aJ (mQ rfl rfl rfl ((((cS v 3+tM v (cS kL i) (cS W i)) % jj:Nat):Int)) ((E9 (a:=cS v 3+tM v (cS kL i) (cS W i)) O O))) ?_;refine U 70 ?_;refine aJ (dP (i:=4)) ?_;refine U 7070000 ?_;refine aJ (dP (i:=5)) ?_;refine U 7070000 ?_;refine aJ (dP (i:=6)) ?_;refine aJ kF ?_
       refine gp (aM 8 1 rm fun p11=>?_)
       refine ij (freeze 2 rfl) ?_;refine ij (Bo 275 (pm v (cS kL i) (cS W i)) rfl rfl rfl rfl (fun j hj=>by rcases j with _|_|_|_|_|_|_|_|j<;>first|exact Z|exact absurd hj (by simp [pm]))) ?_;refine U 8519120084008070 ?_
       refine am ((i+1,pm v (cS kL i) (cS W i))) ?_ ?_ (h5:=?_) (h7:=?_)
       exact ⟨by omega,by rw [hWn,← hv]⟩
       show 64-(i+1)<64-i;omega
       exact .cons (cI O) (.cons Z .nil)
       exact aD.refl _
section
variable {gs:List Nat} [ud gs]
theorem nW {ls:Zx} {i:Nat} (h:i<ls.length):(ls.take (i+1)).flatten=(ls.take i).flatten++ls.getD i []:=by
 rw [ZH h,aSx]
 simp [List.getD,h]
theorem DB (ls:Zx) (i:Nat):(ls.take i).flatten.length≤ls.flatten.length:=by
 have:=ZV (fun l:Zx=>l.flatten.length) (amx i ls)
 simp only [aSx,ZD] at this
 omega
theorem G6 (ls:Zx) (hl:ls.length≤1000000) (hm:ls.flatten.length≤10000000000):cd gs prog 229 [we ls] (.agg 32 (aV (iw ls.flatten))):=by
 refine ae 19 func229 fun _ _ _ _=>?_;refine eA ?_
 refine aq (dh (n:=32) iQ rfl fun p1=>?_)
 refine U 65 ?_
 refine aq (yc DO ?_)
 rintro _ _ ⟨n,rfl,rfl⟩
 refine U 2051316751 ?_;refine jE (bj 3 (.op 1 (some n) 0) cP) ?_;refine jE (cE 0 32 (fun _=>.top) rfl (ZA _) (fun j hj=>aa.top _)) ?_;refine ar (α:=Nat) [5,9,10,11,12,13,14,15,16] (fun i=>[(9,.c (.int .i64 (i:Nat)))]) (fun i=>[(p1,.blk 32 fun _=>.top),eQ n (ls.take i).flatten]) (fun i=>i≤ls.length) (fun i=>ls.length-i) (0) ?_ (fun _=>rfl) ?_ ?_ ?_
 exact ZL _
 ·(repeat (first|exact bh.nil|refine bh.cons Z ?_|refine bh.cons (cI O) ?_))
 exact aD.refl _
 ·rintro i (hi:i≤ls.length)
  refine U 7526 ?_;refine aaa (fun h115=>?_) fun h115=>?_
  ·refine U 84000200020006000 ?_
   obtain rfl:i=ls.length:=by omega
   simp only [ZW]
   refine U 16 ?_
   refine aw (aN 1 (Mb n ls.flatten hm) ?_)
   refine aw (bn 32 ?_)
   refine U 5 ?_
   refine jR (eN (hres:=aK rfl (f5 32)) (hv:=yx (iw ls.flatten)))
  refine U 7006207810 ?_
  first|refine kj gy ?_|refine jq kF ?_
  refine U 51 ?_
  have hp:=DB ls (i+1)
  rw [nW (show i<ls.length by omega),ZD] at hp
  refine U 11200 ?_
  refine aw (aN 1 (sw n (ls.take i).flatten (ls.getD i []) O) ?_)
  refine U 851920084005 ?_
  refine am (i+1) ?_ ?_ (h7:=?_)
  show i+1≤ls.length;omega
  show ls.length-(i+1)<ls.length-i;omega
  ·simp only [nW (show i<ls.length by omega)]
   exact aD.refl _
end
def r8 (k:I):I:=if 64<k.length then iw k else k
def th (k:I):I:=r8 k++List.replicate (64-(r8 k).length) 0
def gx (k:I) (x:UInt8):I:=(th k).map (· ^^^ x)
def lL (k m:I):I:=iw (gx k 92++iw (gx k 54++m))
theorem x7 (k:I):(r8 k).length≤64:=by
 unfold r8
 split
 ·rw [qh];omega
 omega
theorem x8 (k:I):(th k).length=64:=by
 have:=x7 k
 simp only [th,ZD,bxx]
 omega
theorem kC (k:I) (x:UInt8):(gx k x).length=64:=by rw [gx,axx,x8]
theorem nl (k m:I):(lL k m).length=32:=qh _
section
variable {gs:List Nat} [ud gs]
def vY (l:I) (x:UInt8) (i:Nat):I:=(l.take i).map (· ^^^ x)++l.drop i
theorem CL (l:I) (x:UInt8) (i:Nat):(vY l x i).length=l.length:=by
 simp only [vY,ZD,axx,ZK,ZI]
 omega
theorem Iu (l:I) (x:UInt8):vY l x 0=l:=by simp [vY]
theorem LE {l:I} {x:UInt8} {i:Nat} (h:l.length≤i):vY l x i=l.map (· ^^^ x):=by simp [vY,ZY h,aux h]
theorem Bg (l:I) (x:UInt8) (i j:Nat):(vY l x i)[j]?=if j<i then l[j]?.map (· ^^^ x) else l[j]?:=by
 unfold vY
 rw [bZx]
 simp only [axx,ZK,aBx,aXx,bsx]
 by_cases h:j<i
 ·by_cases h2:j<l.length
  ·rw [jP,Zz h,Zz h]
  ·rw [jK,Zz h,Z0 O,Z0 O]
   rfl
 ·rw [jK,Zy h]
  by_cases h2:i≤l.length
  ·rw [show i+(j-min i l.length)=j by omega]
  ·rw [Z0 O,Z0 O]
theorem LD {l:I} {x:UInt8} {i:Nat}:(vY l x i).getD i 0=l.getD i 0:=by
 rw [ZB,Bg,jK,ZB]
theorem Iv {l:I} {x:UInt8} {i:Nat} (h:i<l.length):(vY l x i).set i (l.getD i 0 ^^^ x)=vY l x (i+1):=by
 refine cax fun j=>?_
 rw [cHx,Bg,Bg,CL]
 by_cases e:i=j
 ·subst e
  rw [Zz rfl,Zz h,jP]
  simp [List.getD,h]
 ·rw [Zy e]
  by_cases e2:j<i
  ·rw [Zz e2,jP]
  ·rw [Zy e2,jK]
theorem CK (a b:UInt8):((a.toNat ^^^ b.toNat:Nat):Int)=((a ^^^ b).toNat:Int):=by rw [b9x]
theorem N9 {k:I} (hk:k.length≤64) {f:Nat→CV} (hf:∀ j,j<64→aa (f j) (.c (.int .u8 0))) (j:Nat) (hj:j<64):aa (Gz 0 k.length f (aV k) j) (aV (k++List.replicate (64-k.length) 0) j):=by
 unfold Gz
 by_cases h:j<k.length
 ·rw [jP,aJx]
  refine aa.of_eq ?_
  unfold aV
  simp [List.getD,ZF h]
 ·rw [jK]
  have e:aV (k++List.replicate (64-k.length) 0) j=.c (.int .u8 0):=by
   unfold aV
   rw [ZB,ZR O,aHx]
   split<;>rfl
  rw [e]
  exact hf j hj
theorem gX (l:I) (f:Nat→CV) (j:Nat) (hj:j<32):aa (fX f 0 (List.map (fun j=>aV l j) (List.range 32)) j) (aV l j):=by
 rw [db,Zz ⟨ZL _,by simp;omega⟩,aJx,Ce _ hj]
 exact Z
theorem zH {X:I} {o:Nat} {c:UInt8} {z:Int} (hz:z=(c.toNat:Nat)) (ho:o<X.length) (j:Nat):aa (fX (aV X) o [.c (.int .u8 z)] j) (aV (X.set o c) j):=by
 rw [kq]
 by_cases e:j=o
 ·subst e
  rw [Zz rfl]
  exact aa.of_eq (by unfold aV;rw [hz];simp [List.getD,ho])
 ·rw [Zy e]
  exact aa.of_eq (by unfold aV;simp [List.getD,show ¬ o=j from fun h=>e h.symm])
theorem Dr (j:Nat):(List.replicate 64 (0:UInt8)).getD j 0=0:=by
 rw [ZB,aHx]
 split<;>rfl
theorem Wr (j:Nat):aa (.c ((Value.int .u8 0).cells[j % (Value.int .u8 0).cells.size]!)) (aV (List.replicate 64 0) j):=aa.of_eq (by
 show CV.c (#[Value.int .u8 0][j % 1]!)=_
 rw [clx]
 unfold aV
 rw [Dr]
 rfl)
theorem Ng (k:I) (x:UInt8) (hk:k.length≤1000000000):cd gs prog 227 [bc k,.c (.int .u8 (x.toNat:Nat))] (bc (gx k x)):=by
 have hkl:=x7 k
 have hbl:=x8 k
 have h32:=qh k
 have hfl:[k].flatten=k:=by simp
 refine ae 33 func227 fun _ _ _ _=>?_;refine U 516 ?_;refine i5 (α:=Unit) [0,5,8,9,10,11,12,13,14] (fun _=>[(0,bc (r8 k))]) (fun _=>[]) (fun _=>True) (fun _=>rfl) ?_ ?_
 ·refine U 52316 ?_;refine aaa (fun h25=>?_) fun h25=>?_
  ·refine U 810 ?_
   refine fy (()) ?_ (h5:=?_)
   ·trivial
   exact .cons (aa.bs (by unfold r8;rw [jK])) .nil
  refine U 16 ?_
  refine aq (aM 1 1 eC fun p1=>?_)
  refine aA (freeze 0 rfl) ?_;refine aA (rI 12 [k] rfl rfl rfl jD (.cons Z .nil)) ?_
  refine aq (ak (G6 [k] (by show 1≤1000000;decide) (by rw [hfl];omega)) ?_)
  refine aq (dh (n:=32) iQ rfl fun p2=>?_)
  refine aw (bg 32 (aV (iw k)) ?_ ?_)
  exact (fun j hj=>by rw [hfl];exact gX (iw k) _ j hj)
  refine U 2005 ?_;refine jq (iT rfl rfl (.inl rfl) jD underlying129 fR (bv _ _) (bv _ _) (by omega) (by omega) (by omega) rfl) ?_;refine aA (freeze 1 rfl) ?_;refine aA (er 14 (iw k) rfl rfl h32.symm (by rw [h32])) ?_;refine aA (bj 14 (bc (r8 k)) (aa.bs (by unfold r8;rw [jP]))) ?_;refine U 851 ?_
  refine fy (()) ?_ (h5:=?_)
  ·trivial
  exact .cons Z .nil
 ·rintro u hu
  refine eA ?_
  refine aq (yu (F:=aV (List.replicate 64 0)) rfl rfl rfl (show (64:Int)=((64:Nat):Int) from rfl) (show (64:Int)=((64:Nat):Int) from rfl) (by omega) underlying23 fR da jt (by omega) (by omega) (fun j hj=>Wr j) rfl rfl (fun p1=>?_))
  refine U 11651 ?_
  refine aw (TM (r8 k) (aV (th k)) (fun j hj=>N9 (f:=aV (List.replicate 64 0)) hkl (fun j hj=>aa.of_eq (by unfold aV;rw [Dr];rfl)) j hj) ?_ (Mf rfl))
  refine U 205131675 ?_;refine ar (α:=Nat) [7,21,22,23,24,25,26,27,28,29,30,31] (fun i=>[(21,.c (.int .i64 (i:Nat)))]) (fun i=>[(p1,.blk 64 (aV (vY (th k) x i)))]) (fun i=>i≤64) (fun i=>64-i) (0) ?_ (fun _=>rfl) ?_ ?_ ?_
  exact ZL _
  ·(repeat (first|exact bh.nil|refine bh.cons Z ?_))
  ·simp only [Iu]
   exact aD.refl _
  ·rintro i (hi:i≤64)
   refine U 7526 ?_;refine aaa (fun h31=>?_) fun h31=>?_
   ·refine U 84000200020006000 ?_
    obtain rfl:i=64:=by omega
    rw [LE O]
    refine jE (freeze 0 rfl) ?_;refine jE (er 6 (gx k x) rfl rfl (kC k x).symm (by rw [kC];rfl)) ?_;refine U 5116 ?_
    refine jR eN
   refine U 150700112005116207810 ?_;refine jq (dc rfl rfl rfl (dJ.2 (avx _)) (dJ.2 (avx _))) ?_;refine jq dP ?_
   refine aw (bn 1 ?_)
   refine U 851920084005 ?_
   refine am (i+1) ?_ ?_ (h7:=?_)
   show i+1≤64;omega
   show 64-(i+1)<64-i;omega
   ·refine .blk rfl (fun j hj=>?_) .nil
    rw [← Iv (show i<(th k).length by omega)]
    exact zH (by rw [LD];exact CK _ _) (by rw [CL];omega) j
theorem NO (k:I) (ls:Zx) (hk:k.length≤1000000000) (hl:ls.length≤1000000) (hm:ls.flatten.length≤1000000000):cd gs prog 190 [bc k,we ls] (.agg 32 (aV (lL k ls.flatten))):=by
 have hpl:=kC k 54
 have hpl2:=kC k 92
 refine ae 31 func190 fun _ _ _ _=>?_;refine eA ?_
 refine aq (dh (n:=32) iQ rfl fun p1=>?_)
 refine U 65 ?_
 refine aq (yc DO ?_)
 rintro _ _ ⟨n,rfl,rfl⟩
 refine U 51 ?_;refine jE (bj 5 (.op 1 (some n) 0) cP) ?_;refine jE (cE 0 32 (fun _=>.top) rfl (ZA _) (fun j hj=>aa.top _)) ?_;refine U 116 ?_
 refine aq (ak (Ng k 54 hk) ?_)
 refine aw (aN 1 (sw n [] (gx k 54) (by simp;omega)) ?_)
 refine U 205131675 ?_;refine ar (α:=Nat) [7,16,17,18,19,20,21,22,23] (fun i=>[(16,.c (.int .i64 (i:Nat)))]) (fun i=>[(p1,.blk 32 fun _=>.top),eQ n (gx k 54++(ls.take i).flatten)]) (fun i=>i≤ls.length) (fun i=>ls.length-i) (0) ?_ (fun _=>rfl) ?_ ?_ ?_
 exact ZL _
 ·(repeat (first|exact bh.nil|refine bh.cons Z ?_))
 ·rw [show gx k 54++(ls.take 0).flatten=[]++gx k 54 by simp]
  exact aD.refl _
 ·rintro i (hi:i≤ls.length)
  refine U 7526 ?_;refine an (fun h41=>?_) fun h41=>?_
  ·refine U 51607006207810 ?_
   have hp:=DB ls (i+1)
   rw [nW (show i<ls.length by omega),ZD] at hp
   refine U 11200 ?_
   refine aw (aN 1 (sw n (gx k 54++(ls.take i).flatten) (ls.getD i []) (by rw [ZD];omega)) ?_)
   refine U 851920084005 ?_
   refine am (i+1) ?_ ?_ (h7:=?_)
   show i+1≤ls.length;omega
   show ls.length-(i+1)<ls.length-i;omega
   ·simp only [nW (show i<ls.length by omega),← Z8]
    exact aD.refl _
  refine U 84000200020006000 ?_
  obtain rfl:i=ls.length:=by omega
  simp only [ZW]
  obtain ⟨m1,hm1⟩:∃ m1,m1=gx k 54++ls.flatten:=⟨_,rfl⟩
  have hml:m1.length=64+ls.flatten.length:=by rw [hm1,ZD,hpl]
  have h32:=qh m1
  rw [← hm1]
  refine U 16 ?_
  refine aw (aN 1 (Mb n m1 O) ?_)
  refine aq (dh (n:=32) iQ rfl fun p4=>?_)
  refine aw (bg 32 (aV (iw m1)) ?_ ?_)
  exact (fun j hj=>gX (iw m1) _ j hj)
  refine U 75 ?_;refine mT 5 (.rd 0 (.rd 2 (.one 1 (.one 3 (.one 4 .done))))) ?_;refine U 70 ?_;refine aJ (iT rfl rfl (.inl rfl) jD underlying129 fR (bv _ _) (bv _ _) (by omega) (by omega) (by omega) rfl) ?_;refine ij (freeze 2 rfl) ?_;refine ij (er 28 (iw m1) rfl rfl h32.symm (by rw [h32])) ?_
  refine gp (ak (Ng k 92 hk) ?_)
  refine gp (aM 2 1 eC fun p5=>?_)
  refine ij (freeze 3 rfl) ?_;refine ij (rI 29 [gx k 92,iw m1] rfl rfl rfl jD (.cons Z (.cons Z .nil))) ?_
  refine gp (ak (G6 [gx k 92,iw m1] (by show 2≤1000000;decide) (by simp;omega)) ?_)
  refine Az ?_
  show cQ _ _ _ _ _ _
  refine aw (bn 32 ?_)
  refine U 85 ?_
  refine jR (eN (hres:=aK rfl (f5 32)) (hv:=?_))
  rw [show lL k ls.flatten=iw [gx k 92,iw m1].flatten by simp [lL,hm1]];exact yx _
end
def dG (w:I):Bool:=decide (1≤w.length) && decide (w.length≤32) && w.all ol
def PJ (n:Nat):I:=[UInt8.ofNat (n >>> 24),UInt8.ofNat (n >>> 16),UInt8.ofNat (n >>> 8),UInt8.ofNat n]
def zb (p:I):I:=PJ p.length++p
def jZ (p:I):Bool:=decide (65536<p.length)
def bS (w:I) (ps:Zx):Nat:=if dG w=true then (if 16<ps.length∨ps.any jZ=true then 3 else 0) else 8
def bN (w:I) (ps:Zx):I:=UInt8.ofNat w.length::(w++UInt8.ofNat ps.length::(ps.map zb).flatten)
theorem E7 (n:Nat):(PJ n).length=4:=rfl
theorem M7 (p:I):(zb p).length=4+p.length:=by unfold zb;rw [ZD,E7]
theorem AM {w m:I}:bN w [m]=UInt8.ofNat w.length::(w++1::(PJ m.length++m)):=by
 unfold bN
 simp only [Z6,bqx,arx,bJx,aMx,List.length_cons,List.length_nil,zb]
 rfl
theorem yh {w m:I}:bS w [m]=if dG w=true then (if 65536<m.length then 3 else 0) else 8:=by
 unfold bS
 simp [jZ]
theorem iE {w:I} (h:dG w=true):1≤w.length∧w.length≤32:=by
 simp only [dG,ZE,ZJ] at h
 exact h.1
theorem KF {w m v n:I} (hw:bS w [m]=0) (hv:bS v [n]=0) (h:bN w [m]=bN v [n]):w=v∧m=n:=by
 rw [yh] at hw hv
 have ow:dG w=true:=by
  by_cases e:dG w=true
  exact e
  ·rw [Zy e] at hw;cases hw
 have ov:dG v=true:=by
  by_cases e:dG v=true
  exact e
  ·rw [Zy e] at hv;cases hv
 have lw:=iE ow
 have lv:=iE ov
 rw [AM,AM] at h
 simp only [b8x] at h
 have ⟨h1,h2⟩:=h
 have hl:w.length=v.length:=by
  have:=ZV UInt8.toNat h1
  rw [ZT,ZT] at this
  omega
 have ⟨h3,h4⟩:=List.append_inj h2 hl
 simp only [b8x,true_and] at h4
 exact ⟨h3,(List.append_inj h4 rfl).2⟩
def vL (k:I):I:=bJ ((lL k (bN [105,100] [])).take 16)
theorem Sq (k:I):(vL k).length=32:=by unfold vL;rw [gt,ZK,nl];rfl
def Vi:I:=[97,98,99,100,101,102,103,104,105,106,107,108,109,110,111,112,113,114,115,116,117,118,119,120,121,122,48,49,50,51,52,53,54,55,56,57,45]
theorem TJ (c:UInt8):ol c=decide (0≤Lib.indexByte Vi c):=by
 have key:∀ n:Fin 256,ol (UInt8.ofNat n.val)=decide (0≤Lib.indexByte Vi (UInt8.ofNat n.val)):=by decide +kernel
 have:=key ⟨c.toNat,c.toNat_lt⟩
 simpa using this
theorem PO {l:I} {p:UInt8→Bool} {i:Nat} (h:∀ j,j<i→p (l.getD j 0)=true) (hi:l.length≤i):l.all p=true:=by
 rw [Z1]
 intro c hc
 obtain ⟨j,hj,rfl⟩:=bbx hc
 have:=h j O
 simpa [List.getD,hj] using this
theorem tZ {l:I} {p:UInt8→Bool} {i:Nat} (hi:i<l.length) (h:p (l.getD i 0)=false):l.all p=false:=by
 rw [List.all_eq_false]
 exact ⟨l.getD i 0,by simp [List.getD,hi],by rw [h];decide⟩
theorem J8 (l:I) (hl:l.length≤1000000):cd gs prog 222 [ap l] (.c (.bool (l.all ol))):=by
 refine ae 15 func222 fun _ _ _ _=>?_;refine U 205140000167516 ?_;refine ar (α:=Nat) [2,3,6,7,8,9,10,11,12,13,14] (fun i=>[(6,.c (.int .i64 (i:Nat)))]) (fun _=>[]) (fun i=>i≤l.length∧∀ j,j<i→ol (l.getD j 0)=true) (fun i=>l.length-i) (0) ?_ (fun _=>rfl) ?_ ?_ ?_
 exact ⟨ZL _,fun j hj=>absurd hj (ZO j)⟩
 ·(repeat (first|exact bh.nil|refine bh.cons Z ?_))
 ·(repeat (exact aD.nil))
 ·rintro i ⟨(hi:i≤l.length),he⟩
  refine U 7526 ?_;refine aaa (fun h50=>?_) fun h50=>?_
  ·refine U 8000700051684000200020006000 ?_
   rw [PO he O];exact Z
  refine U 800000001165116207810 ?_
  refine aq (ak (wD Vi (l.getD i 0)) ?_)
  refine U 52 ?_;refine an (fun h51=>?_) fun h51=>?_
  ·refine U 8000300050003000300050007000516 ?_
   rw [tZ (i:=i) O (by rw [TJ];exact aex O)];exact Z
  refine U 8519200840010 ?_;refine am (i+1) ?_ ?_
  ·exact ⟨by omega,fun j hj=>by
    by_cases e:j=i
    ·subst e;rw [TJ];exact abx O
    exact he j O⟩
  show l.length-(i+1)<l.length-i;omega
theorem S7 (p:I):cd gs prog 224 [bc p] (.c (.bool (jZ p))):=by
 refine ae 6 func224 fun _ _ _ _=>?_;refine U 512316516 ?_
 refine jR (eN (hv:=cB (by unfold jZ;exact decide_eq_decide.2 O)))
theorem N2 {g:FuncId} {n:Nat} {fv:Nat→CV} (hc:bA prog g=true) (l:Zx) (p:I→Bool) (hp:∀ r,cd gs prog g ((fun z:I=>bc z) r::(List.range n).map fv) (.c (.bool (p r)))) :
  cd gs prog 245 [we l,.fn g n fv] (.c (.int .i64 (ek p l))):=by
 refine fF 0 rfl fun hlen=>?_;refine ae 19 func245 fun _ _ _ _=>?_;refine U 20513167516 ?_;refine ar (α:=Nat) [4,5,8,9,10,11,12,13,14,15,16,17,18] (fun i=>[(8,.c (.int .i64 (i:Nat)))]) (fun _=>[]) (fun i=>i≤l.length∧∀ j (hj:j<l.length),j<i→p l[j]=false) (fun i=>l.length-i) (0) ?_ (fun _=>rfl) ?_ ?_ ?_
 exact ⟨by omega,fun j _ hj=>absurd hj (ZO j)⟩
 ·(repeat (first|exact bh.nil|refine bh.cons Z ?_))
 ·(repeat (exact aD.nil))
 ·rintro i ⟨hi,he⟩
  refine U 7526 ?_;refine aaa (fun h108=>?_) fun h108=>?_
  ·refine U 8000700051684000200020006000 ?_;refine cI ?_
   exact (my fun j hj=>he j hj O).symm
  refine U 6070011165116207810 ?_
  refine aq (ln rfl rfl (by assumption) (hp (l.getD i [])) (oz Z _) rfl rfl ?_)
  rintro _ _ ⟨rfl,rfl⟩
  refine U 5 ?_;refine an (fun h109=>?_) fun h109=>?_
  ·refine U 80003000500030003000500070005116 ?_;refine cI ?_
   have hlt:i<l.length:=by omega
   exact (ny i hlt (by simpa [List.getD,hlt] using h109) (fun j hj=>he j O hj)).symm
  refine U 8519200840010 ?_;refine am (i+1) ?_ ?_
  ·exact ⟨by omega,fun j hj hj1=>by
    by_cases e:j=i
    ·subst e
     simpa [List.getD,hj] using h109
    exact he j hj O⟩
  omega
theorem N3 {g:FuncId} {n:Nat} {fv:Nat→CV} (hc:bA prog g=true) (l:Zx) (p:I→Bool) (hp:∀ r,cd gs prog g ((fun z:I=>bc z) r::(List.range n).map fv) (.c (.bool (p r)))) :
  cd gs prog 223 [we l,.fn g n fv] (.c (.bool (l.any p))):=by
 refine ae 9 func223 fun _ _ _ _=>?_;refine U 116516 ?_
 refine aq (ak (N2 hc l p hp) ?_)
 refine U 80007000512 ?_;refine cB ?_
 exact sj p l
theorem yj {ls:Zx} {i:Nat} (h:i<ls.length):((ls.take (i+1)).map zb).flatten=((ls.take i).map zb).flatten++PJ (ls.getD i []).length++ls.getD i []:=by
 rw [ZH h,a0x,aSx]
 simp [List.getD,h,zb]
theorem z8 {ls:Zx} (h:ls.any jZ=false):∀ i,((ls.take i).map zb).flatten.length≤65540 * i
 | 0=>by simp
 | i+1=>by
  have ih:=z8 h i
  by_cases hi:i<ls.length
  ·rw [yj hi,ZD,ZD,E7]
   have hb:jZ (ls.getD i [])=false:=by
    rw [cEx] at h
    have:=h (ls.getD i []) (by simp [List.getD,hi])
    simpa using this
   have:(ls.getD i []).length≤65536:=by
    unfold jZ at hb
    have:=of_decide_eq_false hb
    omega
   omega
  ·rw [ZY O]
   rw [ZY O] at ih
   omega
def nu (w:I) (ps:Zx) (i:Nat):I:=[UInt8.ofNat w.length]++w++[UInt8.ofNat ps.length]++((ps.take i).map zb).flatten
theorem yg (w:I) {ps:Zx} {i:Nat} (h:ps.length≤i):nu w ps i=bN w ps:=by
 unfold nu bN
 rw [ZY h]
 simp
theorem qJ (w:I) {ps:Zx} {i:Nat} (h:i<ps.length):nu w ps i++[UInt8.ofNat ((ps.getD i []).length >>> 24),UInt8.ofNat ((ps.getD i []).length >>> 16),UInt8.ofNat ((ps.getD i []).length >>> 8),UInt8.ofNat (ps.getD i []).length]++ps.getD i []=nu w ps (i+1):=by
 unfold nu
 rw [yj h]
 simp [PJ]
theorem yH {w:I} (h:w=[]∨(32:Int)<(w.length:Nat)∨(!w.all ol)=true) (ps:Zx):bS w ps=8:=by
 have:dG w=false:=by
  unfold dG
  rcases h with h|h|h
  ·rw [h];rfl
  ·rw [aex (show ¬ w.length≤32 by omega),aDx,cex]
  ·rw [show w.all ol=false by simpa using h,aDx]
 unfold bS
 rw [Zy (by rw [this];decide)]
theorem uZ {w:I} (h1:¬ w=[]) (h2:¬ (32:Int)<(w.length:Nat)) (h3:(!w.all ol)=false):dG w=true:=by
 unfold dG
 have:1≤w.length:=by
  cases w with
  | nil=>exact absurd rfl h1
  | cons=>simp
 rw [abx this,abx (show w.length≤32 by omega),show w.all ol=true by simpa using h3]
 rfl
theorem ra {w:I} (hw:dG w=true) {ps:Zx} (h:(16:Int)<(ps.length:Nat)∨ps.any jZ=true):bS w ps=3:=by
 unfold bS
 rw [Zz hw,Zz (h.imp (fun h=>by omega) id)]
theorem pM {w:I} (hw:dG w=true) {ps:Zx} (h1:¬ (16:Int)<(ps.length:Nat)) (h2:ps.any jZ=false):bS w ps=0:=by
 unfold bS
 rw [Zz hw,Zy (by rw [h2];simp;omega)]
theorem Em {w:I} (hw:dG w=true) {ps:Zx} (h1:¬ (16:Int)<(ps.length:Nat)) (h2:ps.any jZ=false) (i:Nat) (hi:i≤ps.length):(nu w ps i).length≤2000000:=by
 have h3:=z8 h2 i
 have h4:=(iE hw).2
 unfold nu
 simp only [ZD,List.length_cons,List.length_nil]
 omega
theorem Ep [dO gs] (w:I) (ps:Zx) (hw:w.length≤1000000) (hp:ps.length≤1000000):cd gs prog 189 [ap w,we ps] (.tup 2 (fl [bc (if bS w ps=0 then bN w ps else []),.err (bS w ps)])):=by
 refine ae 73 func189 fun _ _ _ _=>?_;refine U 160000162075116 ?_;refine aH 13 (fun g61=>?_) fun g61=>?_
 ·refine U 79000511000000004441100000000444 ?_;refine dQ (.rd 0 (.rd 1 (.rd 2 .done))) ?_;refine aJ (cK 7) ?_;refine U 80003000500070008807070 ?_
  rw [yH (w:=w) (by exact .inl ‹_›) ps];exact cT (aa.nilS' rfl) (aa.errN rfl)
 refine U 15002400001 ?_;refine aH 18 (fun g61_2=>?_) fun g61_2=>?_
 ·refine U 7900051100000000444 ?_;refine dQ (.rd 0 (.rd 1 (.rd 2 .done))) ?_;refine aJ (cK 7) ?_;refine U 80003000500070008807070 ?_
  rw [yH (w:=w) (by exact .inr (.inl ‹_›)) ps];exact cT (aa.nilS' rfl) (aa.errN rfl)
 refine U 1 ?_
 refine aq (ak (J8 w hw) ?_)
 refine U 5150030 ?_;refine an (fun h61=>?_) fun h61=>?_
 ·refine ia ?_;refine dQ (.rd 0 (.rd 1 (.rd 2 .done))) ?_;refine aJ (cK 7) ?_;refine U 80003000500070008807070 ?_
  rw [yH (w:=w) (by exact .inr (.inr ‹_›)) ps];exact cT (aa.nilS' rfl) (aa.errN rfl)
 refine U 12316 ?_;refine aH 28 (fun g63=>?_) fun g63=>?_
 ·refine U 790005110000000044 ?_;refine dQ (.rd 0 (.rd 1 (.rd 2 .done))) ?_;refine aJ (cK 2) ?_;refine U 80003000500070008807070 ?_
  rw [ra (w:=w) (uZ ‹_› ‹_› ‹_›) (by exact .inl ‹_›)];exact cT (aa.nilS' rfl) (aa.errN rfl)
 refine U 1 ?_
 refine aq (ak (N3 (n:=0) (fv:=fun _=>.top) (by kernel_rfl) ps jZ (fun r=>S7 r)) ?_)
 refine U 51500 ?_;refine an (fun h63=>?_) fun h63=>?_
 ·refine ia ?_;refine dQ (.rd 0 (.rd 1 (.rd 2 .done))) ?_;refine aJ (cK 2) ?_;refine U 80003000500070008807070 ?_
  rw [ra (w:=w) (uZ ‹_› ‹_› ‹_›) (by exact .inr ‹_›)];exact cT (aa.nilS' rfl) (aa.errN rfl)
 refine U 840010 ?_
 have hwo:=uZ ‹_› ‹_› ‹_›
 have hpa:ps.any jZ=false:=‹_›
 have hml:=Em hwo ‹_› hpa
 have hwl:=(iE hwo).2
 refine U 8000004000016 ?_
 refine aq (aM 1 1 da fun p1=>?_)
 refine aA (dt 0 rfl (ZA _) (fun _=>rfl) (AR (l2:=[UInt8.ofNat w.length]) (.cons (cI ((by rw [mS O]))) .nil))) ?_;refine U 1 ?_
 refine aw (ay (l:=[UInt8.ofNat w.length]) (l2:=w) rfl rfl rfl (ZA _) (fun _ _=>Z) (QH rfl) rfl (fun j hj=>Z) underlying23 Y9 fR da jt rfl (by show 1+w.length≤_;omega) (fun j hj=>rfl) rfl rfl (fun p2=>?_))
 refine U 800000311651 ?_
 refine aq (aM 1 1 da fun p3=>?_)
 refine aw (ay (l2:=[UInt8.ofNat ps.length]) rfl rfl rfl (ZA _) (fun _ _=>Z) (aI rfl (.inl rfl) jD) rfl (bz (.cons (cI ((by rw [mS O]))) .nil)) underlying23 dV fR da jt rfl (by (simp;omega)) (cp rfl rfl) rfl rfl (fun p4=>?_))
 refine U 2051316751 ?_
 have e0:nu w ps 0=[UInt8.ofNat w.length]++w++[UInt8.ofNat ps.length]:=by simp [nu]
 refine jE (ce (H':=[_]) [0] jD rfl) ?_;refine ar (α:=Nat×Option Nat) [6,8,9,47,48,49,50,51,52,53,54,55,56,57,58,59,60,61,62,63,64,65,66,67,68,69,70,71] (fun (i,g)=>[(47,.c (.int .i64 (i:Nat))),(6,.os 0 g 0 (nu w ps i).length 1)]) (fun (i,g)=>[(g,.blk (nu w ps i).length (aV (nu w ps i)))]) (fun (i,g)=>i≤ps.length) (fun (i,g)=>ps.length-i) ((0,p4)) ?_ (fun _=>rfl) ?_ ?_ ?_
 exact ZL _
 ·simp only [e0]
  exact .cons Z (.cons (cO rfl) .nil)
 ·simp only [e0]
  exact aD.refl _
 ·rintro ⟨i,g⟩ (hi:i≤ps.length)
  have hl0:=hml i hi
  have hbg:i<ps.length→(ps.getD i []).length≤65536:=fun hlt=>by
   have:=cEx.1 hpa (ps.getD i []) (by simp [List.getD,hlt])
   unfold jZ at this
   simpa using this
  refine U 7526 ?_;refine aaa (fun h68=>?_) fun h68=>?_
  ·refine U 84000200020006000 ?_
   obtain rfl:i=ps.length:=by omega
   simp only [yg w (ZA ps.length)]
   refine jE (freeze 0 rfl) ?_;refine jE (er 6 (bN w ps) rfl rfl rfl rfl) ?_;refine U 8000700051116 ?_
   rw [Zz (pM hwo ‹_› hpa),pM hwo ‹_› hpa];exact cT Z (aa.nilE rfl)
  refine U 31651607006207810 ?_;refine jq (wg .i64 .u32) ?_;refine U 11651 ?_;refine jq (jg (n:=24) rfl rfl rfl jD) ?_;refine jq (wg .u32 .u8) ?_;refine U 1 ?_;refine jq (jg (n:=16) rfl rfl rfl jD) ?_;refine jq (wg .u32 .u8) ?_;refine U 1 ?_;refine jq (jg (n:=8) rfl rfl rfl jD) ?_;refine jq (zg .u32 .u8) ?_;refine U 1 ?_;refine jq (zg .u32 .u8) ?_
  refine aq (aM 4 1 da fun p5=>?_)
  refine aw (ay (l2:=[UInt8.ofNat ((ps.getD i []).length >>> 24),UInt8.ofNat ((ps.getD i []).length >>> 16),UInt8.ofNat ((ps.getD i []).length >>> 8),UInt8.ofNat (ps.getD i []).length]) rfl rfl rfl (ZA _) (fun _ _=>Z) (aI rfl (.inl rfl) jD) rfl (bz (.cons (cI ((by rw [mS O]))) (.cons (cI ((by rw [mS O]))) (.cons (cI (GZ _)) (.cons (cI (GZ _)) .nil))))) underlying23 dV fR da jt rfl (by (simp;omega)) (cp rfl rfl) rfl rfl (fun p6=>?_))
  refine U 1120051 ?_
  refine aw (ay rfl rfl rfl (ZA _) (fun _ _=>Z) (cX rfl) rfl (fun j hj=>by simp only [anx];exact Z) underlying23 dV fR da jt rfl (by (simp at *;omega)) (fun j hj=>rfl) rfl rfl (fun p7=>?_))
  refine U 8519200840051 ?_
  refine am ((i+1,p7)) ?_ ?_ (h5:=?_) (h7:=?_)
  show i+1≤ps.length;omega
  show ps.length-(i+1)<ps.length-i;omega
  ·simp only [qJ w (show i<ps.length by omega)]
   exact .cons (cI O) (.cons Z .nil)
  ·simp only [qJ w (show i<ps.length by omega)]
   exact aD.refl _
theorem u0 {w:I} {ps:Zx} (h:bS w ps=0):dG w=true∧ps.length≤16∧ps.any jZ=false:=by
 unfold bS at h
 by_cases e:dG w=true
 ·rw [Zz e] at h
  by_cases e2:16<ps.length∨ps.any jZ=true
  ·rw [Zz e2] at h;cases h
  exact ⟨e,by omega,by simpa using fun h=>e2 (.inr h)⟩
 ·rw [Zy e] at h;cases h
theorem u5 {w:I} {ps:Zx} (h:bS w ps=0):(bN w ps).length≤2000000:=by
 have ⟨h1,h2,h3⟩:=u0 h
 have:=Em h1 (show ¬ (16:Int)<(ps.length:Nat) by omega) h3 ps.length (ZA _)
 rw [yg w (ZA _)] at this
 exact this
theorem KG [dO gs] (w:I) (ps:Zx) (he:bS w ps=0):cd gs prog 189 [ap w,we ps] (.tup 2 (fl [bc (bN w ps),.err 0])):=by
 have ⟨h1,h2,h3⟩:=u0 he
 have h4:=iE h1
 have:=Ep (gs:=gs) w ps O O
 rw [Zz he,he] at this
 exact this
section
variable {gs:List Nat} [dO gs] [ud gs]
theorem IG (k w:I) (ps:Zx) (hk:k.length≤1000000) (he:bS w ps=0):cd gs prog 144 [bc k,ap w,we ps] (.tup 2 (fl [.agg 32 (aV (lL k (bN w ps))),.err 0])):=by
 have hfl:[bN w ps].flatten=bN w ps:=by simp
 have hl:=u5 he
 refine ae 24 func144 fun _ _ _ _=>?_;refine eA ?_
 refine aq (dh (n:=32) iQ rfl fun p1=>?_)
 refine U 11651 ?_
 refine aq (ak (KG w ps he) ?_)
 refine U 55000001675119009001 ?_;refine an (fun h79=>?_) fun h79=>?_
 exact absurd h79 (by simp)
 refine U 116810 ?_
 refine aq (aM 1 1 eC fun p2=>?_)
 refine aA (freeze 1 rfl) ?_;refine aA (rI 22 [bN w ps] rfl rfl rfl jD (.cons Z .nil)) ?_
 refine aq (ak (NO k [bN w ps] O (by show 1≤1000000;decide) (by rw [hfl];omega)) ?_)
 refine aw (bg 32 (aV (lL k (bN w ps))) ?_ ?_)
 exact (fun j hj=>by rw [hfl];exact gX (lL k (bN w ps)) _ j hj)
 refine U 51 ?_
 refine jR (eN (hres:=di rfl (f5 32) bo) (hv:=cT (aa.agg rfl fun j hj=>aa.of_eq (by rw [Nat.zero_add])) (aa.nilE rfl)))
theorem H3:bS [105,100] []=0:=by decide
theorem Sr (k:I) (hk:k.length≤1000000):cd gs prog 79 [bc k] (ap (vL k)):=by
 obtain ⟨d,hd⟩:∃ d,d=lL k (bN [105,100] []):=⟨_,rfl⟩
 have hdl:d.length=32:=by rw [hd];exact nl _ _
 have htk:(bJ d).take 32=vL k:=by
  unfold vL
  rw [← hd,show d=d.take 16++d.drop 16 from (amx 16 d).symm]
  have h1:bJ (d.take 16++d.drop 16)=bJ (d.take 16)++bJ (d.drop 16):=by unfold bJ;rw [a0x,aSx]
  rw [h1,bKx (by rw [gt,ZK];omega),ZY (by rw [gt,ZK];omega),amx]
 have hfl:=gt d
 refine ae 15 func79 fun _ _ _ _=>?_;refine U 16516 ?_
 refine aq (ak (IG k [105,100] [] hk H3) ?_ (ho:=rfl) (he:=(.cons (se rfl Z) (.cons (se rfl Z) (.cons (se rfl (aa.nilS' rfl)) .nil)))))
 refine U 9009001 ?_
 refine aq (dh (n:=32) iQ rfl fun p1=>?_)
 refine aw (bg 32 (aV d) ?_ ?_)
 exact (fun j hj=>by rw [hd];exact gX (lL k (bN [105,100] [])) _ j hj)
 refine U 550000016751 ?_;refine an (fun h126=>?_) fun h126=>?_
 exact absurd h126 (by simp)
 refine U 6810 ?_;refine kj (bD 32) ?_
 refine aq (ak (H9 d hdl) ?_ (ho:=rfl) (he:=(.cons (se rfl (aa.agg rfl fun j hj=>aa.of_eq (by rw [Nat.zero_add]))) .nil)))
 refine jq (rR rfl rfl underlying9 rfl (show (32:Int)=((32:Nat):Int) from rfl) (by omega)) ?_;refine U 8000700051 ?_
 rw [htk];exact Z
end
def EN (a b:I):Nat→UInt8
 | 0=>0
 | i+1=>EN a b i ||| (a.getD i 0 ^^^ b.getD i 0)
theorem Nn:∀ x y:UInt8,(x ||| y=0↔x=0∧y=0):=fun x y=>by
 rw [← akx,← akx,← akx,UInt8.toNat_or]
 constructor
 ·intro h
  exact ⟨cQx (by have:=Nat.left_le_or (n:=x.toNat) (m:=y.toNat);rw [h] at this;exact this),cQx (by have:=Nat.right_le_or (n:=x.toNat) (m:=y.toNat);rw [h] at this;exact this)⟩
 ·rintro ⟨h1,h2⟩
  rw [h1,h2];rfl
theorem It (x y:UInt8):x ^^^ y=0↔x=y:=by
 constructor
 ·intro h
  have:=ZV (· ^^^ y) h
  simpa [UInt8.xor_assoc] using this
 ·rintro rfl
  exact UInt8.xor_self
theorem EM (a b:I):∀ i,EN a b i=0↔∀ j,j<i→a.getD j 0=b.getD j 0
 | 0=>⟨fun _ j hj=>absurd hj (ZO j),fun _=>rfl⟩
 | i+1=>by
  show EN a b i ||| _=0↔_
  rw [Nn,EM a b i,It]
  constructor
  ·rintro ⟨h1,h2⟩ j hj
   by_cases e:j=i
   ·rw [e];exact h2
   exact h1 j O
  ·intro h
   exact ⟨fun j hj=>h j O,h i O⟩
theorem SS {a b:I} (h:a.length=b.length) {i:Nat} (hi:a.length≤i):EN a b i=0↔a=b:=by
 rw [EM]
 constructor
 ·intro k
  refine bgx h fun j h1 h2=>?_
  have:=k j O
  simpa [List.getD,h1,h2] using this
 ·rintro rfl j _
  rfl
theorem I4 (a b:I):cd gs prog 153 [bc a,bc b] (.c (.bool (decide (a=b)))):=by
 refine fF 0 rfl fun hlen=>?_;refine fF 1 rfl fun hlen2=>?_;refine ae 31 func153 fun _ _ _ _=>?_;refine U 52313167516 ?_;refine an (fun h87=>?_) fun h87=>?_
 ·refine U 800030007000516 ?_;refine cB ?_
  exact (aex (fun e=>by subst e;omega)).symm
 refine U 20513167516810 ?_
 have hl:a.length=b.length:=by omega
 refine ar (α:=Nat) [5,6,14,15,16,17,18,19,20,21,22,23,24,25,26,27,28] (fun i=>[(14,.c (.int .i64 (i:Nat))),(5,.c (.int .u8 ((EN a b i).toNat:Nat)))]) (fun _=>[]) (fun i=>i≤a.length) (fun i=>a.length-i) (0) ?_ (fun _=>rfl) ?_ ?_ ?_
 exact ZL _
 ·(repeat (first|exact bh.nil|refine bh.cons Z ?_))
 ·(repeat (exact aD.nil))
 ·rintro i (hi:i≤a.length)
  refine U 7526 ?_;refine aaa (fun h91=>?_) fun h91=>?_
  ·refine U 800070005121684000200020006000 ?_
   refine cB (decide_eq_decide.2 ?_)
   rw [← SS hl (i:=i) O,← akx]
   show _↔(EN a b i).toNat=0
   omega
  refine U 5116207810 ?_;refine dQ (.rd 0 (.rd 1 (.rd 2 (.rd 3 (.rd 4 (.rd 5 (.rd 6 (.rd 7 (.rd 8 (.rd 9 (.rd 10 (.rd 11 .done)))))))))))) ?_;refine U 700009000070707000090000707070 ?_;refine aJ (dc rfl rfl rfl (dJ.2 (avx _)) (dJ.2 (avx _))) ?_;refine aJ (nT rfl rfl rfl (dJ.2 (avx _)) (dJ.2 (by rw [← b9x];exact avx _))) ?_;refine U 851920084008070 ?_
  refine am (i+1) ?_ ?_ (h5:=?_)
  show i+1≤a.length;omega
  show a.length-(i+1)<a.length-i;omega
  exact .cons (cI O) (.cons (cI (by rw [show EN a b (i+1)=EN a b i ||| (a.getD i 0 ^^^ b.getD i 0) from rfl,UInt8.toNat_or,b9x])) .nil)
theorem HO (k:I) (i:Nat):(th k).getD i 0=(r8 k).getD i 0:=by
 unfold th
 by_cases h:i<(r8 k).length
 ·simp [List.getD,ZF h]
 ·rw [ZB,ZR O,aHx,ZB,Z0 O]
  split<;>rfl
theorem qw {k:I} {x:UInt8} {i:Nat} (h:i<64):(gx k x).take i++[(th k).getD i 0 ^^^ x]=(gx k x).take (i+1):=by
 have hl:=kC k x
 rw [ZH O]
 congr 2
 have hb:=x8 k
 simp [gx,List.getD,show i<(th k).length by omega]
theorem Df (k:I) (x:UInt8) (hk:k.length≤1000000000):AC gs prog 193 [] [bc k,.c (.int .u8 (x.toNat:Nat))] (ss 64 1 64 (aV (gx k x))):=by
 have hkl:=x7 k
 have h32:=qh k
 have hpl:=kC k x
 refine ae 35 func193 fun _ _ _ _=>?_;refine U 516 ?_;refine i5 (α:=Unit) [0,5,9,10,11,12,13,14] (fun _=>[(0,bc (r8 k))]) (fun _=>[]) (fun _=>True) (fun _=>rfl) ?_ ?_
 ·refine U 52316 ?_;refine aaa (fun h11=>?_) fun h11=>?_
  ·refine U 810 ?_
   refine fy (()) ?_ (h5:=?_)
   ·trivial
   exact .cons (aa.bs (by unfold r8;rw [jK])) .nil
  refine U 16 ?_
  refine aq (ak (BA k O) ?_)
  refine aq (dh (n:=32) iQ rfl fun p1=>?_)
  refine aw (bg 32 (aV (iw k)) ?_ ?_)
  exact (fun j hj=>gX (iw k) _ j hj)
  refine U 2005 ?_;refine jq (iT rfl rfl (.inl rfl) jD underlying129 fR (bv _ _) (bv _ _) (by omega) (by omega) (by omega) rfl) ?_;refine aA (freeze 0 rfl) ?_;refine aA (er 14 (iw k) rfl rfl h32.symm (by rw [h32])) ?_;refine aA (bj 14 (bc (r8 k)) (aa.bs (by unfold r8;rw [jP]))) ?_;refine U 851 ?_
  refine fy (()) ?_ (h5:=?_)
  ·trivial
  exact .cons Z .nil
 ·rintro u hu
  refine eA ?_
  refine aq (aM 0 1 da fun p1=>?_)
  refine U 20516751 ?_;refine ar (α:=Nat×Option Nat) [6,7,8,16,17,18,19,20,21,22,23,24,25,26,27,28,29,30,31,32,33] (fun (i,g)=>[(7,.c (.int .i64 (i:Nat))),(6,.os 0 g 0 ((gx k x).take i).length 1)]) (fun (i,g)=>[(g,.blk ((gx k x).take i).length (aV ((gx k x).take i)))]) (fun (i,g)=>i≤64) (fun (i,g)=>64-i) ((0,p1)) ?_ (fun _=>rfl) ?_ ?_ ?_
  exact ZL _
  exact .cons Z (.cons (cO rfl) .nil)
  exact .blk rfl (fun j hj=>absurd hj (ZO j)) .nil
  ·rintro ⟨i,g⟩ (hi:i≤64)
   have htl:((gx k x).take i).length=i:=by rw [ZK];omega
   refine U 52167 ?_;refine aaa (fun h16=>?_) fun h16=>?_
   ·refine U 84000200020006000 ?_
    obtain rfl:i=64:=by omega
    have htk:(gx k x).take 64=gx k x:=ZY O
    refine U 70005116 ?_
    exact nA 0 (.inl rfl) (aK rfl (ai rfl)) rfl htl O (fun _=>by omega) (fun j hj=>aa.of_eq (by rw [htk]))
   refine U 5231167516207810 ?_;refine aaa (fun h18=>?_) fun h18=>?_
   ·refine U 810 ?_;refine jE (bj 8 (.c (.int .u8 (((th k).getD i 0).toNat:Nat))) (by (refine cI ?_;rw [HO,ZB,Z0 O];rfl))) ?_;refine U 111200 ?_;refine jq (dc rfl rfl rfl (dJ.2 (avx _)) (dJ.2 (avx _))) ?_
    refine aq (aM 1 1 da fun p2=>?_)
    refine aw (ay (l2:=[(th k).getD i 0 ^^^ x]) rfl rfl rfl (ZA _) (fun _ _=>Z) (aI rfl (.inl rfl) jD) rfl (bz (.cons (cI ((by rw [b9x]))) .nil)) underlying23 dV fR da jt rfl (by (simp;omega)) (cp rfl rfl) rfl rfl (fun p3=>?_))
    refine U 85191200840051 ?_
    refine am ((i+1,p3)) ?_ ?_ (h5:=?_) (h7:=?_)
    show i+1≤64;omega
    show 64-(i+1)<64-i;omega
    ·simp only [← qw (k:=k) (x:=x) (show i<64 by omega)]
     exact .cons (cI O) (.cons Z .nil)
    ·simp only [← qw (k:=k) (x:=x) (show i<64 by omega)]
     exact aD.refl _
   refine U 8516070011200 ?_;refine jE (bj 8 (.c (.int .u8 (((th k).getD i 0).toNat:Nat))) (by (refine cI ?_;rw [HO];done))) ?_;refine U 111200 ?_;refine jq (dc rfl rfl rfl (dJ.2 (avx _)) (dJ.2 (avx _))) ?_
   refine aq (aM 1 1 da fun p2=>?_)
   refine aw (ay (l2:=[(th k).getD i 0 ^^^ x]) rfl rfl rfl (ZA _) (fun _ _=>Z) (aI rfl (.inl rfl) jD) rfl (bz (.cons (cI ((by rw [b9x]))) .nil)) underlying23 dV fR da jt rfl (by (simp;omega)) (cp rfl rfl) rfl rfl (fun p3=>?_))
   refine U 85191200840051 ?_
   refine am ((i+1,p3)) ?_ ?_ (h5:=?_) (h7:=?_)
   show i+1≤64;omega
   show 64-(i+1)<64-i;omega
   ·simp only [← qw (k:=k) (x:=x) (show i<64 by omega)]
    exact .cons (cI O) (.cons Z .nil)
   ·simp only [← qw (k:=k) (x:=x) (show i<64 by omega)]
    exact aD.refl _
theorem Q3 (k m:I) (hk:k.length≤1000000000) (hm:m.length≤1000000000):cd gs prog 151 [bc k,bc m] (.agg 32 (aV (lL k m))):=by
 have hpl:=kC k 54
 have hpl2:=kC k 92
 obtain ⟨d,hd⟩:∃ d,d=iw (gx k 54++m):=⟨_,rfl⟩
 have h32:d.length=32:=by rw [hd];exact qh _
 refine ae 16 func151 fun _ _ _ _=>?_;refine eA ?_
 refine aq (dh (n:=32) iQ rfl fun p1=>?_)
 refine U 165 ?_
 refine aq (yd (Df k 54 hk) (fun p2=>?_))
 refine aA (bj 7 (.os 1 p2 0 (gx k 54).length 1) (cO hpl.symm)) ?_;refine U 1 ?_
 refine aw (ay (l:=gx k 54) (l2:=m) rfl rfl rfl (aqx hpl) (fun _ _=>Z) (cX rfl) rfl (fun j hj=>by simp only [anx];exact Z) underlying23 dV fR da jt rfl (by rw [hpl];omega) (fun j hj=>rfl) rfl rfl (fun p3=>?_))
 refine aA (freeze 1 rfl) ?_;refine aA (er 9 (gx k 54++m) rfl rfl rfl rfl) ?_
 refine aq (ak (BA (gx k 54++m) (by rw [ZD];omega)) ?_)
 refine aq (dh (n:=32) iQ rfl fun p4=>?_)
 refine aw (bg 32 (aV d) ?_ ?_)
 exact (fun j hj=>by rw [hd];exact gX (iw (gx k 54++m)) _ j hj)
 refine U 75 ?_;refine mT 3 (.rd 0 (.rd 2 (.one 1 .done))) ?_;refine U 70 ?_;refine aJ (iT rfl rfl (.inl rfl) jD underlying129 fR (bv _ _) (bv _ _) (by omega) (by omega) (by omega) rfl) ?_
 refine gp (yd (Df k 92 hk) (fun p5=>?_))
 refine Az ?_
 show cQ _ _ _ _ _ _
 refine aA (bj 12 (.os 3 p5 0 (gx k 92).length 1) (cO hpl2.symm)) ?_
 refine aw (ay (l:=gx k 92) (l2:=d) rfl rfl rfl (aqx hpl2) (fun _ _=>Z) (aI rfl (.inl rfl) jD) h32.symm (fun j hj=>by rw [Nat.zero_add];exact Z) underlying23 dV fR da jt rfl (by rw [hpl2,h32];decide) (fun j hj=>rfl) rfl rfl (fun p6=>?_))
 refine aA (freeze 3 rfl) ?_;refine aA (er 14 (gx k 92++d) rfl rfl rfl rfl) ?_
 refine aq (ak (BA (gx k 92++d) (by rw [ZD];omega)) ?_)
 refine aw (bg 32 (aV (lL k m)) ?_ ?_)
 exact (fun j hj=>by rw [show lL k m=iw (gx k 92++d) by rw [hd];rfl];exact gX (iw (gx k 92++d)) _ j hj)
 refine U 85 ?_
 refine jR (eN (hres:=aK rfl (f5 32)) (hv:=aa.agg rfl fun j hj=>aa.of_eq (by rw [Nat.zero_add])))
theorem xY {c:UInt8} (h:((97:Int)≤(c.toNat:Nat)∧((c.toNat:Nat):Int)≤122)∨((48:Int)≤(c.toNat:Nat)∧((c.toNat:Nat):Int)≤57)∨((c.toNat:Nat):Int)=45):ol c=true:=by
 unfold ol
 simp only [atx,ZE,ZJ]
 omega
theorem HH {c:UInt8} (h:¬ (((97:Int)≤(c.toNat:Nat)∧((c.toNat:Nat):Int)≤122)∨((48:Int)≤(c.toNat:Nat)∧((c.toNat:Nat):Int)≤57)∨((c.toNat:Nat):Int)=45)):ol c=false:=by
 cases e:ol c with
 | false=>rfl
 | true =>
  unfold ol at e
  simp only [atx,ZE,ZJ] at e
  omega
theorem S9 (n s:Nat) {z:Int} (h:z=((n >>> s % 256:Nat):Int)):z=((UInt8.ofNat (n >>> s)).toNat:Int):=by rw [h,ZT]
theorem xD:∀ {qs:Zx},qs.any jZ=false→(qs.map zb).flatten.length≤65540 * qs.length
 | [],_=>by simp
 | p::qs,h=>by
  rw [List.any_cons,Bool.or_eq_false_iff] at h
  have ih:=xD h.2
  have hp:p.length≤65536:=by
   have:=h.1
   unfold jZ at this
   have:=of_decide_eq_false this
   omega
  rw [Z6,arx,ZD,M7,List.length_cons]
  omega
theorem SA {w:I} (hw:dG w=true) {ps:Zx} (h1:ps.length≤16) {i:Nat} (h2:(ps.take i).any jZ=false):(nu w ps i).length≤2000000:=by
 have h3:=xD h2
 have h4:=(iE hw).2
 have h5:(ps.take i).length≤ps.length:=by rw [ZK];omega
 unfold nu
 simp only [ZD,List.length_cons,List.length_nil]
 omega
theorem PN {ps:Zx} {i:Nat} (hi:i<ps.length) (h:(ps.take i).any jZ=false) (h2:jZ (ps.getD i [])=false):(ps.take (i+1)).any jZ=false:=by
 rw [ZH hi,List.any_append,h]
 simpa [List.getD,hi] using h2
theorem VY {ps:Zx} {i:Nat} (hi:i<ps.length) (h2:jZ (ps.getD i [])=true):ps.any jZ=true:=by
 rw [brx]
 exact ⟨ps.getD i [],by simp [List.getD,hi],h2⟩
theorem Jn (w:I) (ps:Zx) (hw:w.length≤1000000) (hp:ps.length≤1000000):cd gs prog 150 [ap w,we ps] (.tup 2 (fl [if bS w ps=0 then bc (bN w ps) else .top,.c (.int .i64 (bS w ps:Nat))])):=by
 have bad:bS w ps≠0→∀ (x:CV) (e:Int),e=(bS w ps:Nat)→aa (.tup 2 (fl [x,.c (.int .i64 e)])) (.tup 2 (fl [if bS w ps=0 then bc (bN w ps) else .top,.c (.int .i64 (bS w ps:Nat))])):=fun h x e he=>by
  rw [Zy h,he]
  exact cT (aa.top _) Z
 have b8:dG w=false→bS w ps=8:=fun h=>by unfold bS;rw [Zy (by rw [h];decide)]
 refine ae 97 func150 fun _ _ _ _=>?_;refine U 12400001675116 ?_;refine aH 15 (fun g34=>?_) fun g34=>?_
 ·refine U 800030007000511690005100000000444 ?_
  have e8:=b8 (by
   unfold dG
   first
    |(rw [aex (show ¬ 1≤w.length by omega)];rfl)
    |(rw [aex (show ¬ w.length≤32 by omega),aDx,cex]))
  exact bad (by rw [e8];decide) _ _ (by rw [e8];rfl)
 refine U 55002400001 ?_;refine an (fun h34=>?_) fun h34=>?_
 ·refine U 8000300070005116 ?_
  have e8:=b8 (by
   unfold dG
   first
    |(rw [aex (show ¬ 1≤w.length by omega)];rfl)
    |(rw [aex (show ¬ w.length≤32 by omega),aDx,cex]))
  exact bad (by rw [e8];decide) _ _ (by rw [e8];rfl)
 refine U 205167810 ?_
 have hl1:1≤w.length∧w.length≤32:=by omega
 refine ar (α:=Nat) [4,5,6,7,20,21,22,23,24,25,26,27,28,29,30,31,32,33,34,35,36,37,38,39,40,41,42,43,44,45,46] (fun i=>[(6,.c (.int .i64 (i:Nat)))]) (fun _=>[]) (fun i=>i≤w.length∧∀ j,j<i→ol (w.getD j 0)=true) (fun i=>w.length-i) (0) ?_ (fun _=>rfl) ?_ ?_ ?_
 exact ⟨ZL _,fun j hj=>absurd hj (ZO j)⟩
 ·(repeat (first|exact bh.nil|refine bh.cons Z ?_))
 ·(repeat (exact aD.nil))
 ·rintro i ⟨(hi:i≤w.length),he⟩
  refine U 52400001167 ?_;refine aaa (fun h37=>?_) fun h37=>?_
  ·refine U 784000200020006000 ?_
   have hwo:dG w=true:=by
    unfold dG
    rw [abx hl1.1,abx hl1.2,PO he O]
    rfl
   refine U 52316 ?_;refine an (fun h43=>?_) fun h43=>?_
   ·refine U 8000300070005116 ?_
    have e3:=ra hwo (ps:=ps) (.inl O)
    exact bad (by rw [e3];decide) _ _ (by rw [e3];rfl)
   refine U 8000004000016810 ?_
   refine aq (aM 1 1 da fun p1=>?_)
   refine aA (dt 0 rfl (ZA _) (fun _=>rfl) (AR (l2:=[UInt8.ofNat w.length]) (.cons (cI ((by rw [mS O]))) .nil))) ?_;refine U 11651 ?_
   refine aq (Km ?_)
   refine aw (ay (l:=[UInt8.ofNat w.length]) (l2:=w) rfl rfl rfl (ZA _) (fun _ _=>Z) (cX rfl) rfl (fun j hj=>by simp only [anx];exact Z) underlying23 dV fR da jt rfl (by show 1+w.length≤_;omega) (fun j hj=>rfl) rfl rfl (fun p2=>?_))
   refine U 800000311651 ?_
   refine aq (aM 1 1 da fun p3=>?_)
   refine aw (ay (l2:=[UInt8.ofNat ps.length]) rfl rfl rfl (ZA _) (fun _ _=>Z) (aI rfl (.inl rfl) jD) rfl (bz (.cons (cI ((by rw [mS O]))) .nil)) underlying23 dV fR da jt rfl (by (simp;omega)) (cp rfl rfl) rfl rfl (fun p4=>?_))
   refine U 2051316751 ?_
   have e0:nu w ps 0=[UInt8.ofNat w.length]++w++[UInt8.ofNat ps.length]:=by simp [nu]
   refine jE (ce (H':=[_]) [0] jD rfl) ?_;refine ar (α:=Nat×Option Nat) [4,5,8,10,11,66,67,68,69,70,71,72,73,74,75,76,77,78,79,80,81,82,83,84,85,86,87,88,89,90,91,92,93,94,95] (fun (i,g)=>[(66,.c (.int .i64 (i:Nat))),(8,.os 0 g 0 (nu w ps i).length 1)]) (fun (i,g)=>[(g,.blk (nu w ps i).length (aV (nu w ps i)))]) (fun (i,g)=>i≤ps.length∧(ps.take i).any jZ=false) (fun (i,g)=>ps.length-i) ((0,p4)) ?_ (fun _=>rfl) ?_ ?_ ?_
   exact ⟨ZL _,rfl⟩
   ·simp only [e0]
    exact .cons Z (.cons (cO rfl) .nil)
   ·simp only [e0]
    exact aD.refl _
   ·rintro ⟨i,g⟩ ⟨(hi:i≤ps.length),(hq:(ps.take i).any jZ=false)⟩
    have hl0:(nu w ps i).length≤2000000:=SA hwo O hq
    refine U 7526 ?_;refine aaa (fun h49=>?_) fun h49=>?_
    ·refine U 84000200020006000 ?_
     obtain rfl:i=ps.length:=by omega
     rw [ZW] at hq
     have e0':=pM hwo (show ¬ (16:Int)<(ps.length:Nat) by omega) hq
     simp only [yg w (ZA ps.length)]
     refine jE (freeze 0 rfl) ?_;refine jE (er 8 (bN w ps) rfl rfl rfl rfl) ?_;refine U 8000700051116 ?_
     rw [e0',Zz rfl];exact Z
    refine U 52316751607006207810 ?_;refine an (fun h50=>?_) fun h50=>?_
    ·refine U 800030005000300030005000300070005116 ?_
     have e3:=ra hwo (ps:=ps) (.inr (VY (i:=i) O (by unfold jZ;exact abx O)))
     exact bad (by rw [e3];decide) _ _ (by rw [e3];rfl)
    refine U 80000010000001800000100000060000018000001000000600000180000060000011651316810 ?_
    refine aq (aM 4 1 da fun p5=>?_)
    refine aw (ay (l2:=[UInt8.ofNat ((ps.getD i []).length >>> 24),UInt8.ofNat ((ps.getD i []).length >>> 16),UInt8.ofNat ((ps.getD i []).length >>> 8),UInt8.ofNat (ps.getD i []).length]) rfl rfl rfl (ZA _) (fun _ _=>Z) (aI rfl (.inl rfl) jD) rfl (bz (.cons (cI ((S9 _ 24 (by rw [aIx];omega)))) (.cons (cI ((S9 _ 16 (by rw [aIx];omega)))) (.cons (cI ((S9 _ 8 (by rw [aIx];omega)))) (.cons (cI ((S9 _ 0 (by rw [aIx];omega)))) .nil))))) underlying23 dV fR da jt rfl (by (simp;omega)) (cp rfl rfl) rfl rfl (fun p6=>?_))
    refine U 1120051 ?_
    refine aw (ay rfl rfl rfl (ZA _) (fun _ _=>Z) (cX rfl) rfl (fun j hj=>by simp only [anx];exact Z) underlying23 dV fR da jt rfl (by (simp at *;omega)) (fun j hj=>rfl) rfl rfl (fun p7=>?_))
    refine U 8519200840051 ?_
    refine am ((i+1,p7)) ?_ ?_ (h5:=?_) (h7:=?_)
    exact ⟨by omega,PN O hq (by unfold jZ;exact aex O)⟩
    show ps.length-(i+1)<ps.length-i;omega
    ·simp only [qJ w (show i<ps.length by omega)]
     exact .cons (cI O) (.cons Z .nil)
    ·simp only [qJ w (show i<ps.length by omega)]
     exact aD.refl _
  refine U 12165180000000116207810 ?_;refine aH 31 (fun g39=>?_) fun g39=>?_
  ·refine U 121110000000044 ?_;refine aH 38 (fun g39_2=>?_) fun g39_2=>?_
   ·refine U 510000000021110000000010000000044 ?_;refine an (fun h39=>?_) fun h39=>?_
    ·refine U 80003000500030003000500070005116 ?_
     have e8:=b8 (by
      unfold dG
      rw [tZ (i:=i) O (HH O),aDx])
     exact bad (by rw [e8];decide) _ _ (by rw [e8];rfl)
    refine U 85191200840010 ?_;refine am (i+1) ?_ ?_
    ·exact ⟨by omega,fun j hj=>by
      by_cases e:j=i
      ·subst e;exact xY O
      exact he j O⟩
    show w.length-(i+1)<w.length-i;omega
   refine U 110000000050021 ?_;refine aH 43 (fun g39_3=>?_) fun g39_3=>?_
   rotate_left
   ·refine U 85191200840010300550044 ?_;refine am (i+1) ?_ ?_
    ·exact ⟨by omega,fun j hj=>by
      by_cases e:j=i
      ·subst e;exact xY O
      exact he j O⟩
    show w.length-(i+1)<w.length-i;omega
   refine U 510000000021 ?_;refine an (fun h39=>?_) fun h39=>?_
   ·refine U 80003000500030003000500070005116 ?_
    have e8:=b8 (by
     unfold dG
     rw [tZ (i:=i) O (HH O),aDx])
    exact bad (by rw [e8];decide) _ _ (by rw [e8];rfl)
   refine U 85191200840010 ?_;refine am (i+1) ?_ ?_
   ·exact ⟨by omega,fun j hj=>by
     by_cases e:j=i
     ·subst e;exact xY O
     exact he j O⟩
   show w.length-(i+1)<w.length-i;omega
  refine U 150021 ?_;refine aH 35 (fun g39_2=>?_) fun g39_2=>?_
  rotate_left
  ·refine U 851912008400103005500441500444444 ?_;refine am (i+1) ?_ ?_
   ·exact ⟨by omega,fun j hj=>by
     by_cases e:j=i
     ·subst e;exact xY O
     exact he j O⟩
   show w.length-(i+1)<w.length-i;omega
  refine U 121 ?_;refine aH 38 (fun g39_3=>?_) fun g39_3=>?_
  ·refine U 510000000021110000000010000000044 ?_;refine an (fun h39=>?_) fun h39=>?_
   ·refine U 80003000500030003000500070005116 ?_
    have e8:=b8 (by
     unfold dG
     rw [tZ (i:=i) O (HH O),aDx])
    exact bad (by rw [e8];decide) _ _ (by rw [e8];rfl)
   refine U 85191200840010 ?_;refine am (i+1) ?_ ?_
   ·exact ⟨by omega,fun j hj=>by
     by_cases e:j=i
     ·subst e;exact xY O
     exact he j O⟩
   show w.length-(i+1)<w.length-i;omega
  refine U 110000000050021 ?_;refine aH 43 (fun g39_4=>?_) fun g39_4=>?_
  rotate_left
  ·refine U 85191200840010300550044 ?_;refine am (i+1) ?_ ?_
   ·exact ⟨by omega,fun j hj=>by
     by_cases e:j=i
     ·subst e;exact xY O
     exact he j O⟩
   show w.length-(i+1)<w.length-i;omega
  refine U 510000000021 ?_;refine an (fun h39=>?_) fun h39=>?_
  ·refine U 80003000500030003000500070005116 ?_
   have e8:=b8 (by
    unfold dG
    rw [tZ (i:=i) O (HH O),aDx])
   exact bad (by rw [e8];decide) _ _ (by rw [e8];rfl)
  refine U 85191200840010 ?_;refine am (i+1) ?_ ?_
  ·exact ⟨by omega,fun j hj=>by
    by_cases e:j=i
    ·subst e;exact xY O
    exact he j O⟩
  show w.length-(i+1)<w.length-i;omega
theorem FD (w:I) (ps:Zx) (he:bS w ps=0):cd gs prog 150 [ap w,we ps] (.tup 2 (fl [bc (bN w ps),.c (.int .i64 0)])):=by
 have ⟨h1,h2,h3⟩:=u0 he
 have h4:=iE h1
 have:=Jn (gs:=gs) w ps O O
 rw [Zz he,he] at this
 exact this
theorem Fz (k w:I) (ps:Zx) (hk:k.length≤1000000) (he:bS w ps=0):cd gs prog 86 [bc k,ap w,we ps] (.agg 32 (aV (lL k (bN w ps)))):=by
 have hl:=u5 he
 refine ae 18 func86 fun _ _ _ _=>?_;refine eA ?_
 refine aq (dh (n:=32) iQ rfl fun p1=>?_)
 refine U 1165 ?_
 refine aq (ak (FD w ps he) ?_)
 refine U 1165119009001 ?_
 refine aq (ak (Q3 k (bN w ps) O O) ?_)
 refine aw (bg 32 (aV (lL k (bN w ps))) ?_ ?_)
 exact (fun j hj=>gX (lL k (bN w ps)) _ j hj)
 refine U 5 ?_
 refine jR (eN (hres:=aK rfl (f5 32)) (hv:=aa.agg rfl fun j hj=>aa.of_eq (by rw [Nat.zero_add])))
def KO (c:UInt8) (q:Nat):I:=[hx (c.toNat / 16),hx (c.toNat % 16)].take q
def CF (c:UInt8) (q:Nat):Nat:=([UInt8.ofNat (c.toNat / 16),UInt8.ofNat (c.toNat % 16)].getD q 0).toNat
theorem Vy (c:UInt8) (q:Nat):CF c q<16:=by
 have:=c.toNat_lt
 unfold CF
 rcases q with _|_|q
 ·show (UInt8.ofNat _).toNat<16;rw [ZT];omega
 ·show (UInt8.ofNat _).toNat<16;rw [ZT];omega
 ·show (0:UInt8).toNat<16;decide
theorem tH (c:UInt8) {q:Nat} (h:q<2):KO c q++[hx (CF c q)]=KO c (q+1):=by
 have:=c.toNat_lt
 unfold KO CF
 rcases q with _|_|q
 ·show [hx (UInt8.ofNat _).toNat]=[_];rw [ZT,aQx O]
 ·show [_,hx (UInt8.ofNat _).toNat]=[_,_];rw [ZT,aQx O]
 omega
theorem Xv {n:Nat} (h:n<10):(48+(n:Int))=((hx n).toNat:Int):=by unfold hx;rw [Zz h,ZT];omega
theorem Xw {n:Nat} (h:10≤n) (h2:n<16):(97+(n:Int)-10)=((hx n).toNat:Int):=by unfold hx;rw [jK,ZT];omega
theorem Fy (b:I) (hb:b.length≤1000000):cd gs prog 145 [bc b] (ap (bJ b)):=by
 refine ae 42 func145 fun _ _ _ _=>?_;refine U 6516 ?_
 refine aq (aM 0 1 da fun p1=>?_)
 refine U 2051316751 ?_;refine ar (α:=Nat×Option Nat) [3,5,7,11,12,13,14,15,16,17,18,19,20,21,22,23,24,25,26,27,28,29,30,31,32,33,34,35,36,37,38,39] (fun (i,g)=>[(11,.c (.int .i64 (i:Nat))),(3,.os 0 g 0 (bJ (b.take i)).length 1)]) (fun (i,g)=>[(g,.blk (bJ (b.take i)).length (aV (bJ (b.take i))))]) (fun (i,g)=>i≤b.length) (fun (i,g)=>b.length-i) ((0,p1)) ?_ (fun _=>rfl) ?_ ?_ ?_
 exact ZL _
 exact .cons Z (.cons (cO rfl) .nil)
 exact .blk rfl (fun j hj=>absurd hj (ZO j)) .nil
 ·rintro ⟨i,g⟩ (hi:i≤b.length)
  have hbl:=(b.getD i 0).toNat_lt
  have hfl:(bJ (b.take i)).length≤2000000:=by rw [gt,ZK];omega
  refine U 7526 ?_;refine aaa (fun h134=>?_) fun h134=>?_
  ·refine U 84000200020006000 ?_
   obtain rfl:i=b.length:=by omega
   simp only [ZW]
   refine U 16 ?_;refine kj Se ?_;refine U 51 ?_
   refine jR (eN (hv:=Z))
  refine U 100000016000001651607006207810 ?_
  refine aq (aM 2 1 da fun p2=>?_)
  refine aA (freeze 1 rfl) ?_;refine aA (ja 19 ([UInt8.ofNat ((b.getD i 0).toNat / 16),UInt8.ofNat ((b.getD i 0).toNat % 16)]) rfl rfl rfl rfl (.cons (cI ((by rw [ZT];omega))) (.cons (cI ((by rw [ZT];omega))) .nil))) ?_;refine U 20513 ?_
  have hl2:[UInt8.ofNat ((b.getD i 0).toNat / 16),UInt8.ofNat ((b.getD i 0).toNat % 16)].length=2:=rfl
  refine jE (ce (H':=[_]) [0] jD rfl) ?_;refine ar (α:=Nat×Option Nat) [3,7,21,22,23,24,25,26,27,28,29,30,31,32,33,34,35,36,37,38] (fun (q,g)=>[(21,.c (.int .i64 (q:Nat))),(3,.os 0 g 0 (bJ (b.take i)++KO (b.getD i 0) q).length 1)]) (fun (q,g)=>[(g,.blk (bJ (b.take i)++KO (b.getD i 0) q).length (aV (bJ (b.take i)++KO (b.getD i 0) q)))]) (fun (q,g)=>q≤2) (fun (q,g)=>2-q) ((0,g)) ?_ (fun _=>rfl) ?_ ?_ ?_
  exact ZL _
  ·simp only [KO,cXx,aMx]
   exact .cons Z (.cons Z .nil)
  ·simp only [KO,cXx,aMx]
   exact aD.refl _
  ·rintro ⟨q,g⟩ (hq:q≤2)
   have h16:=Vy (b.getD i 0) q
   have hql:(KO (b.getD i 0) q).length≤2:=by unfold KO;rw [ZK];exact Nat.min_le_right _ _
   have hgl:(bJ (b.take i)++KO (b.getD i 0) q).length≤2000002:=by rw [ZD];omega
   refine U 7526 ?_;refine aaa (fun h135=>?_) fun h135=>?_
   ·refine U 851920084004000200020006000 ?_
    refine am ((i+1,g)) ?_ ?_ (h5:=?_) (h7:=?_)
    show i+1≤b.length;omega
    show b.length-(i+1)<b.length-i;omega
    ·obtain rfl:q=2:=by omega
     have e:bJ (b.take i)++KO (b.getD i 0) 2=bJ (b.take (i+1)):=(lT O).symm
     simp only [← e]
     exact .cons (cI O) (.cons Z .nil)
    ·obtain rfl:q=2:=by omega
     have e:bJ (b.take i)++KO (b.getD i 0) 2=bJ (b.take (i+1)):=(lT O).symm
     simp only [← e]
     exact aD.refl _
   refine U 51607006207810 ?_;refine jE (bj 7 (.c (.int .u8 ((CF (b.getD i 0) q:Nat):Int))) Z) ?_;refine U 5216 ?_;refine an (fun h136=>?_) fun h136=>?_
   ·refine U 911200 ?_
    refine aq (aM 1 1 da fun p3=>?_)
    refine aw (ay (l2:=[hx (CF (b.getD i 0) q)]) rfl rfl rfl (ZA _) (fun _ _=>Z) (aI rfl (.inl rfl) jD) rfl (bz (.cons (cI ((Xv O))) .nil)) underlying23 dV fR da jt rfl (by (simp at *;omega)) (cp rfl rfl) rfl rfl (fun p4=>?_))
    refine U 8519200840051 ?_
    refine am ((q+1,p4)) ?_ ?_ (h5:=?_) (h7:=?_)
    show q+1≤2;omega
    show 2-(q+1)<2-q;omega
    ·simp only [← tH (b.getD i 0) (show q<2 by omega),← Z8]
     exact .cons (cI O) (.cons Z .nil)
    ·simp only [← tH (b.getD i 0) (show q<2 by omega),← Z8]
     exact aD.refl _
   refine U 9911200 ?_
   refine aq (aM 1 1 da fun p3=>?_)
   refine aw (ay (l2:=[hx (CF (b.getD i 0) q)]) rfl rfl rfl (ZA _) (fun _ _=>Z) (aI rfl (.inl rfl) jD) rfl (bz (.cons (cI ((Xw O h16))) .nil)) underlying23 dV fR da jt rfl (by (simp at *;omega)) (cp rfl rfl) rfl rfl (fun p4=>?_))
   refine U 8519200840051 ?_
   refine am ((q+1,p4)) ?_ ?_ (h5:=?_) (h7:=?_)
   show q+1≤2;omega
   show 2-(q+1)<2-q;omega
   ·simp only [← tH (b.getD i 0) (show q<2 by omega),← Z8]
    exact .cons (cI O) (.cons Z .nil)
   ·simp only [← tH (b.getD i 0) (show q<2 by omega),← Z8]
    exact aD.refl _
theorem MH (k:I) (hk:k.length≤1000000):cd gs prog 80 [bc k] (ap (vL k)):=by
 obtain ⟨d,hd⟩:∃ d,d=lL k (bN [105,100] []):=⟨_,rfl⟩
 have hdl:d.length=32:=by rw [hd];exact nl _ _
 have hid:bJ (d.take 16)=vL k:=by unfold vL;rw [hd]
 refine ae 8 func80 fun _ _ _ _=>?_;refine U 16516 ?_
 refine aq (ak (Fz k [105,100] [] hk H3) ?_ (ho:=rfl) (he:=(.cons (se rfl Z) (.cons (se rfl Z) (.cons (se rfl (aa.nilS' rfl)) .nil)))))
 refine aq (dh (n:=32) iQ rfl fun p1=>?_)
 refine aw (bg 32 (aV d) ?_ ?_)
 exact (fun j hj=>by rw [hd];exact gX (lL k (bN [105,100] [])) _ j hj)
 refine U 65 ?_;refine jq (iT rfl rfl (.inl rfl) jD underlying129 fR (bv _ _) (ci rfl (show (16:Int)=((16:Nat):Int) from rfl)) (by omega) (by omega) (by omega) rfl) ?_;refine aA (freeze 0 rfl) ?_;refine aA (iG 6 (fun j _=>aV (d.take 16) j) rfl rfl jD (fun a b ha hb=>aa.of_eq (by rw [show 0+(a * 1+b)=a by omega];unfold aV;rw [ZB,ZB,aXx,Zz ha]))) ?_;refine aA (bj 6 (bc (d.take 16)) (aa.rs (by rw [ZK];omega) (fun a b ha hb=>Z))) ?_
 refine aq (ak (Fy (d.take 16) (by rw [ZK];omega)) ?_)
 refine U 8000700051 ?_
 rw [hid];exact Z
section
open Go.RowKit Cal
attribute [local irreducible] g2 g3 g4 g5 g6 oQ ub gK kV wY Bn ac nB bm ba in
section
variable {gs:List Nat} {q:Q5}
theorem Yg:RW gs 68 WO [yY (w1 48)] Yq:=mo WO (w1 48) (gE Ow jD) (fY (t:=48) jD).ok (by simp [w1])
theorem Yf (h:fG q):RW gs 69 Yq [mj q.1] (X0 q):=fun n=>MG n Ox jD q.1
theorem Ye (h:fG q) (ho:dD q.2.1=true):RW gs 70 (X0 q) [ap q.2.1] (WU q):=fun n=>QY n _ q.2.1 (gE (Gm h) jD) ho
theorem Yd (h:fG q):RW gs 68 (WU q) [yY (Lq q.2.2.1)] (WT q):=mo (WU q) (Lq q.2.2.1) (gE (Gl h) jD) ⟨by have:=h.us;show _≤q.2.2.1∧q.2.2.1≤_;omega,by simp [Lq],by simp [Lq]⟩ (by simp [Lq])
theorem Yc (h:fG q):RW gs 68 (WT q) [yY ⟨3,q.2.2.2.1,false,[],[]⟩] (V9 q):=mo (WT q) ⟨3,q.2.2.2.1,false,[],[]⟩ (gE (Gk h) jD) (Yt (mz pB h.du jD).2.2.2.2.2.2.1) (by simp)
theorem Yb (h:fG q):RW gs 71 (V9 q) [ua q.2.2.2.2] (WR q):=fun n=>QX n (V9 q) q.2.2.2.2 (by have:=h.n8;omega) (gE (Gj h) jD) (fun i hi=>gE (Ca h i hi) (by have:=h.n8;omega)) h.al
theorem Ya (h:fG q):RW gs 68 (WR q) [yY w2] (WQ q):=mo (WR q) w2 (gE (Gi h) jD) lI.ok (by simp [w2])
theorem FJ (hr:cl q=true):cd gs prog 20 [lg q] (bc (dA q)):=by
 have hg:=mU hr
 have ho:dD q.2.1=true:=by unfold cl at hr;simp only [ZE] at hr;simp_all
 refine ae 42 func20 fun _ _ _ _=>?_;refine eA ?_
 refine aq (ee 7 fun p1=>?_)
 refine U 651 ?_;refine jq (au (n:=3) rfl Wm W2 rfl rfl) ?_
 refine aq (ee 3 fun p2=>?_)
 refine U 51 ?_;refine cL (ig 3 rfl) fun hn=>?_
 obtain ⟨n,rfl⟩:=hn
 refine jE (W7 n 1 rfl Z Z Z) ?_
 dsimp only [set_cons_zero,set_cons_succ,cons_append,nil_append,length_cons,length_nil,Nat.zero_add,Nat.reduceAdd]
 refine U 16 ?_;refine jq (au (n:=5) rfl mf mr rfl rfl) ?_
 refine aw (aN 1 (Yg n) ?_)
 refine U 5 ?_
 dsimp only [set_cons_zero,set_cons_succ,cons_append,nil_append,length_cons,length_nil,Nat.zero_add,Nat.reduceAdd]
 refine U 16 ?_;refine jq (en 0 3 true) ?_;refine kj (bD 3) ?_
 refine aw (aN 1 (Yf hg n) ?_)
 refine U 5 ?_
 dsimp only [set_cons_zero,set_cons_succ,cons_append,nil_append,length_cons,length_nil,Nat.zero_add,Nat.reduceAdd]
 refine U 50500000016 ?_
 refine aw (aN 1 (Ye hg ho n) ?_)
 refine U 5 ?_
 dsimp only [set_cons_zero,set_cons_succ,cons_append,nil_append,length_cons,length_nil,Nat.zero_add,Nat.reduceAdd]
 refine U 50700000016 ?_;refine jq (au (n:=5) rfl mf mr rfl rfl) ?_
 refine aw (aN 1 (Yd hg n) ?_)
 refine U 5 ?_
 dsimp only [set_cons_zero,set_cons_succ,cons_append,nil_append,length_cons,length_nil,Nat.zero_add,Nat.reduceAdd]
 refine U 50600000016 ?_;refine jq (au (n:=5) rfl mf mr rfl rfl) ?_
 refine aw (aN 1 (Yc hg n) ?_)
 refine U 5 ?_
 dsimp only [set_cons_zero,set_cons_succ,cons_append,nil_append,length_cons,length_nil,Nat.zero_add,Nat.reduceAdd]
 refine U 502000000016 ?_
 refine aw (aN 1 (Yb hg n) ?_)
 refine U 5 ?_
 dsimp only [set_cons_zero,set_cons_succ,cons_append,nil_append,length_cons,length_nil,Nat.zero_add,Nat.reduceAdd]
 refine U 16 ?_;refine jq (au (n:=5) rfl mf mr rfl rfl) ?_
 refine aw (aN 1 (Ya hg n) ?_)
 refine U 165 ?_
 refine aw (aN 1 (FF n (WQ q) (gE (Gg hg) jD)) ?_)
 refine U 8000700051165119009001 ?_
 rw [(MJ hg).2]
 exact Z
end
end
section
open Go.RowKit Cal
section
variable {gs:List Nat} [dO gs] [rz gs]
theorem IQ {gs:List Nat} [dO gs] (b:I) {K0 K1 K2 K3 K4 KE:Nat} {L1 L2 L3 L4:Zx} {is:Bool} {v s:I}
  (hR:AC gs prog 56 [] [bc b] (fun r H'=>∃ n,r=.op 0 (some n) 0∧H'=[eo n [b] K0])) (hE:RD gs 57 [b] K0 [.c (.int .i64 48)] (.c (.bool is)) L1 K1) (hW:RD gs 91 L1 K1 [] (bc v) L2 K2)
  (hI:RD gs 59 L2 K2 [.c (.int .i64 32),.c (.int .i64 32)] (bc s) L3 K3) (hL:RD gs 65 L3 K3 [] (.c (.tuple #[])) L4 K4) (hN:RD gs 66 L4 K4 [] (.err KE) L4 K4) :
  cd gs prog 34 [bc b] (.tup 3 (fl [bc (zj KE v s).1,bc (zj KE v s).2.1,.err (zj KE v s).2.2])):=by
 refine ae 26 func34 fun _ _ _ _=>?_;refine U 1651116 ?_
 refine aq (yc hR ?_)
 rintro _ _ ⟨n,rfl,rfl⟩
 refine U 1651 ?_
 refine aw (aN 0 (hE n) ?_)
 refine U 165 ?_
 refine aw (aN 0 (hW n) ?_)
 refine U 1651 ?_
 refine aw (aN 0 (hI n) ?_)
 refine U 1651 ?_
 refine aw (aN 0 (hL n) ?_)
 refine U 1675 ?_
 refine aw (aN 0 (hN n) ?_)
 refine U 55000001651 ?_;refine an (fun h125=>?_) fun h125=>?_
 ·refine U 800030007000511116 ?_
  rw [show zj KE v s=([],[],KE) by unfold zj;rw [jK]]
  exact aa.tup3 cN cN Z
 refine U 800070005111116810 ?_
 rw [show zj KE v s=(v,s,0) by unfold zj;rw [jP]]
 exact aa.tup3 Z Z aa.nil
theorem UX {gs:List Nat} [dO gs] {l:Zx} {k:Nat} {g:YR} (hg:g=ac X2 l k) (hl:0<l.length∧l.length≤1000000) (hb:(cc l).length≤10000000):RD gs 91 l k [] (bc g.v.b) g.l g.k:=by
 have e:ac X2 l k=⟨(aj 0 l k).l,(aj 0 l k).k,vB (aj 0 l k).raw⟩:=by unfold ac;rw [Zy jD,Zy jD,Zz jD]
 rw [hg,e];exact fun n=>M1 n l k hl hb
theorem Va {gs:List Nat} [dO gs] {l:Zx} {k:Nat} {a z:Int} {g:(Zx×Nat)×V4} (hg:g=dy ⟨6,a,z⟩ l k) (hl:0<l.length∧l.length≤1000000) (hb:(cc l).length≤10000000):RD gs 59 l k [.c (.int .i64 a),.c (.int .i64 z)] (bc g.2.b) g.1.1 g.1.2:=by
 subst hg;exact fun n=>Hz n l k a z hl hb
theorem NY {gs:List Nat} [dO gs] {l:Zx} {k:Nat} (hl:0<l.length∧l.length≤1000000):RD gs 65 l k [] (.c (.tuple #[])) (bm l k) (ba l k):=fun n=>lO n l k hl
theorem VK {gs:List Nat} [dO gs] {l:Zx} {k K:Nat} (hK:K=nB l k) (hl:0<l.length∧l.length≤1000000):RD gs 66 l k [] (.err K) l k:=by
 subst hK;exact fun n=>EG n l k hl
attribute [local irreducible] vX oU Uh oQ ub ac nB bm ba in
theorem Fr {gs:List Nat} [dO gs] (b:I) (hb:b.length≤90000):cd gs prog 34 [bc b] (.tup 3 (fl [bc (eF b).1,bc (eF b).2.1,.err (eF b).2.2])):=by
 have B:=XN hb
 have n1:=kS B.m1
 have n2:=kS B.m2
 have hE:RD gs 57 [b] (aR b).2 [.c (.int .i64 48)] (.c (.bool (ab 48 [b] (aR b).2).is)) (oQ b) (ub b):=by
  unfold oQ ub
  exact fun n=>pQ (gs:=gs) n [b] (aR b).2 48 (by simp) (by show b.length≤_;omega)
 have hW:RD gs 91 (oQ b) (ub b) [] (bc (vX b).v.b) (vX b).l (vX b).k:=UX (g:=vX b) (by unfold vX;rfl) ⟨B.l1.1,by have:=B.l1.2;omega⟩ O
 have hI:RD gs 59 (vX b).l (vX b).k [.c (.int .i64 32),.c (.int .i64 32)] (bc (oU b).2.b) (oU b).1.1 (oU b).1.2:=Va (g:=oU b) (by unfold oU;rfl) ⟨B.l2.1,by have:=B.l2.2;omega⟩ O
 have hL:=NY (gs:=gs) (l:=(oU b).1.1) (k:=(oU b).1.2) ⟨B.l3.1,by have:=B.l3.2;omega⟩
 have hN:RD gs 66 (bm (oU b).1.1 (oU b).1.2) (ba (oU b).1.1 (oU b).1.2) [] (.err (Uh b)) (bm (oU b).1.1 (oU b).1.2) (ba (oU b).1.1 (oU b).1.2):=VK (by unfold Uh;rfl) ⟨B.l4.1,by have:=B.l4.2;omega⟩
 have h:=IQ b (zV (gs:=gs) b O) hE hW hI hL hN
 exact h
attribute [local irreducible] vX oU Uh oQ ub ac nB bm ba in
end
end
end Am
end Go.Proofs.YtghminnpfnkbjaaGreatDoor
