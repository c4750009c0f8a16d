/- What the law leans on, part 14: W02p, W02s, P02f, W02f, W02t, W02r, W02u, W12v, W12t, W12u, W12w, W12x, AmS, AmT -/
import Derived.Test.YtghminnpfnkbjaaGreatDoorM13RequestRead
import Derived.MapKept
import Derived.WideKeyRuns

set_option maxRecDepth 100000
set_option maxHeartbeats 8000000
namespace Go.Proofs.YtghminnpfnkbjaaGreatDoor
set_option linter.unusedVariables false
namespace Am
open Go.RowKit
section
variable {gs:List Nat} [sZ gs]
def uS (l:Z) (x:UInt8) (i:Nat):Z:=(l.take i).map (· ^^^ x)++l.drop i
theorem BX (l:Z) (x:UInt8) (i:Nat):(uS l x i).length=l.length:=by
 simp only [uS,YI,Zy,YS,YN]
 omega
theorem Hl (l:Z) (x:UInt8):uS l x 0=l:=by simp [uS]
theorem Kv {l:Z} {x:UInt8} {i:Nat} (h:l.length≤i):uS l x i=l.map (· ^^^ x):=by simp [uS,Y0 h,ZE h]
theorem Ap (l:Z) (x:UInt8) (i j:Nat):(uS l x i)[j]?=if j<i then l[j]?.map (· ^^^ x) else l[j]?:=by
 unfold uS
 rw [ayx]
 simp only [Zy,YS,ZB,ZV,afx]
 by_cases h:j<i
 ·by_cases h2:j<l.length
  ·rw [jP,YF h,YF h]
  ·rw [jK,YF h,Y6 O,Y6 O]
   rfl
 ·rw [jK,YE h]
  by_cases h2:i≤l.length
  ·rw [show i+(j-min i l.length)=j by omega]
  ·rw [Y6 O,Y6 O]
theorem Ku {l:Z} {x:UInt8} {i:Nat}:(uS l x i).getD i 0=l.getD i 0:=by
 rw [YH,Ap,jK,YH]
theorem Hm {l:Z} {x:UInt8} {i:Nat} (h:i<l.length):(uS l x i).set i (l.getD i 0 ^^^ x)=uS l x (i+1):=by
 refine aXx fun j=>?_
 rw [a9x,Ap,Ap,BX]
 by_cases e:i=j
 ·subst e
  rw [YF rfl,YF h,jP]
  simp [List.getD,h]
 ·rw [YE e]
  by_cases e2:j<i
  ·rw [YF e2,jP]
  ·rw [YE e2,jK]
theorem BW (a b:UInt8):((a.toNat ^^^ b.toNat:Nat):Int)=((a ^^^ b).toNat:Int):=by rw [a4x]
theorem Ni {k:Z} (hk:k.length≤64) {f:Nat→CV} (hf:∀ j,j<64→aa (f j) (.c (.int .u8 0))) (j:Nat) (hj:j<64):aa (Fw 0 k.length f (bc k) j) (bc (k++List.replicate (64-k.length) 0) j):=by
 unfold Fw
 by_cases h:j<k.length
 ·rw [jP,ZP]
  refine aa.of_eq ?_
  unfold bc
  simp [List.getD,YL h]
 ·rw [jK]
  have e:bc (k++List.replicate (64-k.length) 0) j=.c (.int .u8 0):=by
   unfold bc
   rw [YH,YX O,ZL]
   split <;> rfl
  rw [e]
  exact hf j hj
theorem gM (l:Z) (f:Nat→CV) (j:Nat) (hj:j<32):aa (gT f 0 (List.map (fun j=>bc l j) (List.range 32)) j) (bc l j):=by
 rw [dE,YF ⟨YT _,by simp;omega⟩,ZP,Bv _ hj]
 exact I
theorem yB {X:Z} {o:Nat} {c:UInt8} {z:Int} (hz:z=(c.toNat:Nat)) (ho:o<X.length) (j:Nat):aa (gT (bc X) o [.c (.int .u8 z)] j) (bc (X.set o c) j):=by
 rw [mQ]
 by_cases e:j=o
 ·subst e
  rw [YF rfl]
  exact aa.of_eq (by unfold bc;rw [hz];simp [List.getD,ho])
 ·rw [YE e]
  exact aa.of_eq (by unfold bc;simp [List.getD,show ¬ o=j from fun h=>e h.symm])
theorem CC (j:Nat):(List.replicate 64 (0:UInt8)).getD j 0=0:=by
 rw [YH,ZL]
 split <;> rfl
theorem VO (j:Nat):aa (.c ((Value.int .u8 0).cells[j % (Value.int .u8 0).cells.size]!)) (bc (List.replicate 64 0) j):=aa.of_eq (by
 show CV.c (#[Value.int .u8 0][j % 1]!)=_
 rw [bpx]
 unfold bc
 rw [CC]
 rfl)
theorem Ml (k:Z) (x:UInt8) (hk:k.length≤1000000000):cc gs Tryz.prog 227 [aV k,.c (.int .u8 (x.toNat:Nat))] (aV (gj k x)):=by
 have hkl:=w5 k
 have hbl:=w6 k
 have h32:=pL k
 have hfl:[k].flatten=k:=by simp
 refine aj 33 Tryz.func227 fun al w0 F0 St0=>?_;refine U 516 ?_;refine dW (α:=Unit) [0,5,8,9,10,11,12,13,14] (fun _=>[(0,aV (rt k))]) (fun _=>[]) (fun _=>True) (fun _=>rfl) ?_ ?_
 ·refine U 52316 ?_;refine ap (fun h25=>?_) fun h25=>?_
  rotate_left
  ·refine U 810 ?_
   refine cU (()) ?_ (h5:=?_)
   ·trivial
   ·exact .cons (aa.bs (by unfold rt;rw [jK])) .nil
  refine U 16 ?_
  refine au (aY 1 1 eK fun p1=>?_)
  refine aI (freeze 0 rfl) ?_;refine aI (qY 12 [k] rfl rfl rfl jD (.cons I .nil)) ?_
  refine au (ar (F5 [k] (by show 1≤1000000;decide) (by rw [hfl];omega)) ?_)
  refine au (cl (n:=32) iJ rfl fun p2=>?_)
  refine aq (bo 32 (bc (ij k)) ?_ ?_)
  ·exact (fun j hj=>by rw [hfl];exact gM (ij k) _ j hj)
  refine U 2005 ?_;refine jq (iN rfl rfl (.inl rfl) jD Tryz.underlying129 ix (bG _ _) (bG _ _) (by (omega)) (by (omega)) (by (omega)) rfl) ?_;refine aI (freeze 1 rfl) ?_;refine aI (ia 14 (ij k) rfl rfl h32.symm (by rw [h32])) ?_;refine aI (aS 14 (aV (rt k)) (aa.bs (by unfold rt;rw [jP]))) ?_;refine U 851 ?_
  refine cU (()) ?_ (h5:=?_)
  ·trivial
  ·exact .cons I .nil
 ·rintro u hu
  refine dP ?_
  refine au (BA (F:=bc (List.replicate 64 0)) rfl rfl rfl (show (64:Int)=((64:Nat):Int) from rfl) (show (64:Int)=((64:Nat):Int) from rfl) (by (omega)) Tryz.underlying23 ix er mx (by (omega)) (by (omega)) (fun j hj=>VO j) rfl rfl (fun p1=>?_))
  refine U 11651 ?_
  refine aq (S9 (rt k) (bc (so k)) (fun j hj=>Ni (f:=bc (List.replicate 64 0)) hkl (fun j hj=>aa.of_eq (by unfold bc;rw [CC];rfl)) j hj) ?_ (La rfl))
  refine U 205131675 ?_;refine ax (α:=Nat) [7,21,22,23,24,25,26,27,28,29,30,31] (fun i=>[(21,.c (.int .i64 (i:Nat)))]) (fun i=>[(p1,.blk 64 (bc (uS (so k) x i)))]) (fun i=>i≤64) (fun i=>64-i) (0) ?_ (fun _=>rfl) ?_ ?_ ?_
  ·exact YT _
  ·(repeat (first|exact bz.nil|refine bz.cons I ?_))
  ·simp only [Hl]
   exact aP.refl _
  ·rintro i (hi:i≤64)
   refine U 7526 ?_;refine ap (fun h31=>?_) fun h31=>?_
   rotate_left
   ·refine U 84000200020006000 ?_
    obtain rfl:i=64:=by omega
    rw [Kv O]
    refine jE (freeze 0 rfl) ?_;refine jE (ia 6 (gj k x) rfl rfl (ko k x).symm (by rw [ko];rfl)) ?_;refine U 5116 ?_
    refine jR eA
   refine U 150700112005116207810 ?_;refine jq (dt rfl rfl rfl (dI.2 (Zk _)) (dI.2 (Zk _))) ?_;refine jq dU ?_
   refine aq (aA 1 ?_)
   refine U 851920084005 ?_
   refine aw (i+1) ?_ ?_ (h7:=?_)
   ·show i+1≤64;omega
   ·show 64-(i+1)<64-i;omega
   ·refine .blk rfl (fun j hj=>?_) .nil
    rw [← Hm (show i<(so k).length by omega)]
    exact yB (by rw [Ku];exact BW _ _) (by rw [BX];omega) j
theorem MX (k:Z) (ls:YD) (hk:k.length≤1000000000) (hl:ls.length≤1000000) (hm:ls.flatten.length≤1000000000):cc gs Tryz.prog 190 [aV k,C9 ls] (.agg 32 (bc (lG k ls.flatten))):=by
 have hpl:=ko k 54
 have hpl2:=ko k 92
 refine aj 31 Tryz.func190 fun al w0 F0 St0=>?_;refine dP ?_
 refine au (cl (n:=32) iJ rfl fun p1=>?_)
 refine U 65 ?_
 refine au (ry CZ ?_)
 rintro _ _ ⟨n,rfl,rfl⟩
 refine U 51 ?_;refine jE (aS 5 (.op 1 (some n) 0) cP) ?_;refine jE (cW 0 32 (fun _=>.top) rfl (YG _) (fun j hj=>aa.top _)) ?_;refine U 116 ?_
 refine au (ar (Ml k 54 hk) ?_)
 refine aq (aQ 1 (rJ n [] (gj k 54) (by simp;omega)) ?_)
 refine U 205131675 ?_;refine ax (α:=Nat) [7,16,17,18,19,20,21,22,23] (fun i=>[(16,.c (.int .i64 (i:Nat)))]) (fun i=>[(p1,.blk 32 fun _=>.top),eI n (gj k 54++(ls.take i).flatten)]) (fun i=>i≤ls.length) (fun i=>ls.length-i) (0) ?_ (fun _=>rfl) ?_ ?_ ?_
 ·exact YT _
 ·(repeat (first|exact bz.nil|refine bz.cons I ?_))
 ·rw [show gj k 54++(ls.take 0).flatten=[]++gj k 54 by simp]
  exact aP.refl _
 ·rintro i (hi:i≤ls.length)
  refine U 7526 ?_;refine ap (fun h41=>?_) fun h41=>?_
  ·refine U 51607006207810 ?_
   have hp:=CL ls (i+1)
   rw [nK (show i<ls.length by omega),YI] at hp
   refine U 11200 ?_
   refine aq (aQ 1 (rJ n (gj k 54++(ls.take i).flatten) (ls.getD i []) (by rw [YI];omega)) ?_)
   refine U 851920084005 ?_
   refine aw (i+1) ?_ ?_ (h7:=?_)
   ·show i+1≤ls.length;omega
   ·show ls.length-(i+1)<ls.length-i;omega
   ·simp only [nK (show i<ls.length by omega),← Zb]
    exact aP.refl _
  refine U 84000200020006000 ?_
  obtain rfl:i=ls.length:=by omega
  simp only [Za]
  obtain ⟨m1,hm1⟩:∃ m1,m1=gj k 54++ls.flatten:=⟨_,rfl⟩
  have hml:m1.length=64+ls.flatten.length:=by rw [hm1,YI,hpl]
  have h32:=pL m1
  rw [← hm1]
  refine U 16 ?_
  refine aq (aQ 1 (KX n m1 O) ?_)
  refine au (cl (n:=32) iJ rfl fun p4=>?_)
  refine aq (bo 32 (bc (ij m1)) ?_ ?_)
  ·exact (fun j hj=>gM (ij m1) _ j hj)
  refine U 75 ?_;refine lM 5 (.rd 0 (.rd 2 (.one 1 (.one 3 (.one 4 .done))))) ?_;refine U 70 ?_;refine aM (iN rfl rfl (.inl rfl) jD Tryz.underlying129 ix (bG _ _) (bG _ _) (by (omega)) (by (omega)) (by (omega)) rfl) ?_;refine hZ (freeze 2 rfl) ?_;refine hZ (ia 28 (ij m1) rfl rfl h32.symm (by rw [h32])) ?_
  refine ir (ar (Ml k 92 hk) ?_)
  refine ir (aY 2 1 eK fun p5=>?_)
  refine hZ (freeze 3 rfl) ?_;refine hZ (qY 29 [gj k 92,ij m1] rfl rfl rfl jD (.cons I (.cons I .nil))) ?_
  refine ir (ar (F5 [gj k 92,ij m1] (by show 2≤1000000;decide) (by simp;omega)) ?_)
  refine xP ?_
  show cJ _ _ _ _ _ _
  refine aq (aA 32 ?_)
  refine U 85 ?_
  refine jR (eA (hres:=av rfl (bD 32)) (hv:=?_))
  rw [show lG k ls.flatten=ij [gj k 92,ij m1].flatten by simp [lG,hm1]];exact xu _
end
def dF (w:Z):Bool:=decide (1≤w.length) && decide (w.length≤32) && w.all nS
def O5 (n:Nat):Z:=[UInt8.ofNat (n >>> 24),UInt8.ofNat (n >>> 16),UInt8.ofNat (n >>> 8),UInt8.ofNat n]
def x8 (p:Z):Z:=O5 p.length++p
def jT (p:Z):Bool:=decide (65536<p.length)
def bU (w:Z) (ps:YD):Nat:=if dF w=true then (if 16<ps.length∨ps.any jT=true then 3 else 0) else 8
def bP (w:Z) (ps:YD):Z:=UInt8.ofNat w.length::(w++UInt8.ofNat ps.length::(ps.map x8).flatten)
theorem D9 (n:Nat):(O5 n).length=4:=rfl
theorem Mf (p:Z):(x8 p).length=4+p.length:=by unfold x8;rw [YI,D9]
theorem zR {w m:Z}:bP w [m]=UInt8.ofNat w.length::(w++1::(O5 m.length++m)):=by
 unfold bP
 simp only [Zc,aAx,Zv,aKx,ZH,List.length_cons,List.length_nil,x8]
 rfl
theorem xk {w m:Z}:bU w [m]=if dF w=true then (if 65536<m.length then 3 else 0) else 8:=by
 unfold bU
 simp [jT]
theorem iA {w:Z} (h:dF w=true):1≤w.length∧w.length≤32:=by
 simp only [dF,YK,YP] at h
 exact h.1
theorem JL {w m v n:Z} (hw:bU w [m]=0) (hv:bU v [n]=0) (h:bP w [m]=bP v [n]):w=v∧m=n:=by
 rw [xk] at hw hv
 have ow:dF w=true:=by
  by_cases e:dF w=true
  ·exact e
  ·rw [YE e] at hw;cases hw
 have ov:dF v=true:=by
  by_cases e:dF v=true
  ·exact e
  ·rw [YE e] at hv;cases hv
 have lw:=iA ow
 have lv:=iA ov
 rw [zR,zR] at h
 simp only [a3x] at h
 obtain ⟨h1,h2⟩:=h
 have hl:w.length=v.length:=by
  have:=Y3 UInt8.toNat h1
  rw [YY,YY] at this
  omega
 obtain ⟨h3,h4⟩:=List.append_inj h2 hl
 simp only [a3x,true_and] at h4
 exact ⟨h3,(List.append_inj h4 rfl).2⟩
def uC (k:Z):Z:=bg ((lG k (bP [105,100] [])).take 16)
theorem RN (k:Z):(uC k).length=32:=by unfold uC;rw [eP,YS,m8];rfl
def UE:Z:=[97,98,99,100,101,102,103,104,105,106,107,108,109,110,111,112,113,114,115,116,117,118,119,120,121,122,48,49,50,51,52,53,54,55,56,57,45]
theorem S0 (c:UInt8):nS c=decide (0≤Lib.indexByte UE c):=by
 have key:∀ n:Fin 256,nS (UInt8.ofNat n.val)=decide (0≤Lib.indexByte UE (UInt8.ofNat n.val)):=by decide +kernel
 have:=key ⟨c.toNat,c.toNat_lt⟩
 simpa using this
theorem Pe {l:Z} {p:UInt8→Bool} {i:Nat} (h:∀ j,j<i→p (l.getD j 0)=true) (hi:l.length≤i):l.all p=true:=by
 rw [Y8]
 intro c hc
 obtain ⟨j,hj,rfl⟩:=acx hc
 have:=h j O
 simpa [List.getD,hj] using this
theorem sU {l:Z} {p:UInt8→Bool} {i:Nat} (hi:i<l.length) (h:p (l.getD i 0)=false):l.all p=false:=by
 rw [List.all_eq_false]
 exact ⟨l.getD i 0,by simp [List.getD,hi],by rw [h];decide⟩
theorem I8 {gs:List Nat} (l:Z) (hl:l.length≤1000000):cc gs Tryz.prog 222 [an l] (.c (.bool (l.all nS))):=by
 refine aj 15 Tryz.func222 fun al w0 F0 St0=>?_;refine U 205140000167516 ?_;refine ax (α:=Nat) [2,3,6,7,8,9,10,11,12,13,14] (fun i=>[(6,.c (.int .i64 (i:Nat)))]) (fun _=>[]) (fun i=>i≤l.length∧∀ j,j<i→nS (l.getD j 0)=true) (fun i=>l.length-i) (0) ?_ (fun _=>rfl) ?_ ?_ ?_
 ·exact ⟨YT _,fun j hj=>absurd hj (YW j)⟩
 ·(repeat (first|exact bz.nil|refine bz.cons I ?_))
 ·(repeat (exact aP.nil))
 ·rintro i ⟨(hi:i≤l.length),he⟩
  refine U 7526 ?_;refine ap (fun h50=>?_) fun h50=>?_
  rotate_left
  ·refine U 8000700051684000200020006000 ?_
   rw [Pe he O];exact I
  refine U 800000001165116207810 ?_
  refine au (ar (vo UE (l.getD i 0)) ?_)
  refine U 52 ?_;refine ap (fun h51=>?_) fun h51=>?_
  ·refine U 8000300050003000300050007000516 ?_
   rw [sU (i:=i) O (by rw [S0];exact Zl O)];exact I
  refine U 8519200840010 ?_;refine aw (i+1) ?_ ?_
  ·exact ⟨by omega,fun j hj=>by
    by_cases e:j=i
    ·subst e;rw [S0];exact Zj O
    ·exact he j O⟩
  ·show l.length-(i+1)<l.length-i;omega
theorem Sr {gs:List Nat} (p:Z):cc gs Tryz.prog 224 [aV p] (.c (.bool (jT p))):=by
 refine aj 6 Tryz.func224 fun al w0 F0 St0=>?_;refine U 512316516 ?_
 refine jR (eA (hv:=cB (by unfold jT;exact decide_eq_decide.2 O)))
theorem M9 {gs:List Nat} {g:FuncId} {n:Nat} {fv:Nat→CV} (hc:bA Tryz.prog g=true) (l:YD) (p:Z→Bool) (hp:∀ r,cc gs Tryz.prog g ((fun z:Z=>aV z) r::(List.range n).map fv) (.c (.bool (p r)))) :
  cc gs Tryz.prog 245 [C9 l,.fn g n fv] (.c (.int .i64 (dZ p l))):=by
 refine fC 0 rfl fun hlen=>?_;refine aj 19 Tryz.func245 fun al w0 F0 St0=>?_;refine U 20513167516 ?_;refine ax (α:=Nat) [4,5,8,9,10,11,12,13,14,15,16,17,18] (fun i=>[(8,.c (.int .i64 (i:Nat)))]) (fun _=>[]) (fun i=>i≤l.length∧∀ j (hj:j<l.length),j<i→p l[j]=false) (fun i=>l.length-i) (0) ?_ (fun _=>rfl) ?_ ?_ ?_
 ·exact ⟨by omega,fun j _ hj=>absurd hj (YW j)⟩
 ·(repeat (first|exact bz.nil|refine bz.cons I ?_))
 ·(repeat (exact aP.nil))
 ·rintro i ⟨hi,he⟩
  refine U 7526 ?_;refine ap (fun h108=>?_) fun h108=>?_
  rotate_left
  ·refine U 8000700051684000200020006000 ?_;refine cI ?_
   exact (mo fun j hj=>he j hj O).symm
  refine U 6070011165116207810 ?_
  refine au (ld rfl rfl (by assumption) (hp (l.getD i [])) (nZ I _) rfl rfl ?_)
  rintro _ _ ⟨rfl,rfl⟩
  refine U 5 ?_;refine ap (fun h109=>?_) fun h109=>?_
  ·refine U 80003000500030003000500070005116 ?_;refine cI ?_
   have hlt:i<l.length:=by omega
   exact (ni i hlt (by simpa [List.getD,hlt] using h109) (fun j hj=>he j O hj)).symm
  refine U 8519200840010 ?_;refine aw (i+1) ?_ ?_
  ·exact ⟨by omega,fun j hj hj1=>by
    by_cases e:j=i
    ·subst e
     simpa [List.getD,hj] using h109
    ·exact he j hj O⟩
  ·omega
theorem Na {gs:List Nat} {g:FuncId} {n:Nat} {fv:Nat→CV} (hc:bA Tryz.prog g=true) (l:YD) (p:Z→Bool) (hp:∀ r,cc gs Tryz.prog g ((fun z:Z=>aV z) r::(List.range n).map fv) (.c (.bool (p r)))) :
  cc gs Tryz.prog 223 [C9 l,.fn g n fv] (.c (.bool (l.any p))):=by
 refine aj 9 Tryz.func223 fun al w0 F0 St0=>?_;refine U 116516 ?_
 refine au (ar (M9 hc l p hp) ?_)
 refine U 80007000512 ?_;refine cB ?_
 exact rC p l
theorem xm {ls:YD} {i:Nat} (h:i<ls.length):((ls.take (i+1)).map x8).flatten=((ls.take i).map x8).flatten++O5 (ls.getD i []).length++ls.getD i []:=by
 rw [YO h,Z3,ZY]
 simp [List.getD,h,x8,Zb]
theorem y8 {ls:YD} (h:ls.any jT=false):∀ i,((ls.take i).map x8).flatten.length≤65540 * i
 | 0=>by simp
 | i+1=>by
  have ih:=y8 h i
  by_cases hi:i<ls.length
  ·rw [xm hi,YI,YI,D9]
   have hb:jT (ls.getD i [])=false:=by
    rw [bBx] at h
    have:=h (ls.getD i []) (by simp [List.getD,hi])
    simpa using this
   have:(ls.getD i []).length≤65536:=by
    unfold jT at hb
    have:=of_decide_eq_false hb
    omega
   omega
  ·rw [Y0 O]
   rw [Y0 O] at ih
   omega
def ng (w:Z) (ps:YD) (i:Nat):Z:=[UInt8.ofNat w.length]++w++[UInt8.ofNat ps.length]++((ps.take i).map x8).flatten
theorem xj (w:Z) {ps:YD} {i:Nat} (h:ps.length≤i):ng w ps i=bP w ps:=by
 unfold ng bP
 rw [Y0 h]
 simp
theorem qi (w:Z) {ps:YD} {i:Nat} (h:i<ps.length):ng w ps i++[UInt8.ofNat ((ps.getD i []).length >>> 24),UInt8.ofNat ((ps.getD i []).length >>> 16),UInt8.ofNat ((ps.getD i []).length >>> 8),UInt8.ofNat (ps.getD i []).length]++ps.getD i []=ng w ps (i+1):=by
 unfold ng
 rw [xm h]
 simp [O5,Zb]
theorem xF {w:Z} (h:w=[]∨(32:Int)<(w.length:Nat)∨(!w.all nS)=true) (ps:YD):bU w ps=8:=by
 have:dF w=false:=by
  unfold dF
  rcases h with h|h|h
  ·rw [h];rfl
  ·rw [Zl (show ¬ w.length≤32 by omega),ZJ,bcx]
  ·rw [show w.all nS=false by simpa using h,ZJ]
 unfold bU
 rw [YE (by rw [this];decide)]
theorem tJ {w:Z} (h1:¬ w=[]) (h2:¬ (32:Int)<(w.length:Nat)) (h3:(!w.all nS)=false):dF w=true:=by
 unfold dF
 have:1≤w.length:=by
  cases w with
  | nil=>exact absurd rfl h1
  | cons=>simp
 rw [Zj this,Zj (show w.length≤32 by omega),show w.all nS=true by simpa using h3]
 rfl
theorem qz {w:Z} (hw:dF w=true) {ps:YD} (h:(16:Int)<(ps.length:Nat)∨ps.any jT=true):bU w ps=3:=by
 unfold bU
 rw [YF hw,YF (h.imp (fun h=>by omega) id)]
theorem pq {w:Z} (hw:dF w=true) {ps:YD} (h1:¬ (16:Int)<(ps.length:Nat)) (h2:ps.any jT=false):bU w ps=0:=by
 unfold bU
 rw [YF hw,YE (by rw [h2];simp;omega)]
theorem Dq {w:Z} (hw:dF w=true) {ps:YD} (h1:¬ (16:Int)<(ps.length:Nat)) (h2:ps.any jT=false) (i:Nat) (hi:i≤ps.length):(ng w ps i).length≤2000000:=by
 have h3:=y8 h2 i
 have h4:=(iA hw).2
 unfold ng
 simp only [YI,List.length_cons,List.length_nil]
 omega
theorem Du {gs:List Nat} [dK gs] (w:Z) (ps:YD) (hw:w.length≤1000000) (hp:ps.length≤1000000):cc gs Tryz.prog 189 [an w,C9 ps] (.tup 2 (fl [aV (if bU w ps=0 then bP w ps else []),.err (bU w ps)])):=by
 refine aj 73 Tryz.func189 fun al w0 F0 St0=>?_;refine U 160000162075116 ?_;refine aK 13 (fun g61=>?_) fun g61=>?_
 ·refine U 79000511000000004441100000000444 ?_;refine dY (.rd 0 (.rd 1 (.rd 2 .done))) ?_;refine aM (cK 7) ?_;refine U 80003000500070008807070 ?_
  rw [xF (w:=w) (by exact .inl ‹_›) ps];exact cT (aa.nilS' rfl) (aa.errN rfl)
 refine U 15002400001 ?_;refine aK 18 (fun g61_2=>?_) fun g61_2=>?_
 ·refine U 7900051100000000444 ?_;refine dY (.rd 0 (.rd 1 (.rd 2 .done))) ?_;refine aM (cK 7) ?_;refine U 80003000500070008807070 ?_
  rw [xF (w:=w) (by exact .inr (.inl ‹_›)) ps];exact cT (aa.nilS' rfl) (aa.errN rfl)
 refine U 1 ?_
 refine au (ar (I8 w hw) ?_)
 refine U 5150030 ?_;refine ap (fun h61=>?_) fun h61=>?_
 ·refine gY ?_;refine dY (.rd 0 (.rd 1 (.rd 2 .done))) ?_;refine aM (cK 7) ?_;refine U 80003000500070008807070 ?_
  rw [xF (w:=w) (by exact .inr (.inr ‹_›)) ps];exact cT (aa.nilS' rfl) (aa.errN rfl)
 refine U 12316 ?_;refine aK 28 (fun g63=>?_) fun g63=>?_
 ·refine U 790005110000000044 ?_;refine dY (.rd 0 (.rd 1 (.rd 2 .done))) ?_;refine aM (cK 2) ?_;refine U 80003000500070008807070 ?_
  rw [qz (w:=w) (tJ ‹_› ‹_› ‹_›) (by exact .inl ‹_›)];exact cT (aa.nilS' rfl) (aa.errN rfl)
 refine U 1 ?_
 refine au (ar (Na (n:=0) (fv:=fun _=>.top) (by kernel_rfl) ps jT (fun r=>Sr r)) ?_)
 refine U 51500 ?_;refine ap (fun h63=>?_) fun h63=>?_
 ·refine gY ?_;refine dY (.rd 0 (.rd 1 (.rd 2 .done))) ?_;refine aM (cK 2) ?_;refine U 80003000500070008807070 ?_
  rw [qz (w:=w) (tJ ‹_› ‹_› ‹_›) (by exact .inr ‹_›)];exact cT (aa.nilS' rfl) (aa.errN rfl)
 refine U 840010 ?_
 have hwo:=tJ ‹_› ‹_› ‹_›
 have hpa:ps.any jT=false:=‹_›
 have hml:=Dq hwo ‹_› hpa
 have hwl:=(iA hwo).2
 refine U 8000004000016 ?_
 refine au (aY 1 1 er fun p1=>?_)
 refine aI (eE 0 rfl (YG _) (fun _=>rfl) (Dv (l2:=[UInt8.ofNat w.length]) (.cons (cI ((by rw [mK O]))) .nil))) ?_;refine U 1 ?_
 refine aq (aR (l:=[UInt8.ofNat w.length]) (l2:=w) rfl rfl rfl (YG _) (fun _ _=>I) (P7 rfl) rfl (fun j hj=>I) Tryz.underlying23 Ye ix er mx rfl (by show 1+w.length≤_;omega) (fun j hj=>rfl) rfl rfl (fun p2=>?_))
 refine U 800000311651 ?_
 refine au (aY 1 1 er fun p3=>?_)
 refine aq (aR (l2:=[UInt8.ofNat ps.length]) rfl rfl rfl (YG _) (fun _ _=>I) (aW rfl (.inl rfl) jD) rfl (ck (.cons (cI ((by rw [mK O]))) .nil)) Tryz.underlying23 fY ix er mx rfl (by (simp;omega)) (dz rfl rfl) rfl rfl (fun p4=>?_))
 refine U 2051316751 ?_
 have e0:ng w ps 0=[UInt8.ofNat w.length]++w++[UInt8.ofNat ps.length]:=by simp [ng]
 refine jE (cn (H':=[_]) [0] jD rfl) ?_;refine ax (α:=Nat×Option Nat) [6,8,9,47,48,49,50,51,52,53,54,55,56,57,58,59,60,61,62,63,64,65,66,67,68,69,70,71] (fun (i,g)=>[(47,.c (.int .i64 (i:Nat))),(6,.os 0 g 0 (ng w ps i).length 1)]) (fun (i,g)=>[(g,.blk (ng w ps i).length (bc (ng w ps i)))]) (fun (i,g)=>i≤ps.length) (fun (i,g)=>ps.length-i) ((0,p4)) ?_ (fun _=>rfl) ?_ ?_ ?_
 ·exact YT _
 ·simp only [e0]
  exact .cons I (.cons (cO rfl) .nil)
 ·simp only [e0]
  exact aP.refl _
 ·rintro ⟨i,g⟩ (hi:i≤ps.length)
  have hl0:=hml i hi
  have hbg:i<ps.length→(ps.getD i []).length≤65536:=fun hlt=>by
   have:=bBx.1 hpa (ps.getD i []) (by simp [List.getD,hlt])
   unfold jT at this
   simpa using this
  refine U 7526 ?_;refine ap (fun h68=>?_) fun h68=>?_
  rotate_left
  ·refine U 84000200020006000 ?_
   obtain rfl:i=ps.length:=by omega
   simp only [xj w (YG ps.length)]
   refine jE (freeze 0 rfl) ?_;refine jE (ia 6 (bP w ps) rfl rfl rfl rfl) ?_;refine U 8000700051116 ?_
   rw [YF (pq hwo ‹_› hpa),pq hwo ‹_› hpa];exact cT I (aa.nilE rfl)
  refine U 31651607006207810 ?_;refine jq (vi .i64 .u32) ?_;refine U 11651 ?_;refine jq (i9 (n:=24) rfl rfl rfl jD) ?_;refine jq (vi .u32 .u8) ?_;refine U 1 ?_;refine jq (i9 (n:=16) rfl rfl rfl jD) ?_;refine jq (vi .u32 .u8) ?_;refine U 1 ?_;refine jq (i9 (n:=8) rfl rfl rfl jD) ?_;refine jq (yc .u32 .u8) ?_;refine U 1 ?_;refine jq (yc .u32 .u8) ?_
  refine au (aY 4 1 er fun p5=>?_)
  refine aq (aR (l2:=[UInt8.ofNat ((ps.getD i []).length >>> 24),UInt8.ofNat ((ps.getD i []).length >>> 16),UInt8.ofNat ((ps.getD i []).length >>> 8),UInt8.ofNat (ps.getD i []).length]) rfl rfl rfl (YG _) (fun _ _=>I) (aW rfl (.inl rfl) jD) rfl (ck (.cons (cI ((by rw [mK O]))) (.cons (cI ((by rw [mK O]))) (.cons (cI (FY _)) (.cons (cI (FY _)) .nil))))) Tryz.underlying23 fY ix er mx rfl (by (simp;omega)) (dz rfl rfl) rfl rfl (fun p6=>?_))
  refine U 1120051 ?_
  refine aq (aR rfl rfl rfl (YG _) (fun _ _=>I) (ew rfl) rfl (fun j hj=>by simp only [ZN];exact I) Tryz.underlying23 fY ix er mx rfl (by (simp at *;omega)) (fun j hj=>rfl) rfl rfl (fun p7=>?_))
  refine U 8519200840051 ?_
  refine aw ((i+1,p7)) ?_ ?_ (h5:=?_) (h7:=?_)
  ·show i+1≤ps.length;omega
  ·show ps.length-(i+1)<ps.length-i;omega
  ·simp only [qi w (show i<ps.length by omega)]
   exact .cons (cI O) (.cons I .nil)
  ·simp only [qi w (show i<ps.length by omega)]
   exact aP.refl _
theorem tK {w:Z} {ps:YD} (h:bU w ps=0):dF w=true∧ps.length≤16∧ps.any jT=false:=by
 unfold bU at h
 by_cases e:dF w=true
 ·rw [YF e] at h
  by_cases e2:16<ps.length∨ps.any jT=true
  ·rw [YF e2] at h;cases h
  ·exact ⟨e,by omega,by simpa using fun h=>e2 (.inr h)⟩
 ·rw [YE e] at h;cases h
theorem tL {w:Z} {ps:YD} (h:bU w ps=0):(bP w ps).length≤2000000:=by
 obtain ⟨h1,h2,h3⟩:=tK h
 have:=Dq h1 (show ¬ (16:Int)<(ps.length:Nat) by omega) h3 ps.length (YG _)
 rw [xj w (YG _)] at this
 exact this
theorem JM {gs:List Nat} [dK gs] (w:Z) (ps:YD) (he:bU w ps=0):cc gs Tryz.prog 189 [an w,C9 ps] (.tup 2 (fl [aV (bP w ps),.err 0])):=by
 obtain ⟨h1,h2,h3⟩:=tK he
 have h4:=iA h1
 have:=Du (gs:=gs) w ps O O
 rw [YF he,he] at this
 exact this
section
variable {gs:List Nat} [dK gs] [sZ gs]
theorem Hy (k w:Z) (ps:YD) (hk:k.length≤1000000) (he:bU w ps=0):cc gs Tryz.prog 144 [aV k,an w,C9 ps] (.tup 2 (fl [.agg 32 (bc (lG k (bP w ps))),.err 0])):=by
 have hfl:[bP w ps].flatten=bP w ps:=by simp
 have hl:=tL he
 refine aj 24 Tryz.func144 fun al w0 F0 St0=>?_;refine dP ?_
 refine au (cl (n:=32) iJ rfl fun p1=>?_)
 refine U 11651 ?_
 refine au (ar (JM w ps he) ?_)
 refine U 55000001675119009001 ?_;refine ap (fun h79=>?_) fun h79=>?_
 ·exact absurd h79 (by simp)
 refine U 116810 ?_
 refine au (aY 1 1 eK fun p2=>?_)
 refine aI (freeze 1 rfl) ?_;refine aI (qY 22 [bP w ps] rfl rfl rfl jD (.cons I .nil)) ?_
 refine au (ar (MX k [bP w ps] O (by show 1≤1000000;decide) (by rw [hfl];omega)) ?_)
 refine aq (bo 32 (bc (lG k (bP w ps))) ?_ ?_)
 ·exact (fun j hj=>by rw [hfl];exact gM (lG k (bP w ps)) _ j hj)
 refine U 51 ?_
 refine jR (eA (hres:=bB rfl (bD 32) bJ) (hv:=cT (aa.agg rfl fun j hj=>aa.of_eq (by rw [Nat.zero_add])) (aa.nilE rfl)))
theorem GT:bU [105,100] []=0:=by decide
theorem RO (k:Z) (hk:k.length≤1000000):cc gs Tryz.prog 79 [aV k] (an (uC k)):=by
 obtain ⟨d,hd⟩:∃ d,d=lG k (bP [105,100] []):=⟨_,rfl⟩
 have hdl:d.length=32:=by rw [hd];exact m8 _ _
 have htk:(bg d).take 32=uC k:=by
  unfold uC
  rw [← hd,show d=d.take 16++d.drop 16 from (Zu 16 d).symm]
  have h1:bg (d.take 16++d.drop 16)=bg (d.take 16)++bg (d.drop 16):=by unfold bg;rw [Z3,ZY]
  rw [h1,aLx (by rw [eP,YS];omega),Y0 (by rw [eP,YS];omega),Zu]
 have hfl:=eP d
 refine aj 15 Tryz.func79 fun al w0 F0 St0=>?_;refine U 16516 ?_
 refine au (ar (Hy k [105,100] [] hk GT) ?_ (ho:=rfl) (he:=(.cons (se rfl I) (.cons (se rfl I) (.cons (se rfl (aa.nilS' rfl)) .nil)))))
 refine U 9009001 ?_
 refine au (cl (n:=32) iJ rfl fun p1=>?_)
 refine aq (bo 32 (bc d) ?_ ?_)
 ·exact (fun j hj=>by rw [hd];exact gM (lG k (bP [105,100] [])) _ j hj)
 refine U 550000016751 ?_;refine ap (fun h126=>?_) fun h126=>?_
 ·exact absurd h126 (by simp)
 refine U 6810 ?_;refine gw (bq 32) ?_
 refine au (ar (GZ d hdl) ?_ (ho:=rfl) (he:=(.cons (se rfl (aa.agg rfl fun j hj=>aa.of_eq (by rw [Nat.zero_add]))) .nil)))
 refine jq (rf rfl rfl Tryz.underlying9 rfl (show (32:Int)=((32:Nat):Int) from rfl) (by (omega))) ?_;refine U 8000700051 ?_
 rw [htk];exact I
end
def DS (a b:Z):Nat→UInt8
 | 0=>0
 | i+1=>DS a b i ||| (a.getD i 0 ^^^ b.getD i 0)
theorem Mt:∀ x y:UInt8,(x ||| y=0↔x=0∧y=0):=fun x y=>by
 rw [← Zq,← Zq,← Zq,UInt8.toNat_or]
 constructor
 ·intro h
  exact ⟨bOx (by have:=Nat.left_le_or (n:=x.toNat) (m:=y.toNat);rw [h] at this;exact this),bOx (by have:=Nat.right_le_or (n:=x.toNat) (m:=y.toNat);rw [h] at this;exact this)⟩
 ·rintro ⟨h1,h2⟩
  rw [h1,h2];rfl
theorem Hk (x y:UInt8):x ^^^ y=0↔x=y:=by
 constructor
 ·intro h
  have:=Y3 (· ^^^ y) h
  simpa [UInt8.xor_assoc] using this
 ·rintro rfl
  exact UInt8.xor_self
theorem DR (a b:Z):∀ i,DS a b i=0↔∀ j,j<i→a.getD j 0=b.getD j 0
 | 0=>⟨fun _ j hj=>absurd hj (YW j),fun _=>rfl⟩
 | i+1=>by
  show DS a b i ||| _=0↔_
  rw [Mt,DR a b i,Hk]
  constructor
  ·rintro ⟨h1,h2⟩ j hj
   by_cases e:j=i
   ·rw [e];exact h2
   ·exact h1 j O
  ·intro h
   exact ⟨fun j hj=>h j O,h i O⟩
theorem Sg {a b:Z} (h:a.length=b.length) {i:Nat} (hi:a.length≤i):DS a b i=0↔a=b:=by
 rw [DR]
 constructor
 ·intro k
  refine agx h fun j h1 h2=>?_
  have:=k j O
  simpa [List.getD,h1,h2] using this
 ·rintro rfl j _
  rfl
theorem H4 {gs:List Nat} (a b:Z):cc gs Tryz.prog 153 [aV a,aV b] (.c (.bool (decide (a=b)))):=by
 refine fC 0 rfl fun hlen=>?_;refine fC 1 rfl fun hlen2=>?_;refine aj 31 Tryz.func153 fun al w0 F0 St0=>?_;refine U 52313167516 ?_;refine ap (fun h87=>?_) fun h87=>?_
 ·refine U 800030007000516 ?_;refine cB ?_
  exact (Zl (fun e=>by subst e;omega)).symm
 refine U 20513167516810 ?_
 have hl:a.length=b.length:=by omega
 refine ax (α:=Nat) [5,6,14,15,16,17,18,19,20,21,22,23,24,25,26,27,28] (fun i=>[(14,.c (.int .i64 (i:Nat))),(5,.c (.int .u8 ((DS a b i).toNat:Nat)))]) (fun _=>[]) (fun i=>i≤a.length) (fun i=>a.length-i) (0) ?_ (fun _=>rfl) ?_ ?_ ?_
 ·exact YT _
 ·(repeat (first|exact bz.nil|refine bz.cons I ?_))
 ·(repeat (exact aP.nil))
 ·rintro i (hi:i≤a.length)
  refine U 7526 ?_;refine ap (fun h91=>?_) fun h91=>?_
  rotate_left
  ·refine U 800070005121684000200020006000 ?_
   refine cB (decide_eq_decide.2 ?_)
   rw [← Sg hl (i:=i) O,← Zq]
   show _↔(DS a b i).toNat=0
   omega
  refine U 5116207810 ?_;refine dY (.rd 0 (.rd 1 (.rd 2 (.rd 3 (.rd 4 (.rd 5 (.rd 6 (.rd 7 (.rd 8 (.rd 9 (.rd 10 (.rd 11 .done)))))))))))) ?_;refine U 700009000070707000090000707070 ?_;refine aM (dt rfl rfl rfl (dI.2 (Zk _)) (dI.2 (Zk _))) ?_;refine aM (nJ rfl rfl rfl (dI.2 (Zk _)) (dI.2 (by rw [← a4x];exact Zk _))) ?_;refine U 851920084008070 ?_
  refine aw (i+1) ?_ ?_ (h5:=?_)
  ·show i+1≤a.length;omega
  ·show a.length-(i+1)<a.length-i;omega
  ·exact .cons (cI O) (.cons (cI (by rw [show DS a b (i+1)=DS a b i ||| (a.getD i 0 ^^^ b.getD i 0) from rfl,UInt8.toNat_or,a4x])) .nil)
theorem GK (k:Z) (i:Nat):(so k).getD i 0=(rt k).getD i 0:=by
 unfold so
 by_cases h:i<(rt k).length
 ·simp [List.getD,YL h]
 ·rw [YH,YX O,ZL,YH,Y6 O]
  split <;> rfl
theorem pW {k:Z} {x:UInt8} {i:Nat} (h:i<64):(gj k x).take i++[(so k).getD i 0 ^^^ x]=(gj k x).take (i+1):=by
 have hl:=ko k x
 rw [YO O]
 congr 2
 have hb:=w6 k
 simp [gj,List.getD,show i<(so k).length by omega]
theorem Cp {gs:List Nat} (k:Z) (x:UInt8) (hk:k.length≤1000000000):AC gs Tryz.prog 193 [] [aV k,.c (.int .u8 (x.toNat:Nat))] (sV 64 1 64 (bc (gj k x))):=by
 have hkl:=w5 k
 have h32:=pL k
 have hpl:=ko k x
 refine aj 35 Tryz.func193 fun al w0 F0 St0=>?_;refine U 516 ?_;refine dW (α:=Unit) [0,5,9,10,11,12,13,14] (fun _=>[(0,aV (rt k))]) (fun _=>[]) (fun _=>True) (fun _=>rfl) ?_ ?_
 ·refine U 52316 ?_;refine ap (fun h11=>?_) fun h11=>?_
  rotate_left
  ·refine U 810 ?_
   refine cU (()) ?_ (h5:=?_)
   ·trivial
   ·exact .cons (aa.bs (by unfold rt;rw [jK])) .nil
  refine U 16 ?_
  refine au (ar (AM k O) ?_)
  refine au (cl (n:=32) iJ rfl fun p1=>?_)
  refine aq (bo 32 (bc (ij k)) ?_ ?_)
  ·exact (fun j hj=>gM (ij k) _ j hj)
  refine U 2005 ?_;refine jq (iN rfl rfl (.inl rfl) jD Tryz.underlying129 ix (bG _ _) (bG _ _) (by (omega)) (by (omega)) (by (omega)) rfl) ?_;refine aI (freeze 0 rfl) ?_;refine aI (ia 14 (ij k) rfl rfl h32.symm (by rw [h32])) ?_;refine aI (aS 14 (aV (rt k)) (aa.bs (by unfold rt;rw [jP]))) ?_;refine U 851 ?_
  refine cU (()) ?_ (h5:=?_)
  ·trivial
  ·exact .cons I .nil
 ·rintro u hu
  refine dP ?_
  refine au (aY 0 1 er fun p1=>?_)
  refine U 20516751 ?_;refine ax (α:=Nat×Option Nat) [6,7,8,16,17,18,19,20,21,22,23,24,25,26,27,28,29,30,31,32,33] (fun (i,g)=>[(7,.c (.int .i64 (i:Nat))),(6,.os 0 g 0 ((gj k x).take i).length 1)]) (fun (i,g)=>[(g,.blk ((gj k x).take i).length (bc ((gj k x).take i)))]) (fun (i,g)=>i≤64) (fun (i,g)=>64-i) ((0,p1)) ?_ (fun _=>rfl) ?_ ?_ ?_
  ·exact YT _
  ·exact .cons I (.cons (cO rfl) .nil)
  ·exact .blk rfl (fun j hj=>absurd hj (YW j)) .nil
  ·rintro ⟨i,g⟩ (hi:i≤64)
   have htl:((gj k x).take i).length=i:=by rw [YS];omega
   refine U 52167 ?_;refine ap (fun h16=>?_) fun h16=>?_
   rotate_left
   ·refine U 84000200020006000 ?_
    obtain rfl:i=64:=by omega
    have htk:(gj k x).take 64=gj k x:=Y0 O
    refine U 70005116 ?_
    exact oE 0 (.inl rfl) (av rfl (ak rfl)) rfl htl O (fun _=>by omega) (fun j hj=>aa.of_eq (by rw [htk]))
   refine U 5231167516207810 ?_;refine ap (fun h18=>?_) fun h18=>?_
   rotate_left
   ·refine U 810 ?_;refine jE (aS 8 (.c (.int .u8 (((so k).getD i 0).toNat:Nat))) (by (refine cI ?_;rw [GK,YH,Y6 O];rfl))) ?_;refine U 111200 ?_;refine jq (dt rfl rfl rfl (dI.2 (Zk _)) (dI.2 (Zk _))) ?_
    refine au (aY 1 1 er fun p2=>?_)
    refine aq (aR (l2:=[(so k).getD i 0 ^^^ x]) rfl rfl rfl (YG _) (fun _ _=>I) (aW rfl (.inl rfl) jD) rfl (ck (.cons (cI ((by rw [a4x]))) .nil)) Tryz.underlying23 fY ix er mx rfl (by (simp;omega)) (dz rfl rfl) rfl rfl (fun p3=>?_))
    refine U 85191200840051 ?_
    refine aw ((i+1,p3)) ?_ ?_ (h5:=?_) (h7:=?_)
    ·show i+1≤64;omega
    ·show 64-(i+1)<64-i;omega
    ·simp only [← pW (k:=k) (x:=x) (show i<64 by omega)]
     exact .cons (cI O) (.cons I .nil)
    ·simp only [← pW (k:=k) (x:=x) (show i<64 by omega)]
     exact aP.refl _
   refine U 8516070011200 ?_;refine jE (aS 8 (.c (.int .u8 (((so k).getD i 0).toNat:Nat))) (by (refine cI ?_;rw [GK];done))) ?_;refine U 111200 ?_;refine jq (dt rfl rfl rfl (dI.2 (Zk _)) (dI.2 (Zk _))) ?_
   refine au (aY 1 1 er fun p2=>?_)
   refine aq (aR (l2:=[(so k).getD i 0 ^^^ x]) rfl rfl rfl (YG _) (fun _ _=>I) (aW rfl (.inl rfl) jD) rfl (ck (.cons (cI ((by rw [a4x]))) .nil)) Tryz.underlying23 fY ix er mx rfl (by (simp;omega)) (dz rfl rfl) rfl rfl (fun p3=>?_))
   refine U 85191200840051 ?_
   refine aw ((i+1,p3)) ?_ ?_ (h5:=?_) (h7:=?_)
   ·show i+1≤64;omega
   ·show 64-(i+1)<64-i;omega
   ·simp only [← pW (k:=k) (x:=x) (show i<64 by omega)]
    exact .cons (cI O) (.cons I .nil)
   ·simp only [← pW (k:=k) (x:=x) (show i<64 by omega)]
    exact aP.refl _
theorem Qp {gs:List Nat} (k m:Z) (hk:k.length≤1000000000) (hm:m.length≤1000000000):cc gs Tryz.prog 151 [aV k,aV m] (.agg 32 (bc (lG k m))):=by
 have hpl:=ko k 54
 have hpl2:=ko k 92
 obtain ⟨d,hd⟩:∃ d,d=ij (gj k 54++m):=⟨_,rfl⟩
 have h32:d.length=32:=by rw [hd];exact pL _
 refine aj 16 Tryz.func151 fun al w0 F0 St0=>?_;refine dP ?_
 refine au (cl (n:=32) iJ rfl fun p1=>?_)
 refine U 165 ?_
 refine au (Bm (Cp k 54 hk) (fun p2=>?_))
 refine aI (aS 7 (.os 1 p2 0 (gj k 54).length 1) (cO hpl.symm)) ?_;refine U 1 ?_
 refine aq (aR (l:=gj k 54) (l2:=m) rfl rfl rfl (ZR hpl) (fun _ _=>I) (ew rfl) rfl (fun j hj=>by simp only [ZN];exact I) Tryz.underlying23 fY ix er mx rfl (by rw [hpl];omega) (fun j hj=>rfl) rfl rfl (fun p3=>?_))
 refine aI (freeze 1 rfl) ?_;refine aI (ia 9 (gj k 54++m) rfl rfl rfl rfl) ?_
 refine au (ar (AM (gj k 54++m) (by rw [YI];omega)) ?_)
 refine au (cl (n:=32) iJ rfl fun p4=>?_)
 refine aq (bo 32 (bc d) ?_ ?_)
 ·exact (fun j hj=>by rw [hd];exact gM (ij (gj k 54++m)) _ j hj)
 refine U 75 ?_;refine lM 3 (.rd 0 (.rd 2 (.one 1 .done))) ?_;refine U 70 ?_;refine aM (iN rfl rfl (.inl rfl) jD Tryz.underlying129 ix (bG _ _) (bG _ _) (by (omega)) (by (omega)) (by (omega)) rfl) ?_
 refine ir (Bm (Cp k 92 hk) (fun p5=>?_))
 refine xP ?_
 show cJ _ _ _ _ _ _
 refine aI (aS 12 (.os 3 p5 0 (gj k 92).length 1) (cO hpl2.symm)) ?_
 refine aq (aR (l:=gj k 92) (l2:=d) rfl rfl rfl (ZR hpl2) (fun _ _=>I) (aW rfl (.inl rfl) jD) h32.symm (fun j hj=>by rw [Nat.zero_add];exact I) Tryz.underlying23 fY ix er mx rfl (by rw [hpl2,h32];decide) (fun j hj=>rfl) rfl rfl (fun p6=>?_))
 refine aI (freeze 3 rfl) ?_;refine aI (ia 14 (gj k 92++d) rfl rfl rfl rfl) ?_
 refine au (ar (AM (gj k 92++d) (by rw [YI];omega)) ?_)
 refine aq (bo 32 (bc (lG k m)) ?_ ?_)
 ·exact (fun j hj=>by rw [show lG k m=ij (gj k 92++d) by rw [hd];rfl];exact gM (ij (gj k 92++d)) _ j hj)
 refine U 85 ?_
 refine jR (eA (hres:=av rfl (bD 32)) (hv:=aa.agg rfl fun j hj=>aa.of_eq (by rw [Nat.zero_add])))
theorem wW {c:UInt8} (h:((97:Int)≤(c.toNat:Nat)∧((c.toNat:Nat):Int)≤122)∨((48:Int)≤(c.toNat:Nat)∧((c.toNat:Nat):Int)≤57)∨((c.toNat:Nat):Int)=45):nS c=true:=by
 unfold nS
 simp only [Zx,YK,YP]
 omega
theorem GH {c:UInt8} (h:¬ (((97:Int)≤(c.toNat:Nat)∧((c.toNat:Nat):Int)≤122)∨((48:Int)≤(c.toNat:Nat)∧((c.toNat:Nat):Int)≤57)∨((c.toNat:Nat):Int)=45)):nS c=false:=by
 cases e:nS c with
 | false=>rfl
 | true =>
  unfold nS at e
  simp only [Zx,YK,YP] at e
  omega
theorem Sv (n s:Nat) {z:Int} (h:z=((n >>> s % 256:Nat):Int)):z=((UInt8.ofNat (n >>> s)).toNat:Int):=by rw [h,YY]
theorem wG:∀ {qs:YD},qs.any jT=false→(qs.map x8).flatten.length≤65540 * qs.length
 | [],_=>by simp
 | p::qs,h=>by
  rw [List.any_cons,Bool.or_eq_false_iff] at h
  have ih:=wG h.2
  have hp:p.length≤65536:=by
   have:=h.1
   unfold jT at this
   have:=of_decide_eq_false this
   omega
  rw [Zc,Zv,YI,Mf,List.length_cons]
  omega
theorem RW {w:Z} (hw:dF w=true) {ps:YD} (h1:ps.length≤16) {i:Nat} (h2:(ps.take i).any jT=false):(ng w ps i).length≤2000000:=by
 have h3:=wG h2
 have h4:=(iA hw).2
 have h5:(ps.take i).length≤ps.length:=by rw [YS];omega
 unfold ng
 simp only [YI,List.length_cons,List.length_nil]
 omega
theorem Pd {ps:YD} {i:Nat} (hi:i<ps.length) (h:(ps.take i).any jT=false) (h2:jT (ps.getD i [])=false):(ps.take (i+1)).any jT=false:=by
 rw [YO hi,List.any_append,h]
 simpa [List.getD,hi] using h2
theorem Vq {ps:YD} {i:Nat} (hi:i<ps.length) (h2:jT (ps.getD i [])=true):ps.any jT=true:=by
 rw [aIx]
 exact ⟨ps.getD i [],by simp [List.getD,hi],h2⟩
theorem In {gs:List Nat} (w:Z) (ps:YD) (hw:w.length≤1000000) (hp:ps.length≤1000000):cc gs Tryz.prog 150 [an w,C9 ps] (.tup 2 (fl [if bU w ps=0 then aV (bP w ps) else .top,.c (.int .i64 (bU w ps:Nat))])):=by
 have bad:bU w ps≠0→∀ (x:CV) (e:Int),e=(bU w ps:Nat)→aa (.tup 2 (fl [x,.c (.int .i64 e)])) (.tup 2 (fl [if bU w ps=0 then aV (bP w ps) else .top,.c (.int .i64 (bU w ps:Nat))])):=fun h x e he=>by
  rw [YE h,he]
  exact cT (aa.top _) I
 have b8:dF w=false→bU w ps=8:=fun h=>by unfold bU;rw [YE (by rw [h];decide)]
 refine aj 97 Tryz.func150 fun al w0 F0 St0=>?_;refine U 12400001675116 ?_;refine aK 15 (fun g34=>?_) fun g34=>?_
 ·refine U 800030007000511690005100000000444 ?_
  have e8:=b8 (by
   unfold dF
   first
    |(rw [Zl (show ¬ 1≤w.length by omega)];rfl)
    |(rw [Zl (show ¬ w.length≤32 by omega),ZJ,bcx]))
  exact bad (by rw [e8];decide) _ _ (by rw [e8];rfl)
 refine U 55002400001 ?_;refine ap (fun h34=>?_) fun h34=>?_
 ·refine U 8000300070005116 ?_
  have e8:=b8 (by
   unfold dF
   first
    |(rw [Zl (show ¬ 1≤w.length by omega)];rfl)
    |(rw [Zl (show ¬ w.length≤32 by omega),ZJ,bcx]))
  exact bad (by rw [e8];decide) _ _ (by rw [e8];rfl)
 refine U 205167810 ?_
 have hl1:1≤w.length∧w.length≤32:=by omega
 refine ax (α:=Nat) [4,5,6,7,20,21,22,23,24,25,26,27,28,29,30,31,32,33,34,35,36,37,38,39,40,41,42,43,44,45,46] (fun i=>[(6,.c (.int .i64 (i:Nat)))]) (fun _=>[]) (fun i=>i≤w.length∧∀ j,j<i→nS (w.getD j 0)=true) (fun i=>w.length-i) (0) ?_ (fun _=>rfl) ?_ ?_ ?_
 ·exact ⟨YT _,fun j hj=>absurd hj (YW j)⟩
 ·(repeat (first|exact bz.nil|refine bz.cons I ?_))
 ·(repeat (exact aP.nil))
 ·rintro i ⟨(hi:i≤w.length),he⟩
  refine U 52400001167 ?_;refine ap (fun h37=>?_) fun h37=>?_
  rotate_left
  ·refine U 784000200020006000 ?_
   have hwo:dF w=true:=by
    unfold dF
    rw [Zj hl1.1,Zj hl1.2,Pe he O]
    rfl
   refine U 52316 ?_;refine ap (fun h43=>?_) fun h43=>?_
   ·refine U 8000300070005116 ?_
    have e3:=qz hwo (ps:=ps) (.inl O)
    exact bad (by rw [e3];decide) _ _ (by rw [e3];rfl)
   refine U 8000004000016810 ?_
   refine au (aY 1 1 er fun p1=>?_)
   refine aI (eE 0 rfl (YG _) (fun _=>rfl) (Dv (l2:=[UInt8.ofNat w.length]) (.cons (cI ((by rw [mK O]))) .nil))) ?_;refine U 11651 ?_
   refine au (WI ?_)
   refine aq (aR (l:=[UInt8.ofNat w.length]) (l2:=w) rfl rfl rfl (YG _) (fun _ _=>I) (ew rfl) rfl (fun j hj=>by simp only [ZN];exact I) Tryz.underlying23 fY ix er mx rfl (by show 1+w.length≤_;omega) (fun j hj=>rfl) rfl rfl (fun p2=>?_))
   refine U 800000311651 ?_
   refine au (aY 1 1 er fun p3=>?_)
   refine aq (aR (l2:=[UInt8.ofNat ps.length]) rfl rfl rfl (YG _) (fun _ _=>I) (aW rfl (.inl rfl) jD) rfl (ck (.cons (cI ((by rw [mK O]))) .nil)) Tryz.underlying23 fY ix er mx rfl (by (simp;omega)) (dz rfl rfl) rfl rfl (fun p4=>?_))
   refine U 2051316751 ?_
   have e0:ng w ps 0=[UInt8.ofNat w.length]++w++[UInt8.ofNat ps.length]:=by simp [ng]
   refine jE (cn (H':=[_]) [0] jD rfl) ?_;refine ax (α:=Nat×Option Nat) [4,5,8,10,11,66,67,68,69,70,71,72,73,74,75,76,77,78,79,80,81,82,83,84,85,86,87,88,89,90,91,92,93,94,95] (fun (i,g)=>[(66,.c (.int .i64 (i:Nat))),(8,.os 0 g 0 (ng w ps i).length 1)]) (fun (i,g)=>[(g,.blk (ng w ps i).length (bc (ng w ps i)))]) (fun (i,g)=>i≤ps.length∧(ps.take i).any jT=false) (fun (i,g)=>ps.length-i) ((0,p4)) ?_ (fun _=>rfl) ?_ ?_ ?_
   ·exact ⟨YT _,rfl⟩
   ·simp only [e0]
    exact .cons I (.cons (cO rfl) .nil)
   ·simp only [e0]
    exact aP.refl _
   ·rintro ⟨i,g⟩ ⟨(hi:i≤ps.length),(hq:(ps.take i).any jT=false)⟩
    have hl0:(ng w ps i).length≤2000000:=RW hwo O hq
    refine U 7526 ?_;refine ap (fun h49=>?_) fun h49=>?_
    rotate_left
    ·refine U 84000200020006000 ?_
     obtain rfl:i=ps.length:=by omega
     rw [Za] at hq
     have e0':=pq hwo (show ¬ (16:Int)<(ps.length:Nat) by omega) hq
     simp only [xj w (YG ps.length)]
     refine jE (freeze 0 rfl) ?_;refine jE (ia 8 (bP w ps) rfl rfl rfl rfl) ?_;refine U 8000700051116 ?_
     rw [e0',YF rfl];exact I
    refine U 52316751607006207810 ?_;refine ap (fun h50=>?_) fun h50=>?_
    ·refine U 800030005000300030005000300070005116 ?_
     have e3:=qz hwo (ps:=ps) (.inr (Vq (i:=i) O (by unfold jT;exact Zj O)))
     exact bad (by rw [e3];decide) _ _ (by rw [e3];rfl)
    refine U 80000010000001800000100000060000018000001000000600000180000060000011651316810 ?_
    refine au (aY 4 1 er fun p5=>?_)
    refine aq (aR (l2:=[UInt8.ofNat ((ps.getD i []).length >>> 24),UInt8.ofNat ((ps.getD i []).length >>> 16),UInt8.ofNat ((ps.getD i []).length >>> 8),UInt8.ofNat (ps.getD i []).length]) rfl rfl rfl (YG _) (fun _ _=>I) (aW rfl (.inl rfl) jD) rfl (ck (.cons (cI ((Sv _ 24 (by rw [ZM];omega)))) (.cons (cI ((Sv _ 16 (by rw [ZM];omega)))) (.cons (cI ((Sv _ 8 (by rw [ZM];omega)))) (.cons (cI ((Sv _ 0 (by rw [ZM];omega)))) .nil))))) Tryz.underlying23 fY ix er mx rfl (by (simp;omega)) (dz rfl rfl) rfl rfl (fun p6=>?_))
    refine U 1120051 ?_
    refine aq (aR rfl rfl rfl (YG _) (fun _ _=>I) (ew rfl) rfl (fun j hj=>by simp only [ZN];exact I) Tryz.underlying23 fY ix er mx rfl (by (simp at *;omega)) (fun j hj=>rfl) rfl rfl (fun p7=>?_))
    refine U 8519200840051 ?_
    refine aw ((i+1,p7)) ?_ ?_ (h5:=?_) (h7:=?_)
    ·exact ⟨by omega,Pd O hq (by unfold jT;exact Zl O)⟩
    ·show ps.length-(i+1)<ps.length-i;omega
    ·simp only [qi w (show i<ps.length by omega)]
     exact .cons (cI O) (.cons I .nil)
    ·simp only [qi w (show i<ps.length by omega)]
     exact aP.refl _
  refine U 12165180000000116207810 ?_;refine aK 31 (fun g39=>?_) fun g39=>?_
  ·refine U 121110000000044 ?_;refine aK 38 (fun g39_2=>?_) fun g39_2=>?_
   ·refine U 510000000021110000000010000000044 ?_;refine ap (fun h39=>?_) fun h39=>?_
    ·refine U 80003000500030003000500070005116 ?_
     have e8:=b8 (by
      unfold dF
      rw [sU (i:=i) O (GH O),ZJ])
     exact bad (by rw [e8];decide) _ _ (by rw [e8];rfl)
    refine U 85191200840010 ?_;refine aw (i+1) ?_ ?_
    ·exact ⟨by omega,fun j hj=>by
      by_cases e:j=i
      ·subst e;exact wW O
      ·exact he j O⟩
    ·show w.length-(i+1)<w.length-i;omega
   refine U 110000000050021 ?_;refine aK 43 (fun g39_3=>?_) fun g39_3=>?_
   rotate_left
   ·refine U 85191200840010300550044 ?_;refine aw (i+1) ?_ ?_
    ·exact ⟨by omega,fun j hj=>by
      by_cases e:j=i
      ·subst e;exact wW O
      ·exact he j O⟩
    ·show w.length-(i+1)<w.length-i;omega
   refine U 510000000021 ?_;refine ap (fun h39=>?_) fun h39=>?_
   ·refine U 80003000500030003000500070005116 ?_
    have e8:=b8 (by
     unfold dF
     rw [sU (i:=i) O (GH O),ZJ])
    exact bad (by rw [e8];decide) _ _ (by rw [e8];rfl)
   refine U 85191200840010 ?_;refine aw (i+1) ?_ ?_
   ·exact ⟨by omega,fun j hj=>by
     by_cases e:j=i
     ·subst e;exact wW O
     ·exact he j O⟩
   ·show w.length-(i+1)<w.length-i;omega
  refine U 150021 ?_;refine aK 35 (fun g39_2=>?_) fun g39_2=>?_
  rotate_left
  ·refine U 851912008400103005500441500444444 ?_;refine aw (i+1) ?_ ?_
   ·exact ⟨by omega,fun j hj=>by
     by_cases e:j=i
     ·subst e;exact wW O
     ·exact he j O⟩
   ·show w.length-(i+1)<w.length-i;omega
  refine U 121 ?_;refine aK 38 (fun g39_3=>?_) fun g39_3=>?_
  ·refine U 510000000021110000000010000000044 ?_;refine ap (fun h39=>?_) fun h39=>?_
   ·refine U 80003000500030003000500070005116 ?_
    have e8:=b8 (by
     unfold dF
     rw [sU (i:=i) O (GH O),ZJ])
    exact bad (by rw [e8];decide) _ _ (by rw [e8];rfl)
   refine U 85191200840010 ?_;refine aw (i+1) ?_ ?_
   ·exact ⟨by omega,fun j hj=>by
     by_cases e:j=i
     ·subst e;exact wW O
     ·exact he j O⟩
   ·show w.length-(i+1)<w.length-i;omega
  refine U 110000000050021 ?_;refine aK 43 (fun g39_4=>?_) fun g39_4=>?_
  rotate_left
  ·refine U 85191200840010300550044 ?_;refine aw (i+1) ?_ ?_
   ·exact ⟨by omega,fun j hj=>by
     by_cases e:j=i
     ·subst e;exact wW O
     ·exact he j O⟩
   ·show w.length-(i+1)<w.length-i;omega
  refine U 510000000021 ?_;refine ap (fun h39=>?_) fun h39=>?_
  ·refine U 80003000500030003000500070005116 ?_
   have e8:=b8 (by
    unfold dF
    rw [sU (i:=i) O (GH O),ZJ])
   exact bad (by rw [e8];decide) _ _ (by rw [e8];rfl)
  refine U 85191200840010 ?_;refine aw (i+1) ?_ ?_
  ·exact ⟨by omega,fun j hj=>by
    by_cases e:j=i
    ·subst e;exact wW O
    ·exact he j O⟩
  ·show w.length-(i+1)<w.length-i;omega
theorem EF {gs:List Nat} (w:Z) (ps:YD) (he:bU w ps=0):cc gs Tryz.prog 150 [an w,C9 ps] (.tup 2 (fl [aV (bP w ps),.c (.int .i64 0)])):=by
 obtain ⟨h1,h2,h3⟩:=tK he
 have h4:=iA h1
 have:=In (gs:=gs) w ps O O
 rw [YF he,he] at this
 exact this
theorem EA {gs:List Nat} (k w:Z) (ps:YD) (hk:k.length≤1000000) (he:bU w ps=0):cc gs Tryz.prog 86 [aV k,an w,C9 ps] (.agg 32 (bc (lG k (bP w ps)))):=by
 have hl:=tL he
 refine aj 18 Tryz.func86 fun al w0 F0 St0=>?_;refine dP ?_
 refine au (cl (n:=32) iJ rfl fun p1=>?_)
 refine U 1165 ?_
 refine au (ar (EF w ps he) ?_)
 refine U 1165119009001 ?_
 refine au (ar (Qp k (bP w ps) O O) ?_)
 refine aq (bo 32 (bc (lG k (bP w ps))) ?_ ?_)
 ·exact (fun j hj=>gM (lG k (bP w ps)) _ j hj)
 refine U 5 ?_
 refine jR (eA (hres:=av rfl (bD 32)) (hv:=aa.agg rfl fun j hj=>aa.of_eq (by rw [Nat.zero_add])))
def xn (c:UInt8) (q:Nat):Z:=[hx (c.toNat / 16),hx (c.toNat % 16)].take q
def ye (c:UInt8) (q:Nat):Nat:=([UInt8.ofNat (c.toNat / 16),UInt8.ofNat (c.toNat % 16)].getD q 0).toNat
theorem NZ (c:UInt8) (q:Nat):ye c q<16:=by
 have:=c.toNat_lt
 unfold ye
 rcases q with _|_|q
 ·show (UInt8.ofNat _).toNat<16;rw [YY];omega
 ·show (UInt8.ofNat _).toNat<16;rw [YY];omega
 ·show (0:UInt8).toNat<16;decide
theorem ku (c:UInt8) {q:Nat} (h:q<2):xn c q++[hx (ye c q)]=xn c (q+1):=by
 have:=c.toNat_lt
 unfold xn ye
 rcases q with _|_|q
 ·show [hx (UInt8.ofNat _).toNat]=[_];rw [YY,Z8 O]
 ·show [_,hx (UInt8.ofNat _).toNat]=[_,_];rw [YY,Z8 O]
 ·omega
theorem Th {n:Nat} (h:n<10):(48+(n:Int))=((hx n).toNat:Int):=by unfold hx;rw [YF h,YY];omega
theorem Tj {n:Nat} (h:10≤n) (h2:n<16):(97+(n:Int)-10)=((hx n).toNat:Int):=by unfold hx;rw [jK,YY];omega
theorem Ez {gs:List Nat} (b:Z) (hb:b.length≤1000000):cc gs Tryz.prog 145 [aV b] (an (bg b)):=by
 refine aj 42 Tryz.func145 fun al w0 F0 St0=>?_;refine U 6516 ?_
 refine au (aY 0 1 er fun p1=>?_)
 refine U 2051316751 ?_;refine ax (α:=Nat×Option Nat) [3,5,7,11,12,13,14,15,16,17,18,19,20,21,22,23,24,25,26,27,28,29,30,31,32,33,34,35,36,37,38,39] (fun (i,g)=>[(11,.c (.int .i64 (i:Nat))),(3,.os 0 g 0 (bg (b.take i)).length 1)]) (fun (i,g)=>[(g,.blk (bg (b.take i)).length (bc (bg (b.take i))))]) (fun (i,g)=>i≤b.length) (fun (i,g)=>b.length-i) ((0,p1)) ?_ (fun _=>rfl) ?_ ?_ ?_
 ·exact YT _
 ·exact .cons I (.cons (cO rfl) .nil)
 ·exact .blk rfl (fun j hj=>absurd hj (YW j)) .nil
 ·rintro ⟨i,g⟩ (hi:i≤b.length)
  have hbl:=(b.getD i 0).toNat_lt
  have hfl:(bg (b.take i)).length≤2000000:=by rw [eP,YS];omega
  refine U 7526 ?_;refine ap (fun h134=>?_) fun h134=>?_
  rotate_left
  ·refine U 84000200020006000 ?_
   obtain rfl:i=b.length:=by omega
   simp only [Za]
   refine U 16 ?_;refine gw Ns ?_;refine U 51 ?_
   refine jR (eA (hv:=I))
  refine U 100000016000001651607006207810 ?_
  refine au (aY 2 1 er fun p2=>?_)
  refine aI (freeze 1 rfl) ?_;refine aI (jC 19 ([UInt8.ofNat ((b.getD i 0).toNat / 16),UInt8.ofNat ((b.getD i 0).toNat % 16)]) rfl rfl rfl rfl (.cons (cI ((by rw [YY];omega))) (.cons (cI ((by rw [YY];omega))) .nil))) ?_;refine U 20513 ?_
  have hl2:[UInt8.ofNat ((b.getD i 0).toNat / 16),UInt8.ofNat ((b.getD i 0).toNat % 16)].length=2:=rfl
  refine jE (cn (H':=[_]) [0] jD rfl) ?_;refine ax (α:=Nat×Option Nat) [3,7,21,22,23,24,25,26,27,28,29,30,31,32,33,34,35,36,37,38] (fun (q,g)=>[(21,.c (.int .i64 (q:Nat))),(3,.os 0 g 0 (bg (b.take i)++xn (b.getD i 0) q).length 1)]) (fun (q,g)=>[(g,.blk (bg (b.take i)++xn (b.getD i 0) q).length (bc (bg (b.take i)++xn (b.getD i 0) q)))]) (fun (q,g)=>q≤2) (fun (q,g)=>2-q) ((0,g)) ?_ (fun _=>rfl) ?_ ?_ ?_
  ·exact YT _
  ·simp only [xn,a8x,ZH]
   exact .cons I (.cons I .nil)
  ·simp only [xn,a8x,ZH]
   exact aP.refl _
  ·rintro ⟨q,g⟩ (hq:q≤2)
   have h16:=NZ (b.getD i 0) q
   have hql:(xn (b.getD i 0) q).length≤2:=by unfold xn;rw [YS];exact Nat.min_le_right _ _
   have hgl:(bg (b.take i)++xn (b.getD i 0) q).length≤2000002:=by rw [YI];omega
   refine U 7526 ?_;refine ap (fun h135=>?_) fun h135=>?_
   rotate_left
   ·refine U 851920084004000200020006000 ?_
    refine aw ((i+1,g)) ?_ ?_ (h5:=?_) (h7:=?_)
    ·show i+1≤b.length;omega
    ·show b.length-(i+1)<b.length-i;omega
    ·obtain rfl:q=2:=by omega
     have e:bg (b.take i)++xn (b.getD i 0) 2=bg (b.take (i+1)):=(iF O).symm
     simp only [← e]
     exact .cons (cI O) (.cons I .nil)
    ·obtain rfl:q=2:=by omega
     have e:bg (b.take i)++xn (b.getD i 0) 2=bg (b.take (i+1)):=(iF O).symm
     simp only [← e]
     exact aP.refl _
   refine U 51607006207810 ?_;refine jE (aS 7 (.c (.int .u8 ((ye (b.getD i 0) q:Nat):Int))) I) ?_;refine U 5216 ?_;refine ap (fun h136=>?_) fun h136=>?_
   ·refine U 911200 ?_
    refine au (aY 1 1 er fun p3=>?_)
    refine aq (aR (l2:=[hx (ye (b.getD i 0) q)]) rfl rfl rfl (YG _) (fun _ _=>I) (aW rfl (.inl rfl) jD) rfl (ck (.cons (cI ((Th O))) .nil)) Tryz.underlying23 fY ix er mx rfl (by (simp at *;omega)) (dz rfl rfl) rfl rfl (fun p4=>?_))
    refine U 8519200840051 ?_
    refine aw ((q+1,p4)) ?_ ?_ (h5:=?_) (h7:=?_)
    ·show q+1≤2;omega
    ·show 2-(q+1)<2-q;omega
    ·simp only [← ku (b.getD i 0) (show q<2 by omega),← Zb]
     exact .cons (cI O) (.cons I .nil)
    ·simp only [← ku (b.getD i 0) (show q<2 by omega),← Zb]
     exact aP.refl _
   refine U 9911200 ?_
   refine au (aY 1 1 er fun p3=>?_)
   refine aq (aR (l2:=[hx (ye (b.getD i 0) q)]) rfl rfl rfl (YG _) (fun _ _=>I) (aW rfl (.inl rfl) jD) rfl (ck (.cons (cI ((Tj O h16))) .nil)) Tryz.underlying23 fY ix er mx rfl (by (simp at *;omega)) (dz rfl rfl) rfl rfl (fun p4=>?_))
   refine U 8519200840051 ?_
   refine aw ((q+1,p4)) ?_ ?_ (h5:=?_) (h7:=?_)
   ·show q+1≤2;omega
   ·show 2-(q+1)<2-q;omega
   ·simp only [← ku (b.getD i 0) (show q<2 by omega),← Zb]
    exact .cons (cI O) (.cons I .nil)
   ·simp only [← ku (b.getD i 0) (show q<2 by omega),← Zb]
    exact aP.refl _
theorem LH {gs:List Nat} (k:Z) (hk:k.length≤1000000):cc gs Tryz.prog 80 [aV k] (an (uC k)):=by
 obtain ⟨d,hd⟩:∃ d,d=lG k (bP [105,100] []):=⟨_,rfl⟩
 have hdl:d.length=32:=by rw [hd];exact m8 _ _
 have hid:bg (d.take 16)=uC k:=by unfold uC;rw [hd]
 refine aj 8 Tryz.func80 fun al w0 F0 St0=>?_;refine U 16516 ?_
 refine au (ar (EA k [105,100] [] hk GT) ?_ (ho:=rfl) (he:=(.cons (se rfl I) (.cons (se rfl I) (.cons (se rfl (aa.nilS' rfl)) .nil)))))
 refine au (cl (n:=32) iJ rfl fun p1=>?_)
 refine aq (bo 32 (bc d) ?_ ?_)
 ·exact (fun j hj=>by rw [hd];exact gM (lG k (bP [105,100] [])) _ j hj)
 refine U 65 ?_;refine jq (iN rfl rfl (.inl rfl) jD Tryz.underlying129 ix (bG _ _) (cw rfl (show (16:Int)=((16:Nat):Int) from rfl)) (by (omega)) (by (omega)) (by (omega)) rfl) ?_;refine aI (freeze 0 rfl) ?_;refine aI (kg 6 (fun j _=>bc (d.take 16) j) rfl rfl jD (fun a b ha hb=>aa.of_eq (by rw [show 0+(a * 1+b)=a by omega];unfold bc;rw [YH,YH,ZV,YF ha]))) ?_;refine aI (aS 6 (aV (d.take 16)) (aa.rs (by rw [YS];omega) (fun a b ha hb=>I))) ?_
 refine au (ar (Ez (d.take 16) (by rw [YS];omega)) ?_)
 refine U 8000700051 ?_
 rw [hid];exact I
section
open Go.RowKit Cal
theorem If {gs:List Nat} (a:AA) (b:Z) (hF:a.kind=3∨a.kind=6∨a.kind=7∨a.kind=10) (hb:b.length≤1000000):AC gs Tryz.prog 141 [] [nu a,aV b] (jt a b):=by
 refine aj 126 Tryz.func141 fun al w0 F0 St0=>?_;refine dP ?_
 refine au (ff 4 fun p1=>?_)
 refine au (cl (n:=5) eQ rfl fun p2=>?_)
 refine U 5126720550906751 ?_;refine ap (fun h246=>?_) fun h246=>?_
 ·refine U 169000810 ?_
  refine au (ar (yP b) ?_)
  refine U 121675119009001 ?_;refine aK 26 (fun g248=>?_) fun g248=>?_
  rotate_left
  ·refine U 1681030055004444444444 ?_;refine jq (ai (n:=5) rfl eQ ib rfl rfl) ?_;refine U 1 ?_
   refine aq (aA 5 ?_)
   refine U 30005000700051 ?_
   have hs:=said_34 (a:=a) O b
   have hq:jt a b (.tup 2 (fl [gR (vN (cg b).1),.c (.int .i64 ((aX b a.least a.most).2:Nat))])) []:=⟨⟨_,by rw [hs],fun h0=>by rw [hs] at h0 ⊢;simp only;rw [km h0]⟩,rfl⟩
   exact bu (.inl rfl) [] jD rfl (bB rfl (bD 5) bJ) (cT iD (cI (by unfold aX;(rw [jP];done)))) hq
  refine U 125010001 ?_;refine aK 31 (fun g248_2=>?_) fun g248_2=>?_
  ·refine U 16851200900051000000001000000004444 ?_;refine jq (ai (n:=5) rfl eQ ib rfl rfl) ?_;refine U 1 ?_
   refine aq (aA 5 ?_)
   refine U 30005000700051 ?_
   have hs:=said_34 (a:=a) O b
   have hq:jt a b (.tup 2 (fl [gR (vN (cg b).1),.c (.int .i64 ((aX b a.least a.most).2:Nat))])) []:=⟨⟨_,by rw [hs],fun h0=>by rw [hs] at h0 ⊢;simp only;rw [km h0]⟩,rfl⟩
   exact bu (.inl rfl) [] jD rfl (bB rfl (bD 5) bJ) (cT iD (cI (by unfold aX;(rw [jK,jP];rfl)))) hq
  refine U 510000000050025050000001 ?_;refine ap (fun h248=>?_) fun h248=>?_
  rotate_left
  ·refine U 16810 ?_;refine jq (ai (n:=5) rfl eQ ib rfl rfl) ?_;refine U 1 ?_
   refine aq (aA 5 ?_)
   refine U 30005000700051 ?_
   have hs:=said_34 (a:=a) O b
   have hq:jt a b (.tup 2 (fl [gR (vN (cg b).1),.c (.int .i64 ((aX b a.least a.most).2:Nat))])) []:=⟨⟨_,by rw [hs],fun h0=>by rw [hs] at h0 ⊢;simp only;rw [km h0]⟩,rfl⟩
   exact bu (.inl rfl) [] jD rfl (bB rfl (bD 5) bJ) (cT iD (cI (by unfold aX;(rw [jK,jK];simp only;omega)))) hq
  refine U 16851200 ?_;refine jq (ai (n:=5) rfl eQ ib rfl rfl) ?_;refine U 1 ?_
  refine aq (aA 5 ?_)
  refine U 30005000700051 ?_
  have hs:=said_34 (a:=a) O b
  have hq:jt a b (.tup 2 (fl [gR (vN (cg b).1),.c (.int .i64 ((aX b a.least a.most).2:Nat))])) []:=⟨⟨_,by rw [hs],fun h0=>by rw [hs] at h0 ⊢;simp only;rw [km h0]⟩,rfl⟩
  exact bu (.inl rfl) [] jD rfl (bB rfl (bD 5) bJ) (cT iD (cI (by unfold aX;(rw [jK,jP];rfl)))) hq
 refine U 8512200 ?_;refine ap (fun h246_2=>?_) fun h246_2=>?_
 ·refine U 16 ?_
  refine au (ar (yP b) ?_)
  refine U 121675119009001 ?_;refine aK 26 (fun g248=>?_) fun g248=>?_
  rotate_left
  ·refine U 1681030055004444444444 ?_;refine jq (ai (n:=5) rfl eQ ib rfl rfl) ?_;refine U 1 ?_
   refine aq (aA 5 ?_)
   refine U 30005000700051 ?_
   have hs:=said_34 (a:=a) O b
   have hq:jt a b (.tup 2 (fl [gR (vN (cg b).1),.c (.int .i64 ((aX b a.least a.most).2:Nat))])) []:=⟨⟨_,by rw [hs],fun h0=>by rw [hs] at h0 ⊢;simp only;rw [km h0]⟩,rfl⟩
   exact bu (.inl rfl) [] jD rfl (bB rfl (bD 5) bJ) (cT iD (cI (by unfold aX;(rw [jK,jK];simp only;omega)))) hq
  refine U 125010001 ?_;refine aK 31 (fun g248_2=>?_) fun g248_2=>?_
  ·refine U 16851200900051000000001000000004444 ?_;refine jq (ai (n:=5) rfl eQ ib rfl rfl) ?_;refine U 1 ?_
   refine aq (aA 5 ?_)
   refine U 30005000700051 ?_
   have hs:=said_34 (a:=a) O b
   have hq:jt a b (.tup 2 (fl [gR (vN (cg b).1),.c (.int .i64 ((aX b a.least a.most).2:Nat))])) []:=⟨⟨_,by rw [hs],fun h0=>by rw [hs] at h0 ⊢;simp only;rw [km h0]⟩,rfl⟩
   exact bu (.inl rfl) [] jD rfl (bB rfl (bD 5) bJ) (cT iD (cI (by unfold aX;(rw [jK,jP];rfl)))) hq
  refine U 510000000050025050000001 ?_;refine ap (fun h248=>?_) fun h248=>?_
  rotate_left
  ·refine U 16810 ?_;refine jq (ai (n:=5) rfl eQ ib rfl rfl) ?_;refine U 1 ?_
   refine aq (aA 5 ?_)
   refine U 30005000700051 ?_
   have hs:=said_34 (a:=a) O b
   have hq:jt a b (.tup 2 (fl [gR (vN (cg b).1),.c (.int .i64 ((aX b a.least a.most).2:Nat))])) []:=⟨⟨_,by rw [hs],fun h0=>by rw [hs] at h0 ⊢;simp only;rw [km h0]⟩,rfl⟩
   exact bu (.inl rfl) [] jD rfl (bB rfl (bD 5) bJ) (cT iD (cI (by unfold aX;(rw [jK,jK];simp only;omega)))) hq
  refine U 16851200 ?_;refine jq (ai (n:=5) rfl eQ ib rfl rfl) ?_;refine U 1 ?_
  refine aq (aA 5 ?_)
  refine U 30005000700051 ?_
  have hs:=said_34 (a:=a) O b
  have hq:jt a b (.tup 2 (fl [gR (vN (cg b).1),.c (.int .i64 ((aX b a.least a.most).2:Nat))])) []:=⟨⟨_,by rw [hs],fun h0=>by rw [hs] at h0 ⊢;simp only;rw [km h0]⟩,rfl⟩
  exact bu (.inl rfl) [] jD rfl (bB rfl (bD 5) bJ) (cT iD (cI (by unfold aX;(rw [jK,jP];rfl)))) hq
 refine U 5126 ?_;refine ap (fun h252=>?_) fun h252=>?_
 ·exfalso;omega
 refine U 5126 ?_;refine ap (fun h260=>?_) fun h260=>?_
 ·refine U 525010003167 ?_;refine ap (fun h261=>?_) fun h261=>?_
  ·refine dP ?_;refine jq (ai (n:=5) rfl eQ ib rfl rfl) ?_
   refine aq (aA 5 ?_)
   refine U 300050003000700051 ?_
   have hs:saidM a b=(vB [],2):=by unfold saidM;rw [jK,jK,jK,jP];unfold iW;rw [jP]
   have hq:jt a b (.tup 2 (fl [gR (VV.none),.c (.int .i64 ((2:Nat):Int))])) []:=⟨⟨_,by rw [hs],fun h0=>by (rw [hs] at h0;exact absurd h0 jD)⟩,rfl⟩
   exact bu (.inl rfl) [] jD rfl (bB rfl (bD 5) bJ) (cT iD (by exact I)) hq
  refine U 525050000003167810 ?_;refine ap (fun h264=>?_) fun h264=>?_
  ·refine dP ?_;refine jq (ai (n:=5) rfl eQ ib rfl rfl) ?_
   refine aq (aA 5 ?_)
   refine U 300050003000700051 ?_
   have hs:saidM a b=(vB [],3):=by unfold saidM;rw [jK,jK,jK,jP];unfold iW;rw [jK,jP]
   have hq:jt a b (.tup 2 (fl [gR (VV.none),.c (.int .i64 ((3:Nat):Int))])) []:=⟨⟨_,by rw [hs],fun h0=>by (rw [hs] at h0;exact absurd h0 jD)⟩,rfl⟩
   exact bu (.inl rfl) [] jD rfl (bB rfl (bD 5) bJ) (cT iD (by exact I)) hq
  refine U 16810 ?_;refine jq (ai (n:=5) rfl eQ ib rfl rfl) ?_
  refine aq (aA 5 ?_)
  refine U 30005000700051 ?_
  have hs:saidM a b=(vB b,0):=by unfold saidM;rw [jK,jK,jK,jP];unfold iW;rw [jK,jK]
  have hq:jt a b (.tup 2 (fl [gR (vB b),.c (.int .i64 ((0:Nat):Int))])) []:=⟨⟨_,by rw [hs],fun h0=>by (rw [hs])⟩,rfl⟩
  exact bu (.inl rfl) [] jD rfl (bB rfl (bD 5) bJ) (cT iD (by exact I)) hq
 refine U 5126 ?_;refine ap (fun h268=>?_) fun h268=>?_
 ·refine gY ?_;refine lM 8 (.rd 0 (.rd 1 (.rd 2 (.rd 3 (.rd 4 (.rd 5 (.rd 6 (.one 7 .done)))))))) ?_;refine U 3000000070 ?_;refine aM (ai (n:=5) rfl eQ ib rfl rfl) ?_;refine U 3000000070 ?_;refine aM (fF 3 1 false) ?_;refine w8 gm ?_
  refine ir (ar (yZ b a.most O) ?_)
  refine xP ?_
  show cJ _ _ _ _ _ _
  refine aq (aA 5 ?_)
  refine U 300050007000851 ?_
  have hs:saidM a b=(vT (if ay b a.most=0 then b else []),ay b a.most):=by unfold saidM;rw [jK,jK,jK,jK,jP]
  have hq:jt a b (.tup 2 (fl [gR (vT b),.c (.int .i64 ((ay b a.most:Nat):Int))])) []:=⟨⟨_,by rw [hs],fun h0=>by rw [hs] at h0 ⊢;rw [YF h0]⟩,rfl⟩
  exact bu (.inl rfl) [] jD rfl (bB rfl (bD 5) bJ) (cT iD I) hq
 refine U 5126 ?_;refine ap (fun h270=>?_) fun h270=>?_
 ·exfalso;omega
 refine U 5126 ?_;refine ap (fun h276=>?_) fun h276=>?_
 ·exfalso;omega
 refine U 16840010 ?_
 refine au (ar (LG b hb) ?_)
 refine U 165119009001 ?_;refine jq (ai (n:=5) rfl eQ ib rfl rfl) ?_;refine U 1 ?_
 refine aq (aA 5 ?_)
 refine U 700051 ?_
 have hs:saidM a b=(vN ((aZ b).1:Nat),(aZ b).2):=by unfold saidM;rw [jK,jK,jK,jK,jK,jK,jK]
 have hq:jt a b (.tup 2 (fl [gR (vN ((aZ b).1:Nat)),.c (.int .i64 (((aZ b).2:Nat):Int))])) []:=⟨⟨_,by rw [hs],fun h0=>by rw [hs]⟩,rfl⟩
 exact bu (.inl rfl) [] jD rfl (bB rfl (bD 5) bJ) (cT iD I) hq
def QD (gs:List Nat) (f:FuncId) (l:YD) (k:Nat) (args:List CV) (r:CV) (l':YD) (k':Nat):Prop:=∀ n,AC gs Tryz.prog f [vd n l k] (.op 0 (some n) 0::args) (fun x H'=>x=r∧H'=[vd n l' k'])
theorem gt {gs:List Nat} (l:YD) (k:Nat) (a:AA) (hl:0<l.length∧l.length≤1000000) (hb:(aB l).length≤1000000) (hk:a.kind=1∨a.kind=2∨a.kind=3∨a.kind=6∨a.kind=7∨a.kind=10∨a.kind=11):QD gs 74 l k [nu a] (gR (ac a l k).v) (ac a l k).l (ac a l k).k:=fun n =>
 CE n l k a hl hb fun h1 h2 h3 b hb=>If a b O hb
theorem TS {gs:List Nat} {L2 L3:YD} {K2 K3:Nat} {v:VV} (hv:v.b.length≤100000) (hD:QD gs 74 L2 K2 [nu ⟨6,0,16,16⟩] (gR v) L3 K3):QD gs 76 L2 K2 [] (an (bg v.b)) L3 K3:=fun n=>by
 obtain ⟨b,hb⟩:∃ b,b=v.b:=⟨_,rfl⟩
 rw [← hb] at hv ⊢
 refine aj 47 Tryz.func76 fun al w0 F0 St0=>?_;refine U 16516 ?_;refine jq (ai (n:=4) rfl iK iP rfl rfl) ?_
 refine aq (aQ 0 (hD n) ?_)
 refine jq (S6 3 1) ?_;refine U 51 ?_;refine jE (aS 3 (aV b) (aa.of_eq (by rw [hb];rfl))) ?_;refine dP ?_
 refine au (aY 0 1 er fun p2=>?_)
 refine U 2051316751 ?_;refine ax (α:=Nat×Option Nat) [4,6,8,16,17,18,19,20,21,22,23,24,25,26,27,28,29,30,31,32,33,34,35,36,37,38,39,40,41,42,43,44] (fun (i,g)=>[(16,.c (.int .i64 (i:Nat))),(4,.os 1 g 0 (bg (b.take i)).length 1)]) (fun (i,g)=>[vd n L3 K3,(g,.blk (bg (b.take i)).length (bc (bg (b.take i))))]) (fun (i,g)=>i≤b.length) (fun (i,g)=>b.length-i) ((0,p2)) ?_ (fun _=>rfl) ?_ ?_ ?_
 ·exact YT _
 ·exact .cons I (.cons (cO rfl) .nil)
 ·exact .same (.blk rfl (fun j hj=>absurd hj (YW j)) .nil)
 ·rintro ⟨i,g⟩ (hi:i≤b.length)
  have hbl:=(b.getD i 0).toNat_lt
  have hfl:(bg (b.take i)).length≤2000000:=by rw [eP,YS];omega
  refine U 7526 ?_;refine ap (fun h63=>?_) fun h63=>?_
  rotate_left
  ·refine U 84000200020006000 ?_
   obtain rfl:i=b.length:=by omega
   simp only [Za]
   refine U 16 ?_;refine gw Ns ?_;refine U 700051 ?_
   exact aJ (.inl rfl) rfl (av rfl (ak rfl)) I
  refine U 100000016000001651607006207810 ?_
  refine au (aY 2 1 er fun p3=>?_)
  refine aI (freeze 2 rfl) ?_;refine aI (jC 24 ([UInt8.ofNat ((b.getD i 0).toNat / 16),UInt8.ofNat ((b.getD i 0).toNat % 16)]) rfl rfl rfl rfl (.cons (cI ((by rw [YY];omega))) (.cons (cI ((by rw [YY];omega))) .nil))) ?_;refine U 20513 ?_
  have hl2:[UInt8.ofNat ((b.getD i 0).toNat / 16),UInt8.ofNat ((b.getD i 0).toNat % 16)].length=2:=rfl
  refine jE (cn (H':=[_,_]) [0,1] jD rfl) ?_;refine ax (α:=Nat×Option Nat) [4,8,26,27,28,29,30,31,32,33,34,35,36,37,38,39,40,41,42,43] (fun (q,g)=>[(26,.c (.int .i64 (q:Nat))),(4,.os 1 g 0 (bg (b.take i)++xn (b.getD i 0) q).length 1)]) (fun (q,g)=>[vd n L3 K3,(g,.blk (bg (b.take i)++xn (b.getD i 0) q).length (bc (bg (b.take i)++xn (b.getD i 0) q)))]) (fun (q,g)=>q≤2) (fun (q,g)=>2-q) ((0,g)) ?_ (fun _=>rfl) ?_ ?_ ?_
  ·exact YT _
  ·simp only [xn,a8x,ZH]
   exact .cons I (.cons I .nil)
  ·simp only [xn,a8x,ZH]
   exact aP.refl _
  ·rintro ⟨q,g⟩ (hq:q≤2)
   have h16:=NZ (b.getD i 0) q
   have hql:(xn (b.getD i 0) q).length≤2:=by unfold xn;rw [YS];exact Nat.min_le_right _ _
   have hgl:(bg (b.take i)++xn (b.getD i 0) q).length≤2000002:=by rw [YI];omega
   refine U 7526 ?_;refine ap (fun h64=>?_) fun h64=>?_
   rotate_left
   ·refine U 851920084004000200020006000 ?_
    refine aw ((i+1,g)) ?_ ?_ (h5:=?_) (h7:=?_)
    ·show i+1≤b.length;omega
    ·show b.length-(i+1)<b.length-i;omega
    ·obtain rfl:q=2:=by omega
     have e:bg (b.take i)++xn (b.getD i 0) 2=bg (b.take (i+1)):=(iF O).symm
     simp only [← e]
     exact .cons (cI O) (.cons I .nil)
    ·obtain rfl:q=2:=by omega
     have e:bg (b.take i)++xn (b.getD i 0) 2=bg (b.take (i+1)):=(iF O).symm
     simp only [← e]
     exact aP.refl _
   refine U 51607006207810 ?_;refine jE (aS 8 (.c (.int .u8 ((ye (b.getD i 0) q:Nat):Int))) I) ?_;refine U 5216 ?_;refine ap (fun h65=>?_) fun h65=>?_
   ·refine U 911200 ?_
    refine au (aY 1 1 er fun p4=>?_)
    refine aq (aR (l2:=[hx (ye (b.getD i 0) q)]) rfl rfl rfl (YG _) (fun _ _=>I) (aW rfl (.inl rfl) jD) rfl (ck (.cons (cI ((Th O))) .nil)) Tryz.underlying23 fY ix er mx rfl (by (simp at *;omega)) (dz rfl rfl) rfl rfl (fun p5=>?_))
    refine U 8519200840051 ?_
    refine aw ((q+1,p5)) ?_ ?_ (h5:=?_) (h7:=?_)
    ·show q+1≤2;omega
    ·show 2-(q+1)<2-q;omega
    ·simp only [← ku (b.getD i 0) (show q<2 by omega),← Zb]
     exact .cons (cI O) (.cons I .nil)
    ·simp only [← ku (b.getD i 0) (show q<2 by omega),← Zb]
     exact aP.refl _
   refine U 9911200 ?_
   refine au (aY 1 1 er fun p4=>?_)
   refine aq (aR (l2:=[hx (ye (b.getD i 0) q)]) rfl rfl rfl (YG _) (fun _ _=>I) (aW rfl (.inl rfl) jD) rfl (ck (.cons (cI ((Tj O h16))) .nil)) Tryz.underlying23 fY ix er mx rfl (by (simp at *;omega)) (dz rfl rfl) rfl rfl (fun p5=>?_))
   refine U 8519200840051 ?_
   refine aw ((q+1,p5)) ?_ ?_ (h5:=?_) (h7:=?_)
   ·show q+1≤2;omega
   ·show 2-(q+1)<2-q;omega
   ·simp only [← ku (b.getD i 0) (show q<2 by omega),← Zb]
    exact .cons (cI O) (.cons I .nil)
   ·simp only [← ku (b.getD i 0) (show q<2 by omega),← Zb]
    exact aP.refl _
theorem Qt {gs:List Nat} (n:Nat) (l:YD) (k:Nat) (hl:0<l.length∧l.length≤100000) (hb:cp l≤100000):AC gs Tryz.prog 77 [vd n l k] [.op 0 (some n) 0,.c (.int .i64 8)] (fun x H'=>x=sX (oU l k)∧H'=[vd n (kW l k).1 (kW l k).2]):=by
 have m0:dT l k≤100001:=by unfold dT;split <;> omega
 have n0:=dC m0
 obtain ⟨l1,m1⟩:=ka aL hl m0 jD
 obtain ⟨f1,f2⟩:=gG aL rfl l k
 generalize hl0:(ac aL l k).l=l0 at *
 generalize hk0:(ac aL l k).k=k0 at *
 have e1:ah 48 l k=l0:=f1.symm
 have e2:(ae 48 l k).k=k0:=f2.symm
 have hso:=fun j=>nD ce l0 k0 j
 have hbd:=lF (sp:=ce) (k0:=k0) (most:=8) mc l1.1
 refine aj 30 Tryz.func77 fun al w0 F0 St0=>?_;refine U 6516 ?_
 refine au (aY 0 1 Eg fun p1=>?_)
 refine U 1651 ?_;refine jq (ai (n:=4) rfl iK iP rfl rfl) ?_
 refine aq (aQ 0 ((by have h:=gt (gs:=gs) l k aL O O (.inl rfl) n;rw [hl0,hk0] at h;exact h)) ?_)
 refine U 2075 ?_;refine ax (α:=Nat×Option Nat) [5,10,11,12,13,14,15,16,17,18,19,20,21,22,23,24,25] (fun (j,g)=>[(5,.os 1 g 0 (aD ce l0 k0 j).2.length 1)]) (fun (j,g)=>[vd n (aD ce l0 k0 j).1.1 (aD ce l0 k0 j).1.2,(g,.blk ((aD ce l0 k0 j).2.length * 1) (BR (aD ce l0 k0 j).2))]) (fun p=>∀ i,i<p.1→ma ce l0 k0 8 i=true) (fun p=>dT (aD ce l0 k0 p.1).1.1 (aD ce l0 k0 p.1).1.2) ((0,p1)) ?_ (fun _=>rfl) ?_ ?_ ?_
 ·exact fun i hi=>absurd hi (YW i)
 ·exact .cons (cO rfl) .nil
 ·exact .same (.blk rfl (fun j hj=>absurd hj (YW j)) .nil)
 ·rintro ⟨j,g⟩ (hj:∀ i,i<j→ma ce l0 k0 8 i=true)
  obtain ⟨hmj,hlk,hlo,hhi⟩:=hbd j hj
  have hjl:0<(aD ce l0 k0 j).1.1.length∧(aD ce l0 k0 j).1.1.length≤200000:=by omega
  have hjm:dT (aD ce l0 k0 j).1.1 (aD ce l0 k0 j).1.2≤100001:=by omega
  have hjn:=dC hjm
  have hjo:=hso j
  refine U 167 ?_
  refine aq (aQ 0 (wm n (aD ce l0 k0 j).1.1 (aD ce l0 k0 j).1.2 O) ?_)
  refine U 5 ?_;refine ap (fun h78=>?_) fun h78=>?_
  rotate_left
  ·refine U 84000200020006000 ?_
   first
    |(have hmt1:bN (aD ce l0 k0 j).1.1 (aD ce l0 k0 j).1.2=true:=by simpa using h78
      obtain ⟨hs1,hs2⟩:=sL (most:=8) mc l1.1 hj hmt1 O
      have hDo:=gt (gs:=gs) (aD ce l0 k0 j).1.1 3 aE O O (.inr (.inl rfl)) n)
    |(have hmf1:bN (aD ce l0 k0 j).1.1 (aD ce l0 k0 j).1.2=false:=by simpa using h78
      obtain ⟨hs1,hs2⟩:=vt (most:=8) mc l1.1 hj hmf1
      have hDo:=gt (gs:=gs) (aD ce l0 k0 j).1.1 (aD ce l0 k0 j).1.2 aE O O (.inr (.inl rfl)) n)
   have hE1:(kW l k).1=(co ce l0 k0 8).1:=by unfold kW;rw [e1,e2]
   have hE2:(kW l k).2=(co ce l0 k0 8).2:=by unfold kW;rw [e1,e2]
   have hL:oU l k=(aD ce l0 k0 j).2:=by unfold oU;rw [e1,e2,hs1]
   rw [hs2] at hE1 hE2
   dsimp only at hE1 hE2
   rw [← hE1,← hE2] at hDo
   refine U 16 ?_;refine jq (ai (n:=4) rfl iK iP rfl rfl) ?_
   refine aq (aQ 0 hDo ?_)
   refine U 5 ?_;refine jE (freeze 1 rfl) ?_;refine jE (kg 5 (fun a b=>an ((aD ce l0 k0 j).2.getD a [])) rfl rfl O (fun a b ha hb=>aa.of_eq (by unfold BR;rw [show 0+(a * 1+b)=a by omega]))) ?_;refine U 70005116 ?_
   exact aJ (.inl rfl) rfl (av rfl (ak rfl)) (aa.of_eq (by rw [hL];rfl))
  refine U 521316720810 ?_;refine ap (fun h79=>?_) fun h79=>?_
  rotate_left
  ·refine U 810 ?_
   have hmt0:bN (aD ce l0 k0 j).1.1 (aD ce l0 k0 j).1.2=true:=by simpa using h78
   have hgo:ma ce l0 k0 8 j=true:=by unfold ma;rw [hmt0,Zr,YP];omega
   refine U 11200 ?_;refine jq (ai (n:=4) rfl iK iP rfl rfl) ?_
   refine aq (aQ 0 (gt (aD ce l0 k0 j).1.1 (aD ce l0 k0 j).1.2 Hf O O (.inr (.inr (.inr (.inr (.inl rfl))))) n) ?_)
   refine jq (S6 4 1) ?_
   refine au (aY 1 1 Eg fun p5=>?_)
   refine aq (aF (AQ) (l2:=[(ce (aD ce l0 k0 j).1.1 (aD ce l0 k0 j).1.2).2]) rfl rfl rfl rfl (by exact YG _) (fun _ _=>I) (aW rfl (.inl rfl) jD) rfl (fun j hj=>by rcases j with _|j <;> first|exact I|(exfalso;simp at hj <;> omega)) Tryz.underlying27 MG PY Eg WV rfl (by (simp;omega)) (by (simp;omega)) (bC rfl rfl) rfl rfl rfl (fun p6=>?_))
   refine U 840051 ?_
   refine aw ((j+1,p6)) ?_ ?_ (h5:=?_) (h7:=?_)
   ·exact fun i hi=>if h:i<j then hj i h else (by obtain rfl:i=j:=(by have hi:i<j+1:=hi;omega);exact hgo)
   ·exact mc.mu _ _ O hmt0
   ·exact .cons (cO rfl) .nil
   ·exact aP.refl _
  refine U 1004016 ?_
  refine aq (bo 1 (vc (aD ce l0 k0 j).1.1 3) ?_ ?_)
  ·exact oB
  refine U 84000200080000200060005 ?_
  first
   |(have hmt1:bN (aD ce l0 k0 j).1.1 (aD ce l0 k0 j).1.2=true:=by simpa using h78
     obtain ⟨hs1,hs2⟩:=sL (most:=8) mc l1.1 hj hmt1 O
     have hDo:=gt (gs:=gs) (aD ce l0 k0 j).1.1 3 aE O O (.inr (.inl rfl)) n)
   |(have hmf1:bN (aD ce l0 k0 j).1.1 (aD ce l0 k0 j).1.2=false:=by simpa using h78
     obtain ⟨hs1,hs2⟩:=vt (most:=8) mc l1.1 hj hmf1
     have hDo:=gt (gs:=gs) (aD ce l0 k0 j).1.1 (aD ce l0 k0 j).1.2 aE O O (.inr (.inl rfl)) n)
  have hE1:(kW l k).1=(co ce l0 k0 8).1:=by unfold kW;rw [e1,e2]
  have hE2:(kW l k).2=(co ce l0 k0 8).2:=by unfold kW;rw [e1,e2]
  have hL:oU l k=(aD ce l0 k0 j).2:=by unfold oU;rw [e1,e2,hs1]
  rw [hs2] at hE1 hE2
  dsimp only at hE1 hE2
  rw [← hE1,← hE2] at hDo
  refine U 16 ?_;refine jq (ai (n:=4) rfl iK iP rfl rfl) ?_
  refine aq (aQ 0 hDo ?_)
  refine U 5 ?_;refine jE (freeze 1 rfl) ?_;refine jE (kg 5 (fun a b=>an ((aD ce l0 k0 j).2.getD a [])) rfl rfl O (fun a b ha hb=>aa.of_eq (by unfold BR;rw [show 0+(a * 1+b)=a by omega]))) ?_;refine U 70005116 ?_
  exact aJ (.inl rfl) rfl (av rfl (ak rfl)) (aa.of_eq (by rw [hL];rfl))
theorem Ig {gs:List Nat} (b:Z) {K0 K1 K2 K3 K4 K5 K6 K7 KE:Nat} {L1 L2 L3 L4 L5 L6 L7:YD} {v1 v4 v5 v7:VV} {who:S3} {key:Z} {ts:YD} (hk:key.length≤1000000)
  (hR:AC gs Tryz.prog 73 [] [aV b] (fun r H'=>∃ n,r=.op 0 (some n) 0∧H'=[vd n [b] K0])) (hE:QD gs 74 [b] K0 [nu aL] (gR v1) L1 K1) (hW:QD gs 75 L1 K1 [] (kh who) L2 K2)
  (hI:QD gs 76 L2 K2 [] (an key) L3 K3) (hF:QD gs 74 L3 K3 [nu FQ] (gR v4) L4 K4) (hD:QD gs 74 L4 K4 [nu (nj uF)] (gR v5) L5 K5)
  (hT:QD gs 77 L5 K5 [.c (.int .i64 8)] (sX ts) L6 K6) (hL:QD gs 74 L6 K6 [nu aE] (gR v7) L7 K7) (hN:QD gs 78 L7 K7 [] (.c (.int .i64 (KE:Nat))) L7 K7) :
  cc gs Tryz.prog 22 [aV b] (.tup 2 (fl [kx (gq KE (who,key,v4.n,v5.n,ts)).1,.c (.int .i64 ((gq KE (who,key,v4.n,v5.n,ts)).2:Nat))])):=by
 have hQ:=AN (gs:=gs) (who,key,v4.n,v5.n,ts) hk
 refine aj 49 Tryz.func22 fun al w0 F0 St0=>?_;refine dP ?_
 refine au (cl (n:=7) kR rfl fun p1=>?_)
 refine U 1651 ?_
 refine au (ry hR ?_)
 rintro _ _ ⟨n,rfl,rfl⟩
 refine U 651 ?_;refine jq (ai (n:=7) rfl kR rZ rfl rfl) ?_
 refine au (cl (n:=7) kR rfl fun p2=>?_)
 refine aq (bo 7 (fl [.c (.int .i64 0),an [],an [],an [],.c (.int .i64 0),.c (.int .i64 0),.c (.slice none 0 0)]) ?_ ?_)
 ·exact oB
 refine U 165 ?_;refine jq (ai (n:=4) rfl iK iP rfl rfl) ?_
 refine aq (aQ 1 (hE n) ?_)
 refine U 5 ?_
 dsimp only [List.set_cons_zero,List.set_cons_succ,List.cons_append,List.nil_append,List.length_cons,List.length_nil,Nat.zero_add,Nat.reduceAdd]
 refine U 16 ?_
 refine aq (aQ 1 (hW n) ?_)
 refine jq (fF 0 3 true) ?_
 refine aq (bo 3 (fl [.c (.int .i64 who.1),an who.2.1,an who.2.2,an [],.c (.int .i64 0),.c (.int .i64 0),.c (.slice none 0 0)]) ?_ ?_)
 ·exact oB
 refine U 5 ?_
 dsimp only [List.set_cons_zero,List.set_cons_succ,List.cons_append,List.nil_append,List.length_cons,List.length_nil,Nat.zero_add,Nat.reduceAdd]
 refine U 16 ?_
 refine aq (aQ 1 (hI n) ?_)
 refine U 5000000 ?_
 refine aq (bo 1 (fl [.c (.int .i64 who.1),an who.2.1,an who.2.2,an key,.c (.int .i64 0),.c (.int .i64 0),.c (.slice none 0 0)]) ?_ ?_)
 ·exact oB
 refine U 5 ?_
 dsimp only [List.set_cons_zero,List.set_cons_succ,List.cons_append,List.nil_append,List.length_cons,List.length_nil,Nat.zero_add,Nat.reduceAdd]
 refine U 16 ?_;refine jq (ai (n:=4) rfl iK iP rfl rfl) ?_
 refine aq (aQ 1 (hF n) ?_)
 refine jq (S6 1 1) ?_;refine U 7000000 ?_
 refine aq (bo 1 (fl [.c (.int .i64 who.1),an who.2.1,an who.2.2,an key,.c (.int .i64 v4.n),.c (.int .i64 0),.c (.slice none 0 0)]) ?_ ?_)
 ·exact oB
 refine U 5 ?_
 dsimp only [List.set_cons_zero,List.set_cons_succ,List.cons_append,List.nil_append,List.length_cons,List.length_nil,Nat.zero_add,Nat.reduceAdd]
 refine U 16 ?_;refine jq (ai (n:=4) rfl iK iP rfl rfl) ?_
 refine aq (aQ 1 (hD n) ?_)
 refine jq (S6 1 1) ?_;refine U 6000000 ?_
 refine aq (bo 1 (fl [.c (.int .i64 who.1),an who.2.1,an who.2.2,an key,.c (.int .i64 v4.n),.c (.int .i64 v5.n),.c (.slice none 0 0)]) ?_ ?_)
 ·exact oB
 refine U 5 ?_
 dsimp only [List.set_cons_zero,List.set_cons_succ,List.cons_append,List.nil_append,List.length_cons,List.length_nil,Nat.zero_add,Nat.reduceAdd]
 refine U 16 ?_
 refine aq (aQ 1 (hT n) ?_)
 refine U 20000000 ?_
 refine aq (bo 1 (LJ (who,key,v4.n,v5.n,ts)) ?_ ?_)
 ·exact oB
 refine U 5 ?_
 dsimp only [List.set_cons_zero,List.set_cons_succ,List.cons_append,List.nil_append,List.length_cons,List.length_nil,Nat.zero_add,Nat.reduceAdd]
 refine U 16 ?_;refine jq (ai (n:=4) rfl iK iP rfl rfl) ?_
 refine aq (aQ 1 (hL n) ?_)
 refine U 5 ?_
 dsimp only [List.set_cons_zero,List.set_cons_succ,List.cons_append,List.nil_append,List.length_cons,List.length_nil,Nat.zero_add,Nat.reduceAdd]
 refine U 16 ?_
 refine aq (aQ 1 (hN n) ?_)
 refine U 1216751 ?_;refine aK 39 (fun g47=>?_) fun g47=>?_
 rotate_left
 ·refine U 521678103005500444 ?_;refine ap (fun h50=>?_) fun h50=>?_
  rotate_left
  ·refine U 6810 ?_;refine gw (bq 7) ?_
   refine aq (aA 7 ?_)
   refine U 51 ?_
   refine jR (eA (hres:=bB rfl (bD 7) bJ) (hv:=?_))
   first
    |(exfalso;omega)
    |(rw [show gq KE (who,key,v4.n,v5.n,ts)=((who,key,v4.n,v5.n,ts),0) by unfold gq;rw [jP,YF (by simp_all)]]
      exact cT iD I)
  refine dP ?_;refine jq (ai (n:=7) rfl kR rZ rfl rfl) ?_;refine U 1 ?_
  refine aq (aA 7 ?_)
  refine U 51 ?_
  refine jR (kq (eA (hres:=bB rfl (bD 7) bJ) (hv:=?_)))
  first
   |(rw [show gq KE (who,key,v4.n,v5.n,ts)=(ut,KE) by unfold gq;rw [jK]]
     exact cT (gU fun j hj=>by rcases j with _|_|_|_|_|_|_|j <;> first|exact I|exact aa.nilS' rfl|omega) I)
   |(rw [show gq KE (who,key,v4.n,v5.n,ts)=(ut,4) by unfold gq;rw [jP,YE (by simp_all)]]
     exact cT (gU fun j hj=>by rcases j with _|_|_|_|_|_|_|j <;> first|exact I|exact aa.nilS' rfl|omega) I)
 refine gw (bq 7) ?_
 refine au (ar hQ ?_ (ho:=rfl) (he:=(.cons (se rfl (aa.agg rfl (fun j hj=>aa.of_eq (by rw [Nat.zero_add])))) .nil)))
 refine U 510000000030 ?_;refine ap (fun h47=>?_) fun h47=>?_
 rotate_left
 ·refine U 52167810 ?_;refine ap (fun h50=>?_) fun h50=>?_
  rotate_left
  ·refine U 6810 ?_;refine gw (bq 7) ?_
   refine aq (aA 7 ?_)
   refine U 51 ?_
   refine jR (eA (hres:=bB rfl (bD 7) bJ) (hv:=?_))
   first
    |(exfalso;omega)
    |(rw [show gq KE (who,key,v4.n,v5.n,ts)=((who,key,v4.n,v5.n,ts),0) by unfold gq;rw [jP,YF (by simp_all)]]
      exact cT iD I)
  refine dP ?_;refine jq (ai (n:=7) rfl kR rZ rfl rfl) ?_;refine U 1 ?_
  refine aq (aA 7 ?_)
  refine U 51 ?_
  refine jR (kq (eA (hres:=bB rfl (bD 7) bJ) (hv:=?_)))
  first
   |(rw [show gq KE (who,key,v4.n,v5.n,ts)=(ut,KE) by unfold gq;rw [jK]]
     exact cT (gU fun j hj=>by rcases j with _|_|_|_|_|_|_|j <;> first|exact I|exact aa.nilS' rfl|omega) I)
   |(rw [show gq KE (who,key,v4.n,v5.n,ts)=(ut,4) by unfold gq;rw [jP,YE (by simp_all)]]
     exact cT (gU fun j hj=>by rcases j with _|_|_|_|_|_|_|j <;> first|exact I|exact aa.nilS' rfl|omega) I)
 refine U 52167851200 ?_;refine ap (fun h50=>?_) fun h50=>?_
 rotate_left
 ·refine U 6810 ?_;refine gw (bq 7) ?_
  refine aq (aA 7 ?_)
  refine U 51 ?_
  refine jR (eA (hres:=bB rfl (bD 7) bJ) (hv:=?_))
  first
   |(exfalso;omega)
   |(rw [show gq KE (who,key,v4.n,v5.n,ts)=((who,key,v4.n,v5.n,ts),0) by unfold gq;rw [jP,YF (by simp_all)]]
     exact cT iD I)
 refine dP ?_;refine jq (ai (n:=7) rfl kR rZ rfl rfl) ?_;refine U 1 ?_
 refine aq (aA 7 ?_)
 refine U 51 ?_
 refine jR (kq (eA (hres:=bB rfl (bD 7) bJ) (hv:=?_)))
 first
  |(rw [show gq KE (who,key,v4.n,v5.n,ts)=(ut,KE) by unfold gq;rw [jK]]
    exact cT (gU fun j hj=>by rcases j with _|_|_|_|_|_|_|j <;> first|exact I|exact aa.nilS' rfl|omega) I)
  |(rw [show gq KE (who,key,v4.n,v5.n,ts)=(ut,4) by unfold gq;rw [jP,YE (by simp_all)]]
    exact cT (gU fun j hj=>by rcases j with _|_|_|_|_|_|_|j <;> first|exact I|exact aa.nilS' rfl|omega) I)
theorem GS {l:YD} {k:Nat} (h:(aB l).length≤100000):(ac ⟨6,0,16,16⟩ l k).v.b.length≤100000:=by
 have hbd:=ek (aB l)
 have hbb:(ab 4 l k).body.length≤100000:=by
  unfold ab
  repeat' split
  all_goals (simp only [List.length_nil];omega)
 unfold ac
 rw [YE jD,YE jD,YE jD]
 unfold eH
 split
 ·show (saidM ⟨6,0,16,16⟩ (ab 4 l k).body).1.b.length≤_
  show (iW 16 16 (ab 4 l k).body).1.length≤_
  unfold iW
  repeat' split
  all_goals (simp only [List.length_nil];omega)
 ·simp [VV.none]
theorem Gl {gs:List Nat} {l:YD} {k:Nat} {a:AA} {g:Vv} (hg:g=ac a l k) (hl:0<l.length∧l.length≤1000000) (hb:(aB l).length≤1000000) (hk:a.kind=1∨a.kind=2∨a.kind=3∨a.kind=6∨a.kind=7∨a.kind=10∨a.kind=11):QD gs 74 l k [nu a] (gR g.v) g.l g.k:=by
 subst hg;exact gt l k a hl hb hk
theorem Qs {gs:List Nat} {l:YD} {k:Nat} {e:YD×Nat} {v:YD} (he:e=kW l k) (hv:v=oU l k) (hl:0<l.length∧l.length≤100000) (hb:cp l≤100000):QD gs 77 l k [.c (.int .i64 8)] (sX v) e.1 e.2:=by
 subst he;subst hv;exact fun n=>Qt n l k hl hb
theorem LE {gs:List Nat} {l:YD} {k:Nat} {g:(YD×Nat)×V4} (h1:g.1=(eG l k).1) (h2:g.2.who=(eG l k).2) (hl:0<l.length∧l.length≤100000) (hb:cp l≤100000):QD gs 75 l k [] (kh g.2.who) g.1.1 g.1.2:=by
 rw [h1,h2];exact fun n=>LF n l k hl hb
theorem Gi {gs:List Nat} {l:YD} {k K:Nat} (hK:K=jk l k) (hl:0<l.length∧l.length≤1000000):QD gs 78 l k [] (.c (.int .i64 (K:Nat))) l k:=by
 subst hK;exact fun n=>Ip n l k hl
attribute [local irreducible] g2 g3 g4 g5 g6 lZ oN gK eG kW oU ac jk bb aC in
theorem wd {gs:List Nat} (b:Z) (hb:b.length≤90000):cc gs Tryz.prog 22 [aV b] (.tup 2 (fl [kx (dS b).1,.c (.int .i64 ((dS b).2:Nat))])):=by
 have B:=Vm hb
 have n1:=dC B.m1
 have n2:=dC B.m2
 have n3:=dC B.m3
 have n4:=dC B.m4
 have n5:=dC B.m5
 obtain ⟨f1,f2⟩:=gG aL rfl [b] (aN b).2
 obtain ⟨p1,p2⟩:=gF aE rfl (g6 b).1 (g6 b).2
 have hE:=gt (gs:=gs) [b] (aN b).2 aL (by simp) (by show b.length≤_;omega) (.inl rfl)
 rw [f1,f2,show ah aL.tag [b] (aN b).2=lZ b by unfold lZ;rfl,show (ae aL.tag [b] (aN b).2).k=oN b by unfold oN;rfl] at hE
 have hI:=TS (gs:=gs) (L2:=(g2 b).1.1) (K2:=(g2 b).1.2) (GS O) (gt (gs:=gs) (g2 b).1.1 (g2 b).1.2 ⟨6,0,16,16⟩ ⟨B.l2.1,by have:=B.l2.2;omega⟩ O (by simp))
 have hL:=gt (gs:=gs) (g6 b).1 (g6 b).2 aE ⟨B.l6.1,by have:=B.l6.2;omega⟩ (by have:=dC B.m6;omega) (.inr (.inl rfl))
 rw [p1,p2] at hL
 have hid:(g3 b)=(((ac ⟨6,0,16,16⟩ (g2 b).1.1 (g2 b).1.2).l,(ac ⟨6,0,16,16⟩ (g2 b).1.1 (g2 b).1.2).k),⟨(ac ⟨6,0,16,16⟩ (g2 b).1.1 (g2 b).1.2).v.n,(ac ⟨6,0,16,16⟩ (g2 b).1.1 (g2 b).1.2).v.t,(ac ⟨6,0,16,16⟩ (g2 b).1.1 (g2 b).1.2).v.b,dw⟩):=by unfold g3 cQ;rw [YE jD];rfl
 have hdu:(g5 b)=(((ac (nj uF) (g4 b).l (g4 b).k).l,(ac (nj uF) (g4 b).l (g4 b).k).k),⟨(ac (nj uF) (g4 b).l (g4 b).k).v.n,(ac (nj uF) (g4 b).l (g4 b).k).v.t,(ac (nj uF) (g4 b).l (g4 b).k).v.b,dw⟩):=by unfold g5 cQ;rw [YE jD]
 have hgs:g2 b=((eG (lZ b) (oN b)).1,⟨0,[],[],(eG (lZ b) (oN b)).2⟩):=by unfold g2 cQ;rw [YF (show lS.call=0 from rfl)]
 have hW:QD gs 75 (lZ b) (oN b) [] (kh (g2 b).2.who) (g2 b).1.1 (g2 b).1.2:=LE (g:=g2 b) (by rw [hgs]) (by rw [hgs]) ⟨B.l1.1,by have:=B.l1.2;omega⟩ (wQ B.m1)
 have hI':QD gs 76 (g2 b).1.1 (g2 b).1.2 [] (an (bg (g3 b).2.b)) (g3 b).1.1 (g3 b).1.2:=by rw [hid];exact hI
 have hF:QD gs 74 (g3 b).1.1 (g3 b).1.2 [nu FQ] (gR (g4 b).v) (g4 b).l (g4 b).k:=Gl (show g4 b=ac FQ (g3 b).1.1 (g3 b).1.2 by unfold g4;rfl) ⟨B.l3.1,by have:=B.l3.2;omega⟩ O (by simp [FQ])
 have hD:QD gs 74 (g4 b).l (g4 b).k [nu (nj uF)] (gR (ac (nj uF) (g4 b).l (g4 b).k).v) (g5 b).1.1 (g5 b).1.2:=by
  rw [hdu]
  exact gt (gs:=gs) (g4 b).l (g4 b).k (nj uF) ⟨B.l4.1,by have:=B.l4.2;omega⟩ O (by simp [nj,uF])
 have hT:QD gs 77 (g5 b).1.1 (g5 b).1.2 [.c (.int .i64 8)] (sX (oU (g5 b).1.1 (g5 b).1.2)) (g6 b).1 (g6 b).2:=Qs (show g6 b=kW (g5 b).1.1 (g5 b).1.2 by unfold g6;rfl) rfl ⟨B.l5.1,by have:=B.l5.2;omega⟩ (wQ B.m5)
 have hN:QD gs 78 (bb (g6 b).1 (g6 b).2) (aC (g6 b).1 (g6 b).2) [] (.c (.int .i64 (gK b:Nat))) (bb (g6 b).1 (g6 b).2) (aC (g6 b).1 (g6 b).2):=Gi (show gK b=jk (bb (g6 b).1 (g6 b).2) (aC (g6 b).1 (g6 b).2) by unfold gK;rfl) ⟨B.l7.1,by have:=B.l7.2;omega⟩
 have hkl:(bg (g3 b).2.b).length≤1000000:=by
  rw [eP,hid]
  have:=GS (l:=(g2 b).1.1) (k:=(g2 b).1.2) O
  show 2 * (ac ⟨6,0,16,16⟩ (g2 b).1.1 (g2 b).1.2).v.b.length≤_
  omega
 have h:=Ig b hkl (we (gs:=gs) b O) hE hW hI' hF hD hT hL hN
 have e:(ac (nj uF) (g4 b).l (g4 b).k).v.n=(g5 b).2.n:=by rw [hdu]
 rw [e] at h
 have e2:dS b=gq (gK b) ((g2 b).2.who,bg (g3 b).2.b,(g4 b).v.n,(g5 b).2.n,oU (g5 b).1.1 (g5 b).1.2):=by unfold dS Bt;rfl
 rw [e2]
 exact h
section
variable {gs:List Nat} {q:Q5}
end
end
section
open Go.RowKit Cal
section
variable {gs:List Nat} [dK gs] [qI gs]
theorem HP {gs:List Nat} [dK gs] (b:Z) {K0 K1 K2 K3 K4 KE:Nat} {L1 L2 L3 L4:YD} {is:Bool} {v s:Z}
  (hR:AC gs Tryz.prog 56 [] [aV b] (fun r H'=>∃ n,r=.op 0 (some n) 0∧H'=[el n [b] K0])) (hE:RD gs 57 [b] K0 [.c (.int .i64 48)] (.c (.bool is)) L1 K1) (hW:RD gs 91 L1 K1 [] (aV v) L2 K2)
  (hI:RD gs 59 L2 K2 [.c (.int .i64 32),.c (.int .i64 32)] (aV s) L3 K3) (hL:RD gs 65 L3 K3 [] (.c (.tuple #[])) L4 K4) (hN:RD gs 66 L4 K4 [] (.err KE) L4 K4) :
  cc gs Tryz.prog 34 [aV b] (.tup 3 (fl [aV (oO KE v s).1,aV (oO KE v s).2.1,.err (oO KE v s).2.2])):=by
 refine aj 26 Tryz.func34 fun al w0 F0 St0=>?_;refine U 1651116 ?_
 refine au (ry hR ?_)
 rintro _ _ ⟨n,rfl,rfl⟩
 refine U 1651 ?_
 refine aq (aQ 0 (hE n) ?_)
 refine U 165 ?_
 refine aq (aQ 0 (hW n) ?_)
 refine U 1651 ?_
 refine aq (aQ 0 (hI n) ?_)
 refine U 1651 ?_
 refine aq (aQ 0 (hL n) ?_)
 refine U 1675 ?_
 refine aq (aQ 0 (hN n) ?_)
 refine U 55000001651 ?_;refine ap (fun h125=>?_) fun h125=>?_
 ·refine U 800030007000511116 ?_
  rw [show oO KE v s=([],[],KE) by unfold oO;rw [jK]]
  exact aa.tup3 cN cN I
 refine U 800070005111116810 ?_
 rw [show oO KE v s=(v,s,0) by unfold oO;rw [jP]]
 exact aa.tup3 I I aa.nil
theorem EB {gs:List Nat} (b:Z) {K0 K1 K2 K3 K4 KE:Nat} {L1 L2 L3 L4:YD} {v1 v2 v3 v4:VV}
  (hR:AC gs Tryz.prog 73 [] [aV b] (fun r H'=>∃ n,r=.op 0 (some n) 0∧H'=[vd n [b] K0])) (hE:QD gs 74 [b] K0 [nu aL] (gR v1) L1 K1) (hW:QD gs 74 L1 K1 [nu Ts] (gR v2) L2 K2)
  (hI:QD gs 74 L2 K2 [nu ⟨6,0,32,32⟩] (gR v3) L3 K3) (hL:QD gs 74 L3 K3 [nu aE] (gR v4) L4 K4) (hN:QD gs 78 L4 K4 [] (.c (.int .i64 (KE:Nat))) L4 K4) :
  cc gs Tryz.prog 37 [aV b] (.tup 3 (fl [aV (oO KE v2.b v3.b).1,aV (oO KE v2.b v3.b).2.1,.c (.int .i64 ((oO KE v2.b v3.b).2.2:Nat))])):=by
 refine aj 32 Tryz.func37 fun al w0 F0 St0=>?_;refine U 1651116 ?_
 refine au (ry hR ?_)
 rintro _ _ ⟨n,rfl,rfl⟩
 refine U 1651 ?_;refine jq (ai (n:=4) rfl iK iP rfl rfl) ?_
 refine aq (aQ 0 (hE n) ?_)
 refine U 165 ?_;refine jq (ai (n:=4) rfl iK iP rfl rfl) ?_
 refine aq (aQ 0 (hW n) ?_)
 refine jq (S6 3 1) ?_;refine U 1651 ?_;refine jq (ai (n:=4) rfl iK iP rfl rfl) ?_
 refine aq (aQ 0 (hI n) ?_)
 refine jq (S6 3 1) ?_;refine U 1651 ?_;refine jq (ai (n:=4) rfl iK iP rfl rfl) ?_
 refine aq (aQ 0 (hL n) ?_)
 refine U 1675 ?_
 refine aq (aQ 0 (hN n) ?_)
 refine U 521651 ?_;refine ap (fun h148=>?_) fun h148=>?_
 ·refine U 800030007000511116 ?_
  rw [show oO KE v2.b v3.b=([],[],KE) by unfold oO;rw [jK]]
  exact aa.tup3 cN cN I
 refine U 800070005111116810 ?_
 rw [show oO KE v2.b v3.b=(v2.b,v3.b,0) by unfold oO;rw [jP]]
 exact aa.tup3 I I I
theorem Ui {gs:List Nat} [dK gs] {l:YD} {k:Nat} {g:Vv} (hg:g=ac Ts l k) (hl:0<l.length∧l.length≤1000000) (hb:(aB l).length≤10000000):RD gs 91 l k [] (aV g.v.b) g.l g.k:=by
 have e:ac Ts l k=⟨(ab 0 l k).l,(ab 0 l k).k,vB (ab 0 l k).raw⟩:=by unfold ac;rw [YE jD,YE jD,YF jD]
 rw [hg,e];exact fun n=>L9 n l k hl hb
theorem Uw {gs:List Nat} [dK gs] {l:YD} {k:Nat} {a z:Int} {g:(YD×Nat)×V4} (hg:g=cQ ⟨6,a,z⟩ l k) (hl:0<l.length∧l.length≤1000000) (hb:(aB l).length≤10000000):RD gs 59 l k [.c (.int .i64 a),.c (.int .i64 z)] (aV g.2.b) g.1.1 g.1.2:=by
 subst hg;exact fun n=>GA n l k a z hl hb
theorem M5 {gs:List Nat} [dK gs] {l:YD} {k:Nat} (hl:0<l.length∧l.length≤1000000):RD gs 65 l k [] (.c (.tuple #[])) (bb l k) (aC l k):=fun n=>lI n l k hl
theorem U9 {gs:List Nat} [dK gs] {l:YD} {k K:Nat} (hK:K=jk l k) (hl:0<l.length∧l.length≤1000000):RD gs 66 l k [] (.err K) l k:=by
 subst hK;exact fun n=>DM n l k hl
attribute [local irreducible] kS jy Po lZ oN ac jk bb aC in
theorem vS {gs:List Nat} [dK gs] (b:Z) (hb:b.length≤90000):cc gs Tryz.prog 34 [aV b] (.tup 3 (fl [aV (bS b).1,aV (bS b).2.1,.err (bS b).2.2])):=by
 have B:=Vl hb
 have n1:=dC B.m1
 have n2:=dC B.m2
 have hE:RD gs 57 [b] (aN b).2 [.c (.int .i64 48)] (.c (.bool (ae 48 [b] (aN b).2).is)) (lZ b) (oN b):=by
  unfold lZ oN
  exact fun n=>px (gs:=gs) n [b] (aN b).2 48 (by simp) (by show b.length≤_;omega)
 have hW:RD gs 91 (lZ b) (oN b) [] (aV (kS b).v.b) (kS b).l (kS b).k:=Ui (g:=kS b) (by unfold kS;rfl) ⟨B.l1.1,by have:=B.l1.2;omega⟩ O
 have hI:RD gs 59 (kS b).l (kS b).k [.c (.int .i64 32),.c (.int .i64 32)] (aV (jy b).2.b) (jy b).1.1 (jy b).1.2:=Uw (g:=jy b) (by unfold jy;rfl) ⟨B.l2.1,by have:=B.l2.2;omega⟩ O
 have hL:=M5 (gs:=gs) (l:=(jy b).1.1) (k:=(jy b).1.2) ⟨B.l3.1,by have:=B.l3.2;omega⟩
 have hN:RD gs 66 (bb (jy b).1.1 (jy b).1.2) (aC (jy b).1.1 (jy b).1.2) [] (.err (Po b)) (bb (jy b).1.1 (jy b).1.2) (aC (jy b).1.1 (jy b).1.2):=U9 (by unfold Po;rfl) ⟨B.l4.1,by have:=B.l4.2;omega⟩
 have h:=HP b (yU (gs:=gs) b O) hE hW hI hL hN
 exact h
attribute [local irreducible] kS jy Po lZ oN ac jk bb aC in
theorem Cr {gs:List Nat} (b:Z) (hb:b.length≤90000):cc gs Tryz.prog 37 [aV b] (.tup 3 (fl [aV (bS b).1,aV (bS b).2.1,.c (.int .i64 ((bS b).2.2:Nat))])):=by
 have B:=Vl hb
 have n1:=dC B.m1
 have n2:=dC B.m2
 have n3:=dC B.m3
 obtain ⟨f1,f2⟩:=gG aL rfl [b] (aN b).2
 obtain ⟨p1,p2⟩:=gF aE rfl (jy b).1.1 (jy b).1.2
 have hE:=gt (gs:=gs) [b] (aN b).2 aL (by simp) (by show b.length≤_;omega) (.inl rfl)
 rw [f1,f2,show ah aL.tag [b] (aN b).2=lZ b by unfold lZ;rfl,show (ae aL.tag [b] (aN b).2).k=oN b by unfold oN;rfl] at hE
 have hW:QD gs 74 (lZ b) (oN b) [nu Ts] (gR (kS b).v) (kS b).l (kS b).k:=Gl (g:=kS b) (by unfold kS;rfl) ⟨B.l1.1,by have:=B.l1.2;omega⟩ O (by simp [Ts])
 have hsg:jy b=(((ac ⟨6,0,32,32⟩ (kS b).l (kS b).k).l,(ac ⟨6,0,32,32⟩ (kS b).l (kS b).k).k),⟨(ac ⟨6,0,32,32⟩ (kS b).l (kS b).k).v.n,(ac ⟨6,0,32,32⟩ (kS b).l (kS b).k).v.t,(ac ⟨6,0,32,32⟩ (kS b).l (kS b).k).v.b,dw⟩):=by unfold jy cQ;rw [YE jD];rfl
 have hI:QD gs 74 (kS b).l (kS b).k [nu ⟨6,0,32,32⟩] (gR (ac ⟨6,0,32,32⟩ (kS b).l (kS b).k).v) (jy b).1.1 (jy b).1.2:=by
  rw [hsg]
  exact gt (gs:=gs) (kS b).l (kS b).k ⟨6,0,32,32⟩ ⟨B.l2.1,by have:=B.l2.2;omega⟩ O (by simp)
 have hL:=gt (gs:=gs) (jy b).1.1 (jy b).1.2 aE ⟨B.l3.1,by have:=B.l3.2;omega⟩ O (.inr (.inl rfl))
 rw [p1,p2] at hL
 have hN:QD gs 78 (bb (jy b).1.1 (jy b).1.2) (aC (jy b).1.1 (jy b).1.2) [] (.c (.int .i64 (Po b:Nat))) (bb (jy b).1.1 (jy b).1.2) (aC (jy b).1.1 (jy b).1.2):=Gi (by unfold Po;rfl) ⟨B.l4.1,by have:=B.l4.2;omega⟩
 have h:=EB b (we (gs:=gs) b O) hE hW hI hL hN
 rw [show (ac ⟨6,0,32,32⟩ (kS b).l (kS b).k).v.b=(jy b).2.b by rw [hsg]] at h
 exact h
end
end
section
variable {κ β:Type}
def eS [DecidableEq κ] (l:List (κ×β)) (k:κ):Option β:=match l with|[]=>none|x::r=>if x.1=k then some x.2 else eS r k
def oL [DecidableEq κ]:List (κ×β)→κ→β→List (κ×β)
 | [],k,v=>[(k,v)]
 | x::r,k,v=>if x.1=k then (k,v)::r else x::oL r k v
def jM [DecidableEq κ] (k:κ):List κ→List MapEntry→Nat→Option (Nat×Value)
 | x::ks,e::es,i=>if x=k then some (i,e.val) else jM k ks es (i+1)
 | _,_,_=>none
structure Ee [DecidableEq κ] (P:Program) (kt:TypeId) (kv:κ→Value):Prop where
 check:∀ (w:World) (em:Bool) (k:κ),(Instr.checkKey em 10000 kt (kv k)).run P w=.ok () w
 find:∀ (w:World) (k:κ) (es:List MapEntry) (ks:List κ),es.map (·.key)=ks.map kv→(Instr.findKey kt (kv k) es).run P w=.ok (jM k ks es 0) w
 stays:∀ (w:World) (k:κ),(Instr.keyThatStays (kv k) (kv k)).run P w=.ok (kv k) w
def iI (al:List Addr) (St:Nat→Prop) (w:World) (kv:κ→Value) (vC:β→CV):List MapEntry→List (κ×β)→Prop
 | [],[]=>True
 | e::es,x::l=>e.key=kv x.1∧ba al St w (vC x.2) e.val∧iI al St w kv vC es l
 | _,_=>False
theorem iI.evo {al:List Addr} {St St':Nat→Prop} {w w':World} (he:qS St w w') (hs:∀ b,St b→St' b) {kv:κ→Value} {vC:β→CV}:∀ {es:List MapEntry} {l:List (κ×β)},iI al St w kv vC es l→iI al St' w' kv vC es l
 | [],[],_=>trivial
 | e::es,x::l,h=>⟨h.1,ba.evo he hs _ _ h.2.1,iI.evo he hs h.2.2⟩
 | [],_::_,h=>h.elim
 | _::_,[],h=>h.elim
theorem iI.keys {al:List Addr} {St:Nat→Prop} {w:World} {kv:κ→Value} {vC:β→CV}:∀ {es:List MapEntry} {l:List (κ×β)},iI al St w kv vC es l→es.map (·.key)=(l.map (·.1)).map kv
 | [],[],_=>rfl
 | e::es,x::l,h=>by rw [Zc,Zc,Zc,h.1,iI.keys h.2.2]
 | [],_::_,h=>h.elim
 | _::_,[],h=>h.elim
def oM (kv:κ→Value) (vC:β→CV) (l:List (κ×β)):OP where
 p al St w g F:=(∀ b,F b↔b=g)∧∃ es clock,w.heap[g]?=some (.map es clock)∧iI al St w kv vC es.toList l
 st:=fun he hs hF ⟨h0,es,clock,h1,h2⟩=>⟨h0,es,clock,(hF _ ((h0 _).2 rfl)).trans h1,h2.evo he hs⟩
theorem Bw [DecidableEq κ] {al:List Addr} {St:Nat→Prop} {w:World} {kv:κ→Value} {vC:β→CV} (k:κ):∀ {es:List MapEntry} {l:List (κ×β)} (i:Nat),iI al St w kv vC es l →
  match eS l k with
  | some v=>∃ j x,jM k (l.map (·.1)) es i=some (i+j,x)∧ba al St w (vC v) x∧∃ e,es[j]?=some e∧e.key=kv k∧e.val=x
  | none=>jM k (l.map (·.1)) es i=none
 | [],[],i,_=>rfl
 | e::es,x::l,i,h=>by
  have ih:=Bw k (es:=es) (l:=l) (i+1) h.2.2
  rw [Zc]
  unfold eS jM
  by_cases hk:x.1=k
  ·rw [YF hk,YF hk]
   exact ⟨0,e.val,rfl,h.2.1,e,rfl,by rw [h.1,hk],rfl⟩
  ·rw [YE hk,YE hk]
   split
   ·rename_i v hv
    rw [hv] at ih
    obtain ⟨j,y,h1,h2,e',h3,h4,h5⟩:=ih
    exact ⟨j+1,y,by rw [h1,show i+1+j=i+(j+1) by omega],h2,e',by simpa using h3,h4,h5⟩
   ·rename_i hv
    rw [hv] at ih
    exact ih
 | [],_::_,_,h=>h.elim
 | _::_,[],_,h=>h.elim
end
def fE (k:Z):Value:=.string ⟨k.toArray⟩
theorem xB {a b:Z}:((⟨a.toArray⟩:ByteArray) == ⟨b.toArray⟩)=decide (a=b):=by
 have e:((⟨a.toArray⟩:ByteArray) == ⟨b.toArray⟩)=(a.toArray == b.toArray):=rfl
 rw [e]
 by_cases h:a=b
 ·subst h
  rw [beq_self_eq_true,Zj rfl]
 ·rw [Zl h,beq_eq_false_iff_ne.2 fun e=>h (bNx e)]
theorem UG {a b:Z}:Instr.sameNow .string (fE a) (fE b)=some (decide (b=a)):=by
 show some ((⟨a.toArray⟩:ByteArray) == ⟨b.toArray⟩)=_
 rw [xB]
 congr 1
 exact decide_eq_decide.2 ⟨Eq.symm,Eq.symm⟩
theorem Dx (k:Z):∀ (es:List MapEntry) (ks:YD) (i:Nat),es.map (·.key)=ks.map fE→Instr.findNow .string (fE k) es i=some (jM k ks es i)
 | [],[],_,_=>rfl
 | [],_::_,_,h=>by simp at h
 | _::_,[],_,h=>by simp at h
 | e::es,x::ks,i,h=>by
  simp only [Zc,a3x] at h
  unfold Instr.findNow jM
  rw [h.1,UG]
  by_cases hx:x=k
  ·rw [Zj hx,YF hx]
  ·rw [Zl hx,YE hx]
   exact Dx k es ks (i+1) h.2
theorem Nk {P:Program} {kt:TypeId} (h:P.underlying kt=some .string):Ee P kt fE where
 check w em k:=Go.MapKept.run_checkKey h (by simp [Go.MapKept.IsKey,fE]) em 9999
 find w k es ks he:=Go.MapKept.run_findKey h (Dx k es ks 0 he)
 stays w k:=by
  have h:Instr.sameBits 10000 (fE k) (fE k)=true:=by
   show ((⟨k.toArray⟩:ByteArray) == ⟨k.toArray⟩)=true
   rw [xB,Zj rfl]
  simp [Instr.keyThatStays,h]
def iT (k:Z×Z):Value:=.agg #[fE k.1,fE k.2]
theorem U8 {P : Program} {kt : TypeId} {fa fb : Field} (h : P.underlying kt = some (.struct #[fa, fb])) (hp : P.stoodInHeld kt = false) (ha : P.underlying fa.type = some .string) (hb : P.underlying fb.type = some .string) (oa : fa.offset = 0) (ob : fb.offset = 1) (na : fa.name ≠ "_") (nb : fb.name ≠ "_") (w : World) (k x : Z × Z) :
  (Op.equal kt (iT k) (iT x)).run P w=.ok (decide (x=k)) w:=by
 have hfs:P.fieldsOf kt=#[fa,fb]:=by simp [Program.fieldsOf,h]
 have hE:Pn P (fl [an k.1,an k.2]) (fl [an x.1,an x.2]) [fa,fb] ((⟨k.1.toArray⟩:ByteArray)=⟨x.1.toArray⟩∧(⟨k.2.toArray⟩:ByteArray)=⟨x.2.toArray⟩∧True) :=
  .str ha na (by rw [oa];rfl) (by rw [oa];rfl) (.str hb nb (by rw [ob];rfl) (by rw [ob];rfl) .nil)
 have cell:∀ (q:Z×Z) (i:Nat),i<2→ba [] (fun _=>False) w (fl [an q.1,an q.2] i) ((#[fE q.1,fE q.2]:Array Value).getD i undef):=fun q i hi=>by
  rcases i with _|_|i
  ·rfl
  ·rfl
  ·omega
 obtain ⟨r,hr,hiff⟩:=nI hE (al:=[]) (St:=fun _=>False) (w:=w) (xs:=#[fE k.1,fE k.2]) (ys:=#[fE x.1,fE x.2]) (n:=2) rfl rfl (cell k) (cell x) (by simp [oa,ob]) 9998 w
 show (Op.equalIn (9999+1) kt (iT k) (iT x)).run P w=_
 unfold iT
 rw [run_equalIn_agg w 9999 kt _ _ (by rw [hfs];exact h) hp,hfs]
 have e:r=decide (x=k):=by
  rw [axx,hiff,decide_eq_true_iff]
  constructor
  ·rintro ⟨h1,h2,_⟩
   exact blx (bNx (bHx h1)).symm (bNx (bHx h2)).symm
  ·rintro rfl
   exact ⟨rfl,rfl,trivial⟩
 rw [← e]
 exact hr
theorem Dw {P:Program} {kt:TypeId} {w:World} (heq:∀ k x:Z×Z,(Op.equal kt (iT k) (iT x)).run P w=.ok (decide (x=k)) w) (k:Z×Z):∀ (es:List MapEntry) (ks:List (Z×Z)) (i:Nat),es.map (·.key)=ks.map iT→(Instr.findAsking kt (iT k) es i).run P w=.ok (jM k ks es i) w
 | [],[],_,_=>by simp [Instr.findAsking,jM]
 | [],_::_,_,h=>by simp at h
 | _::_,[],_,h=>by simp at h
 | e::es,x::ks,i,h=>by
  simp only [Zc,a3x] at h
  unfold Instr.findAsking jM
  rw [h.1]
  have ih:=Dw heq k es ks (i+1) h.2
  by_cases hx:x=k
  ·simp [heq,hx]
  ·simp [heq,hx,ih]
theorem Nj {P : Program} {kt : TypeId} {fa fb : Field} (h : P.underlying kt = some (.struct #[fa, fb])) (hp : P.stoodInHeld kt = false) (ha : P.underlying fa.type = some .string) (hb : P.underlying fb.type = some .string) (oa : fa.offset = 0) (ob : fb.offset = 1) (na : fa.name ≠ "_") (nb : fb.name ≠ "_") : Ee P kt iT where
 check w em k:=by
  have ag:∀ f:Field,P.underlying f.type=some .string→iw P f.type=false:=fun f h=>by unfold iw;rw [h]
  have e1:=kj ha (ag fa ha) (cs:=#[fE k.1,fE k.2]) (i:=fa.offset) (v:=fE k.1) (by rw [oa];rfl) w
  have e2:=kj hb (ag fb hb) (cs:=#[fE k.1,fE k.2]) (i:=fb.offset) (v:=fE k.2) (by rw [ob];rfl) w
  have c1:=Go.MapKept.run_checkKey (P:=P) (w:=w) ha (k:=fE k.1) (by simp [Go.MapKept.IsKey,fE]) em 9998
  have c2:=Go.MapKept.run_checkKey (P:=P) (w:=w) hb (k:=fE k.2) (by simp [Go.MapKept.IsKey,fE]) em 9998
  show (Instr.checkKey em (9999+1) kt (iT k)).run P w=_
  unfold Instr.checkKey iT
  simp [run_underlying h,na,nb,e1,e2,c1,c2]
 find w k es ks he:=by
  rw [run_findKey_eq w (by rw [h])]
  exact Dw (fun k x=>U8 h hp ha hb oa ob na nb w k x) k es ks 0 he
 stays w k:=by
  have hb:∀ l:Z,Instr.sameBits 9999 (fE l) (fE l)=true:=fun l=>by
   show ((⟨l.toArray⟩:ByteArray) == ⟨l.toArray⟩)=true
   rw [xB,Zj rfl]
  have h:Instr.sameBits 10000 (iT k) (iT k)=true:=by
   show Instr.sameBits (9999+1) (.agg #[fE k.1,fE k.2]) (.agg #[fE k.1,fE k.2])=true
   simp [Instr.sameBits,hb]
  simp [Instr.keyThatStays,h]
section
variable {κ β:Type} {kv:κ→Value} {kw:Value} {P:Program} {G:Gh} {o:Oper} {s:AS} {K:AS→Prop} {t kt et:TypeId} {x y z:Operand} {vC:β→CV} {l:List (κ×β)} {k:κ} {i g:Nat}
theorem MW {St:Nat→Prop} {a:Act} {w:World} (h:az G St s a w) (hH:s.H[i]?=some (some g,.obj (oM kv vC l))):g<w.heap.size∧∃ es clock,w.heap[g]?=some (.map es clock)∧iI G.al St w kv vC es.toList l:=by
 obtain ⟨fp,hp⟩:=h.hp
 obtain ⟨h0,es,clock,h1,h2⟩:=hp.rep i (some g) _ hH
 exact ⟨(hp.own i g ((h0 g).2 rfl)).1,es,clock,h1,h2⟩
def Km (c:CV) (v:Value):Prop:=∀ al St w x,ba al St w c x→x=v
theorem De {c:CV} {k:Z} (h:c=an k):Km c (fE k):=fun al St w x hx=>by rw [h] at hx;exact hx
theorem Dd {c:CV} {f:Nat→CV} {a b:Z} (h:c=.agg 2 f) (h0:f 0=an a) (h1:f 1=an b):Km c (iT (a,b)):=fun al St w x hx=>by
 rw [h] at hx
 obtain ⟨cs,rfl,hs,hf⟩:=hx
 have e0:=hf 0 jD
 have e1:=hf 1 jD
 rw [h0] at e0
 rw [h1] at e1
 refine Y3 Value.agg (Array.ext hs fun i _ _=>?_)
 have hi:i<2:=by omega
 rcases i with _|_|i
 ·have:cs.getD 0 undef=fE a:=e0
  simpa [hs] using this
 ·have:cs.getD 1 undef=fE b:=e1
  simpa [hs] using this
 ·omega
theorem QI [DecidableEq κ] {zv:Value} {v:CV} (ho:o.op=.lookup t x y false) (hx:s.eval x=.c (.map (some g))) (hH:s.H[i]?=some (some g,.obj (oM kv vC l))) (hy:Km (s.eval y) (kv k)) (h1:P.underlying t=some (.map kt et)) (h2:Ee P kt kv) (hz:(P.info? et).map (·.zero)=some (some zv))
  (hv:∀ u,eS l k=some u→aa (vC u) v) (hv0:eS l k=none→aa (.c zv) v):kF P G o s v:=fun St a w h=>by
 obtain ⟨hlt,es,clock,hb,he⟩:=MW h hH
 obtain ⟨info,hi,hzz⟩:=YM.1 hz
 have hf:=Bw k 0 he
 have hkv:a.eval y=kv k:=hy _ _ _ _ (h.eval y)
 have hff:=fun W:World=>h2.find W k es.toList _ he.keys
 cases hm:eS l k with
 | none =>
  simp only [hm] at hf
  simp only [hf] at hff
  refine ⟨zv,fun W hW=>?_,hv0 hm _ _ _ _ rfl⟩
  have hbW:W.heap[g]?=some (.map es clock):=(hW.block g hlt).trans hb
  simp only [execOp,ho,kM h hx,hkv]
  refine lY ?_
  simp [Instr.lookup,underlying,h1,Go.MapKept.run_getObj_map hbW,h2.check,hff,zeroValue,typeInfo,hi,hzz]
 | some u =>
  simp only [hm] at hf
  obtain ⟨j,xv,hf,hr,_⟩:=hf
  simp only [hf] at hff
  refine ⟨xv,fun W hW=>?_,hv u hm _ _ _ _ hr⟩
  have hbW:W.heap[g]?=some (.map es clock):=(hW.block g hlt).trans hb
  simp only [execOp,ho,kM h hx,hkv]
  refine lY ?_
  simp [Instr.lookup,underlying,h1,Go.MapKept.run_getObj_map hbW,h2.check,hff]
theorem Iv [DecidableEq κ] {zv:Value} {v:CV} (ho:o.op=.lookup t x y true) (hx:s.eval x=.c (.map (some g))) (hH:s.H[i]?=some (some g,.obj (oM kv vC l))) (hy:Km (s.eval y) (kv k)) (h1:P.underlying t=some (.map kt et)) (h2:Ee P kt kv) (hz:(P.info? et).map (·.zero)=some (some zv))
  (hv:∀ u,eS l k=some u→aa (vC u) v) (hv0:eS l k=none→aa (.c zv) v):kF P G o s (.tup 2 (fl [v,.c (.bool (eS l k).isSome)])):=fun St a w h=>by
 obtain ⟨hlt,es,clock,hb,he⟩:=MW h hH
 obtain ⟨info,hi,hzz⟩:=YM.1 hz
 have hf:=Bw k 0 he
 have hkv:a.eval y=kv k:=hy _ _ _ _ (h.eval y)
 have hff:=fun W:World=>h2.find W k es.toList _ he.keys
 cases hm:eS l k with
 | none =>
  simp only [hm] at hf
  simp only [hf] at hff
  refine ⟨.tuple #[zv,.bool false],fun W hW=>?_,?_⟩
  ·have hbW:W.heap[g]?=some (.map es clock):=(hW.block g hlt).trans hb
   simp only [execOp,ho,kM h hx,hkv]
   refine lY ?_
   simp [Instr.lookup,underlying,h1,Go.MapKept.run_getObj_map hbW,h2.check,hff,zeroValue,typeInfo,hi,hzz]
  ·refine ⟨#[zv,.bool false],rfl,rfl,fun j hj=>?_⟩
   rcases j with _|_|j
   ·exact hv0 hm _ _ _ _ rfl
   ·rfl
   ·omega
 | some u =>
  simp only [hm] at hf
  obtain ⟨j,xv,hf,hr,_⟩:=hf
  simp only [hf] at hff
  refine ⟨.tuple #[xv,.bool true],fun W hW=>?_,?_⟩
  ·have hbW:W.heap[g]?=some (.map es clock):=(hW.block g hlt).trans hb
   simp only [execOp,ho,kM h hx,hkv]
   refine lY ?_
   simp [Instr.lookup,underlying,h1,Go.MapKept.run_getObj_map hbW,h2.check,hff]
  ·refine ⟨#[xv,.bool true],rfl,rfl,fun j hj=>?_⟩
   rcases j with _|_|j
   ·exact hv u hm _ _ _ _ hr
   ·rfl
   ·omega
theorem az.setMap {St:Nat→Prop} {a:Act} {w:World} (h:az G St s a w) {l':List (κ×β)} (hH:s.H[i]?=some (some g,.obj (oM kv vC l))) {es es':Array MapEntry} {clock clock':Nat} (hb:w.heap[g]?=some (.map es clock)) (he':iI G.al St w kv vC es'.toList l') :
  az G St ⟨s.env,s.b,s.H.set i (some g,.obj (oM kv vC l'))⟩ a { w with heap:=w.heap.setIfInBounds g (.map es' clock') }∧eX St w { w with heap:=w.heap.setIfInBounds g (.map es' clock') }:=by
 obtain ⟨fp,hp⟩:=h.hp
 have hlt:i<s.H.length:=(YJ.1 hH).1
 have hrep:=hp.rep i (some g) _ hH
 have hg:fp i g:=(hrep.1 g).2 rfl
 obtain ⟨hg1,hg2,hg3⟩:=hp.own i g hg
 obtain ⟨hnew,hold⟩:=Go.MapKept.heap_set (o':=.map es' clock') hb
 have hold:∀ b,b≠g→(w.heap.setIfInBounds g (.map es' clock'))[b]?=w.heap[b]?:=hold
 have hsz:(w.heap.setIfInBounds g (.map es' clock')).size=w.heap.size:=by simp
 have he:qS St w { w with heap:=w.heap.setIfInBounds g (.map es' clock') }:=⟨fun b cu ct cz ye hcu=>(hold b (fun e=>hg2 (e ▸ ye))).trans hcu,fun b cu t z ye=>by
  by_cases e:b=g
  ·subst e
   rw [hb] at ye
   cases ye
  ·exact ⟨cu,z,(hold b e).trans ye,rfl⟩⟩
 refine ⟨⟨h.df.keep (fun _ h=>h) (fun b hb=>hold b (fun e=>hg2 (e ▸ hb))),h.sz,fun d=>ba.evo he (fun _ x=>x) _ _ (h.env d),⟨h.un.os,h.un.tape,h.un.output,Zd h.un.size (ZR hsz.symm),fun k hk hF=>?_,fun b cu t z ye=>?_⟩,h.s1,h.s2,fun b hb=>ahx (h.s3 b hb) hsz.symm,?_,?_,h.sg⟩,fun q hq=>hold q (fun e=>hg2 (e ▸ hq))⟩
 ·refine (hold k (fun e=>?_)).trans (h.un.block k hk hF)
  subst e
  rcases hg3 with h1|h1
  ·omega
  ·exact hF h1
 ·obtain ⟨cur',z',h1,h2⟩:=h.un.sh b cu t z ye
  obtain ⟨cur2,z2,h3,h4⟩:=he.sh b cur' t z' h1
  exact ⟨cur2,z2,h3,h4.trans h2⟩
 ·refine ⟨fp,fun j q r hj=>?_,hp.dis,fun j b hb=>⟨ahx (hp.own j b hb).1 hsz.symm,(hp.own j b hb).2⟩,fun j hj=>hp.out j (by simpa using hj)⟩
  by_cases e:j=i
  ·subst e
   simp [hlt] at hj
   obtain ⟨rfl,rfl⟩:=hj
   exact ⟨hrep.1,es',clock',hnew,he'.evo he (fun _ x=>x)⟩
  ·rw [YZ (Ne.symm e)] at hj
   exact bi.rep_evo he (fun _ x=>x) (fun b hF=>hold b (fun e2=>e (hp.dis j i b hF (e2 ▸ hg)))) (hp.rep j q r hj)
 ·exact gc.keep h.sn (fun q hq=>hold q (fun e=>hg2 (e ▸ h.sg.1 q hq))) (fun q hq=>hold _ (fun e=>hg2 (e ▸ h.sg.2 q hq)))
end
end Am
end Go.Proofs.YtghminnpfnkbjaaGreatDoor
