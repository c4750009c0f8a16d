/- What the law leans on, part 7 -/
import Derived.Test.YtnijncmifjnifaaGreatDoorM6BundleSteps
import Derived.MapKept
import Derived.WideKeyRuns
set_option maxRecDepth 100000
set_option maxHeartbeats 8000000
variable {gs:List Nat}
open Go.Proofs.Tryz
namespace Go.Proofs.YtnijncmifjnifaaGreatDoor
set_option linter.unusedVariables false
namespace Am
open Go.RowKit
section
open Go.RowKit Cal
structure kU (a:N4):Prop where
 ge:cn ye (ee a.1)
 ky:cn rG (tz (dv a.2.1))
 fr:cn lq (ee a.2.2.1)
 til:cn lq (ee a.2.2.2)
 I:xi (dv a.2.1)=a.2.1
theorem xb {a:N4} (h:aw a=true):kU a:=by
 unfold aw fa at h
 simp only [FK,FT] at h
 have ⟨⟨hk,g1,g2⟩,⟨n1,n2⟩,n3,n4⟩:=h
 have hk':=nA hk
 have lk:=gL a.2.1
 refine ⟨.inr (.inl ⟨.inl rfl,rfl,g1,g2⟩),.inr (.inr (.inl ⟨rfl,rfl,?_,?_⟩)),.inr (.inr (.inr (.inr ⟨rfl,rfl,?_⟩))),.inr (.inr (.inr (.inr ⟨rfl,rfl,?_⟩))),nI _ (by rw [hk'.1]) hk'.2⟩
 show (16:Int)≤((dv a.2.1).length:Nat);omega
 show ((dv a.2.1).length:Nat)≤(16:Int);omega
 show 0≤a.2.2.1∧a.2.2.1≤253402300799;omega
 show 0≤a.2.2.2∧a.2.2.2≤253402300799;omega
def mU (a:N4):Int×V:=(48,([Cs ye (ee a.1),Cs rG (tz (dv a.2.1)),Cs lq (ee a.2.2.1),Cs lq (ee a.2.2.2)].map mP).flatten)
def eC (a:N4):V:=mP (mU a)
theorem s9 (a:N4):(mU a).2=cW ye (ee a.1)++(cW rG (tz (dv a.2.1))++(cW lq (ee a.2.2.1)++(cW lq (ee a.2.2.2)++[]))):=by
 unfold mU
 simp only [Gf,Ho,Hd,H0]
 rfl
theorem sT {f:Fd} {n:Int} (ho:qJ f) (h:cn f (ee n)) (h3:f.call=3):(cW f (ee n)).length≤14:=by
 have ⟨b1,b2,b3,b4,b5,b6,b7,_⟩:=fV ho h O
 have e:ic f (ee n)=⟨3,n,false,[],[]⟩:=by unfold ic;rw [jK,h3];rfl
 have e2:(ah (ic f (ee n))).2.1=dW n:=by rw [e];rfl
 rw [e] at b7
 have hl:=(i9 n b7.1 b7.2).2
 rw [jr ho h O,e2]
 have:=bQ (vd (CT f)) (dW n)
 omega
theorem xA {n:Int} (h:cn lq (ee n)):(cW lq (ee n)).length≤40:=by
 have e2:(ah (ic lq (ee n))).2.1.length≤34:=by
  show (if ln n then bh (eZ n) else []).length≤34
  split
  exact FS rfl
  ·decide
 rw [jr lR h T]
 have:=bQ (vd (CT lq)) (ah (ic lq (ee n))).2.1
 omega
theorem Cv {b:V} (h:cn rG (tz b)):(cW rG (tz b)).length≤22:=by
 have hl:b.length≤16:=by
  rcases h with h|h|h|h|h
  exact absurd h.1 T
  exact absurd h.1 T
  ·have:=h.2.2.2;show b.length≤16;have e:((b.length:Nat):Int)≤16:=this;omega
  exact absurd h.1 T
  exact absurd h.1 T
 rw [jr pL h T]
 show (cS _ b).length≤22
 have:=bQ (vd (CT rG)) b
 omega
theorem s8 {a:N4} (h:kU a):(mU a).2.length≤116∧(eC a).length≤122:=by
 have h1:=sT pM h.ge rfl
 have h2:=Cv h.ky
 have h3:=xA h.fr
 have h4:=xA h.til
 have e:(mU a).2.length≤116:=by
  rw [s9]
  simp only [FX,List.length_nil]
  omega
 refine ⟨e,?_⟩
 have:=bQ (mU a).1 (mU a).2
 show (cS (mU a).1 (mU a).2).length≤122
 omega
theorem qH:∀ {l:List N4},(∀ a ∈ l,kU a)→(l.map eC).flatten.length≤122 * l.length
 | [],_=>by simp
 | a::l,h=>by
  have h1:=(s8 (h a F2)).2
  have h2:=qH fun x I=>h x (F9 _ I)
  rw [Gf,Hd,FX,List.length_cons]
  omega
def EC (a b:N4):Bool:=oO (eC a) (eC b)
def jc (l:List N4):List N4:=l.mergeSort EC
theorem ka (l:List N4):(jc l).Perm l:=Ij l EC
attribute [local irreducible] eC in
theorem pJ (l:List N4):(jc l).Pairwise fun a b=>EC a b=true:=HY (fun a b c=>nu (eC a) (eC b) (eC c)) (fun a b=>nv (eC a) (eC b)) l
attribute [local irreducible] eC in
theorem pK (l:List N4):cJ (l.map eC)=(jc l).map eC:=by
 have h:((jc l).map eC).Pairwise fun a b=>oO a b=true:=List.pairwise_map.2 (pJ l)
 exact (pt ((ka l).map eC) h).symm
def CE (b:B3):V:=cS 49 ((jc b.2.2).map eC).flatten++[]
def CF (b:B3):V:=mO b.2.1++CE b
def A3 (b:B3):V:=cW uH (ee b.1)++CF b
def o6 (b:B3):V:=cS 48 (A3 b)
structure dr (b:B3):Prop where
 ve:cn uH (ee b.1)
 sp:ax b.2.1 64=0
 n8:1≤b.2.2.length∧b.2.2.length≤8
 an:∀ a ∈ b.2.2,kU a
 ri:A6 b.2.2
theorem zE {b:B3} (h:aq b=true):dr b:=by
 unfold aq fa at h
 simp only [FK,FT] at h
 have ⟨⟨⟨⟨⟨v1,v2⟩,hl⟩,l1⟩,l8⟩,hg⟩:=h
 have ha:=kk hl
 refine ⟨.inr (.inl ⟨.inl rfl,rfl,v1,v2⟩),eP ha.1 ha.2.1 (by have:=ha.2.2;omega),⟨l1,l8⟩,fun a hm=>?_,rB hg⟩
 obtain ⟨j,hj,rfl⟩:=Gw hm
 have ho:=gM hg j hj
 unfold fQ at ho
 rw [FK] at ho
 have e:b.2.2.getD j ae=b.2.2[j]:=by simp [List.getD,hj]
 rw [e] at ho
 exact xb ho.1
section
variable {b:B3}
theorem y9 (b:B3):(jc b.2.2).length=b.2.2.length:=(ka _).length_eq
theorem wm (h:dr b):∀ a ∈ jc b.2.2,kU a:=fun a ha=>h.an a ((ka _).subset ha)
theorem sb (h:dr b):((jc b.2.2).map eC).flatten.length≤976:=by
 have h1:=qH (wm h)
 have h2:=y9 b
 have h3:=h.n8
 omega
theorem Ab (h:dr b):(A3 b).length≤1200∧(CF b).length≤1200∧(CE b).length≤1200∧(o6 b).length≤1300:=by
 have h1:=sb h
 have h2:=sT su h.ve rfl
 have h3:=(xB h.sp).1
 have h4:=bQ 49 ((jc b.2.2).map eC).flatten
 have h5:=bQ 48 (A3 b)
 have e1:(A3 b).length=(cW uH (ee b.1)).length+(CF b).length:=by unfold A3;rw [FX]
 have e2:(CF b).length=(mO b.2.1).length+(CE b).length:=by unfold CF;rw [FX]
 have e3:(CE b).length=(cS 49 ((jc b.2.2).map eC).flatten).length:=by unfold CE;rw [G3]
 refine ⟨by omega,by omega,by omega,?_⟩
 unfold o6
 omega
end
def u1 (a:N4) (w:W8):W8:=bB (dw lq (ee a.2.2.2) (dw lq (ee a.2.2.1) (dw rG (tz (dv a.2.1)) (dw ye (ee a.1) (bq 48 w)))))
def D9 (a:N4) (r:R8):R8:=gc w2 (iH lq (ee a.2.2.2) (iH lq (ee a.2.2.1) (iH rG (tz (dv a.2.1)) (iH ye (ee a.1) (gc (w1 48) r)))))
def aW (ws:W8) (l:List N4):Nat→W8
 | 0=>bq 49 ws
 | i+1=>u1 (l.getD i ae) (aW ws l i)
def aR (ws:R8) (l:List N4):Nat→R8
 | 0=>gc (w1 49) ws
 | i+1=>D9 (l.getD i ae) (aR ws l i)
def Aj (b:B3):W8:=dw uH (ee b.1) (bq 48 Az)
def Ai (b:B3):W8:=ix (yu b.2.1) (Aj b)
def CH (b:B3):W8:=bB (aW (Ai b) b.2.2 b.2.2.length)
def CG (b:B3):W8:=bB (CH b)
def Fe (b:B3):R8:=iH uH (ee b.1) EZ
def EO (b:B3):R8:=gc (yu b.2.1) (Fe b)
def Fc (b:B3):R8:=gc w2 (aR (EO b) b.2.2 b.2.2.length)
def Fy (b:B3):R8:=gc w2 (Fc b)
theorem Bo {ls:FI} {fr:List (Int×FI)} {d:V} (hb:(cJ ls).flatten.length≤65530):bB ⟨(49,ls)::fr,d,0⟩=aK (cS 49 (cJ ls).flatten) ⟨fr,d,0⟩:=by
 have hf:d5 (49,ls)=(cJ ls).flatten:=by unfold d5;rw [FO rfl]
 show co 49 (d5 (49,ls)) 0 ⟨fr,d,0⟩=_
 rw [hf,jW rfl T hb]
theorem Ap {a:N4} (h:kU a) {t:Int} {ls:FI} {fr:List (Int×FI)} {d:V} (hl:fr.length<10):u1 a ⟨(t,ls)::fr,d,0⟩=⟨(t,ls++[eC a])::fr,d,0⟩:=by
 unfold u1
 have hf:([]++[cW ye (ee a.1)]++[cW rG (tz (dv a.2.1))]++[cW lq (ee a.2.2.1)]++[cW lq (ee a.2.2.2)]).flatten=(mU a).2:=by
  rw [s9]
  simp
 have hn:=(s8 h).1
 rw [wo O,i6 pM h.ge (by rw [List.length_cons];omega),i6 pL h.ky (by rw [List.length_cons];omega),i6 lR h.fr (by rw [List.length_cons];omega),i6 lR h.til (by rw [List.length_cons];omega),ju T T (by rw [hf];omega),hf,f4]
 rfl
theorem x6 {l:List N4} (hg:∀ a ∈ l,kU a) {t:Int} {ls:FI} {fr:List (Int×FI)} {d:V} (hl:fr.length<9):∀ i,i≤l.length→aW ⟨(t,ls)::fr,d,0⟩ l i=⟨(49,(l.take i).map eC)::(t,ls)::fr,d,0⟩
 | 0,_=>oI rfl T (by show (_::fr).length<16;rw [List.length_cons];omega)
 | i+1,h=>by
  show u1 (l.getD i ae) (aW _ l i)=_
  rw [x6 hg hl i O]
  have e:l.getD i ae=l[i]'O:=by simp [List.getD,show i<l.length by omega]
  rw [e,Ap (hg _ (Gv _)) (by rw [List.length_cons];omega),FV (show i<l.length by omega),HD]
  rfl
section
variable {b:B3}
theorem Aa (h:dr b):eM (CG b)=0∧nN (CG b)=o6 b:=by
 have ⟨l1,l2,l3,l4⟩:=Ab h
 have hS:=sb h
 have e1:Aj b=⟨[(48,[cW uH (ee b.1)])],[],0⟩:=by unfold Aj;rw [show bq 48 Az=⟨[(48,[])],[],0⟩ from rfl,i6 su h.ve T];rfl
 have e2:Ai b=⟨[(48,[cW uH (ee b.1),mO b.2.1])],[],0⟩:=by unfold Ai;rw [e1,Bk h.sp];rfl
 have e3:CH b=⟨[(48,[cW uH (ee b.1),mO b.2.1,cS 49 ((jc b.2.2).map eC).flatten])],[],0⟩:=by
  unfold CH
  rw [e2,x6 h.an T _ (FQ _),GH,Bo (by rw [pK];omega),pK,f4]
  rfl
 have e4:CG b=⟨[],o6 b,0⟩:=by
  unfold CG
  have ef:[cW uH (ee b.1),mO b.2.1,cS 49 ((jc b.2.2).map eC).flatten].flatten=A3 b:=by
   unfold A3 CF CE
   simp only [Hd,H0]
  rw [e3,ju T T (by rw [ef];omega),ef]
  rfl
 have hz:eM (⟨[],o6 b,0⟩:W8)=0:=by
  unfold eM
  rw [FN (by simp),FN (by simp),FN (by dsimp only;omega)]
 rw [e4]
 refine ⟨hz,?_⟩
 unfold nN
 rw [FO hz]
theorem w5 (h:dr b):dJ 15 (Fe b) (Aj b):=cq su h.ve AV
theorem w4 (h:dr b):dJ 16 (EO b) (Ai b):=fU (w5 h) (vr h.sp)
theorem zA {a:N4} (h:kU a) {i:Nat} {r:R8} {w:W8} (hI:dJ i r w):dJ (i+58) (D9 a r) (u1 a w):=by
 have h0:=fU hI (fj (t:=48) T)
 rw [nO] at h0
 have h5:=fU (cq lR h.til (cq lR h.fr (cq pL h.ky (cq pM h.ge h0)))) gu
 rw [qw] at h5
 exact gK h5 O
theorem sJ (h:dr b):∀ i,i≤b.2.2.length→dJ (17+58 * i) (aR (EO b) b.2.2 i) (aW (Ai b) b.2.2 i)
 | 0,_=>by
  have:=fU (w4 h) (fj (t:=49) T)
  rw [nO] at this
  exact this
 | i+1,hi=>by
  have e:b.2.2.getD i ae=b.2.2[i]'O:=by simp [List.getD,show i<b.2.2.length by omega]
  exact gK (zA (h.an _ (by rw [e];exact Gv _)) (sJ h i O)) O
theorem w3 (h:dr b):dJ 500 (Fc b) (CH b):=by
 have h8:=h.n8
 have:=fU (sJ h _ (FQ _)) gu
 rw [qw] at this
 exact gK this O
theorem Ck (h:dr b):dJ 501 (Fy b) (CG b):=by
 have:=fU (w3 h) gu
 rw [qw] at this
 exact this
end
end
section
open Go.RowKit Cal
def cc (a:N4):Nat→CV:=fl [.c (.int .i64 a.1),bi a.2.1,.c (.int .i64 a.2.2.1),.c (.int .i64 a.2.2.2)]
def o8 (a:N4):CV:=.agg 4 (cc a)
def uX (l:List N4):CV:=.rs 4 l.length fun i=>cc (l.getD i ae)
def bN (b:B3):Nat→CV:=fl [.c (.int .i64 b.1),bi b.2.1,uX b.2.2]
def jA (b:B3):CV:=.agg 3 (bN b)
def c8 (l:List N4):Nat→CV:=cF 4 cc ae l
def dA (g:Option Nat) (l:List N4):Option Nat×av:=(g,.blk (l.length * 4) (c8 l))
theorem eo (r:N4) {j:Nat} (hj:j<4):dx (cc r j)=true:=by
 rcases j with _|_|_|_|j<;>first|rfl|omega
theorem kS {X:List N4} {j:Nat} {F:Nat→CV} (h:∀ m,m<4→J (F m) (c8 X (j * 4+m))):J (.agg 4 F) (o8 (X.getD j ae)) :=
 J.agg rfl fun m hm=>(h m hm).trans (J.of_eq (bb hm))
theorem tc {X:List N4} {i o:Nat} (y:N4) {l:List CV} (ho:o=i * 4) (hi:i<X.length) (hl:l.length=4) (he:∀ m,m<4→J (fl l m) (cc y m)) :
  ∀ j,j<X.length * 4→J (jG (c8 X) o l j) (c8 (X.set i y) j):=fun j hj=>by
 subst ho
 obtain ⟨q,r,hr,rfl⟩:∃ q r,r<4∧j=q * 4+r:=⟨j / 4,j % 4,Gu _ T,by omega⟩
 rw [fg,hl]
 have e1:c8 (X.set i y) (q * 4+r)=cc ((X.set i y).getD q ae) r:=bb hr
 have e2:c8 X (q * 4+r)=cc (X.getD q ae) r:=bb hr
 have hq:q<X.length:=by omega
 by_cases h:q=i
 ·subst h
  rw [jP,e1,show q * 4+r-q * 4=r by omega]
  have:(X.set q y).getD q ae=y:=by simp [List.getD,hq]
  rw [this]
  exact he r hr
 ·rw [jK,e1,e2]
  have:(X.set i y).getD q ae=X.getD q ae:=by simp [List.getD,Ne.symm h]
  rw [this]
  exact cZ
theorem kD {g:FuncId} {n:Nat} {fv:Nat→CV} (hc:aU prog g=true) (l:List (N4)) (p:(N4)→Bool) (hp:∀ r,c4 gs prog g (o8 r::(List.range n).map fv) (.c (.bool (p r)))) :
  c4 gs prog 37 [uX l,.fn g n fv] (.c (.int .i64 (aT p l))):=by
 refine xZ 0 rfl fun hlen=>?_;refine ag 19 func37 fun _ _ _ _=>?_;refine U 20513167516 ?_;refine aG (α:=Nat) [4,5,8,9,10,11,12,13,14,15,16,17,18] (fun i=>[(8,.c (.int .i64 (i:Nat)))]) (fun _=>[]) (fun i=>i≤l.length∧∀ j (hj:j<l.length),j<i→p l[j]=false) (fun i=>l.length-i) (0) ?_ (fun _=>rfl) ?_ ?_ ?_
 exact ⟨by omega,fun j _ hj=>absurd hj (F3 j)⟩
 ·(repeat (first|exact cA.nil|refine cA.cons cZ ?_))
 ·(repeat (exact ar.nil))
 ·rintro i ⟨hi,he⟩
  refine U 7526 ?_;refine aaa (fun h108=>?_) fun h108=>?_
  ·refine U 8000700051684000200020006000 ?_;refine cI ?_
   exact (gO fun j hj=>he j hj O).symm
  refine U 70011165116207810 ?_;refine jq (bS 4) ?_
  refine ay (oZ rfl rfl (by assumption) (hp (l.getD i ae)) (zO cZ _) rfl rfl ?_)
  rintro _ _ ⟨rfl,rfl⟩
  refine U 5 ?_;refine aX (fun h109=>?_) fun h109=>?_
  ·refine U 80003000500030003000500070005116 ?_;refine cI ?_
   have hlt:i<l.length:=by omega
   exact (ib i hlt (by simpa [List.getD,hlt] using h109) (fun j hj=>he j O hj)).symm
  refine U 8519200840010 ?_;refine aH (i+1) ?_ ?_
  ·exact ⟨by omega,fun j hj hj1=>by
    by_cases e:j=i
    ·subst e
     simpa [List.getD,hj] using h109
    exact he j hj O⟩
  omega
theorem u0 {g:FuncId} {n:Nat} {fv:Nat→CV} (hc:aU prog g=true) (l:List (N4)) (p:(N4)→Bool) (hp:∀ r,c4 gs prog g (o8 r::(List.range n).map fv) (.c (.bool (p r)))) :
  c4 gs prog 29 [uX l,.fn g n fv] (.c (.bool (l.any p))):=by
 refine ag 9 func29 fun _ _ _ _=>?_;refine U 116516 ?_
 refine ay (aD (kD hc l p hp) ?_)
 refine U 80007000512 ?_;refine cB ?_
 exact rF p l
theorem rV (l:List N4) (hl:l.length≤1000000):AC gs prog 31 [] [uX l] (mV l.length 4 (l.length * 4) (c8 l)):=by
 refine ag 8 func31 fun _ _ _ _=>?_;refine U 167516 ?_;refine jL (aA rfl) rfl rfl rfl underlying22 rfl rfl (fun h357=>?_) ?_
 ·refine U 51690005 ?_;refine jE (lh 2 4 (c8 l) rfl) ?_;refine U 30007000 ?_
  exact mf 0 (.inl rfl) (fo rfl (cR rfl)) rfl O O (fun _=>by omega) (fun j hj=>by omega)
 ·refine U 68103005 ?_
  refine ay (bD 0 4 iq fun p1=>?_)
  refine U 1 ?_
  refine aL (au (l:=[]) ( aP 4 cc ae) rfl rfl rfl rfl (GP (GO _)) (fun j hj=>absurd hj (by simp)) (eT rfl) rfl (fun j hj=>by exact cZ) underlying22 zd ol iq CD rfl (by (simp;omega)) (by (simp;omega)) (fun j hj=>eo _ (Gu _ T)) rfl rfl rfl (fun p2=>?_))
  refine U 700051 ?_
  exact mf 0 (.inl rfl) (fo rfl (cR rfl)) rfl (by simp) (by simp) (fun _=>by simp) (fun j hj=>cZ)
theorem qE (a b:N4):c4 gs prog 33 [o8 a,o8 b] (.c (.int .i64 (uR a.1 b.1))):=by
 refine ag 10 func33 fun _ _ _ _=>?_;refine dU ?_
 refine ay (cG 4 fun p1=>?_)
 refine ay (cG 4 fun p2=>?_)
 refine U 50905090651 ?_
 refine ay (aD (z8 a.1 b.1) ?_)
 refine U 51 ?_
 refine jR d4
end
def E5:Nat:=4294967296
def Dv (x:Nat):Nat:=4294967295-x
theorem not_lt (x:Nat):Dv x<E5:=by unfold Dv E5;omega
def Bg (w:V):Bool:=decide (1≤w.length) && decide (w.length≤32) && w.all k7
def EN (p:V):Bool:=decide (65536<p.length)
def xg (w:V) (ps:FI):Nat:=if Bg w=true then (if 16<ps.length∨ps.any EN=true then 3 else 0) else 8
section
variable {κ β:Type}
def dY [DecidableEq κ] (l:List (κ×β)) (k:κ):Option β:=match l with|[]=>none|x::r=>if x.1=k then some x.2 else dY r k
def lT [DecidableEq κ]:List (κ×β)→κ→β→List (κ×β)
 | [],k,v=>[(k,v)]
 | x::r,k,v=>if x.1=k then (k,v)::r else x::lT r k v
def eW [DecidableEq κ] (k:κ):List κ→List MapEntry→Nat→Option (Nat×Value)
 | x::ks,e::es,i=>if x=k then some (i,e.val) else eW k ks es (i+1)
 | _,_,_=>none
structure x9 [DecidableEq κ] (P:Program) (kt:TypeId) (kv:κ→Value):Prop where
 check:∀ (w:World) (em:Bool) (k:κ),(Instr.checkKey em 10000 kt (kv k)).run P w=.ok () w
 find:∀ (w:World) (k:κ) (es:List MapEntry) (ks:List κ),es.map (·.key)=ks.map kv→(Instr.findKey kt (kv k) es).run P w=.ok (eW k ks es 0) w
 stays:∀ (w:World) (k:κ),(Instr.keyThatStays (kv k) (kv k)).run P w=.ok (kv k) w
def cX (al:List Addr) (St:Nat→Prop) (w:World) (kv:κ→Value) (vC:β→CV):List MapEntry→List (κ×β)→Prop
 | [],[]=>True
 | e::es,x::l=>e.key=kv x.1∧ai al St w (vC x.2) e.val∧cX al St w kv vC es l
 | _,_=>False
theorem cX.evo {al:List Addr} {St St':Nat→Prop} {w w':World} (he:k9 St w w') (hs:∀ b,St b→St' b) {kv:κ→Value} {vC:β→CV}:∀ {es:List MapEntry} {l:List (κ×β)},cX al St w kv vC es l→cX al St' w' kv vC es l
 | [],[],_=>trivial
 | e::es,x::l,h=>⟨h.1,ai.evo he hs _ _ h.2.1,cX.evo he hs h.2.2⟩
 | [],_::_,h=>h.elim
 | _::_,[],h=>h.elim
theorem cX.keys {al:List Addr} {St:Nat→Prop} {w:World} {kv:κ→Value} {vC:β→CV}:∀ {es:List MapEntry} {l:List (κ×β)},cX al St w kv vC es l→es.map (·.key)=(l.map (·.1)).map kv
 | [],[],_=>rfl
 | e::es,x::l,h=>by rw [Gf,Gf,Gf,h.1,cX.keys h.2.2]
 | [],_::_,h=>h.elim
 | _::_,[],h=>h.elim
def kZ (kv:κ→Value) (vC:β→CV) (l:List (κ×β)):OP where
 p al St w g F:=(∀ b,F b↔b=g)∧∃ es clock,w.heap[g]?=some (.map es clock)∧cX al St w kv vC es.toList l
 st:=fun he hs hF ⟨h0,es,clock,h1,h2⟩=>⟨h0,es,clock,(hF _ ((h0 _).2 rfl)).trans h1,h2.evo he hs⟩
theorem sP [DecidableEq κ] {al:List Addr} {St:Nat→Prop} {w:World} {kv:κ→Value} {vC:β→CV} (k:κ):∀ {es:List MapEntry} {l:List (κ×β)} (i:Nat),cX al St w kv vC es l →
  match dY l k with
  | some v=>∃ j x,eW k (l.map (·.1)) es i=some (i+j,x)∧ai al St w (vC v) x∧∃ e,es[j]?=some e∧e.key=kv k∧e.val=x
  | none=>eW k (l.map (·.1)) es i=none
 | [],[],i,_=>rfl
 | e::es,x::l,i,h=>by
  have ih:=sP k (es:=es) (l:=l) (i+1) h.2.2
  rw [Gf]
  unfold dY eW
  by_cases hk:x.1=k
  ·rw [FO hk,FO hk]
   exact ⟨0,e.val,rfl,h.2.1,e,rfl,by rw [h.1,hk],rfl⟩
  ·rw [FN hk,FN hk]
   split
   ·rename_i v hv
    rw [hv] at ih
    have ⟨j,y,h1,h2,e',h3,h4,h5⟩:=ih
    exact ⟨j+1,y,by rw [h1,show i+1+j=i+(j+1) by omega],h2,e',by simpa using h3,h4,h5⟩
   ·rename_i hv
    rw [hv] at ih
    exact ih
 | [],_::_,_,h=>h.elim
 | _::_,[],_,h=>h.elim
end
def k8 (k:V):Value:=.string ⟨k.toArray⟩
theorem qD {a b:V}:((⟨a.toArray⟩:ByteArray) == ⟨b.toArray⟩)=decide (a=b):=by
 have e:((⟨a.toArray⟩:ByteArray) == ⟨b.toArray⟩)=(a.toArray == b.toArray):=rfl
 rw [e]
 by_cases h:a=b
 ·subst h
  rw [beq_self_eq_true,GX rfl]
 ·rw [Gn h,beq_eq_false_iff_ne.2 fun e=>h (Array.mk.inj e)]
theorem B9 {a b:V}:Instr.sameNow .string (k8 a) (k8 b)=some (decide (b=a)):=by
 show some ((⟨a.toArray⟩:ByteArray) == ⟨b.toArray⟩)=_
 rw [qD]
 congr 1
 exact decide_eq_decide.2 ⟨Eq.symm,Eq.symm⟩
theorem ql (k:V):∀ (es:List MapEntry) (ks:FI) (i:Nat),es.map (·.key)=ks.map k8→Instr.findNow .string (k8 k) es i=some (eW k ks es i)
 | [],[],_,_=>rfl
 | [],_::_,_,h=>by simp at h
 | _::_,[],_,h=>by simp at h
 | e::es,x::ks,i,h=>by
  simp only [Gf,List.cons.injEq] at h
  unfold Instr.findNow eW
  rw [h.1,B9]
  by_cases I:x=k
  ·rw [GX I,FO I]
  ·rw [Gn I,FN I]
   exact ql k es ks (i+1) h.2
theorem wN {P:Program} {kt:TypeId} (h:P.underlying kt=some .string):x9 P kt k8 where
 check w em k:=Go.MapKept.run_checkKey h (by simp [Go.MapKept.IsKey,k8]) em 9999
 find w k es ks he:=Go.MapKept.run_findKey h (ql k es ks 0 he)
 stays w k:=by
  have h:Instr.sameBits 10000 (k8 k) (k8 k)=true:=by
   show ((⟨k.toArray⟩:ByteArray) == ⟨k.toArray⟩)=true
   rw [qD,GX rfl]
  simp [Instr.keyThatStays,h]
abbrev nZ:=V×V×V
def Ea (B:List nZ) (l:nZ):List nZ:=if l ∈ B then B else B++[l]
def ya (B:List nZ):Prop:=∀ l ∈ B,xg l.2.1 [l.2.2]=0
theorem ya.add {B:List nZ} {l:nZ} (h:ya B) (hl:xg l.2.1 [l.2.2]=0):ya (Ea B l):=by
 unfold Ea
 split
 exact h
 ·intro x I
  rcases HE.1 I with I|I
  exact h x I
  ·rw [Gz.1 I];exact hl
theorem pT {κ β:Type} [DecidableEq κ]:∀ {l:List (κ×β)} {k:κ} {v:β},dY l k=none→lT l k v=l++[(k,v)]
 | [],_,_,_=>rfl
 | x::r,k,v,h=>by
  unfold dY at h
  by_cases e:x.1=k
  ·rw [FO e] at h;cases h
  ·rw [FN e] at h
   unfold lT
   rw [FN e,pT h]
   rfl
section
open Go.RowKit Cal
def mK (n:Nat):CV:=.c (.int .i64 (n:Nat))
def bZ (l:List N4) (i:Nat):List (V×Nat):=(l.take i).map fun a=>(a.2.1,1)
theorem kh:∀ (l:List N4) (k:V),dY (l.map fun a=>(a.2.1,1)) k=if (∃ a ∈ l,a.2.1=k) then some 1 else none
 | [],k=>by rw [FN (by simp)];rfl
 | a::l,k=>by
  show (if a.2.1=k then some 1 else dY (l.map fun a=>(a.2.1,1)) k)=_
  rw [kh l k]
  by_cases e:a.2.1=k
  ·rw [FO e,FO ⟨a,F2,e⟩]
  ·rw [FN e]
   by_cases h:∃ x ∈ l,x.2.1=k
   ·have ⟨x,h1,h2⟩:=h
    rw [FO ⟨x,h1,h2⟩,FO ⟨x,F9 _ h1,h2⟩]
   ·rw [FN h,FN]
    rintro ⟨x,h1,h2⟩
    rcases Gb.1 h1 with rfl|h1
    exact e h2
    exact h ⟨x,h1,h2⟩
section
variable {l:List N4} {i:Nat}
theorem px (hi:i≤l.length) (k:V):(dY (bZ l i) k).getD 0=if (∃ j,j<i∧(l.getD j ae).2.1=k) then 1 else 0:=by
 have I:(∃ a ∈ l.take i,a.2.1=k)↔∃ j,j<i∧(l.getD j ae).2.1=k:=by
  constructor
  ·rintro ⟨a,h1,h2⟩
   obtain ⟨j,hj,rfl⟩:=Gw h1
   rw [F6] at hj
   refine ⟨j,by omega,?_⟩
   rw [List.getElem_take] at h2
   simpa [List.getD,show j<l.length by omega] using h2
  ·rintro ⟨j,h1,h2⟩
   refine ⟨l[j],List.mem_take_iff_getElem.2 ⟨j,by omega,rfl⟩,?_⟩
   simpa [List.getD,show j<l.length by omega] using h2
 unfold bZ
 rw [kh]
 by_cases h:∃ a ∈ l.take i,a.2.1=k
 ·rw [FO h,FO (I.1 h)];rfl
 ·rw [FN h,FN (fun h2=>h (I.2 h2))];rfl
theorem m7 (hi:i<l.length) (h:¬ 0<(dY (bZ l i) (l.getD i ae).2.1).getD 0):lT (bZ l i) (l.getD i ae).2.1 ((dY (bZ l i) (l.getD i ae).2.1).getD 0+1)=bZ l (i+1):=by
 have hn:dY (bZ l i) (l.getD i ae).2.1=none:=by
  unfold bZ at h ⊢
  rw [kh] at h ⊢
  split at h
  ·simp at h
  ·rename_i h2;rw [FN h2]
 rw [hn,pT hn]
 unfold bZ
 rw [FV hi,HD]
 simp [List.getD,hi]
theorem oK (hi:i<l.length) (h:aw (l.getD i ae)=false∨0<(dY (bZ l i) (l.getD i ae).2.1).getD 0∨(0<i∧(l.getD i ae).1≤(l.getD (i-1) ae).1)):fQ l i=false:=by
 rw [px O] at h
 cases e:fQ l i with
 | false=>rfl
 | true =>
  exfalso
  unfold fQ at e
  rw [FK,il] at e
  rcases h with h|h|⟨h0,h⟩
  ·rw [h] at e;exact absurd e.1 T
  ·split at h
   ·rename_i h2
    have ⟨j,h3,h4⟩:=h2
    exact (e.2 j h3).2 h4
   omega
  ·have:=(e.2 (i-1) O).1
   omega
theorem pN (hg:dh l i=true) (hi:i<l.length) (h1:aw (l.getD i ae)=true) (h2:¬ 0<(dY (bZ l i) (l.getD i ae).2.1).getD 0) (h3:i=0∨(l.getD (i-1) ae).1<(l.getD i ae).1):fQ l i=true:=by
 rw [px O] at h2
 unfold fQ
 rw [h1,GJ]
 refine xU hg (fun k hk e=>?_) h3
 rw [FO ⟨k,hk,e⟩] at h2
 omega
end
end
section
variable {κ β:Type} {kv:κ→Value} {kw:Value} {P:Program} {G:Gh} {o:Oper} {s:AS} {K:AS→Prop} {t kt et:TypeId} {x y z:Operand} {vC:β→CV} {l:List (κ×β)} {k:κ} {i g:Nat}
theorem AI {St:Nat→Prop} {a:Act} {w:World} (h:ab G St s a w) (hH:s.H[i]?=some (some g,.obj (kZ kv vC l))):g<w.heap.size∧∃ es clock,w.heap[g]?=some (.map es clock)∧cX G.al St w kv vC es.toList l:=by
 have ⟨fp,hp⟩:=h.hp
 obtain ⟨h0,es,clock,h1,h2⟩:=hp.rep i (some g) _ hH
 exact ⟨(hp.own i g ((h0 g).2 rfl)).1,es,clock,h1,h2⟩
def Av (c:CV) (v:Value):Prop:=∀ al St w x,ai al St w c x→x=v
theorem gH {c:CV} {k:V} (h:c=bi k):Av c (k8 k):=fun al St w x I=>by rw [h] at I;exact I
theorem oG [DecidableEq κ] {zv:Value} {v:CV} (ho:o.op=.lookup t x y false) (I:s.eval x=.c (.map (some g))) (hH:s.H[i]?=some (some g,.obj (kZ kv vC l))) (hy:Av (s.eval y) (kv k)) (h1:P.underlying t=some (.map kt et)) (h2:x9 P kt kv) (hz:(P.info? et).map (·.zero)=some (some zv))
  (hv:∀ u,dY l k=some u→J (vC u) v) (hv0:dY l k=none→J (.c zv) v):gi P G o s v:=fun St a w h=>by
 have ⟨hlt,es,clock,hb,he⟩:=AI h hH
 have ⟨info,hi,hzz⟩:=FM.1 hz
 have hf:=sP k 0 he
 have hkv:a.eval y=kv k:=hy _ _ _ _ (h.eval y)
 have hff:=fun W:World=>h2.find W k es.toList _ he.keys
 cases hm:dY l k with
 | none =>
  simp only [hm] at hf
  simp only [hf] at hff
  refine ⟨zv,fun W hW=>?_,hv0 hm _ _ _ _ rfl⟩
  have hbW:W.heap[g]?=some (.map es clock):=(hW.block g hlt).trans hb
  simp only [execOp,ho,iR h I,hkv]
  refine iz ?_
  simp [Instr.lookup,underlying,h1,Go.MapKept.run_getObj_map hbW,h2.check,hff,zeroValue,typeInfo,hi,hzz]
 | some u =>
  simp only [hm] at hf
  have ⟨j,xv,hf,hr,_⟩:=hf
  simp only [hf] at hff
  refine ⟨xv,fun W hW=>?_,hv u hm _ _ _ _ hr⟩
  have hbW:W.heap[g]?=some (.map es clock):=(hW.block g hlt).trans hb
  simp only [execOp,ho,iR h I,hkv]
  refine iz ?_
  simp [Instr.lookup,underlying,h1,Go.MapKept.run_getObj_map hbW,h2.check,hff]
theorem ab.setMap {St:Nat→Prop} {a:Act} {w:World} (h:ab G St s a w) {l':List (κ×β)} (hH:s.H[i]?=some (some g,.obj (kZ kv vC l))) {es es':Array MapEntry} {clock clock':Nat} (hb:w.heap[g]?=some (.map es clock)) (he':cX G.al St w kv vC es'.toList l') :
  ab G St ⟨s.env,s.b,s.H.set i (some g,.obj (kZ kv vC l'))⟩ a { w with heap:=w.heap.setIfInBounds g (.map es' clock') }∧cE St w { w with heap:=w.heap.setIfInBounds g (.map es' clock') }:=by
 have ⟨fp,hp⟩:=h.hp
 have hlt:i<s.H.length:=(FL.1 hH).1
 have hrep:=hp.rep i (some g) _ hH
 have hg:fp i g:=(hrep.1 g).2 rfl
 have ⟨hg1,hg2,hg3⟩:=hp.own i g hg
 obtain ⟨hnew,hold⟩:=Go.MapKept.heap_set (o':=.map es' clock') hb
 have hold:∀ b,b≠g→(w.heap.setIfInBounds g (.map es' clock'))[b]?=w.heap[b]?:=hold
 have hsz:(w.heap.setIfInBounds g (.map es' clock')).size=w.heap.size:=by simp
 have he:k9 St w { w with heap:=w.heap.setIfInBounds g (.map es' clock') }:=⟨fun b cu ct cz hb2 hcu=>(hold b (fun e=>hg2 (e ▸ hb2))).trans hcu,fun b cu t z hb2=>by
  by_cases e:b=g
  ·subst e
   rw [hb] at hb2
   cases hb2
  exact ⟨cu,z,(hold b e).trans hb2,rfl⟩⟩
 refine ⟨⟨h.df.keep (fun _ h=>h) (fun b hb=>hold b (fun e=>hg2 (e ▸ hb))),h.sz,fun d=>ai.evo he (fun _ x=>x) _ _ (h.env d),⟨h.un.os,h.un.tape,h.un.output,Gm h.un.size (GP hsz.symm),fun k hk hF=>?_,fun b cu t z hb2=>?_⟩,h.s1,h.s2,fun b hb=>Nat.lt_of_lt_of_eq (h.s3 b hb) hsz.symm,?_,?_,h.sg⟩,fun q hq=>hold q (fun e=>hg2 (e ▸ hq))⟩
 ·refine (hold k (fun e=>?_)).trans (h.un.block k hk hF)
  subst e
  rcases hg3 with h1|h1
  omega
  exact hF h1
 ·have ⟨cur',z',h1,h2⟩:=h.un.sh b cu t z hb2
  have ⟨cur2,z2,h3,h4⟩:=he.sh b cur' t z' h1
  exact ⟨cur2,z2,h3,h4.trans h2⟩
 ·refine ⟨fp,fun j q r hj=>?_,hp.dis,fun j b hb=>⟨Nat.lt_of_lt_of_eq (hp.own j b hb).1 hsz.symm,(hp.own j b hb).2⟩,fun j hj=>hp.out j (by simpa using hj)⟩
  by_cases e:j=i
  ·subst e
   simp [hlt] at hj
   obtain ⟨rfl,rfl⟩:=hj
   exact ⟨hrep.1,es',clock',hnew,he'.evo he (fun _ x=>x)⟩
  ·rw [FU (Ne.symm e)] at hj
   exact av.rep_evo he (fun _ x=>x) (fun b hF=>hold b (fun e2=>e (hp.dis j i b hF (e2 ▸ hg)))) (hp.rep j q r hj)
 exact cd.keep h.sn (fun q hq=>hold q (fun e=>hg2 (e ▸ h.sg.1 q hq))) (fun q hq=>hold _ (fun e=>hg2 (e ▸ h.sg.2 q hq)))
end
section
variable {κ β:Type} {kv:κ→Value} {P:Program} {G:Gh} {o:Oper} {s:AS} {K:AS→Prop} {t kt et:TypeId} {x y z:Operand} {vC:β→CV} {l:List (κ×β)} {k:κ} {i g:Nat}
theorem qt [DecidableEq κ] {al:List Addr} {St:Nat→Prop} {w:World} (u:β) {xv:Value} (I:ai al St w (vC u) xv):∀ {es:List MapEntry} {l:List (κ×β)} (i:Nat),cX al St w kv vC es l →
  (∃ j y,eW k (l.map (·.1)) es i=some (i+j,y)∧(∃ e,es[j]?=some e∧e.key=kv k)∧cX al St w kv vC (es.modify j fun e=>{ e with key:=kv k,val:=xv }) (lT l k u)) ∨
  (eW k (l.map (·.1)) es i=none∧∀ b,cX al St w kv vC (es++[⟨kv k,xv,b⟩]) (lT l k u))
 | [],[],i,_=>.inr ⟨rfl,fun b=>⟨rfl,I,trivial⟩⟩
 | e::es,q::l,i,h=>by
  rw [Gf]
  unfold eW lT
  by_cases hk:q.1=k
  ·rw [FO hk,FO hk]
   exact .inl ⟨0,e.val,rfl,⟨e,rfl,by rw [h.1,hk]⟩,rfl,I,h.2.2⟩
  ·rw [FN hk,FN hk]
   rcases qt u I (es:=es) (l:=l) (i+1) h.2.2 with ⟨j,y,h1,⟨e',h2,h3⟩,h4⟩|⟨h1,h2⟩
   exact .inl ⟨j+1,y,by rw [h1,show i+1+j=i+(j+1) by omega],⟨e',by simpa using h2,h3⟩,h.1,h.2.1,h4⟩
   exact .inr ⟨h1,fun b=>⟨h.1,h.2.1,h2 b⟩⟩
 | [],_::_,_,h=>h.elim
 | _::_,[],_,h=>h.elim
theorem zg [DecidableEq κ] {u:β} {c:CV} (ho:o.op=.mapUpdate t x y z∨o.op=.insert t x y z) (I:s.eval x=.c (.map (some g))) (hH:s.H[i]?=some (some g,.obj (kZ kv vC l))) (hy:Av (s.eval y) (kv k)) (hz:s.eval z=c) (hc:J c (vC u)) (h1:P.underlying t=some (.map kt et)) (h2:x9 P kt kv)
  (hd:aJ G o=true) (hK:K (s.with o.dst (.c undef) (s.H.set i (some g,.obj (kZ kv vC (lT l k u)))))):kE P G o s K:=fun St a w hr Q=>by
 have ⟨hlt,es,clock,hb,he⟩:=AI hr hH
 have hkv:a.eval y=kv k:=hy _ _ _ _ (hr.eval y)
 have hff:=h2.find w k es.toList _ he.keys
 have hzv:ai G.al St w (vC u) (a.eval z):=hc _ _ _ _ (c7 hr hz)
 have put:∀ {w':World} {H:List (Option Nat×av)},ab G St ⟨s.env,s.b,H⟩ a w'→ab G St (s.with o.dst (.c undef) H) (a.put o.dst undef) w':=fun {w' H} h1=>by
  have:=h1.put (dst:=o.dst) (v:=.c undef) (x:=undef) (bA hd) rfl
  cases ho:o.dst with
  | none=>rw [ho] at this;exact this
  | some d=>rw [ho] at this;exact this
 rcases qt (k:=k) u hzv 0 he with ⟨j,yv,hf,⟨e,h3,h4⟩,h5⟩|⟨hf,h5⟩
 ·rw [hf,Nat.zero_add] at hff
  have hrun:(execOp a.eval o).run P w=.ok .skip { w with heap:=w.heap.setIfInBounds g (.map (es.modify j fun e=>{ e with key:=kv k,val:=a.eval z }) clock) }:=by
   have h3':es[j]?=some e:=by simpa using h3
   rcases ho with ho|ho<;>(simp only [execOp,ho,iR hr I,hkv];simp [Instr.mapUpdate,underlying,h1,Go.MapKept.run_getObj_map hb,h2.check,hff,h3',h4,h2.stays,Go.MapKept.run_setObj_map _ hb])
  have hm:=ab.setMap hr hH (l':=lT l k u) (clock':=clock) hb (es':=es.modify j fun e=>{ e with key:=kv k,val:=a.eval z }) (by simpa using h5)
  unfold Oper.wp
  rw [hrun]
  exact ⟨hm.2,St,fun _ h=>h,_,hK,put hm.1⟩
 ·rw [hf] at hff
  have hrun:(execOp a.eval o).run P w=.ok .skip { w with heap:=w.heap.setIfInBounds g (.map (es.push ⟨kv k,a.eval z,clock⟩) (clock+1)) }:=by
   rcases ho with ho|ho<;>(simp only [execOp,ho,iR hr I,hkv];simp [Instr.mapUpdate,underlying,h1,Go.MapKept.run_getObj_map hb,h2.check,hff,Go.MapKept.run_setObj_map _ hb])
  have hm:=ab.setMap hr hH (l':=lT l k u) (clock':=clock+1) hb (es':=es.push ⟨kv k,a.eval z,clock⟩) (by simpa using h5 clock)
  unfold Oper.wp
  rw [hrun]
  exact ⟨hm.2,St,fun _ h=>h,_,hK,put hm.1⟩
theorem rI (kv:κ→Value) (vC:β→CV) (ho:o.op=.makeMap t none) (hd:aJ G o=true) (hK:∀ g:Nat,K (s.with o.dst (.c (.map (some g))) (s.H++[(some g,.obj (kZ kv vC []))]))):eG P G o s K:=fun St a w hr Q=>by
 have hrun:(execOp a.eval o).run P w=.ok (.value (.map (some w.heap.size))) (w.alloc (.map #[] 0)):=by
  simp only [execOp,ho]
  refine iz ?_
  simp [Instr.makeMap]
 have hn:=heap_alloc_new w (.map #[] 0)
 unfold Oper.wp
 rw [hrun]
 refine ⟨bk w _,St,fun _ h=>h,_,hK w.heap.size,?_⟩
 have:=(hr.freshObj (bk w (.map #[] 0)) (FQ _) (p:=kZ kv vC ([]:List (κ×β))) (FY.1 hn).1 ⟨fun b=>Iff.rfl,#[],0,hn,trivial⟩).put (dst:=o.dst) (v:=.c (.map (some w.heap.size))) (x:=.map (some w.heap.size)) (bA hd) rfl
 cases ho:o.dst with
 | none=>rw [ho] at this;exact this
 | some d=>rw [ho] at this;exact this
end
section
variable {κ β:Type} [DecidableEq κ] {kv:κ→Value} {P:Program} {G:Gh} {o:Oper} {K:AS→Prop} {t kt et:TypeId} {x y z:Operand} {vC:β→CV} {l:List (κ×β)} {k:κ} {g:Nat} {env:List (Nat×CV)} {b0:Nat→CV} {H:List (Option Nat×av)}
theorem DI {cy cz:CV} (i:Nat) (u:β) (h1:P.underlying t=some (.map kt et)) (h2:x9 P kt kv) (hy:Av cy (kv k)) (hc:J cz (vC u)) (hK:K ⟨env,b0,H.set i (some g,.obj (kZ kv vC (lT l k u)))⟩) (ho:o.op=.mapUpdate t x y z:=by exact rfl) (I:(⟨env,b0,H⟩:AS).eval x=.c (.map (some g)):=by exact rfl) (hy':(⟨env,b0,H⟩:AS).eval y=cy:=by exact rfl) (hz:(⟨env,b0,H⟩:AS).eval z=cz:=by exact rfl) (hH:H[i]?=some (some g,.obj (kZ kv vC l)):=by exact rfl) (hd:o.dst=none:=by exact rfl):kE P G o ⟨env,b0,H⟩ K :=
 zg (.inl ho) I hH (by rw [hy'];exact hy) hz hc h1 h2 (A0 hd) (by rw [mZ hd];exact hK)
end
section
variable {κ β:Type} {P:Program} {G:Gh} {o:Oper} {K:AS→Prop} {t:TypeId} {env:List (Nat×CV)} {b0:Nat→CV} {H:List (Option Nat×av)}
theorem EK (kv:κ→Value) (vC:β→CV) {d:Nat} (hK:∀ g:Nat,K ⟨(d,.c (.map (some g)))::env,b0,H++[(some g,.obj (kZ kv vC []))]⟩) (ho:o.op=.makeMap t none:=by exact rfl) (hd:o.dst=some d:=by exact rfl) (hN:Nat.blt d G.N=true:=by exact rfl):eG P G o ⟨env,b0,H⟩ K :=
 rI kv vC ho (ez hd hN) (fun g=>by rw [ba hd];exact hK g)
end
section
open Go.RowKit Cal
theorem gG:x9 prog 9 k8:=wN (by kernel_rfl)
theorem uZ [du gs] (a:N4):c4 gs prog 65 [o8 a] (.c (.bool (aw a))):=by
 have hm:=sy (gs:=gs) a.2.1
 cases I:bG a.2.1 with
 | false =>
  rw [I] at hm
  simp only [GW,if_false] at hm
  refine ag 40 func65 fun al w0 F0 St0=>?_;refine dU ?_
  refine ay (cG 4 fun p1=>?_)
  refine U 50100651 ?_
  refine ay (aD hm ?_)
  refine U 1500000165119009001 ?_;refine aS 13 (fun g32=>?_) fun g32=>?_
  rotate_left
  ·refine U 8000700051500444150044444150044415004441500444 ?_;refine cB ?_
   unfold aw
   rw [I]
   rfl
  refine U 110000000025090 ?_;refine aS 18 (fun g32_2=>?_) fun g32_2=>?_
  rotate_left
  ·refine U 800070005150044415004444415004441500444 ?_;refine cB ?_
   unfold aw
   rw [I]
   omega
  refine U 110000000025090 ?_;refine aS 23 (fun g32_3=>?_) fun g32_3=>?_
  rotate_left
  ·refine U 80007000515004441500444441500444 ?_;refine cB ?_
   unfold aw
   rw [I]
   omega
  refine U 11000000002501000 ?_;refine aS 28 (fun g32_4=>?_) fun g32_4=>?_
  rotate_left
  ·refine U 8000700051500444150044444 ?_;refine cB ?_
   unfold aw
   rw [I]
   omega
  refine U 11000000002505000000501000 ?_;refine aS 35 (fun g32_5=>?_) fun g32_5=>?_
  ·refine U 80007000511000000002505000000 ?_;refine cB ?_
   unfold aw
   rw [I]
   omega
  refine U 8000700051500444 ?_;refine cB ?_
  unfold aw
  rw [I]
  omega
 | true =>
  rw [I] at hm
  simp only [if_true] at hm
  refine ag 40 func65 fun al w0 F0 St0=>?_;refine dU ?_
  refine ay (cG 4 fun p1=>?_)
  refine U 50100651 ?_
  refine ay (aD hm ?_)
  refine U 1500000165119009001 ?_;refine aS 13 (fun g32=>?_) fun g32=>?_
  rotate_left
  ·refine U 8000700051500444150044444150044415004441500444 ?_;refine cB ?_
   unfold aw fa
   rw [I]
   (simp_all;done)
  refine U 110000000025090 ?_;refine aS 18 (fun g32_2=>?_) fun g32_2=>?_
  rotate_left
  ·refine U 800070005150044415004444415004441500444 ?_;refine cB ?_
   unfold aw fa
   rw [I]
   (rw [GT];simp_all;omega)
  refine U 110000000025090 ?_;refine aS 23 (fun g32_3=>?_) fun g32_3=>?_
  rotate_left
  ·refine U 80007000515004441500444441500444 ?_;refine cB ?_
   unfold aw fa
   rw [I]
   (rw [GT];simp_all;omega)
  refine U 11000000002501000 ?_;refine aS 28 (fun g32_4=>?_) fun g32_4=>?_
  rotate_left
  ·refine U 8000700051500444150044444 ?_;refine cB ?_
   unfold aw fa
   rw [I]
   (rw [GT];simp_all;omega)
  refine U 11000000002505000000501000 ?_;refine aS 35 (fun g32_5=>?_) fun g32_5=>?_
  ·refine U 80007000511000000002505000000 ?_;refine cB ?_
   unfold aw fa
   rw [I]
   (rw [GT];simp_all;omega)
  refine U 8000700051500444 ?_;refine cB ?_
  unfold aw fa
  rw [I]
  (rw [GT];simp_all;omega)
theorem nV [du gs] (b:B3):c4 gs prog 26 [jA b] (.c (.bool (aq b))):=by
 refine ag 73 func26 fun _ _ _ _=>?_;refine dU ?_
 refine ay (cG 3 fun p1=>?_)
 refine U 751 ?_;refine jE (am 0 (m:=3) (F:=bN b) rfl T (fun _=>rfl) (fun j hj=>J.of_eq (bL _ hj))) ?_;refine U 1250906 ?_;refine aS 9 (fun g37=>?_) fun g37=>?_
 ·refine U 80003000700051690005100000000444411000000004444110000000044441100000000444 ?_;refine cB ?_
  unfold aq fa
  (simp_all;omega)
 refine U 150025090 ?_;refine aS 14 (fun g37_2=>?_) fun g37_2=>?_
 ·refine U 8000300070005169000510000000044441100000000444411000000004444 ?_;refine cB ?_
  unfold aq fa
  (simp_all;omega)
 refine U 50100 ?_
 refine ay (aD (wI b.2.1) ?_)
 refine U 150030 ?_;refine aS 20 (fun g37_3=>?_) fun g37_3=>?_
 ·refine U 80003000700051690005100000000444411000000004444 ?_;refine cB ?_
  unfold aq fa
  (simp_all;done)
 refine U 150023501000 ?_;refine aS 26 (fun g37_4=>?_) fun g37_4=>?_
 ·refine U 800030007000516900051000000004444 ?_;refine cB ?_
  unfold aq fa
  (simp_all;omega)
 refine U 550023501000 ?_;refine aX (fun h37=>?_) fun h37=>?_
 ·refine U 800030007000516 ?_;refine cB ?_
  unfold aq fa
  (simp_all;omega)
 refine U 6810 ?_
 refine ay (EK k8 mK (fun gm=>?_))
 refine U 205135010006751 ?_;refine aG (α:=Nat) [2,4,5,36,37,38,39,40,41,42,43,44,45,46,47,48,49,50,51,52,53,54,55,56,57,58,59,60,61,62,63,64,65,66,67,68,69,70,71,72] (fun i=>[(36,.c (.int .i64 (i:Nat)))]) (fun i=>[(p1,.blk 3 (bN b)),(some gm,.obj (kZ k8 mK (bZ b.2.2 i)))]) (fun i=>i≤b.2.2.length∧dh b.2.2 i=true) (fun i=>b.2.2.length-i) (0) ?_ (fun _=>rfl) ?_ ?_ ?_
 exact ⟨F4 _,rfl⟩
 exact .cons cZ .nil
 exact ar.refl _
 ·rintro i ⟨(hi:i≤b.2.2.length),hg⟩
  refine U 7526 ?_;refine aaa (fun h41=>?_) fun h41=>?_
  ·refine U 8000700051684000200020006000 ?_;refine cB ?_
   have hil:i=b.2.2.length:=by omega
   unfold aq fa
   rw [← hil,hg]
   (simp_all;omega)
  refine U 70016207810 ?_;refine jq (bS 4) ?_
  refine ay (ce (n:=4) iq rfl fun p2=>?_)
  refine U 1 ?_
  refine aL (ak 4 (cc (b.2.2.getD i ae)) ?_ ?_)
  exact dV
  refine U 775 ?_;refine pZ (.rd 0 (.one 1 (.rd 2 (.rd 3 (.rd 4 (.rd 5 (.rd 6 (.rd 7 (.rd 8 (.rd 9 (.rd 10 (.rd 11 (.rd 12 (.rd 13 (.rd 14 (.rd 15 (.rd 16 (.rd 17 (.rd 18 (.rd 19 (.rd 20 (.rd 21 (.rd 22 (.rd 23 (.rd 24 (.rd 25 .done)))))))))))))))))))))))))) ?_;refine yc (aI 4) ?_
  refine mA (aD (uZ (b.2.2.getD i ae)) ?_)
  refine U 70100000 ?_;refine oQ 44 (fun g42=>?_) fun g42=>?_
  ·refine U 8000300050003000300050003000700051690008803000000600600600600600600600600600600600600600600703000000600600600600600 ?_
   have ho:fQ b.2.2 i=false:=oK O (by (left;simp_all;done))
   refine cB ?_
   unfold aq
   rw [cQ ho O,Gj]
  refine U 10000800000070 ?_;refine yc (oG (i:=1) (k:=(b.2.2.getD i ae).2.1) (vC:=mK) (l:=bZ b.2.2 i) (v:=mK ((dY (bZ b.2.2 i) (b.2.2.getD i ae).2.1).getD 0)) rfl rfl rfl (gH rfl) underlying111 gG A8 (fun u hu=>by rw [hu];exact cZ) (fun h=>by rw [h];exact cZ)) ?_;refine U 70300000800 ?_;refine oQ 51 (fun g42_2=>?_) fun g42_2=>?_
  ·refine U 8000300050003000300050003000700051690008803000000600600600600600600600600600600600600600600 ?_
   have ho:fQ b.2.2 i=false:=oK O (by (right;left;simp_all;done))
   refine cB ?_
   unfold aq
   rw [cQ ho O,Gj]
  refine U 7080070 ?_;refine oQ 54 (fun g42_3=>?_) fun g42_3=>?_
  rotate_left
  ·refine U 810300880300000300000600600600600600600600600600600 ?_
   have hs0:¬ 0<(dY (bZ b.2.2 i) (b.2.2.getD i ae).2.1).getD 0:=by
    omega
   have hok:fQ b.2.2 i=true:=pN hg O (by (simp_all;done)) hs0 O
   refine U 501001200 ?_;refine gj (oG (i:=1) (k:=(b.2.2.getD i ae).2.1) (vC:=mK) (l:=bZ b.2.2 i) (v:=mK ((dY (bZ b.2.2 i) (b.2.2.getD i ae).2.1).getD 0)) rfl rfl rfl (gH rfl) underlying111 gG A8 (fun u hu=>by rw [hu];exact cZ) (fun h=>by rw [h];exact cZ)) ?_;refine U 9 ?_
   refine aL (DI (vC:=mK) 1 ((dY (bZ b.2.2 i) (b.2.2.getD i ae).2.1).getD 0+1) underlying111 gG (gH (k:=(b.2.2.getD i ae).2.1) rfl) (cz:=.c (.int .i64 (((dY (bZ b.2.2 i) (b.2.2.getD i ae).2.1).getD 0:Nat)+1))) (cI O) ?_)
   rw [m7 O hs0]
   refine U 851920084005 ?_
   refine aH (i+1) ?_ ?_ (h5:=?_) (h7:=?_)
   ·refine ⟨by omega,?_⟩
    show (dh b.2.2 i && fQ b.2.2 i)=true
    rw [hg,hok]
    rfl
   show b.2.2.length-(i+1)<b.2.2.length-i;omega
   exact .cons (cI O) .nil
   exact ar.refl _
  refine eF (cU 2 1 false) ?_;refine U 300007010000 ?_;refine eF (iu (i:=(i-1)) (hz:=by omega)) ?_;refine U 88030000030000008001000090000070000900000 ?_;refine aX (fun h42=>?_) fun h42=>?_
  ·refine U 80003000500030003000500030007000516 ?_
   have ho:fQ b.2.2 i=false:=oK O (by (right;right;simp_all;done))
   refine cB ?_
   unfold aq
   rw [cQ ho O,Gj]
  refine U 810 ?_
  have hs0:¬ 0<(dY (bZ b.2.2 i) (b.2.2.getD i ae).2.1).getD 0:=by
   omega
  have hok:fQ b.2.2 i=true:=pN hg O (by (simp_all;done)) hs0 O
  refine U 501001200 ?_;refine gj (oG (i:=1) (k:=(b.2.2.getD i ae).2.1) (vC:=mK) (l:=bZ b.2.2 i) (v:=mK ((dY (bZ b.2.2 i) (b.2.2.getD i ae).2.1).getD 0)) rfl rfl rfl (gH rfl) underlying111 gG A8 (fun u hu=>by rw [hu];exact cZ) (fun h=>by rw [h];exact cZ)) ?_;refine U 9 ?_
  refine aL (DI (vC:=mK) 1 ((dY (bZ b.2.2 i) (b.2.2.getD i ae).2.1).getD 0+1) underlying111 gG (gH (k:=(b.2.2.getD i ae).2.1) rfl) (cz:=.c (.int .i64 (((dY (bZ b.2.2 i) (b.2.2.getD i ae).2.1).getD 0:Nat)+1))) (cI O) ?_)
  rw [m7 O hs0]
  refine U 851920084005 ?_
  refine aH (i+1) ?_ ?_ (h5:=?_) (h7:=?_)
  ·refine ⟨by omega,?_⟩
   show (dh b.2.2 i && fQ b.2.2 i)=true
   rw [hg,hok]
   rfl
  show b.2.2.length-(i+1)<b.2.2.length-i;omega
  exact .cons (cI O) .nil
  exact ar.refl _
theorem xV {l:List N4} {i k:Nat} (hk:k<i) (h:(l.getD i ae).1≤(l.getD k ae).1∨(l.getD k ae).2.1=(l.getD i ae).2.1):fQ l i=false:=by
 cases e:fQ l i with
 | false=>rfl
 | true =>
  exfalso
  unfold fQ at e
  rw [FK,il] at e
  have:=e.2 k hk
  rcases h with h|h
  omega
  exact this.2 h
theorem Af {l:List N4} {i:Nat} (h1:aw (l.getD i ae)=true) (h:∀ k,k<i→(l.getD k ae).1<(l.getD i ae).1∧(l.getD k ae).2.1≠(l.getD i ae).2.1):fQ l i=true:=by
 unfold fQ
 rw [h1,il.2 h]
 rfl
theorem lP (b:B3) (hk:∀ i,(b.2.2.getD i ae).2.1.length≤1000000):c4 gs prog 27 [jA b] (.c (.bool (aq b))):=by
 refine ag 97 func27 fun _ _ _ _=>?_;refine dU ?_
 refine ay (cG 3 fun p1=>?_)
 refine U 751 ?_;refine jE (am 0 (m:=3) (F:=bN b) rfl T (fun _=>rfl) (fun j hj=>J.of_eq (bL _ hj))) ?_;refine U 1250906 ?_;refine aS 9 (fun g27=>?_) fun g27=>?_
 ·refine U 80003000700051690005100000000444411000000004444110000000044441100000000444 ?_;refine cB ?_
  unfold aq fa
  (simp_all;omega)
 refine U 150025090 ?_;refine aS 14 (fun g27_2=>?_) fun g27_2=>?_
 ·refine U 8000300070005169000510000000044441100000000444411000000004444 ?_;refine cB ?_
  unfold aq fa
  (simp_all;omega)
 refine U 50100 ?_
 refine ay (aD (tS b.2.1) ?_)
 refine U 150030 ?_;refine aS 20 (fun g27_3=>?_) fun g27_3=>?_
 ·refine U 80003000700051690005100000000444411000000004444 ?_;refine cB ?_
  unfold aq fa
  (simp_all;done)
 refine U 150023501000 ?_;refine aS 26 (fun g27_4=>?_) fun g27_4=>?_
 ·refine U 800030007000516900051000000004444 ?_;refine cB ?_
  unfold aq fa
  (simp_all;done)
 refine U 550023501000 ?_;refine aX (fun h27=>?_) fun h27=>?_
 ·refine U 800030007000516 ?_;refine cB ?_
  unfold aq fa
  (simp_all;omega)
 refine U 2051350100067810 ?_;refine aG (α:=Nat) [2,3,4,5,35,36,37,38,39,40,41,42,43,44,45,46,47,48,49,50,51,52,53,54,55,56,57,58,59,60,61,62,63,64,65,66,67,68,69,70,71,72,73,74,75,76,77,78,79,80,81,82,83,84,85,86,87,88,89,90,91,92,93,94,95,96] (fun i=>[(35,.c (.int .i64 (i:Nat)))]) (fun i=>[(p1,.blk 3 (bN b))]) (fun i=>i≤b.2.2.length∧dh b.2.2 i=true) (fun i=>b.2.2.length-i) (0) ?_ (fun _=>rfl) ?_ ?_ ?_
 exact ⟨F4 _,rfl⟩
 exact .cons cZ .nil
 exact ar.refl _
 ·rintro i ⟨(hi:i≤b.2.2.length),hg⟩
  refine U 7526 ?_;refine aaa (fun h30=>?_) fun h30=>?_
  ·refine U 8000700051684000200020006000 ?_;refine cB ?_
   have hil:i=b.2.2.length:=by omega
   unfold aq fa
   rw [← hil,hg]
   grind
  refine U 70016207810 ?_;refine jq (bS 4) ?_
  refine ay (ce (n:=4) cg rfl fun p2=>?_)
  refine U 1 ?_
  refine aL (ak 4 (cc (b.2.2.getD i ae)) ?_ ?_)
  exact dV
  refine U 125090675 ?_;refine aS 43 (fun g31=>?_) fun g31=>?_
  ·refine U 80003000500030003000500030007000516900051000000004441100000000444441100000000444110000000044441100000000444 ?_
   have ho:fQ b.2.2 i=false:=by
    have hr:aw (b.2.2.getD i ae)=false:=by
     unfold aw fa
     (simp_all;omega)
    unfold fQ
    rw [hr]
    rfl
   refine cB ?_
   unfold aq
   rw [cQ ho O,Gj]
  refine U 150025090 ?_;refine aS 48 (fun g31_2=>?_) fun g31_2=>?_
  ·refine U 8000300050003000300050003000700051690005100000000444110000000044444110000000044411000000004444 ?_
   have ho:fQ b.2.2 i=false:=by
    have hr:aw (b.2.2.getD i ae)=false:=by
     unfold aw fa
     (simp_all;omega)
    unfold fQ
    rw [hr]
    rfl
   refine cB ?_
   unfold aq
   rw [cQ ho O,Gj]
  refine U 50100 ?_
  refine ay (aD (Bu (b.2.2.getD i ae).2.1 (hk i)) ?_)
  refine U 150030 ?_;refine aS 54 (fun g31_3=>?_) fun g31_3=>?_
  ·refine U 80003000500030003000500030007000516900051000000004441100000000444441100000000444 ?_
   have ho:fQ b.2.2 i=false:=by
    have hr:aw (b.2.2.getD i ae)=false:=by
     unfold aw fa
     (simp_all;done)
    unfold fQ
    rw [hr]
    rfl
   refine cB ?_
   unfold aq
   rw [cQ ho O,Gj]
  refine U 15002501000 ?_;refine aS 59 (fun g31_4=>?_) fun g31_4=>?_
  ·refine U 8000300050003000300050003000700051690005100000000444110000000044444 ?_
   have ho:fQ b.2.2 i=false:=by
    have hr:aw (b.2.2.getD i ae)=false:=by
     unfold aw fa
     (simp_all;omega)
    unfold fQ
    rw [hr]
    rfl
   refine cB ?_
   unfold aq
   rw [cQ ho O,Gj]
  refine U 15002501000505000000 ?_;refine aS 66 (fun g31_5=>?_) fun g31_5=>?_
  ·refine U 8000300050003000300050003000700051690005100000000444 ?_
   have ho:fQ b.2.2 i=false:=by
    have hr:aw (b.2.2.getD i ae)=false:=by
     unfold aw fa
     (simp_all;omega)
    unfold fQ
    rw [hr]
    rfl
   refine cB ?_
   unfold aq
   rw [cQ ho O,Gj]
  refine U 55002505000000 ?_;refine aX (fun h31=>?_) fun h31=>?_
  ·refine U 80003000500030003000500030007000516 ?_
   have ho:fQ b.2.2 i=false:=by
    have hr:aw (b.2.2.getD i ae)=false:=by
     unfold aw fa
     (simp_all;done)
    unfold fQ
    rw [hr]
    rfl
   refine cB ?_
   unfold aq
   rw [cQ ho O,Gj]
  refine U 810 ?_
  first
   |(have hra:aw (b.2.2.getD i ae)=true:=by
      unfold aw fa
      (simp_all;omega))
   | skip
  refine U 20516 ?_;refine aG (α:=Nat) [2,5,71,72,73,74,75,76,77,78,79,80,81,82,83,84,85,86,87,88,89,90,91,92,93,94,95] (fun k=>[(5,.c (.int .i64 (k:Nat)))]) (fun k=>[(p1,.blk 3 (bN b)),(p2,.blk 4 (cc (b.2.2.getD i ae)))]) (fun k=>k≤i∧∀ j,j<k→(b.2.2.getD j ae).1<(b.2.2.getD i ae).1∧(b.2.2.getD j ae).2.1≠(b.2.2.getD i ae).2.1) (fun k=>i-k) (0) ?_ (fun _=>rfl) ?_ ?_ ?_
  exact ⟨F4 _,fun j hj=>absurd hj (F3 j)⟩
  exact .cons cZ .nil
  exact ar.refl _
  ·rintro k ⟨(hki:k≤i),hka⟩
   refine oU ?_
   first
    |(have hra:aw (b.2.2.getD i ae)=true:=by
       unfold aw fa
       (simp_all;omega))
    | skip
   refine U 52116 ?_;refine aaa (fun h34=>?_) fun h34=>?_
   ·refine U 851920084004000200020006000 ?_
    refine aH (i+1) ?_ ?_ (h5:=?_) (h7:=?_)
    ·refine ⟨by omega,?_⟩
     show (dh b.2.2 i && fQ b.2.2 i)=true
     rw [hg,Af hra (fun j hj=>hka j O)]
     rfl
    show b.2.2.length-(i+1)<b.2.2.length-i;omega
    exact .cons (cI O) .nil
    exact ar.refl _
   refine U 7207810 ?_;refine pZ (.rd 0 (.rd 1 (.rd 2 (.rd 3 (.rd 4 (.rd 5 (.rd 6 (.rd 7 (.rd 8 (.rd 9 (.rd 10 (.rd 11 (.rd 12 (.rd 13 (.rd 14 (.rd 15 (.rd 16 (.rd 17 (.rd 18 (.rd 19 .done)))))))))))))))))))) ?_;refine eF (cU 2 1 false) ?_;refine U 708001000090000070000900000900007010000 ?_;refine oQ 85 (fun g35=>?_) fun g35=>?_
   ·refine U 8000300050003000300050005000300030005000700051690008803000000600600600600600600600600600 ?_
    have ho:fQ b.2.2 i=false:=xV (k:=k) O (by (left;simp_all;done))
    refine cB ?_
    unfold aq
    rw [cQ ho O,Gj]
   refine eF (cU 2 1 false) ?_;refine U 100008000000700008000000900007010000 ?_;refine eF DF ?_;refine U 880300000 ?_;refine aX (fun h35=>?_) fun h35=>?_
   ·refine U 80003000500030003000500050003000300050007000516 ?_
    have ho:fQ b.2.2 i=false:=xV (k:=k) O (by (right;simp_all;done))
    refine cB ?_
    unfold aq
    rw [cQ ho O,Gj]
   refine U 840010 ?_
   first
    |(have hra:aw (b.2.2.getD i ae)=true:=by
       unfold aw fa
       (simp_all;omega))
    | skip
   refine U 85191200 ?_
   refine aH (k+1) ?_ ?_ (h5:=?_) (h7:=?_)
   ·refine ⟨by omega,fun j hj=>?_⟩
    by_cases e:j=k
    ·subst e
     (simp_all;done)
    exact hka j O
   show i-(k+1)<i-k;omega
   exact .cons (cI O) .nil
   exact ar.refl _
end
def mB (at_:Nat):Nat:=if at_=0 then 2147483727 else 2147483647
def DR (l:List Nat) (p:List Nat×Nat):List Nat×Nat:=if p.2≠0 then ([],p.2) else (l++p.1,0)
structure FG (b:V) (a:Nat) (nums:List Nat):Prop where
 le:a≤b.length
 n0:nums.length≤a
 ne:a≠0→nums≠[]
 bd:∀ n ∈ nums,n≤2147483727
 eq:je 2147483727 b=DR nums (je (mB a) (b.drop a))
section
open Go.RowKit Cal
def vE (kind:Int):VV:=⟨4,kind,false,[],[]⟩
section
variable {kind:Int} {fs:List Fd} {vs:List V4}
end
instance (f:Fd):Decidable (qJ f):=by unfold qJ;infer_instance
end
section
variable {gs:List Nat} [du gs]
open Go.RowKit Cal
end
section
variable {gs:List Nat}
end
section
open Go.RowKit Cal
end
section
variable {gs:List Nat} [cw gs] [pf gs]
open Go.RowKit Cal
section
variable (n:Nat) (l:FI) (k:Nat)
end
end
section
open Go.RowKit Cal
section
variable (n:Nat) (w:W8) (least most:Int) (v:V4)
theorem sV {kd:Int} (h1:kd≠1) (h2:kd≠2) (h3:kd≠11) (nn:Int) (b t:V) (w:W8):ix ⟨kd,nn,false,b,t⟩ w=co (ah ⟨kd,nn,false,b,t⟩).1 (ah ⟨kd,nn,false,b,t⟩).2.1 (ah ⟨kd,nn,false,b,t⟩).2.2 w:=by
 unfold ix
 rw [FN h1,FN h2,FN h3]
theorem oH {f:Fd} (h:f.call≠0):dw f v w=ix (ic f v) w:=by unfold dw;rw [FN h]
theorem za [du gs] (hs:pb w) (hb:v.b.length≤1000000):AC gs prog 101 [eE n w] [.op 0 (some n) 0,dL v.b] (fun r H'=>r=.c (.tuple #[])∧H'=[eE n (dw ⟨6,least,most⟩ v w)]):=by
 have e:dw ⟨6,least,most⟩ v w=co 4 v.b 0 w:=by rw [oH _ _ (show ¬ (6:Int)=0 by decide)];exact sV (kd:=6) T T T _ _ _ _
 rw [e]
 exact rl n w v.b hb hs
theorem sx [du gs] (hs:pb w):AC gs prog 102 [eE n w] [.op 0 (some n) 0,.c (.int .i64 v.n)] (fun r H'=>r=.c (.tuple #[])∧H'=[eE n (dw ⟨9,least,most⟩ v w)]):=by
 have e:dw ⟨9,least,most⟩ v w=co 24 (if ln v.n then bh (eZ v.n) else []) (sv v.n) w:=by rw [oH _ _ (show ¬ (9:Int)=0 by decide)];exact sV (kd:=9) T T T _ _ _ _
 rw [e]
 exact rq n w v.n hs
theorem sK [du gs] (hs:pb w) (hz:-9223372036854775808≤v.n∧v.n≤9223372036854775807):AC gs prog 58 [eE n w] [.op 0 (some n) 0,.c (.int .i64 v.n)] (fun r H'=>r=.c (.tuple #[])∧H'=[eE n (dw ⟨3,least,most⟩ v w)]):=by
 have e:dw ⟨3,least,most⟩ v w=co 2 (dW v.n) 0 w:=by rw [oH _ _ (show ¬ (3:Int)=0 by decide)];exact sV (kd:=3) T T T _ _ _ _
 rw [e]
 exact zB n w v.n hz hs
end
end
section
open Go.RowKit Cal
section
variable {gs:List Nat} [du gs]
end
section
variable {gs:List Nat} [cw gs] [pf gs]
def PW (gs:List Nat) (f:FuncId) (w:W8) (args:List CV) (w':W8):Prop:=∀ n,AC gs prog f [eE n w] (.op 0 (some n) 0::args) (fun r H'=>r=.c (.tuple #[])∧H'=[eE n w'])
variable {c:la}
end
section
variable {gs:List Nat} [cw gs] [pf gs] {b:B3}
theorem v6 {gs:List Nat} [cw gs] (n:Nat) {i:Nat} {r:R8} {w:W8} (hI:dJ i r w) (hi:i≤500) (a:N4) (hr:aw a=true):AC gs prog 61 [eE n w] [.op 0 (some n) 0,o8 a] (fun r H'=>r=.c (.tuple #[])∧H'=[eE n (u1 a w)]):=by
 have hg:=xb hr
 have I1:dJ (i+1) (gc (w1 48) r) (bq 48 w):=by
  have:=fU hI (fj (t:=48) T)
  rwa [nO] at this
 have I2:=cq pM hg.ge I1
 have I3:=cq pL hg.ky I2
 have I4:=cq lR hg.fr I3
 have I5:=cq lR hg.til I4
 have hho:bG a.2.1=true:=by unfold aw at hr;simp only [FK] at hr;exact hr.1.1
 have hm:=sy (gs:=gs) a.2.1
 rw [hho] at hm
 simp only [if_true] at hm
 have hk:(dv a.2.1).length≤1000000:=by
  have:=(fV pL hg.ky T).2.2.2.2.2.2.2.2.1
  have h:(dv a.2.1).length≤4096:=this
  omega
 refine ag 34 func61 fun _ _ _ _=>?_;refine dU ?_
 refine ay (cG 4 fun p1=>?_)
 refine U 5010065 ?_
 refine ay (aD hm ?_)
 refine U 1165119009001 ?_
 refine aL (dc 0 (mc n w 0) ?_)
 rw [mb]
 refine U 165 ?_
 refine aL (dc 0 (lQ n w 48 (cM hI O)) ?_)
 refine U 5090165 ?_
 refine aL (dc 0 (sK n _ 1 1048576 (ee a.1) (cM I1 O) (fV pM hg.ge T).2.2.2.2.2.2.1) ?_)
 refine U 1165 ?_
 refine aL (dc 0 (za n _ 16 16 (tz (dv a.2.1)) (cM I2 O) hk) ?_)
 refine U 501000165 ?_
 refine aL (dc 0 (sx n _ 0 0 (ee a.2.2.1) (cM I3 O)) ?_)
 refine U 505000000165 ?_
 refine aL (dc 0 (sx n _ 0 0 (ee a.2.2.2) (cM I4 O)) ?_)
 refine U 12005 ?_
 refine aL (dc 0 (kz n _ (cM I5 O)) ?_)
 refine U 5 ?_
 exact aY (.inr rfl) _ [_] [0] T rfl (bo rfl) ⟨rfl,rfl⟩
theorem vz {gs:List Nat} [du gs] {f:FuncId} (hc:aU prog f=true) (n:Nat) (tag:Int) (ws:W8) (l:List N4) (sG:Nat→W8) (h0:pb ws) (hs:sG 0=bq tag ws) (hok:∀ i,i≤l.length→pb (sG i)) (hl:l.length≤1000000) (hf:∀ i,i<l.length→AC gs prog f [eE n (sG i)] [.op 0 (some n) 0,o8 (l.getD i ae)] (fun r H'=>r=.c (.tuple #[])∧H'=[eE n (sG (i+1))])) :
  AC gs prog 60 [eE n ws] [.op 0 (some n) 0,.c (.int .i64 tag),uX l,.fn f 0 fun _=>.top] (fun r H'=>r=.c (.tuple #[])∧H'=[eE n (bB (sG l.length))]):=by
 refine ag 26 func60 fun _ _ _ _=>?_;refine U 116 ?_
 refine aL (dc 0 (lQ n ws tag h0) ?_)
 refine U 205131675 ?_;refine aG (α:=Nat) [9,15,16,17,18,19,20,21,22,23] (fun i=>[(15,.c (.int .i64 (i:Nat)))]) (fun i=>[eE n (sG i)]) (fun i=>i≤l.length) (fun i=>l.length-i) (0) ?_ (fun _=>rfl) ?_ ?_ ?_
 exact F4 _
 exact .cons cZ .nil
 ·rw [hs];exact ar.refl _
 ·rintro i (hi:i≤l.length)
  refine U 7526 ?_;refine aaa (fun h305=>?_) fun h305=>?_
  ·refine U 84000200020006000 ?_
   have hie:i=l.length:=by omega
   subst hie
   refine U 1200 ?_
   refine aL (dc 0 (kz n (sG l.length) (hok _ (FQ _))) ?_)
   refine U 5 ?_
   exact aY (.inr rfl) _ [_] [0] T rfl (bo rfl) ⟨rfl,rfl⟩
  refine U 7006207810 ?_;refine jq (bS 4) ?_
  refine ay (ce (n:=4) iq rfl fun p2=>?_)
  refine aL (ak 4 (cc (l.getD i ae)) ?_ ?_)
  exact dV
  refine U 112005 ?_;refine gj (aI 4) ?_
  refine aL (ut (i:=0) rfl rfl (by assumption) rfl (hf i O) (.cons cP (.cons (J.agg rfl (fun j hj=>J.of_eq (by show cc _ (0+j)=cc _ j;rw [Nat.zero_add]))) .nil)) rfl rfl ?_)
  rintro _ _ ⟨rfl,rfl⟩
  refine ⟨_,rfl,?_⟩
  refine U 851920084005 ?_
  refine aH (i+1) ?_ ?_ (h5:=?_) (h7:=?_)
  show i+1≤l.length;omega
  show l.length-(i+1)<l.length-i;omega
  exact .cons (cI O) .nil
  exact ar.refl _
theorem pB {b:B3} (h:aq b=true) {i:Nat} (hi:i<b.2.2.length):aw (b.2.2.getD i ae)=true:=by
 unfold aq at h
 simp only [FK] at h
 have:=gM h.2 i hi
 unfold fQ at this
 rw [FK] at this
 exact this.1
theorem EB {gs:List Nat} [cw gs]:PW gs 57 Az [.c (.int .i64 48)] (bq 48 Az):=fun n=>lQ n Az 48 Fh
theorem EA {gs:List Nat} [cw gs] [pf gs] (h:dr b):PW gs 58 (bq 48 Az) [.c (.int .i64 b.1)] (Aj b):=fun n=>sK n _ 1 1099511627776 (ee b.1) (cM AV T) (fV su h.ve T).2.2.2.2.2.2.1
theorem Ez {gs:List Nat} [cw gs] [pf gs] (h:dr b):PW gs 59 (Aj b) [bi b.2.1,.c (.int .i64 64)] (Ai b):=fun n=>by
 have hl:=ek h.sp
 have ht:=vc (gs:=gs) n (Aj b) b.2.1 64 O (cM (w5 h) T)
 have e:ix (yu b.2.1) (Aj b)=co 12 (if ax b.2.1 64=0 then b.2.1 else []) (ax b.2.1 64) (Aj b):=sV (kd:=7) T T T _ _ _ _
 rw [← e] at ht
 exact ht
theorem Ey {gs:List Nat} [cw gs] (hr:aq b=true) (h:dr b):PW gs 60 (Ai b) [.c (.int .i64 49),uX b.2.2,.fn 61 0 fun _=>.top] (CH b):=fun n =>
 vz (f:=61) (by kernel_rfl) n 49 (Ai b) b.2.2 (aW (Ai b) b.2.2) (cM (w4 h) T) rfl (fun i hi=>cM (sJ h i hi) (by have:=h.n8;omega)) (by have:=h.n8;omega) (fun i hi=>v6 n (sJ h i O) (by have:=h.n8;omega) (b.2.2.getD i ae) (pB hr hi))
theorem Ex {gs:List Nat} [cw gs] (h:dr b):PW gs 62 (CH b) [] (CG b):=fun n=>kz n (CH b) (cM (w3 h) T)
theorem rP (b:B3):c4 gs prog 25 [jA b] (.tup 2 (fl [dL (if aq b=true then o6 b else []),.err (if aq b=true then 0 else 4)])):=by
 refine ag 31 func25 fun _ _ _ _=>?_;refine dU ?_
 refine ay (cG 3 fun p1=>?_)
 refine U 7511 ?_;refine jE (am 0 (m:=3) (F:=bN b) rfl T (fun _=>rfl) (fun j hj=>J.of_eq (bL _ hj))) ?_;refine dU ?_;refine gj (aI 3) ?_
 refine ay (aD (nV b) ?_)
 refine U 530 ?_;refine aX (fun h79=>?_) fun h79=>?_
 ·refine oU ?_;refine pZ (.rd 0 (.rd 1 (.rd 2 .done))) ?_;refine U 80003000700088070704000000 ?_
  have hr:aq b=false:=by simpa using ‹(!aq b)=true›
  rw [hr]
  exact cT cN (J.errN rfl)
 refine U 810 ?_
 have hr:aq b=true:=by simpa using ‹(!aq b)=false›
 have hg:=zE hr
 rw [FO hr,FO hr]
 refine dU ?_;refine jq (aC (n:=3) rfl CX Dt rfl rfl) ?_
 refine ay (cG 3 fun p2=>?_)
 refine U 51 ?_;refine iT (zl 4 rfl) fun hn=>?_
 obtain ⟨n,rfl⟩:=hn
 refine jE (Ew n 1 rfl cZ cZ J.nil) ?_
 dsimp only [List.set_cons_zero,List.set_cons_succ,List.cons_append,List.nil_append,List.length_cons,List.length_nil,Nat.zero_add,Nat.reduceAdd]
 refine U 16 ?_
 refine aL (dc 1 (EB n) ?_)
 refine U 5090165 ?_
 refine aL (dc 1 (EA hg n) ?_)
 refine U 50100165 ?_
 refine aL (dc 1 (Ez hg n) ?_)
 refine U 501000165 ?_
 refine aL (dc 1 (Ey hr hg n) ?_)
 refine U 165 ?_
 refine aL (dc 1 (Ex hg n) ?_)
 refine U 165 ?_
 refine aL (dc 1 (xG n (CG b) (cM (Ck hg) T)) ?_)
 refine U 80007000511900900 ?_
 have ⟨e1,e2⟩:=Aa hg
 rw [e1,e2]
 exact cZ
end
end
section
open Go.RowKit Cal
def ld (l:List N4) (i:Nat):List N4:=af (l.take i)++l.drop i
def db (l:List N4) (i j:Nat):List N4:=(af (l.take i)).take j++l.getD i ae::((af (l.take i)).drop j++l.drop (i+1))
section
variable {l:List N4} {i j:Nat}
theorem fF (hi:i≤l.length):(af (l.take i)).length=i:=by rw [fi,F6];omega
theorem iZ (hi:i≤l.length):(ld l i).length=l.length:=by
 unfold ld
 rw [FX,fF hi,Gk]
 omega
theorem r8:ld l 1=l:=by
 cases l with
 | nil=>rfl
 | cons x l=>rfl
theorem r9:ld l l.length=af l:=by unfold ld;rw [GH,Ht,G3]
theorem zf (hi:i<l.length) (hj:j≤i):(db l i j).length=l.length:=by
 have:=fF (l:=l) (i:=i) O
 unfold db
 simp only [FX,List.length_cons,F6,Gk]
 omega
theorem kg (hi:i<l.length) (hj:j≤i):(db l i j).getD j ae=l.getD i ae:=by
 have:=fF (l:=l) (i:=i) O
 unfold db
 rw [FJ,FZ (by rw [F6];omega),F6,show j-min j (af (l.take i)).length=0 by omega]
 rfl
theorem fu (hi:i<l.length) (hj:j≤i) (h0:0<j):(db l i j).getD (j-1) ae=(af (l.take i)).getD (j-1) ae:=by
 have:=fF (l:=l) (i:=i) O
 unfold db
 rw [FJ,FR (by rw [F6];omega),Hj,jP,FJ]
theorem ur (hi:i<l.length):db l i i=ld l i:=by
 have:=fF (l:=l) (i:=i) O
 unfold db ld
 rw [Gl O,List.drop_of_length_le O,List.nil_append,Gi hi]
 congr 2
 simp [List.getD,hi]
theorem wA (hi:i<l.length) (hj:j≤i) (h0:0<j):((db l i j).set j ((db l i j).getD (j-1) ae)).set (j-1) ((db l i j).getD j ae)=db l i (j-1):=by
 have hs:=fF (l:=l) (i:=i) O
 rw [fu hi hj h0,kg hi hj]
 generalize hO:af (l.take i)=o at *
 obtain ⟨k,rfl⟩:∃ k,j=k+1:=⟨j-1,by omega⟩
 have hk:k<o.length:=by omega
 rw [GY]
 unfold db
 rw [hO]
 have e1:o.take (k+1)=o.take k++[o[k]]:=FV hk
 have e2:o.drop k=o[k]::o.drop (k+1):=Gi hk
 have e3:o.getD k ae=o[k]:=by simp [List.getD,hk]
 have hl:(o.take k).length=k:=by rw [F6];omega
 rw [e1,e2,e3,GC]
 rw [Ia _ _ O,hl,show k+1-k=1 by omega]
 rw [Ia _ _ O,hl,HH]
 rfl
theorem lj (hi:i<l.length) (hj:j≤i) (h1:∀ k,j≤k→k<i→(l.getD i ae).1<((af (l.take i)).getD k ae).1) (h2:j=0∨((af (l.take i)).getD (j-1) ae).1≤(l.getD i ae).1):db l i j=ld l (i+1):=by
 have hs:=fF (l:=l) (i:=i) O
 have e:l.take (i+1)=l.take i++[l.getD i ae]:=by
  rw [FV hi]
  simp [List.getD,hi]
 have hp:cK (l.getD i ae).1 (af (l.take i)) (af (l.take i)).length=j:=we O (fun k a b=>h1 k a O) h2
 unfold db ld
 rw [e,lI]
 unfold kp
 rw [hp,GC]
 rfl
end
theorem z7 {a b:Int}:(if a<b then (-1:Int) else if b<a then 1 else 0)<0↔a<b:=by
 split
 ·simp [*]
 ·split<;>simp [*]
def rC:CV:=.fn 33 0 fun _=>.top
theorem gS {a b:Int}:uR a b<0↔a<b:=z7
theorem qc (g:Option Nat) (l:List N4) (b:Nat) (hb:b≤l.length) (hl:l.length≤1000):AC gs prog 112 [dA g l] [.os 0 g 0 l.length 4,.c (.int .i64 0),.c (.int .i64 (b:Nat)),rC] (fun r H'=>r=.c (.tuple #[])∧H'=[dA g (ld l b)]):=by
 refine ag 53 func112 fun _ _ _ _=>?_
 first
  |(have hend:db l i j=ld l (i+1):=lj hil hj hk (by
    by_cases e:j=0
    exact .inl e
    ·refine .inr (HJ.1 fun hlt=>?_)
     rw [← kg hil hj,← fu hil hj O] at hlt
     have:=gS.2 hlt
     first|omega|exact absurd this h12|simp_all)
    rw [hend])
  | skip
 refine U 2051916 ?_;refine aG (α:=Nat) [8,9,12,13,14,15,16,17,18,19,20,21,22,23,24,25,26,27,28,29,30,31,32,33,34,35,36,37,38,39,40,41,42,43,44,45,46,47,48,49,50,51,52] (fun i=>[(8,.c (.int .i64 (i:Nat)))]) (fun i=>[(g,.blk (l.length * 4) (c8 (ld l i)))]) (fun i=>1≤i∧(i≤b∨i=1)) (fun i=>b-i) (1) ?_ (fun _=>rfl) ?_ ?_ ?_
 exact ⟨FQ _,.inr rfl⟩
 exact .cons (cI O) .nil
 ·rw [r8];exact ar.refl _
 ·rintro i ⟨hi1,hib⟩
  refine oU ?_
  first
   |(have hend:db l i j=ld l (i+1):=lj hil hj hk (by
     by_cases e:j=0
     exact .inl e
     ·refine .inr (HJ.1 fun hlt=>?_)
      rw [← kg hil hj,← fu hil hj O] at hlt
      have:=gS.2 hlt
      first|omega|exact absurd this h12|simp_all)
     rw [hend])
   | skip
  refine U 52116 ?_;refine aaa (fun h11=>?_) fun h11=>?_
  ·refine U 4000200020006000 ?_
   have hib2:i=b∨(i=1∧b=0):=by omega
   have he:ld l i=ld l b:=by
    rcases hib2 with e|⟨e1,e2⟩
    ·rw [e]
    ·rw [e1,e2,r8];rfl
   exact aY (.inr rfl) _ [_] [0] T rfl (bo rfl) ⟨rfl,by rw [← he];unfold dA;rw [show (ld l i).length=l.length by rw [he];exact iZ hb];rfl⟩
  refine U 205116207810 ?_
  have hil:i<l.length:=by omega
  refine aG (α:=Nat) [9,18,19,20,21,22,23,24,25,26,27,28,29,30,31,32,33,34,35,36,37,38,39,40,41,42,43,44,45,46,47,48,49,50,51,52] (fun j=>[(9,.c (.int .i64 (j:Nat)))]) (fun j=>[(g,.blk (l.length * 4) (c8 (db l i j)))]) (fun j=>j≤i∧∀ k,j≤k→k<i→(l.getD i ae).1<((af (l.take i)).getD k ae).1) (fun j=>j) (i) ?_ (fun _=>rfl) ?_ ?_ ?_
  exact ⟨FQ _,fun k h1 h2=>by omega⟩
  exact .cons cZ .nil
  ·rw [ur hil];exact ar.refl _
  ·rintro j ⟨hj,hk⟩
   have hml:=zf hil hj
   refine U 77 ?_;refine pZ (.rd 0 (.rd 1 (.rd 2 (.rd 3 (.rd 4 (.rd 5 (.rd 6 (.rd 7 (.rd 8 (.rd 9 (.rd 10 (.rd 11 (.rd 12 (.rd 13 (.one 14 (.rd 15 (.rd 16 .done))))))))))))))))) ?_;refine U 708007070 ?_;refine oQ 21 (fun g12=>?_) fun g12=>?_
   rotate_left
   ·refine U 600600600600600600600600600600 ?_;refine pY ?_;refine U 84004000200020006000300880300000600 ?_
    first
     |(have hend:db l i j=ld l (i+1):=lj hil hj hk (by
       by_cases e:j=0
       exact .inl e
       ·refine .inr (HJ.1 fun hlt=>?_)
        rw [← kg hil hj,← fu hil hj O] at hlt
        have:=gS.2 hlt
        omega)
       rw [hend])
     | skip
    refine U 85191200 ?_
    refine aH (i+1) ?_ ?_ (h5:=?_) (h7:=?_)
    exact ⟨by omega,.inl O⟩
    show b-(i+1)<b-i;omega
    exact .cons (cI O) .nil
    exact ar.refl _
   refine U 707070 ?_;refine eF (iu (i:=j) (hz:=by omega)) ?_;refine yc (aI 4) ?_;refine U 300007070 ?_;refine eF (iu (i:=(j-1)) (hz:=by omega)) ?_;refine yc (aI 4) ?_
   refine mA (oZ rfl rfl (by kernel_rfl) (qE ((db l i j).getD j ae) ((db l i j).getD (j-1) ae)) (.cons (kS fun m hm=>J.of_eq (F7 (c8 _) O)) (.cons (kS fun m hm=>J.of_eq (F7 (c8 _) O)) .nil)) rfl rfl ?_)
   rintro _ _ ⟨rfl,rfl⟩
   refine U 8803000000800 ?_;refine aaa (fun h12=>?_) fun h12=>?_
   ·refine U 84004000200020006000 ?_
    first
     |(have hend:db l i j=ld l (i+1):=lj hil hj hk (by
       by_cases e:j=0
       exact .inl e
       ·refine .inr (HJ.1 fun hlt=>?_)
        rw [← kg hil hj,← fu hil hj O] at hlt
        have:=gS.2 hlt
        omega)
       rw [hend])
     | skip
    refine U 85191200 ?_
    refine aH (i+1) ?_ ?_ (h5:=?_) (h7:=?_)
    exact ⟨by omega,.inl O⟩
    show b-(i+1)<b-i;omega
    exact .cons (cI O) .nil
    exact ar.refl _
   refine U 207810 ?_
   have hj0:0<j:=by omega
   have hlt:(l.getD i ae).1<((af (l.take i)).getD (j-1) ae).1:=by
    rw [kg hil hj,fu hil hj hj0] at *
    exact gS.1 (by simpa using h12)
   refine ko (.rd 0 (.rd 1 (.rd 2 (.rd 3 (.rd 4 (.rd 5 (.rd 6 (.rd 7 (.rd 8 (.rd 9 (.rd 10 (.rd 11 (.rd 12 (.rd 13 (.rd 14 (.one 15 (.rd 16 (.one 17 .done)))))))))))))))))) ?_;refine U 400000400000400000400000 ?_;refine cD yd ?_;refine U 400000400000 ?_;refine cD yd ?_;refine cD (iu (i:=(j-1)) (hz:=by omega)) ?_;refine Ca (aI 4) ?_;refine U 400000400000 ?_;refine cD (iu (i:=j) (hz:=by omega)) ?_;refine Ca (aI 4) ?_;refine cD (iu (i:=j) (hz:=by omega)) ?_;refine mX (ck 46 (o8 ((db l i j).getD (j-1) ae)) (kS fun m hm=>J.of_eq (F7 (c8 _) O))) ?_;refine mX (ck 50 (o8 ((db l i j).getD j ae)) (kS fun m hm=>J.of_eq (F7 (c8 _) O))) ?_
   refine fT (ak 4 (c8 ((db l i j).set j ((db l i j).getD (j-1) ae))) ?_ ?_)
   ·exact (fun q hq=>tc ((db l i j).getD (j-1) ae) O O rfl (fun m hm=>by rcases m with _|_|_|_|m<;>exact cZ) q (by rw [hml];exact hq))
   refine cD (iu (i:=(j-1)) (hz:=by omega)) ?_
   refine fT (ak 4 (c8 (db l i (j-1))) ?_ ?_)
   ·exact (fun q hq=>by
     rw [← wA hil hj hj0]
     exact tc ((db l i j).getD j ae) O (by rw [Gg];omega) rfl (fun m hm=>by rcases m with _|_|_|_|m<;>exact cZ) q (by rw [Gg,hml];exact hq))
   refine U 851912008400700000 ?_
   refine aH (j-1) ?_ ?_ (h5:=?_) (h7:=?_)
   ·exact ⟨by omega,fun k h1 h2=>by
     by_cases e:k=j-1
     ·rw [e];exact hlt
     exact hk k O h2⟩
   show j-1<j;omega
   exact .cons (cI O) .nil
   exact ar.refl _
theorem yD {a:Int} {n:Nat} (h:a=(n:Nat)):a.fdiv (2 ^ (min (Int.toNat 1) (IntKind.bits .u64)))=((n / 2:Nat):Int):=by
 subst h
 show Int.fdiv _ (2 ^ (min 1 64))=_
 rw [show min 1 64=1 from rfl,He _ T]
 omega
theorem vi (g:Option Nat) (l:List N4) (hl:l.length=21):AC gs prog 113 [dA g l] [.os 0 g 0 l.length 4,.c (.int .i64 0),.c (.int .i64 20),.c (.int .i64 (l.length:Nat)),rC] (fun r H'=>r=.c (.tuple #[])∧∃ l',H'=[dA g l']∧l'.length=l.length):=by
 refine ag 220 func113 fun _ _ _ _=>?_;refine U 5291167 ?_;refine aX (fun h382=>?_) fun h382=>?_
 ·exfalso;exact absurd h382 T
 refine U 5291167810 ?_;refine aaa (fun h406=>?_) fun h406=>?_
 ·exfalso;omega
 refine U 20751165116 ?_;refine aG (α:=Nat×Nat) [14,15,16,83,84,85,86,87,88,89,90,91,92,93,94,95,96,97,98,99,100,101,102,103,104,105,106] (fun (i,j)=>[(14,.c (.int .i64 (i:Nat))),(15,.c (.int .i64 (j:Nat)))]) (fun _=>[(g,.blk (l.length * 4) (c8 l))]) (fun (i,j)=>i≤j∧j≤20) (fun (i,j)=>j-i) ((0,20)) ?_ (fun _=>rfl) ?_ ?_ ?_
 exact ⟨F4 _,FQ _⟩
 exact .cons cZ (.cons cZ .nil)
 exact ar.refl _
 ·rintro ⟨i,j⟩ ⟨(hij:i≤j),(hj:j≤20)⟩
  refine U 521167 ?_;refine aX (fun h412=>?_) fun h412=>?_
  ·refine U 911620810 ?_;refine jq (Cc .i64 .u64) ?_;refine jq (oF rfl rfl rfl (by omega) ((((i+j) / 2:Nat):Int)) (yD O)) ?_;refine jq (Cc .u64 .i64) ?_;refine U 751 ?_;refine pZ (.rd 0 (.rd 1 (.rd 2 (.rd 3 (.rd 4 (.rd 5 (.rd 6 (.rd 7 (.rd 8 (.one 9 (.rd 10 (.rd 11 .done)))))))))))) ?_;refine U 707070 ?_;refine eF (iu (i:=20) (hz:=by omega)) ?_;refine yc (aI 4) ?_;refine U 7070 ?_;refine eF (iu (i:=(i+j) / 2) (hz:=by omega)) ?_;refine yc (aI 4) ?_
   refine mA (oZ rfl rfl (by kernel_rfl) (qE (l.getD 20 ae) (l.getD ((i+j) / 2) ae)) (.cons (kS fun m hm=>J.of_eq (F7 (c8 _) O)) (.cons (kS fun m hm=>J.of_eq (F7 (c8 _) O)) .nil)) rfl rfl ?_)
   rintro _ _ ⟨rfl,rfl⟩
   refine U 880100000800 ?_;refine aaa (fun h414=>?_) fun h414=>?_
   ·refine U 8400511200 ?_
    refine aH ((i,(i+j) / 2)) ?_ ?_ (h5:=?_) (h7:=?_)
    show i≤(i+j) / 2∧(i+j) / 2≤20;omega
    show (i+j) / 2-i<j-i;omega
    exact .cons (cI O) (.cons (cI O) .nil)
    exact ar.refl _
   refine U 84005191200 ?_
   refine aH (((i+j) / 2+1,j)) ?_ ?_ (h5:=?_) (h7:=?_)
   show (i+j) / 2+1≤j∧j≤20;omega
   show j-((i+j) / 2+1)<j-i;omega
   exact .cons (cI O) (.cons (cI O) .nil)
   exact ar.refl _
  refine U 205116784000200020006000 ?_;refine aG (α:=Nat×List N4) [17,108,109,110,111,112,113,114,115,116,117,118,119,120,121,122,123,124,125,126,127,128] (fun (k,X)=>[(17,.c (.int .i64 (k:Nat)))]) (fun (k,X)=>[(g,.blk (l.length * 4) (c8 X))]) (fun (k,X)=>k≤20∧X.length=l.length) (fun (k,_)=>k) ((20,l)) ?_ (fun _=>rfl) ?_ ?_ ?_
  exact ⟨FQ _,rfl⟩
  exact .cons cZ .nil
  exact ar.refl _
  ·rintro ⟨k,X⟩ ⟨(hk:k≤20),(hX:X.length=l.length)⟩
   refine U 521167 ?_;refine aaa (fun h421=>?_) fun h421=>?_
   ·refine U 3000700084000200020006000 ?_
    exact aY (.inl rfl) _ [_] [0] T rfl (bo rfl) ⟨rfl,X,by unfold dA;rw [hX];rfl,hX⟩
   refine U 207810 ?_;refine ko (.rd 0 (.rd 1 (.rd 2 (.rd 3 (.rd 4 (.rd 5 (.rd 6 (.rd 7 (.rd 8 (.rd 9 (.rd 10 (.rd 11 (.rd 12 (.rd 13 (.rd 14 (.one 15 (.rd 16 (.one 17 .done)))))))))))))))))) ?_;refine U 400000400000400000400000 ?_;refine cD yd ?_;refine U 400000400000 ?_;refine cD yd ?_;refine cD (iu (i:=(k-1)) (hz:=by omega)) ?_;refine Ca (aI 4) ?_;refine U 400000400000 ?_;refine cD (iu (i:=k) (hz:=by omega)) ?_;refine Ca (aI 4) ?_;refine cD (iu (i:=k) (hz:=by omega)) ?_;refine mX (ck 122 (o8 (X.getD (k-1) ae)) (kS fun m hm=>J.of_eq (F7 (c8 _) O))) ?_;refine mX (ck 126 (o8 (X.getD k ae)) (kS fun m hm=>J.of_eq (F7 (c8 _) O))) ?_
   refine fT (ak 4 (c8 (X.set k (X.getD (k-1) ae))) ?_ ?_)
   ·exact (fun q hq=>tc (X.getD (k-1) ae) O O rfl (fun m hm=>by rcases m with _|_|_|_|m<;>exact cZ) q (by rw [hX];exact hq))
   refine cD (iu (i:=(k-1)) (hz:=by omega)) ?_
   refine fT (ak 4 (c8 ((X.set k (X.getD (k-1) ae)).set (k-1) (X.getD k ae))) ?_ ?_)
   ·exact (fun q hq=>tc (X.getD k ae) O (by rw [Gg];omega) rfl (fun m hm=>by rcases m with _|_|_|_|m<;>exact cZ) q (by rw [Gg,hX];exact hq))
   refine U 851912008400700000 ?_
   refine aH ((k-1,(X.set k (X.getD (k-1) ae)).set (k-1) (X.getD k ae))) ?_ ?_ (h5:=?_) (h7:=?_)
   ·show k-1≤20∧_;rw [Gg,Gg];omega
   show k-1<k;omega
   exact .cons (cI O) .nil
   exact ar.refl _
end
def iA (b off n N:Nat):SV where
 p:=fun _ _ x=>∃ cap,x=.slice (some ⟨b,off,none⟩) n cap∧N≤cap∧cap≤9223372036854775807
 st:=fun _ _ h=>h
 one:=fun ⟨cap,h,_⟩=>by subst h;exact ⟨rfl,rfl⟩
def tB (c:Nat) (F:Nat→CV) (j:Nat):CV:=if j<c then F j else .top
section
variable {P:Program} {G:Gh} {ops:Array Oper} {o:Oper} {s:AS} {r:List Oper} {K:AS→Prop} {t u:TypeId} {x y:Operand} {env:List (Nat×CV)} {b0:Nat→CV} {H:List (Option Nat×av)}
theorem qp {lo hi mx:Option Operand} (ho:o.op=.slice t x lo hi mx) {a:Act} {v:Value} {w:World} (h:(Instr.sliceAt t (a.eval x) (lo.map a.eval) (hi.map a.eval) (mx.map a.eval)).run P w=.ok v w):(execOp a.eval o).run P w=.ok (.value v) w:=by
 simp only [execOp,ho]
 exact iz h
theorem tZ {e:TypeId} {i off k n l h m:Nat} {g:Option Nat} {xl xh xm:Operand} {k1 k2 k3:IntKind} {z1 z2 z3:Int} (ho:o.op=.slice t x (some xl) (some xh) (some xm)) (I:s.eval x=.os i g off n k) (h1:P.underlying t=some (.slice e)) (h5:(P.info? e).map (·.size)=some k)
  (e1:s.eval xl=.c (.int k1 z1)) (e2:s.eval xh=.c (.int k2 z2)) (e3:s.eval xm=.c (.int k3 z3)) (q1:z1=(l:Nat)) (q2:z2=(h:Nat)) (q3:z3=(m:Nat)) (hlh:l≤h) (hhm:h≤m) (hmn:m≤n):aN P G o s .top:=fun St a w hr=>by
 have ⟨info,hi',hs⟩:=FM.1 h5
 have v1:a.eval xl=.int k1 (l:Nat):=by have:=c7 hr e1;rw [q1] at this;exact this
 have v2:a.eval xh=.int k2 (h:Nat):=by have:=c7 hr e2;rw [q2] at this;exact this
 have v3:a.eval xm=.int k3 (m:Nat):=by have:=c7 hr e3;rw [q3] at this;exact this
 obtain ⟨ao,cap,e0,hc⟩:∃ ao cap,a.eval x=.slice ao n cap∧n≤cap:=by
  have he:=c7 hr I
  cases g with
  | none=>exact ⟨none,0,by rw [he.2,he.1],by rw [he.1];exact F4 _⟩
  | some b=>have ⟨cap,e0,h2,_⟩:=he;exact ⟨_,cap,e0,h2⟩
 refine ⟨.slice (if m=l then ao else ao.map (·.add (l * k))) (h-l) (m-l),fun W _=>qp ho ?_,trivial⟩
 rw [e0]
 simp only [GK,v1,v2,v3]
 simp [Instr.sliceAt,Instr.slice,underlying,h1,Instr.sliceBounds,Instr.sliceBound,asIntOf,sizeOf,typeInfo,hi',hs,show m≤cap by omega,hhm,hlh]
theorem BA {e:TypeId} {i b n k v:Nat} {hi:Operand} {k1:IntKind} {z:Int} (ho:o.op=.slice t x none (some hi) none) (I:s.eval x=.os i (some b) 0 n k) (h1:P.underlying t=some (.slice e)) (h5:(P.info? e).map (·.size)=some k) (e1:s.eval hi=.c (.int k1 z)) (q1:z=(v:Nat)) (hv:v≤n) (hn:0<n):aN P G o s (.pv (iA b 0 v n)):=fun St a w hr=>by
 have ⟨info,hi',hs⟩:=FM.1 h5
 have v1:a.eval hi=.int k1 (v:Nat):=by have:=c7 hr e1;rw [q1] at this;exact this
 have ⟨cap,e0,h2,h3,_⟩:=c7 hr I
 refine ⟨.slice (some ⟨b,0,none⟩) v cap,fun W _=>cl ho ?_,cap,rfl,h2,h3⟩
 rw [e0]
 simp only [GK,H8,v1]
 simp [Instr.sliceAt,Instr.slice,underlying,h1,Instr.sliceBounds,Instr.sliceBound,asIntOf,sizeOf,typeInfo,hi',show v≤cap by omega]
 intro h0
 rw [cm,Nat.zero_add] at *
theorem yS {b off n N:Nat} {e:TypeId} (ho:o.op=.call ⟨.builtin .len,#[x],#[t]⟩) (I:s.eval x=.pv (iA b off n N)) (h1:P.underlying t=some (.slice e)):aN P G o s (.c (.int .i64 (n:Nat))):=fun St a w hr=>by
 have ⟨cap,e0,_⟩:=c7 hr I
 exact ⟨_,fun W _=>gP ho (v:=.int .i64 (n:Nat)) (by rw [e0];simp [Builtin.len_,underlying,h1,goInt]),rfl⟩
theorem yK {e:TypeId} {b n N k l v:Nat} {lo hi:Operand} {k1 k2:IntKind} {z1 z2:Int} (ho:o.op=.slice t x (some lo) (some hi) none) (I:s.eval x=.pv (iA b 0 n N)) (h1:P.underlying t=some (.slice e)) (h5:(P.info? e).map (·.size)=some k) (e1:s.eval lo=.c (.int k1 z1)) (e2:s.eval hi=.c (.int k2 z2)) (q1:z1=(l:Nat)) (q2:z2=(v:Nat)) (hlv:l<v) (hv:v≤N):aN P G o s (.pv (iA b (l * k) (v-l) (v-l))):=fun St a w hr=>by
 have ⟨info,hi',hs⟩:=FM.1 h5
 have v1:a.eval lo=.int k1 (l:Nat):=by have:=c7 hr e1;rw [q1] at this;exact this
 have v2:a.eval hi=.int k2 (v:Nat):=by have:=c7 hr e2;rw [q2] at this;exact this
 have ⟨cap,e0,h2,h3⟩:=c7 hr I
 refine ⟨.slice (some ⟨b,l * k,none⟩) (v-l) (cap-l),fun W _=>cl ho ?_,cap-l,rfl,by omega,by omega⟩
 rw [e0]
 simp only [GK,v1,v2]
 simp [Instr.sliceAt,Instr.slice,underlying,h1,Instr.sliceBounds,Instr.sliceBound,asIntOf,sizeOf,typeInfo,hi',hs,show v≤cap by omega,show l≤v by omega,show ¬ cap=l by omega]
 rw [cm,Nat.zero_add]
theorem wC {e:TypeId} {i b n m k M N:Nat} {f h:Nat→CV} (ho:o.op=.call ⟨.builtin .append,#[x,y],#[t,u]⟩) (I:s.eval x=.pv (iA b 0 n M)) (hH:s.H[i]?=some (some b,.blk N f)) (hN:M * k≤N)
  (hsrc:mz P G s y k m h) (h1:P.underlying t=some (.slice e)) (hu:bK P u=true) (h5:(P.info? e).map (·.size)=some k) (hroom:n+m≤M)
  (F:Nat→CV) (hF:∀ j,j<(n+m) * k→J (kC (n * k) f h j) (F j)) (hleaf:∀ j,j<m * k→dx (h j)=true) (hd:aJ G o=true)
  (hK:K (s.with o.dst (.pv (iA b 0 (n+m) M)) (s.H.set i (some b,.blk N (tB ((n+m) * k) F))))):kE P G o s K:=fun St a w hr Q=>by
 have ⟨info,hi,hs⟩:=FM.1 h5
 have ⟨news,hnl,hnr,hrun⟩:=hsrc St a w hr
 have ⟨cap,ev,hle,hcap⟩:=c7 hr I
 have hlen:(n+m) * k=n * k+m * k:=G8 ..
 have hargs:(#[x,y]:Array Operand).map a.eval=#[a.eval x,a.eval y]:=by simp
 have put:∀ {w':World} {v:Value} {c:CV} {H:List (Option Nat×av)},ab G St ⟨s.env,s.b,H⟩ a w'→ai G.al St w' c v→ab G St (s.with o.dst c H) (a.put o.dst v) w':=fun {w' v c H} h1 h2=>by
  have:=h1.put (dst:=o.dst) (bA hd) h2
  cases ho:o.dst with
  | none=>rw [ho] at this;exact this
  | some d=>rw [ho] at this;exact this
 have ⟨fp,hp⟩:=id hr.hp
 obtain ⟨hb0,cur,ty,hh,hle2,hcell⟩:=hp.rep i (some b) _ hH
 have hfit2:n * k+news.length≤cur.size:=by
  rw [hnl,← hlen]
  exact Gm (Gr _ hroom) (Gm hN hle2)
 have hone:∀ v ∈ news,v.oneCell'=true:=fun v hv=>by
  have ⟨j,hj,e⟩:=Hw.1 hv
  have h2:=hnr j O
  rw [show news.getD j undef=v by simp [List.getD,hj,e]] at h2
  exact lV (hleaf j O) h2
 have hst:=run_storeCells_at P b (n * k) ty news 0 cur w hh (by simpa using hfit2) hone
 simp only [GV] at hst
 have hrun':=fK (t:=t) (u:=u) (ty:=o.type) h1 hu hi hs (hrun w rfl).1 (hrun w rfl).2 (Gm hroom hle) (base:=some ⟨b,0,none⟩) (w':=w.setRow b (cur.toList.take (n * k)++news++cur.toList.drop (n * k+news.length)).toArray) (fun ad h=>by
  have h:=Ga h
  subst h
  rw [cm,Nat.zero_add]
  exact hst) (fun h=>by simp at h)
 unfold Oper.wp
 rw [dT ho (by rw [hargs,ev];exact hrun')]
 refine ⟨fun q hq=>setRow_other w b q _ (fun e=>(hp.own i b ((hb0 b).2 rfl)).2.1 (e ▸ hq)),St,fun _ h=>h,_,hK,?_⟩
 have hw:=hr.write hH hh (cs:=(cur.toList.take (n * k)++news++cur.toList.drop (n * k+news.length)).toArray) (by simp;omega) (n':=N) (f':=tB ((n+m) * k) F) (by simp;omega) (fun j hj=>by
  unfold tB
  by_cases hj2:j<(n+m) * k
  ·rw [FO hj2]
   refine hF j hj2 _ _ _ _ ?_
   have h9:j<n * k+news.length:=by rw [hnl,← hlen];exact hj2
   rw [oB cur news (n * k) hfit2]
   unfold kC
   by_cases h3:j<n * k
   ·rw [FO h3,jK];exact hcell j O
   ·rw [FN h3,jP];exact hnr _ O
  ·rw [FN hj2];trivial)
 exact put hw ⟨cap,rfl,hle,hcap⟩
theorem wD {e:TypeId} {z:Value} {i b off n k N M:Nat} {f:Nat→CV} (ho:o.op=.call ⟨.builtin .clear,#[x],#[t]⟩) (I:(⟨env,b0,H⟩:AS).eval x=.pv (iA b off n n)) (hH:H[i]?=some (some b,.blk N f)) (h1:P.underlying t=some (.slice e)) (h5:(P.info? e).map (·.size)=some k) (hz:(P.info? e).map (·.zero)=some (some z)) (hzk:z.cells.size=k) (hk:0<k) (hz1:z.cells.all (·.oneCell')=true)
  (hM:M≤off) (hN:off+n * k≤N) (hn:0<n) (hd:o.dst=none) (hK:K ⟨env,b0,H.set i (some b,.blk M f)⟩):kE P G o ⟨env,b0,H⟩ K:=fun St a w hr Q=>by
 have ⟨info,hi,h6⟩:=FM.1 h5
 have ⟨info',hi',hz⟩:=FM.1 hz
 obtain rfl:=Ga (hi.symm.trans hi')
 have ⟨cap,e0,h3,h4⟩:=c7 hr I
 have ⟨fp,hp⟩:=id hr.hp
 obtain ⟨h00,cur,ty,hh,hle,hcell⟩:=hp.rep i (some b) _ hH
 have hlen:(Builtin.zeroCells z.cells n).toList.length=n * k:=by simp [Builtin.zeroCells,hzk]
 have hcap:off+n * k≤cur.size:=Gm hN hle
 have hone:∀ v ∈ (Builtin.zeroCells z.cells n).toList,v.oneCell'=true:=fun v hv=>by
  have hv':v ∈ Builtin.zeroCells z.cells n:=by simpa using hv
  have ⟨j,hj,e⟩:=Array.mem_iff_getElem.1 hv'
  rw [← e]
  have hlt:j % z.cells.size<z.cells.size:=Gu _ O
  have:=Array.all_eq_true.1 hz1 (j % z.cells.size) hlt
  simpa [Builtin.zeroCells,hlt] using this
 have hst:=run_storeCells_at P b off ty (Builtin.zeroCells z.cells n).toList 0 cur w hh (by rw [hlen];omega) hone
 simp only [GV] at hst
 obtain ⟨m,rfl⟩:∃ m,n=m+1:=⟨n-1,by omega⟩
 have hrun:(execOp a.eval o).run P w=.ok (.value (.tuple #[])) (w.setRow b (cur.toList.take off++(Builtin.zeroCells z.cells (m+1)).toList++cur.toList.drop (off+(Builtin.zeroCells z.cells (m+1)).toList.length)).toArray):=rH ho (by
  rw [e0]
  simp [Builtin.clear_,underlying,h1,zeroValue,typeInfo,hi,hz,hst])
 unfold Oper.wp
 rw [hrun]
 refine ⟨fun q hq=>setRow_other w b q _ (fun e=>(hp.own i b ((h00 b).2 rfl)).2.1 (e ▸ hq)),St,fun _ h=>h,_,hK,?_⟩
 rw [hd]
 refine hr.write hH hh ?_ ?_ fun j hj=>?_
 ·simp only [List.size_toArray,FX,F6,Gk,Ik,hlen];omega
 ·simp only [List.size_toArray,FX,F6,Gk,Ik,hlen];omega
 ·rw [oB cur _ off (by rw [hlen];omega),jK]
  exact hcell j O
theorem C8 (d:Nat) {i b n m N M:Nat} {F:Nat→CV} (f:Nat→Nat→CV) (hl:look s.env s.b d=.pv (iA b 0 n M)) (hnM:n≤M) (hH:s.H[i]?=some (some b,.frz N F)) (hN:n * m≤N) (hf:∀ p q,p<n→q<m→J (F (p * m+q)) (f p q)) :
  aZ G s ⟨(d,.rs m n f)::s.env,s.b,s.H⟩:=fun St a w hr=>by
 refine ⟨St,fun _ h=>h,hr.df,hr.sz,fun e=>?_,hr.un,hr.s1,hr.s2,hr.s3,hr.hp,hr.sn,hr.sg⟩
 by_cases hde:d=e
 ·subst hde
  have he:=hr.env d
  rw [hl] at he
  have ⟨cap,e0,h2,h3⟩:=he
  have ⟨fp,hp⟩:=hr.hp
  obtain ⟨_,hg,cur,t,z,hh,hle,hc⟩:=hp.rep i (some b) _ hH
  rw [bw]
  refine ⟨_,cap,e0,by omega,h3,(fun h=>by cases h),fun ad ha hn=>?_⟩
  cases ha
  refine ⟨rfl,hg,fun p q hp' hq=>?_⟩
  have hb:p * m+q<n * m:=by
   have:p * m+m≤n * m:=by rw [← H3];exact Gr _ hp'
   omega
  have hlt:p * m+q<cur.size:=by omega
  refine ⟨cur.getD (p * m+q) undef,?_,hf p q hp' hq _ _ _ _ (hc _ O)⟩
  show w.cell? ⟨b,0+(p * m+q),none⟩=_
  rw [Nat.zero_add,cell_of_row w b _ cur t z hh];simp [hlt]
 ·have:=hr.env e
  show ai _ _ _ (look ((d,.rs m n f)::s.env) s.b e) _
  rw [aQ _ _ _ hde]
  exact this
end
def Dc (b off m:Nat):SV where
 p:=fun _ _ x=>∃ o cap,x=.slice (some ⟨b,o,none⟩) m cap∧(0<m→o=off)
 st:=fun _ _ h=>h
 one:=fun ⟨o,cap,h,_⟩=>by subst h;exact ⟨rfl,rfl⟩
section
variable {P:Program} {G:Gh} {ops:Array Oper} {o:Oper} {s:AS} {r:List Oper} {K:AS→Prop} {t u:TypeId} {x y:Operand} {env:List (Nat×CV)} {b0:Nat→CV} {H:List (Option Nat×av)}
theorem vM {e:TypeId} {i b n k l:Nat} {lo:Operand} {k1:IntKind} {z:Int} (ho:o.op=.slice t x (some lo) none none) (I:s.eval x=.os i (some b) 0 n k) (h1:P.underlying t=some (.slice e)) (h5:(P.info? e).map (·.size)=some k) (e1:s.eval lo=.c (.int k1 z)) (q1:z=(l:Nat)) (hl:l≤n):aN P G o s (.pv (Dc b (l * k) (n-l))):=fun St a w hr=>by
 have ⟨info,hi',hs⟩:=FM.1 h5
 have v1:a.eval lo=.int k1 (l:Nat):=by have:=c7 hr e1;rw [q1] at this;exact this
 have ⟨cap,e0,h2,h3,_⟩:=c7 hr I
 refine ⟨.slice (if cap=l then some ⟨b,0,none⟩ else some ⟨b,l * k,none⟩) (n-l) (cap-l),fun W _=>cl ho ?_,?_⟩
 ·rw [e0]
  simp only [GK,H8,v1]
  simp [Instr.sliceAt,Instr.slice,underlying,h1,Instr.sliceBounds,Instr.sliceBound,asIntOf,sizeOf,typeInfo,hi',hs,hl]
  rw [cm,Nat.zero_add]
 ·by_cases h:cap=l
  ·rw [FO h];exact ⟨0,_,rfl,fun h0=>by omega⟩
  ·rw [FN h];exact ⟨l * k,_,rfl,fun _=>rfl⟩
theorem sa {i b off k m N:Nat} {F:Nat→CV} (hy:s.eval y=.pv (Dc b off m)) (hH:Holds s i (some b) N F) (hN:off+m * k≤N):mz P G s y k m fun j=>F (off+j):=fun St a w h=>by
 have ⟨q,cap,e,hq⟩:=c7 h hy
 rw [e]
 have ⟨hg,cur,ty,z,hh,hle,hc⟩:=fw h hH
 rcases Nat.eq_zero_or_pos m with h0|h0
 ·subst h0
  exact fh (g:=fun _=>undef) fun j hj=>absurd hj (by simp)
 ·have hq:=hq h0
  subst hq
  refine fh (g:=fun j=>cur.getD (q+j) undef) fun j hj=>⟨?_,hc _ O⟩
  have hlt:q+j<cur.size:=by omega
  rw [cell_of_row w b _ cur ty z hh];simp [hlt]
theorem Cf {e:TypeId} {i b n m k M N d:Nat} {f h:Nat→CV} (F:Nat→CV) (hsrc:mz P G ⟨env,b0,H⟩ y k m h) (hroom:n+m≤M) (hN:M * k≤N) (hF:∀ j,j<(n+m) * k→J (kC (n * k) f h j) (F j)) (hleaf:∀ j,j<m * k→dx (h j)=true) (h1:P.underlying t=some (.slice e)) (hu:bK P u=true) (h5:(P.info? e).map (·.size)=some k)
  (hK:K ⟨(d,.pv (iA b 0 (n+m) M))::env,b0,H.set i (some b,.blk N (tB ((n+m) * k) F))⟩) (ho:o.op=.call ⟨.builtin .append,#[x,y],#[t,u]⟩:=by exact rfl) (I:(⟨env,b0,H⟩:AS).eval x=.pv (iA b 0 n M):=by exact rfl) (hH:H[i]?=some (some b,.blk N f):=by exact rfl) (hd:o.dst=some d:=by exact rfl) (hN':Nat.blt d G.N=true:=by exact rfl):kE P G o ⟨env,b0,H⟩ K :=
 wC ho I hH hN hsrc h1 hu h5 hroom F hF hleaf (ez hd hN') (by rw [ba hd];exact hK)
end
theorem wM {G:Gh} {s:AS} (d:Nat) {i off n m:Nat} {g:Option Nat} (hl:look s.env s.b d=.os i g off n m):∀ a w,nX G s a w→g=none→n=0:=fun a w ⟨St,hr⟩ hg=>by
 have:=c7 hr (x:=.tmp d) hl
 subst hg
 exact this.1
section
open Go.RowKit Cal
theorem uB (g:Option Nat) (l:List N4) (a b:Nat) (hb:b≤a+1) (ha:a≤1000):AC gs prog 112 [dA g l] [.os 0 g 0 l.length 4,.c (.int .i64 (a:Nat)),.c (.int .i64 (b:Nat)),rC] (fun r H'=>r=.c (.tuple #[])∧H'=[dA g l]):=by
 refine ag 53 func112 fun _ _ _ _=>?_;refine U 2051916 ?_;refine aG (α:=Nat) [8,9,12,13,14,15,16,17,18,19,20,21,22,23,24,25,26,27,28,29,30,31,32,33,34,35,36,37,38,39,40,41,42,43,44,45,46,47,48,49,50,51,52] (fun i=>[(8,.c (.int .i64 (i:Nat)))]) (fun i=>[(g,.blk (l.length * 4) (c8 l))]) (fun i=>i=a+1) (fun i=>0) (a+1) ?_ (fun _=>rfl) ?_ ?_ ?_
 rfl
 exact .cons (cI O) .nil
 exact ar.refl _
 ·rintro i (hi:i=a+1)
  refine U 521167 ?_;refine aX (fun h11=>?_) fun h11=>?_
  ·exfalso;omega
  refine U 4000200020006000 ?_
  exact aY (.inr rfl) _ [_] [0] T rfl (bo rfl) ⟨rfl,rfl⟩
def tV (r:Nat) (l:List N4):List N4:=if r=0 then af l else ld l 20
theorem zC (g:Option Nat) (l:List N4) (r:Nat) (hr:r≤1) (h1:20 * r≤l.length) (h2:l.length≤21):AC gs prog 112 [dA g (ld l (20 * r))] [.os 0 g 0 l.length 4,.c (.int .i64 (20 * r:Nat)),.c (.int .i64 (l.length:Nat)),rC] (fun x H'=>x=.c (.tuple #[])∧H'=[dA g (tV r l)]):=by
 rcases (show r=0∨r=1 by omega) with rfl|rfl
 ·have h:=qc (gs:=gs) g l l.length (FQ _) O
  rw [r9] at h
  exact h
 ·have h:=uB (gs:=gs) g (ld l 20) 20 l.length O T
  rw [iZ (show 20≤l.length by omega)] at h
  exact h
theorem vH {r:Nat} {l:List N4} (h1:20 * r≤l.length) (hr:r≤1):(tV r l).length=l.length:=by
 unfold tV
 split
 exact fi l
 exact iZ O
theorem vJ {r:Nat} {l:List N4} (h1:20 * r≤l.length) (hr:r≤1) (h:l.length≤20):tV r l=af l:=by
 unfold tV
 split
 rfl
 ·rw [← r9,show l.length=20 by omega]
theorem pp (g:Option Nat) (l:List N4) (hl:l.length≤21):AC gs prog 71 [dA g l] [.os 0 g 0 l.length 4,.c (.int .i64 (l.length:Nat)),rC] (fun r H'=>r=.c (.tuple #[])∧∃ l',H'=[dA g l']∧l'.length=l.length∧(l.length≤20→l'=af l)):=by
 refine ag 63 func71 fun _ _ _ _=>?_;refine U 20751116516 ?_;refine aG (α:=Nat) [7,8,11,12,13,14,15,16,17,18,19,20,21,22] (fun r=>[(7,.c (.int .i64 (20 * r:Nat))),(8,.c (.int .i64 (20 * r+20:Nat)))]) (fun r=>[(g,.blk (l.length * 4) (c8 (ld l (20 * r))))]) (fun r=>r≤1∧20 * r≤l.length) (fun r=>2-r) (0) ?_ (fun _=>rfl) ?_ ?_ ?_
 exact ⟨F4 _,F4 _⟩
 exact .cons cZ (.cons cZ .nil)
 exact ar.refl _
 ·rintro r ⟨(hr:r≤1),(hr2:20 * r≤l.length)⟩
  refine U 521167 ?_;refine aX (fun h338=>?_) fun h338=>?_
  ·refine U 20810 ?_
   have hr0:r=0:=by omega
   subst hr0
   have hi20:=qc (gs:=gs) g l 20 O O
   have hi20:AC gs prog 112 [(g,.blk (l.length * 4) (c8 (ld l (20 * 0))))] [.os 0 g 0 l.length 4,.c (.int .i64 (20 * 0:Nat)),.c (.int .i64 (20 * 0+20:Nat)),rC] (fun r H'=>r=.c (.tuple #[])∧H'=[(g,.blk (l.length * 4) (c8 (ld l 20)))]):=by
    unfold dA at hi20
    rw [iZ (show 20≤l.length by omega)] at hi20
    exact hi20
   refine U 11116 ?_
   refine aL (dc 0 hi20 ?_)
   refine U 84005191120051165 ?_
   refine aH (1) ?_ ?_ (h5:=?_) (h7:=?_)
   show 1≤1∧20 * 1≤l.length;omega
   ·show 2-1<2-0;decide
   exact .cons (cI O) (.cons (cI O) .nil)
   exact .blk rfl (fun j hj=>cZ) .nil
  refine U 84000200020006000 ?_
  have hR:=zC (gs:=gs) g l r hr hr2 hl
  have hRl:=vH hr2 hr
  have hRa:=vJ hr2 hr
  unfold dA at hR
  rw [iZ hr2,hRl] at hR
  generalize tV r l=Y at *
  refine U 11116 ?_
  refine aL (dc 0 hR ?_)
  refine U 205 ?_;refine aG (α:=Nat×List N4) [6,7,8,9,28,29,30,31,32,33,34,35,36,37,38,39,40,41,42,43,44,45,46,47,48,49,50,51,52,53,54,55,56,57,58,59,60,61,62] (fun (q,X)=>[(6,.c (.int .i64 (20 * (q+1):Nat)))]) (fun (q,X)=>[(g,.blk (l.length * 4) (c8 X))]) (fun (q,X)=>q≤1∧X.length=l.length∧(l.length≤20→X=af l)) (fun (q,_)=>2-q) ((0,Y)) ?_ (fun _=>rfl) ?_ ?_ ?_
  exact ⟨F4 _,hRl,hRa⟩
  exact .cons cZ .nil
  exact ar.refl _
  ·rintro ⟨q,X⟩ ⟨(hq:q≤1),(hX:X.length=l.length),hXa⟩
   refine U 521167 ?_;refine aaa (fun h345=>?_) fun h345=>?_
   ·refine U 4000200020006000 ?_
    exact aY (.inr rfl) _ [_] [0] T rfl (bo rfl) ⟨rfl,X,by unfold dA;rw [hX];rfl,hX,hXa⟩
   refine U 20751191620810 ?_
   have hq0:q=0:=by omega
   subst hq0
   have hS:=vi (gs:=gs) g X O
   unfold dA at hS
   rw [hX] at hS
   refine aG (α:=Unit) [7,8,33,34,35,36,37,38,39,40,41,42,43,44,45,46,47,48] (fun _=>[(7,.c (.int .i64 0)),(8,.c (.int .i64 40))]) (fun _=>[(g,.blk (l.length * 4) (c8 X))]) (fun _=>True) (fun _=>0) (()) ?_ (fun _=>rfl) ?_ ?_ ?_
   ·trivial
   exact .cons cZ (.cons (cI O) .nil)
   exact ar.refl _
   ·rintro u _
    refine U 521167 ?_;refine aX (fun h347=>?_) fun h347=>?_
    ·exfalso;omega
    refine U 52116519116784000200020006000 ?_;refine aaa (fun h352=>?_) fun h352=>?_
    ·exfalso;omega
    refine U 11111200 ?_
    refine aL (mM 0 hS ?_)
    rintro _ _ ⟨rfl,X',rfl,hX'⟩;refine ⟨(g,.blk (l.length * 4) (c8 X')),_,(by rw [hX']),cZ,?_⟩
    refine U 8400519120085 ?_
    refine aH ((1,X')) ?_ ?_ (h5:=?_) (h7:=?_)
    exact ⟨by omega,hX',fun h=>absurd h O⟩
    ·show 2-1<2-0;decide
    exact .cons (cI O) .nil
    exact ar.refl _
theorem m6 (g:Option Nat) (l:List N4) (hl:l.length≤21):AC gs prog 32 [dA g l] [.os 0 g 0 l.length 4,rC] (fun r H'=>r=.c (.tuple #[])∧∃ l',H'=[dA g l']∧l'.length=l.length∧(l.length≤20→l'=af l)):=by
 refine ag 9 func32 fun _ _ _ _=>?_;refine U 1311200 ?_
 refine aL (mM 0 (pp g l hl) ?_)
 rintro _ _ ⟨rfl,X,rfl,hX,hXa⟩;refine ⟨_,_,rfl,cZ,?_⟩
 refine U 5 ?_
 exact aY (.inr rfl) _ [_] [0] T rfl (bo rfl) ⟨rfl,X,rfl,hX,hXa⟩
theorem zM {l:List N4} {i j:Nat}:(l.eraseIdx i).getD j ae=if j<i then l.getD j ae else l.getD (j+1) ae:=by
 rw [FJ,List.getElem?_eraseIdx]
 split<;>rw [FJ]
theorem uK {l:List N4} {i:Nat} (hi:i<l.length) (j:Nat):kC (i * 4) (c8 l) (fun j=>c8 l ((i+1) * 4+j)) j=c8 (l.eraseIdx i) j:=by
 obtain ⟨q,r,hr,rfl⟩:∃ q r,r<4∧j=q * 4+r:=⟨j / 4,j % 4,Gu _ T,by omega⟩
 have e:c8 (l.eraseIdx i) (q * 4+r)=cc ((l.eraseIdx i).getD q ae) r:=bb hr
 rw [e,zM]
 unfold kC
 by_cases h:q<i
 ·rw [jP,FO h]
  exact bb hr
 ·rw [jK,FN h]
  show c8 l ((i+1) * 4+(q * 4+r-i * 4))=_
  rw [show (i+1) * 4+(q * 4+r-i * 4)=(q+1) * 4+r by omega]
  exact bb hr
theorem Aq (g:Option Nat) (l:List N4) (i:Nat) (hi:i<l.length) (hl:l.length≤1000):AC gs prog 39 [dA g l] [.os 0 g 0 l.length 4,.c (.int .i64 (i:Nat)),.c (.int .i64 ((i:Nat)+1))] (fun r H'=>r=uX (l.eraseIdx i)∧∃ x,H'=[x]):=by
 have hel:(l.eraseIdx i).length=l.length-1:=by rw [List.length_eraseIdx,FO hi]
 refine ag 33 func39 fun _ _ _ _=>?_;refine U 516 ?_;refine iT (wM 0 rfl) fun hgn=>?_
 obtain ⟨b,rfl⟩:∃ b,g=some b:=by
  cases g with
  | none=>exact absurd (hgn rfl) O
  | some b=>exact ⟨b,rfl⟩
 refine U 311116 ?_;refine jq ((tZ (l:=i) (h:=i+1) (m:=l.length) rfl rfl underlying22 ol rfl rfl rfl rfl O rfl O O (FQ _))) ?_;refine U 5211675 ?_;refine aX (fun h227=>?_) fun h227=>?_
 ·exfalso;omega
 refine U 751316810 ?_;refine Cj 6 (.rd 0 (.rd 1 (.rd 2 (.rd 3 (.rd 4 (.rd 5 .done)))))) ?_;refine U 7070 ?_;refine eF ((BA (v:=i) rfl rfl underlying22 ol rfl rfl O O)) ?_;refine U 7070 ?_;refine eF ((vM (l:=i+1) rfl rfl underlying22 ol rfl O O)) ?_;refine DB ?_
 show bm _ _ _ _ _ _
 refine aL (Cf (i:=0) (b:=b) (n:=i) (m:=l.length-(i+1)) (M:=l.length) (N:=l.length * 4) (k:=4) (c8 (l.eraseIdx i)) (sa (i:=0) (b:=b) (F:=c8 l) (off:=(i+1) * 4) (N:=l.length * 4) rfl (.inl rfl) O) O (FQ _) (fun j _=>J.of_eq (uK hi j)) (fun j hj=>eo _ (Gu _ T)) underlying22 zd ol ?_)
 refine U 116851 ?_;refine jq ((yS rfl rfl underlying22)) ?_;refine U 1 ?_;refine jq ((yK (l:=l.length-1) (v:=l.length) rfl rfl underlying22 ol rfl rfl O rfl O (FQ _))) ?_
 refine aL (wD (i:=0) (M:=(l.length-1) * 4) rfl rfl rfl underlying22 ol iq rfl T (by first|(simp [Value.cells];done)|(simp [Value.cells,Value.oneCell'];done)|(simp [Value.cells];exact ⟨rfl,rfl,rfl,rfl⟩)) (FQ _) O O rfl ?_)
 refine U 5 ?_;refine jE (freeze 0 rfl) ?_;refine jE (C8 0 (i:=0) (b:=b) (m:=4) (M:=l.length) (N:=(l.length-1) * 4) (F:=tB ((i+(l.length-(i+1))) * 4) (c8 (l.eraseIdx i))) (fun p q=>cc ((l.eraseIdx i).getD p ae) q) rfl O rfl O (fun p q hp hq=>by unfold tB;rw [jP];exact J.of_eq (bb hq))) ?_;refine U 70005116 ?_
 exact ew (.inl rfl) [0] T rfl (fo rfl (cR rfl)) (m:=uX (l.eraseIdx i)) (J.of_eq (by unfold uX;rw [hel,show i+(l.length-(i+1))=l.length-1 by omega];rfl)) ⟨rfl,_,rfl⟩
end
end Am
end Go.Proofs.YtnijncmifjnifaaGreatDoor
