/- What the law leans on, part 12 -/
import Derived.Test.YtghminnpfnkbjaaGreatDoorM11RequestBody
set_option maxRecDepth 100000
set_option maxHeartbeats 8000000
variable {gs:List Nat}
open Go.Proofs.Tryz
namespace Go.Proofs.YtghminnpfnkbjaaGreatDoor
set_option linter.unusedVariables false
namespace Am
open Go.RowKit
theorem AE {l:I} (hl:l.length=32) (h:∀ j,j<l.length→0≤Lib.indexByte iA (l.getD j 0)):dD l=true:=by
 simp only [dD,ZE,Z1,ZJ]
 refine ⟨hl,fun c hc=>?_⟩
 obtain ⟨j,hj,rfl⟩:=bbx hc
 have:=h j hj
 simpa [List.getD,hj] using this
theorem uY {l:I} (h:l.length≠32):dD l=false:=by unfold dD;rw [aex h];rfl
theorem OG {l:I} (h:dD l=true):l.length=32∧l.all zi=true:=by
 unfold dD at h
 rw [ZE,ZJ] at h
 exact h
theorem RU [ib gs] (l:I):cd gs prog 39 [ap l] (.tup 2 (fl [bc (if dD l=true then eY l else []),.err (if dD l=true then 0 else 4)])):=by
 refine ae 39 func39 fun _ _ _ _=>?_;refine U 52400001675116 ?_;refine an (fun h99=>?_) fun h99=>?_
 ·refine ia ?_;refine dQ (.rd 0 (.rd 1 (.rd 2 .done))) ?_;refine U 80003000700088070704000000 ?_
  have hb:dD l=false:=uY O
  rw [hb]
  exact cT (aa.nilS' rfl) (aa.errN rfl)
 refine U 6810 ?_
 refine aq (yu (F:=aV (List.replicate 16 0)) rfl rfl rfl (show (16:Int)=((16:Nat):Int) from rfl) (show (16:Int)=((16:Nat):Int) from rfl) (by omega) underlying23 fR da jt (by omega) (by omega) (fun j hj=>by rw [zy j];exact LA j) rfl rfl (fun p1=>?_))
 refine U 20514000016751 ?_
 have h32:l.length=32:=by omega
 refine ar (α:=Nat×I) [2,3,5,6,14,15,16,17,18,19,20,21,22,23,24,25,26,27,28,29,30,31,32,33,34,35,36,37] (fun (i,X)=>[(14,.c (.int .i64 (i:Nat)))]) (fun (i,X)=>[(p1,.blk 16 (aV X))]) (fun (i,X)=>i≤l.length∧zt l X i∧∀ j,j<i→0≤Lib.indexByte iA (l.getD j 0)) (fun (i,X)=>l.length-i) ((0,List.replicate 16 0)) ?_ (fun _=>rfl) ?_ ?_ ?_
 exact ⟨ZL _,(by have:=zt.start l;rw [show l.length / 2=16 by omega] at this;exact this),fun j hj=>absurd hj (ZO j)⟩
 exact .cons Z .nil
 exact .same .nil
 ·rintro ⟨i,X⟩ ⟨(hi:i≤l.length),(hS:zt l X i),he⟩
  have hhx:=wE (l.getD i 0)
  have hXl:X.length=16:=by rw [hS.1];omega
  refine U 7526 ?_;refine aaa (fun h103=>?_) fun h103=>?_
  ·refine U 84000200020006000 ?_
   have hil:i=l.length:=by omega
   have hXe:=hS.done hil O
   refine jE (freeze 0 rfl) ?_;refine jE (iG 4 (fun k=>fun _=>aV X k) rfl rfl O (fun a b ha hb=>aa.of_eq (by rw [Nat.zero_add];congr 1;omega))) ?_;refine U 8000700051116 ?_
   have hall:=AE h32 (fun j hj=>he j O)
   rw [Zz hall,Zz hall]
   exact cT (aa.rs (by rw [kG];omega) fun i j hi hj=>aa.of_eq (by rw [hXe])) (aa.nilE rfl)
  refine U 800000001165116207810 ?_
  refine aq (ak (wD iA (l.getD i 0)) ?_)
  refine U 5216751 ?_;refine an (fun h105=>?_) fun h105=>?_
  ·refine ia ?_;refine dQ (.rd 0 (.rd 1 (.rd 2 .done))) ?_;refine U 8000300050003000300050003000700088070704000000 ?_
   have hb:dD l=false:=qI (i:=i) O O
   rw [hb]
   exact cT (aa.nilS' rfl) (aa.errN rfl)
  refine U 6000001160000011200810 ?_;refine jq (dP (i:=(i / 2)) (hz:=by omega)) ?_;refine U 50 ?_;refine jq (jh rfl rfl rfl (by omega) ((C7 (X.getD (i / 2) 0))) (rfl)) ?_;refine U 8000001 ?_;refine jq (xA rfl rfl rfl ((U6 (C7 (X.getD (i / 2) 0)) (Lib.indexByte iA (l.getD i 0)))) (rfl)) ?_;refine jq (dP (i:=(i / 2)) (hz:=by omega)) ?_
  refine aw (bg 1 (aV (X.set (i / 2) (BW (X.getD (i / 2) 0) (Lib.indexByte iA (l.getD i 0))))) ?_ ?_)
  exact (fun j hj=>wX (DR _ _) O j)
  refine U 851920084005 ?_
  refine am ((i+1,X.set (i / 2) (BW (X.getD (i / 2) 0) (Lib.indexByte iA (l.getD i 0))))) ?_ ?_ (h5:=?_) (h7:=?_)
  ·have hx:∀ j,j≤i→0≤Lib.indexByte iA (l.getD j 0):=fun j hj=>by
    by_cases e:j=i
    ·subst e;omega
    exact he j O
   exact ⟨by omega,hS.step O O hx,fun j hj=>hx j O⟩
  show l.length-(i+1)<l.length-i;omega
  exact .cons (cI O) .nil
  exact .same .nil
def yP (l X:I) (i:Nat):Prop :=
 X.length=(i+1) / 2∧(∀ j,j<i / 2→X.getD j 0=bx (l.getD (2 * j) 0) (l.getD (2 * j+1) 0))∧(i % 2=1→X.getD (i / 2) 0=UInt8.ofNat (16 * hv (l.getD (i-1) 0)))
theorem yP.push {l X:I} {i:Nat} (h:yP l X i) (he:i % 2=0):yP l (X++[UInt8.ofNat (16 * hv (l.getD i 0))]) (i+1):=by
 have ⟨h1,h2,h3⟩:=h
 refine ⟨by rw [ZD,h1,aEx];omega,fun j hj=>?_,fun _=>?_⟩
 ·rw [← h2 j O]
  simp [List.getD,ZF (show j<X.length by omega)]
 ·rw [show (i+1) / 2=X.length by omega,show i+1-1=i by omega]
  simp [List.getD]
theorem yP.put {l X:I} {i:Nat} (h:yP l X i) (he:i % 2=1):yP l (X.set (i / 2) (bx (l.getD (i-1) 0) (l.getD i 0))) (i+1):=by
 have ⟨h1,h2,h3⟩:=h
 refine ⟨by rw [aPx,h1];omega,fun j hj=>?_,fun h=>by omega⟩
 rw [Bt j O]
 by_cases e:j=i / 2
 ·rw [Zz e,show 2 * j=i-1 by omega,show i-1+1=i by omega]
 ·rw [Zy e];exact h2 j O
theorem yP.done {l X:I} (h:yP l X l.length) (he:l.length=32):X=eY l:=by
 have ⟨h1,h2,_⟩:=h
 have hl:=kG l
 refine bgx O fun j a b=>?_
 have e1:=h2 j O
 have e2:=ye l j O
 rw [← e2] at e1
 simpa [List.getD,a,b] using e1
theorem Vu (c:UInt8):(48≤c.toNat∧c.toNat≤57→((hv c:Nat):Int)=(c.toNat:Int)-48∧0≤Lib.indexByte iA c)∧(97≤c.toNat∧c.toNat≤102→((hv c:Nat):Int)=(c.toNat:Int)-97+10∧0≤Lib.indexByte iA c)∧(¬ (48≤c.toNat∧c.toNat≤57)→¬ (97≤c.toNat∧c.toNat≤102)→Lib.indexByte iA c<0):=by
 have hd:=VN c
 unfold hv
 refine ⟨fun h=>?_,fun h=>?_,fun h1 h2=>?_⟩
 ·rw [Zz h] at hd;omega
 ·rw [jK,Zz h] at hd;omega
 ·rw [Zy h1,Zy h2] at hd;omega
theorem H4 (c:UInt8):hv c<16:=by have:=wE c;unfold hv;omega
theorem mS {n:Nat} (h:n<256):((UInt8.ofNat n).toNat:Nat)=n:=by rw [ZT];omega
theorem Hh (l:I) (hl:l.length≤1000000):cd gs prog 114 [ap l] (.tup 2 (fl [if dD l=true then bc (eY l) else .top,.c (.bool (dD l))])):=by
 refine ae 59 func114 fun _ _ _ _=>?_;refine U 65116 ?_
 refine aq (aM 0 1 da fun p1=>?_)
 refine U 20516751 ?_;refine ar (α:=Nat×I×Option Nat) [2,3,4,5,6,7,9,10,11,12,13,14,15,16,17,18,19,20,21,22,23,24,25,26,27,28,29,30,31,32,33,34,35,36,37,38,39,40,41,42,43,44,45,46,47,48,49,50,51,52,53,54] (fun (i,X,g)=>[(5,.c (.int .i64 (i:Nat))),(4,.os 0 g 0 X.length 1)]) (fun (i,X,g)=>[(g,.blk X.length (aV X))]) (fun (i,X,g)=>i≤l.length∧yP l X i∧∀ j,j<i→0≤Lib.indexByte iA (l.getD j 0)) (fun (i,X,g)=>l.length-i) ((0,[],p1)) ?_ (fun _=>rfl) ?_ ?_ ?_
 exact ⟨ZL _,⟨rfl,fun j hj=>absurd hj (ZO j),fun h=>absurd h jD⟩,fun j hj=>absurd hj (ZO j)⟩
 exact .cons Z (.cons Z .nil)
 exact .blk rfl (fun j hj=>absurd hj (ZO j)) .nil
 ·rintro ⟨i,X,g⟩ ⟨(hi:i≤l.length),(hS:yP l X i),he⟩
  have hd:=Vu (l.getD i 0)
  have hv16:=H4 (l.getD i 0)
  have hXl:X.length=(i+1) / 2:=hS.1
  have hv17:=H4 (l.getD (i-1) 0)
  have hXo:i % 2=1→(X.getD (i / 2) 0).toNat=16 * hv (l.getD (i-1) 0):=fun h=>by rw [hS.2.2 h];exact mS O
  refine U 52400001167 ?_;refine aaa (fun h69=>?_) fun h69=>?_
  ·refine U 84000200020006000 ?_
   have hil:i=l.length:=by omega
   refine jE (freeze 0 rfl) ?_;refine jE (iG 4 (fun k=>fun _=>aV X k) rfl rfl O (fun a b ha hb=>aa.of_eq (by rw [Nat.zero_add];congr 1;omega))) ?_;refine U 80007000511240000116 ?_
   have hall:dD l=decide (l.length=32):=by
    by_cases h32:l.length=32
    ·rw [AE h32 (fun j hj=>he j O),abx h32]
    ·rw [uY h32,aex h32]
   refine cT ?_ (cB (by rw [hall];exact decide_eq_decide.2 O))
   split
   ·rename_i ho
    have h32:=(OG ho).1
    subst hil
    have hX:=hS.done h32
    exact aa.rs (by rw [hX]) fun i j hi hj=>aa.of_eq (by rw [hX])
   exact aa.top _
  refine U 810 ?_;refine i5 (α:=I×Option Nat) [2,3,4,6,7,15,16,17,18,19,20,21,22,23,24,25,26,27,28,29,30,31,32,33,34,35,36,37,38,39,40,41,42,43,44,45,46,47,48,49,50,51,52,53,54] (fun (Y,g')=>[(4,.os 0 g' 0 Y.length 1)]) (fun (Y,g')=>[(g',.blk Y.length (aV Y))]) (fun (Y,g')=>yP l Y (i+1)∧0≤Lib.indexByte iA (l.getD i 0)) (fun _=>rfl) ?_ ?_
  ·refine U 516518000000011620 ?_;refine i5 (α:=Unit) [2,3,7,18,19,20,21,22,23,24,25,26,27,28,29,30,31,32,33,34,35,36] (fun _=>[(7,.c (.int .i64 (hv (l.getD i 0):Nat)))]) (fun _=>[(g,.blk X.length (aV X))]) (fun _=>0≤Lib.indexByte iA (l.getD i 0)) (fun _=>rfl) ?_ ?_
   ·refine U 1216 ?_;refine aH 20 (fun g72=>?_) fun g72=>?_
    rotate_left
    ·refine U 1216300550044 ?_;refine aH 29 (fun g74=>?_) fun g74=>?_
     rotate_left
     ·refine U 800030005000300030005000300070005116300550044 ?_
      have hb:dD l=false:=qI (i:=i) O (hd.2.2 O O)
      rw [hb,Zy jD]
      exact cT (aa.top _) Z
     refine U 510000000021 ?_;refine aaa (fun h74=>?_) fun h74=>?_
     ·refine U 800030005000300030005000300070005116 ?_
      have hb:dD l=false:=qI (i:=i) O (hd.2.2 O O)
      rw [hb,Zy jD]
      exact cT (aa.top _) Z
     refine U 91200 ?_;refine jq (wg .u8 .i64) ?_;refine U 8519 ?_
     refine fy (()) ?_ (h5:=?_) (h7:=?_)
     exact (hd.1 O).2
     exact .cons (cI (by exact (hd.2.1 O).1.symm)) .nil
     exact .same .nil
    refine U 510000000021 ?_;refine an (fun h72=>?_) fun h72=>?_
    ·refine U 91200 ?_;refine jq (wg .u8 .i64) ?_;refine U 851 ?_
     refine fy (()) ?_ (h5:=?_) (h7:=?_)
     exact (hd.1 O).2
     exact .cons (cI (by exact (hd.1 O).1.symm)) .nil
     exact .same .nil
    refine U 1216 ?_;refine aH 29 (fun g74=>?_) fun g74=>?_
    rotate_left
    ·refine U 800030005000300030005000300070005116300550044 ?_
     have hb:dD l=false:=qI (i:=i) O (hd.2.2 O O)
     rw [hb,Zy jD]
     exact cT (aa.top _) Z
    refine U 510000000021 ?_;refine aaa (fun h74=>?_) fun h74=>?_
    ·refine U 800030005000300030005000300070005116 ?_
     have hb:dD l=false:=qI (i:=i) O (hd.2.2 O O)
     rw [hb,Zy jD]
     exact cT (aa.top _) Z
    refine U 91200 ?_;refine jq (wg .u8 .i64) ?_;refine U 8519 ?_
    refine fy (()) ?_ (h5:=?_) (h7:=?_)
    exact (hd.2.1 O).2
    exact .cons (cI (by exact (hd.2.1 O).1.symm)) .nil
    exact .same .nil
   ·rintro u hx1
    refine U 52100000016 ?_;refine an (fun h79=>?_) fun h79=>?_
    ·refine U 800000911200 ?_
     refine aq (aM 1 1 da fun p2=>?_)
     refine aw (ay (l2:=[UInt8.ofNat (16 * hv (l.getD i 0))]) rfl rfl rfl (ZA _) (fun _ _=>Z) (aI rfl (.inl rfl) jD) rfl (bz (.cons (cI ((by rw [mS O];omega))) .nil)) underlying23 dV fR da jt rfl (by (simp;omega)) (cp rfl rfl) rfl rfl (fun p3=>?_))
     refine U 840051 ?_
     refine fy ((X++[UInt8.ofNat (16 * hv (l.getD i 0))],p3)) ?_ (h5:=?_) (h7:=?_)
     exact ⟨hS.push O,hx1⟩
     exact .cons (cO (by simp)) .nil
     exact .blk (by simp) (fun j hj=>Z) .nil
    refine U 60000011200 ?_;refine jq (dP (i:=(i / 2)) (hz:=by omega)) ?_;refine U 9800000150 ?_;refine jq (dP (i:=(i / 2)) (hz:=by omega)) ?_
    refine aw (bg 1 (aV (X.set (i / 2) (bx (l.getD (i-1) 0) (l.getD i 0)))) ?_ ?_)
    exact (fun j hj=>wX (by unfold bx;rw [mS (by have:=H4 (l.getD (i-1) 0);omega),hS.2.2 O,mS (by have:=H4 (l.getD (i-1) 0);omega)];omega) O j)
    refine U 84005 ?_
    refine fy ((X.set (i / 2) (bx (l.getD (i-1) 0) (l.getD i 0)),g)) ?_ (h5:=?_) (h7:=?_)
    exact ⟨hS.put O,hx1⟩
    exact .cons (cO (by simp)) .nil
    exact .blk (by simp) (fun j hj=>Z) .nil
  ·rintro ⟨Y,g'⟩ ⟨hY,hx0⟩
   refine U 85191200 ?_
   refine am ((i+1,Y,g')) ?_ ?_ (h5:=?_) (h7:=?_)
   ·exact ⟨by omega,hY,fun j hj=>by
     by_cases e:j=i
     ·subst e;exact hx0
     exact he j O⟩
   show l.length-(i+1)<l.length-i;omega
   exact .cons (cI O) (.cons Z .nil)
   exact .same .nil
section
variable {P:Program} {G:Gh} {o:Oper} {env:List (Nat×CV)} {b0:Nat→CV} {H:List (Option Nat×aW)} {K:AS→Prop}
theorem Eo (w:World) (b k:Nat) {cur:Array Value} {ty:TypeId} (h:w.heap[b]?=some (.cells cur ty (0,0))):(w.freeze ⟨b,k,none⟩ 1).heap[b]?=some (.cells cur ty (k,k+1)):=by
 unfold World.freeze
 rw [Zy jD]
 simp only [bex,h,if_true,bzx]
 rfl
theorem Cd (w:World) (b k q:Nat) (hq:q≠b):(w.freeze ⟨b,k,none⟩ 1).heap[q]?=w.heap[q]?:=by
 unfold World.freeze
 rw [Zy jD]
 simp only [bex]
 rw [Zy (fun h=>hq h.symm)]
theorem En (w:World) (b k:Nat):(w.freeze ⟨b,k,none⟩ 1).heap.size=w.heap.size∧(w.freeze ⟨b,k,none⟩ 1).os=w.os∧(w.freeze ⟨b,k,none⟩ 1).tape=w.tape∧(w.freeze ⟨b,k,none⟩ 1).output=w.output:=by
 unfold World.freeze
 rw [Zy jD]
 exact ⟨by simp,rfl,rfl,rfl⟩
theorem ax.mark {St:Nat→Prop} {s:AS} {a:Act} {w:World} (h:ax G St s a w) {i g n:Nat} {f:Nat→CV} (hH:s.H[i]?=some (some g,.blk n f)) {cur:Array Value} {ty:TypeId} (hc:w.heap[g]?=some (.cells cur ty (0,0))) (k:Nat) :
  (∀ b,St b→b≠g)∧ax G (fun b=>St b∨b=g) ⟨s.env,s.b,s.H.set i (some g,.frz n f)⟩ a (w.freeze ⟨g,k,none⟩ 1):=by
 have ⟨fp,hp⟩:=h.hp
 have hlt:i<s.H.length:=(ZC.1 hH).1
 have hrep:=hp.rep i (some g) _ hH
 have hg:fp i g:=(hrep.1 g).2 rfl
 have ⟨hg1,hg2,hg3⟩:=hp.own i g hg
 have hnew:=Eo w g k hc
 have hold:∀ b,b≠g→(w.freeze ⟨g,k,none⟩ 1).heap[b]?=w.heap[b]?:=fun b hb=>Cd w g k b hb
 have ⟨hsz,ho,ht,hu⟩:=En w g k
 have hs:∀ b,St b→St b∨b=g:=fun _ h=>.inl h
 have hne:∀ b,St b→b≠g:=fun b hb e=>hg2 (e ▸ hb)
 have he:rc St w (w.freeze ⟨g,k,none⟩ 1):=⟨fun b cu ct cz hb hcu=>(hold b (hne b hb)).trans hcu,fun b cu t z hb=>by
  by_cases e:b=g
  ·subst e
   rw [hc] at hb
   cases hb
   exact ⟨cur,_,hnew,rfl⟩
  exact ⟨cu,z,(hold b e).trans hb,rfl⟩⟩
 refine ⟨hne,h.df.keep hs (fun b hb=>hold b (hne b hb)),h.sz,fun d=>aP.evo he hs _ _ (h.env d),⟨ho.trans h.un.os,ht.trans h.un.tape,hu.trans h.un.output,by rw [hsz];exact h.un.size,fun k hk hF=>?_,fun b cu t z hb=>?_⟩,fun b hb=>.inl (h.s1 b hb),fun b hb=>?_,fun b hb=>?_,?_,?_,fun q hq=>.inl (h.sg.1 q hq),fun x hx=>.inl (h.sg.2 x hx)⟩
 ·refine (hold k (fun e=>?_)).trans (h.un.block k hk hF)
  subst e
  rcases hg3 with h1|h1
  omega
  exact hF h1
 ·have ⟨cur',z',h1,h2⟩:=h.un.sh b cu t z hb
  have ⟨cur2,z2,h3,h4⟩:=he.sh b cur' t z' h1
  exact ⟨cur2,z2,h3,h4.trans h2⟩
 ·rcases hb with hb|rfl
  exact h.s2 b hb
  exact .inr hg3
 ·rw [hsz]
  rcases hb with hb|rfl
  exact h.s3 b hb
  exact hg1
 ·refine ⟨fun j b=>j≠i∧fp j b,fun j q r hj=>?_,fun j l b h1 h2=>hp.dis j l b h1.2 h2.2,fun j b h1=>?_,fun j hj b h1=>hp.out j (by simpa using hj) b h1.2⟩
  ·by_cases e:j=i
   ·subst e
    simp [hlt] at hj
    obtain ⟨rfl,rfl⟩:=hj
    have ⟨h0,cur',t',h1,h2,h3⟩:=hrep
    rw [hc] at h1
    cases h1
    exact ⟨fun b hb=>absurd rfl hb.1,.inr rfl,cur,ty,_,hnew,h2,fun m hm=>aP.evo he hs _ _ (h3 m hm)⟩
   ·rw [ZQ (Ne.symm e)] at hj
    have e2:(fun b=>j≠i∧fp j b)=fp j:=funext fun b=>propext ⟨fun h=>h.2,fun h=>⟨e,h⟩⟩
    show r.rep G.al _ _ (fun b=>j≠i∧fp j b) q
    rw [e2]
    exact aW.rep_evo he hs (fun b hF=>hold b (fun e3=>e (hp.dis j i b hF (e3 ▸ hg)))) (hp.rep j q r hj)
  ·have ⟨h2,h3,h4⟩:=hp.own j b h1.2
   exact ⟨by rw [hsz];exact h2,fun hb=>hb.elim h3 fun hb=>h1.1 (hp.dis j i b h1.2 (hb ▸ hg)),h4⟩
 exact gc.keep h.sn (fun q hq=>hold q (hne q (h.sg.1 q hq))) (fun q hq=>hold _ (hne _ (h.sg.2 q hq)))
end
section
variable {P:Program} {G:Gh} {ops:Array Oper} {o:Oper} {s:AS} {K:AS→Prop} {t u:TypeId} {x y:Operand} {env:List (Nat×CV)} {b0:Nat→CV} {H:List (Option Nat×aW)}
theorem AV {xs:Array Operand} {ats:Array TypeId} (ho:o.op=.call ⟨.builtin .copy,xs,ats⟩) {a:Act} {v:Value} {w w':World} (h:(Builtin.copy_ ats o.type (xs.map a.eval)).run P w=.ok v w'):(execOp a.eval o).run P w=.ok (.value v) w':=by
 simp [execOp,ho,resolve,invoke,builtin,h]
def Gz (off c:Nat) (f h:Nat→CV) (j:Nat):CV:=if off≤j∧j<off+c then h (j-off) else f j
theorem Ve {e:TypeId} {i off n m k N:Nat} {g:Option Nat} {f h:Nat→CV} (ho:o.op=.call ⟨.builtin .copy,#[x,y],#[t,u]⟩) (hx:s.eval x=.os i g off n k) (hH:s.H[i]?=some (g,.blk N f)) (hN:off+n * k≤N)
  (hsrc:rl P G s y k m h) (hmn:m≤n) (h1:P.underlying t=some (.slice e)) (h5:(P.info? e).map (·.size)=some k)
  (F:Nat→CV) (hF:∀ j,j<N→aa (Gz off (m * k) f h j) (F j)) (hleaf:∀ j,j<m * k→fO (h j)=true) (hd:bY G o=true)
  (hK:K (s.with o.dst (.c (.int .i64 (m:Nat))) (s.H.set i (g,.blk N F)))):vn P G o s K:=fun St a w hr Q=>by
 have ⟨info,hi,hs⟩:=ZG.1 h5
 have ⟨news,hnl,hnr,hrun⟩:=hsrc St a w hr
 have he:=iY hr hx
 have hargs:(#[x,y]:Array Operand).map a.eval=#[a.eval x,a.eval y]:=by simp
 have put:∀ {w':World} {v:Value} {c:CV} {H:List (Option Nat×aW)},ax G St ⟨s.env,s.b,H⟩ a w'→aP G.al St w' c v→ax G St (s.with o.dst c H) (a.put o.dst v) w':=fun {w' v c H} h1 h2=>by
  have:=h1.put (dst:=o.dst) (dB hd) h2
  cases ho:o.dst with
  | none=>rw [ho] at this;exact this
  | some d=>rw [ho] at this;exact this
 have hmin:Nat.min m n=m:=bdx hmn
 cases g with
 | none =>
  have ⟨hn0,ev⟩:=he
  subst hn0
  have hm0:m=0:=by omega
  subst hm0
  have hrun':(Builtin.copy_ #[t,u] o.type #[a.eval x,a.eval y]).run P w=.ok (.int .i64 ((0:Nat):Int)) w:=by
   rw [ev]
   simp [Builtin.copy_,underlying,h1,(hrun w rfl).1,sizeOf,typeInfo,hi,hs,(hrun w rfl).2]
   rfl
  unfold Oper.wp
  rw [AV ho (by rw [hargs];exact hrun')]
  refine ⟨ff.refl _ _,St,fun _ h=>h,_,hK,?_⟩
  have hlt:=(ZC.1 hH).1
  have hmv:ax G St ⟨s.env,s.b,s.H.set i (none,.blk N F)⟩ a w:=by
   refine ⟨hr.df,hr.sz,hr.env,hr.un,hr.s1,hr.s2,hr.s3,?_,hr.sn,hr.sg⟩
   have ⟨fp,hp⟩:=hr.hp
   refine ⟨fp,fun j q r hj=>?_,hp.dis,hp.own,fun j hj=>hp.out j (by simpa using hj)⟩
   by_cases hj2:j=i
   ·subst hj2
    simp [hlt] at hj
    obtain ⟨rfl,rfl⟩:=hj
    exact ⟨(hp.rep j none _ hH).1,(hp.rep j none _ hH).2⟩
   ·rw [ZQ (Ne.symm hj2)] at hj
    exact hp.rep j q r hj
  exact put hmv rfl
 | some g =>
  have ⟨cap,ev,hle,hcap,hfit0⟩:=he
  have ⟨fp,hp⟩:=hr.hp
  obtain ⟨hb0,cur,ty,hh,hle2,hcell⟩:=hp.rep i (some g) _ hH
  have hmk:m * k≤n * k:=aox _ hmn
  have hfit:off+news.length≤cur.size:=by omega
  have hone:∀ v ∈ news,v.oneCell'=true:=fun v hv=>by
   have ⟨j,hj,e⟩:=a6x.1 hv
   have h2:=hnr j O
   rw [show news.getD j undef=v by simp [List.getD,hj,e]] at h2
   exact pH (hleaf j O) h2
  have hst:=run_storeCells_at P g off ty news 0 cur w hh O hone
  simp only [afx] at hst
  have hrun':(Builtin.copy_ #[t,u] o.type #[a.eval x,a.eval y]).run P w=.ok (.int .i64 (m:Nat)) (w.setRow g (cur.toList.take off++news++cur.toList.drop (off+news.length)).toArray):=by
   rw [ev]
   simp [Builtin.copy_,underlying,h1,(hrun w rfl).1,hmin,sizeOf,typeInfo,hi,hs,(hrun w rfl).2,hst]
   rfl
  unfold Oper.wp
  rw [AV ho (by rw [hargs];exact hrun')]
  refine ⟨fun q hq=>setRow_other w g q _ (fun e=>(hp.own i g ((hb0 g).2 rfl)).2.1 (e ▸ hq)),St,fun _ h=>h,_,hK,?_⟩
  have hw:=hr.write hH hh (cs:=(cur.toList.take off++news++cur.toList.drop (off+news.length)).toArray) (by simp;omega) (n':=N) (f':=F) (by simp;omega) (fun j hj=>by
   refine hF j hj _ _ _ _ ?_
   rw [rL cur news off hfit]
   unfold Gz
   by_cases h3:off≤j∧j<off+m * k
   ·rw [Zz h3,jP];exact hnr _ O
   ·rw [Zy h3,jK];exact hcell j O)
  exact put hw rfl
end
section
variable {P:Program} {G:Gh} {o:Oper} {K:AS→Prop} {env:List (Nat×CV)} {b0:Nat→CV} {H:List (Option Nat×aW)}
theorem TM {t u:TypeId} {x y:Operand} {i off n N d:Nat} {g:Option Nat} {f:Nat→CV} (L:I) (F:Nat→CV) (hF:∀ j,j<N→aa (Gz off L.length f (aV L) j) (F j)) (hK:K ⟨(d,.c (.int .i64 (L.length:Nat)))::env,b0,H.set i (g,.blk N F)⟩)
  (hsrc:rl P G ⟨env,b0,H⟩ y 1 L.length (aV L)) (ho:o.op=.call ⟨.builtin .copy,#[x,y],#[t,u]⟩:=by exact rfl) (hx:(⟨env,b0,H⟩:AS).eval x=.os i g off n 1:=by exact rfl) (hH:H[i]?=some (g,.blk N f):=by exact rfl) (hN:off+n * 1≤N:=by omega) (hmn:L.length≤n:=by omega)
  (h1:B7 P t 1=true:=by kernel_rfl) (hd:o.dst=some d:=by exact rfl) (hdN:Nat.blt d G.N=true:=by exact rfl):vn P G o ⟨env,b0,H⟩ K:=by
 have ⟨e,h2,h5⟩:=om h1
 refine Ve ho hx hH hN hsrc hmn h2 h5 F (by rw [ZS];exact hF) (fun j hj=>rfl) (by unfold bY;rw [hd];exact hdN) ?_
 rw [hd]
 exact hK
theorem Mf {s:AS} {y:Operand} {L:I} (hy:s.eval y=bc L):rl P G s y 1 L.length (aV L):=by
 have:=cX (P:=P) (G:=G) (k:=1) hy
 have e:(fun j=>(fun i _=>aV L i) (j / 1) (j % 1))=aV L:=by funext j;show aV L (j / 1)=_;rw [anx]
 rw [← e]
 exact this
end
section
variable {P:Program} {G:Gh} {o:Oper} {s:AS} {t:TypeId} {x y:Operand} {k:IntKind}
theorem Jz {e:TypeId} {len n i:Nat} {f:Nat→CV} {v:CV} {z:Int} (ho:o.op=.index t x y) (hx:s.eval x=.agg n f) (hy:s.eval y=.c (.int k z)) (h1:P.underlying t=some (.array len e)) (h3:P.underlying e=some (.int .u8)) (h5:(P.info? e).map (·.size)=some 1)
  (hz:z=(i:Int)) (hi:i<len) (hn:i<n) (hv:f i=v):cj P G o s v:=fun St a w h=>by
 have ⟨info,h5i,h6⟩:=ZG.1 h5
 have ⟨cs,e',hn',hf⟩:=iY h hx
 refine ⟨cs.getD i undef,fun W _=>?_,hv ▸ hf _ hn⟩
 simp only [execOp,ho,e',kZ h hy]
 refine ma ?_
 subst hz
 have:i<cs.size:=by omega
 have h4:iB P e=false:=by unfold iB;rw [h3]
 simp [Instr.index,asIntOf,underlying,h1,hi,part,m9 h3,h4,sizeOf,typeInfo,h5i,h6,this]
def Oj (P:Program) (t:TypeId) (n:Nat):Bool:=match P.underlying t with
 | some (.array k e)=>(match P.underlying e,(P.info? e).map (·.size) with|some (.int .u8),some 1=>Nat.beq k n|_,_=>false)
 | _=>false
theorem Oi {t:TypeId} {n:Nat} (h:Oj P t n=true):∃ e,P.underlying t=some (.array n e)∧P.underlying e=some (.int .u8)∧(P.info? e).map (·.size)=some 1:=by
 unfold Oj at h
 split at h
 ·rename_i q e he
  split at h
  ·rename_i h1 h2;exact ⟨e,by rw [he,acx h],h1,h2⟩
  ·cases h
 ·cases h
theorem Xj (len:Nat) {i n:Nat} {f:Nat→CV} {v:CV} {z:Int} (ho:o.op=.index t x y:=by exact rfl) (hx:s.eval x=.agg n f:=by exact rfl) (hy:s.eval y=.c (.int k z):=by exact rfl) (hv:f i=v:=by first|exact oq rfl|exact sa rfl) (hz:z=(i:Int):=by first|exact rfl|exact xQ O)
  (hi:i<len:=by first|decide|omega|(dsimp only at *;omega)) (hn:i<n:=by first|decide|omega|(dsimp only at *;omega)) (hT:Oj P t len=true:=by kernel_rfl):cj P G o s v:=by
 have ⟨e,h1,h3,h5⟩:=Oi hT
 exact Jz ho hx hy h1 h3 h5 hz hi hn hv
end
theorem Tg:∀ c:Fin 256,IntKind.u8.wrap (BitVec.ofInt (IntKind.bits .u8) ((c.val:Nat):Int) &&& BitVec.ofInt (IntKind.bits .u8) 15).toNat=((c.val % 16:Nat):Int):=by decide +kernel
theorem V0 (c:UInt8):IntKind.u8.wrap (BitVec.ofInt (IntKind.bits .u8) ((c.toNat:Nat):Int) &&& BitVec.ofInt (IntKind.bits .u8) 15).toNat=((c.toNat % 16:Nat):Int):=Tg ⟨c.toNat,c.toNat_lt⟩
theorem WG (n:Nat):((n:Nat):Int).fdiv (2 ^ min (Int.toNat 4) (IntKind.bits .u8))=((n / 16:Nat):Int):=by
 show Int.fdiv _ (16:Int)=_
 rw [aix _ jD]
 omega
theorem lT {b:I} {i:Nat} (h:i<b.length):bJ (b.take (i+1))=bJ (b.take i)++[hx ((b.getD i 0).toNat / 16),hx ((b.getD i 0).toNat % 16)]:=by
 rw [ZH h,Gs]
 simp [List.getD,h]
theorem OH:∀ k:Fin 16,iA.getD k.val 0=hx k.val:=by decide
theorem H6 {k:Nat} (h:k<16):iA.getD k 0=hx k:=OH ⟨k,h⟩
theorem Cf (f:Nat→CV) {n j:Nat} (h:j<n):fl (List.map f (List.range n)) j=f j:=by rw [dK];simp [List.getD,h]
theorem H9 (b:I) (hb:b.length=32):cd gs prog 132 [.agg 32 (aV b)] (ap (bJ b)):=by
 refine ae 22 func132 fun _ _ _ _=>?_;refine eA ?_
 refine aq (ee 32 fun p1=>?_)
 refine U 51 ?_;refine jE (dt 0 (m:=32) (F:=aV b) rfl jD (fun _=>rfl) (fun j hj=>aa.of_eq (Cf _ hj))) ?_;refine U 67516 ?_;refine kj (bD 32) ?_;refine U 2051 ?_;refine jE (mw 3 1 (aV []) rfl) ?_;refine jE (bj 6 (.agg 32 (aV b)) (aa.agg rfl fun j hj=>aa.of_eq (by rw [Nat.zero_add]))) ?_;refine ar (α:=Nat×Option Nat) [3,5,7,8,9,10,11,12,13,14,15,16,17,18,19] (fun (i,g)=>[(7,.c (.int .i64 (i:Nat))),(3,.os 1 g 0 (bJ (b.take i)).length 1)]) (fun (i,g)=>[(p1,.blk 32 (aV b)),(g,.blk (bJ (b.take i)).length (aV (bJ (b.take i))))]) (fun (i,g)=>i≤32) (fun (i,g)=>32-i) ((0,none)) ?_ (fun _=>rfl) ?_ ?_ ?_
 exact ZL _
 exact .cons Z (.cons (cO rfl) .nil)
 exact aD.refl _
 ·rintro ⟨i,g⟩ (hi:i≤32)
  have hbl:=(b.getD i 0).toNat_lt
  have hfl:(bJ (b.take i)).length≤64:=by rw [gt,ZK];omega
  refine U 7526 ?_;refine aaa (fun h124=>?_) fun h124=>?_
  ·refine U 84000200020006000 ?_
   have hil:i=b.length:=by omega
   refine U 16 ?_;refine kj Se ?_;refine U 8000700051 ?_
   rw [hil,ZW];exact Z
  refine U 6207810 ?_;refine jq (Xj 32) ?_;refine U 51 ?_;refine mT 8 (.rd 0 (.rd 1 (.rd 2 (.rd 3 (.rd 4 (.rd 5 (.rd 6 (.one 7 .done)))))))) ?_;refine U 7070 ?_;refine aJ (gP rfl rfl rfl (by omega) ((((b.getD i 0).toNat / 16:Nat):Int)) ((WG _))) ?_;refine aJ (B8 (i:=((b.getD i 0).toNat / 16)) (hz:=by omega) (hS:=by (show _<16;omega))) ?_;refine U 70 ?_;refine aJ (mQ rfl rfl rfl ((((b.getD i 0).toNat % 16:Nat):Int)) ((V0 _))) ?_;refine aJ (B8 (i:=((b.getD i 0).toNat % 16)) (hz:=by omega) (hS:=by (show _<16;omega))) ?_
  refine gp (aM 2 1 da fun p2=>?_)
  refine Az ?_
  show cQ _ _ _ _ _ _
  refine aw (ay (l2:=[hx ((b.getD i 0).toNat / 16),hx ((b.getD i 0).toNat % 16)]) rfl rfl rfl (ZA _) (fun _ _=>Z) (aI rfl (.inl rfl) jD) rfl (bz (.cons (cI ((by rw [← H6 O];rfl))) (.cons (cI ((by rw [← H6 O];rfl))) .nil))) underlying23 dV fR da jt rfl (by (simp;omega)) (cp rfl rfl) rfl rfl (fun p3=>?_))
  refine U 8519200840051 ?_
  refine am ((i+1,p3)) ?_ ?_ (h5:=?_) (h7:=?_)
  show i+1≤32;omega
  show 32-(i+1)<32-i;omega
  exact .cons (cI O) (.cons (cO (by rw [lT O];done)) .nil)
  exact .same (.blk (by rw [lT O];done) (fun j hj=>aa.of_eq (by rw [lT O])) .nil)
theorem Dt (n j:Nat) (hj:j<n) (v u:Value):(List.replicate n v).toArray.getD j u=v:=by simp [hj]
theorem Uc (j:Nat) (hj:j<32):aa (.c ((Value.agg #[.int .u8 0,.int .u8 0,.int .u8 0,.int .u8 0,.int .u8 0,.int .u8 0,.int .u8 0,.int .u8 0,.int .u8 0,.int .u8 0,.int .u8 0,.int .u8 0,.int .u8 0,.int .u8 0,.int .u8 0,.int .u8 0,.int .u8 0,.int .u8 0,.int .u8 0,.int .u8 0,.int .u8 0,.int .u8 0,.int .u8 0,.int .u8 0,.int .u8 0,.int .u8 0,.int .u8 0,.int .u8 0,.int .u8 0,.int .u8 0,.int .u8 0,.int .u8 0]).cells.getD j undef)) (.c (.int .u8 0)):=by
 show aa (.c ((List.replicate 32 (Value.int .u8 0)).toArray.getD j undef)) _
 exact aa.of_eq (ZV CV.c (Dt 32 j hj _ _))
theorem Nf {b:I} (hb:b.length=16) {f:Nat→CV} (hf:∀ j,j<32→aa (f j) (.c (.int .u8 0))) (j:Nat) (hj:j<32):aa (Gz 0 b.length f (aV b) j) (aV (b++List.replicate 16 0) j):=by
 unfold Gz
 by_cases h:j<16
 ·rw [jP,aJx]
  refine aa.of_eq ?_
  unfold aV
  simp [List.getD,ZF (show j<b.length by omega)]
 ·rw [jK]
  have e:aV (b++List.replicate 16 0) j=.c (.int .u8 0):=by
   unfold aV
   rw [ZB,ZR O,aHx]
   split<;>rfl
  rw [e]
  exact hf j hj
theorem OX {b:I} (hb:b.length=16):(bJ (b++List.replicate 16 0)).take 32=bJ b:=by
 have h1:bJ (b++List.replicate 16 0)=bJ b++bJ (List.replicate 16 0):=by unfold bJ;rw [a0x,aSx]
 rw [h1,bKx (by rw [gt];omega),ZY (by rw [gt];omega)]
theorem NH [ib gs] (b:I):cd gs prog 67 [bc b] (.tup 2 (fl [ap (if b.length=16 then bJ b else []),.err (if b.length=16 then 0 else 4)])):=by
 refine ae 15 func67 fun _ _ _ _=>?_;refine U 5231675116 ?_;refine an (fun h115=>?_) fun h115=>?_
 ·refine ia ?_;refine dQ (.rd 0 (.rd 1 (.rd 2 .done))) ?_;refine U 80003000700088070704000000 ?_
  rw [jK,jK];exact cT Z (aa.errN rfl)
 refine U 810 ?_
 have h16:b.length=16:=by omega
 have hfl:(bJ (b++List.replicate 16 0)).length=64:=by rw [gt,ZD,bxx,h16]
 refine eA ?_
 refine aq (dh (n:=32) iQ rfl fun p1=>?_)
 refine U 65 ?_;refine jq (iT rfl rfl (.inl rfl) jD underlying129 fR (bv _ _) (bv _ _) (by omega) (by omega) (by omega) rfl) ?_;refine U 1 ?_
 refine aw (TM (b) (aV (b++List.replicate 16 0)) (fun j hj=>Nf h16 Uc j hj) ?_ (Mf rfl))
 refine U 65 ?_;refine kj (bD 32) ?_
 refine aq (ak (H9 (b++List.replicate 16 0) (by rw [ZD,h16,bxx])) ?_ (ho:=rfl) (he:=(.cons (se rfl (aa.agg rfl fun j hj=>aa.of_eq (by rw [Nat.zero_add]))) .nil)))
 refine jq (rR rfl rfl underlying9 rfl (show (32:Int)=((32:Nat):Int) from rfl) (by omega)) ?_;refine U 80007000511 ?_
 rw [Zz h16,Zz h16,OX h16];exact cT Z (aa.nilE rfl)
section
open Go.RowKit Cal
section
variable {P:Program} {G:Gh} {o:Oper} {s:AS} {t u:TypeId} {x y:Operand} {a b:I}
theorem UM {a b:ByteArray} (ho:o.op=.binOp .leq t x y u) (hx:s.eval x=.c (.string a)) (hy:s.eval y=.c (.string b)):cj P G o s (.c (.bool (Op.bytesLess a.toList b.toList || a.toList == b.toList))) :=
 dH ho hx hy fun W=>by simp [jA,qM,binOp,Op.stringOp]
theorem UN (ho:o.op=.binOp .leq t x y u) (hx:s.eval x=ap a) (hy:s.eval y=ap b):cj P G o s (.c (.bool (Op.bytesLess a b || a == b))):=by
 have:=UM (P:=P) (G:=G) ho hx hy
 rwa [lE,lE] at this
end
theorem Uy (l:I) (hl:l.length≤1000000):cd gs prog 53 [ap l] (.c (.bool (dD l))):=by
 refine ae 11 func53 fun _ _ _ _=>?_;refine U 16516 ?_
 refine aq (ak (Hh l hl) ?_)
 refine U 51165119009001 ?_
 refine jR eN
theorem B0 (a b:I):(Op.bytesLess a b || a == b)=!(Op.bytesLess b a):=by
 have h:=Cc a b
 have hs:=ec a b
 rw [← cOx (Op.bytesLess a b || a == b),h,← qT b a]
 congr 1
 exact decide_eq_decide.2 O
theorem M2 (l:Zx):cd gs prog 54 [ua l] (.c (.bool (tY l))):=by
 refine ae 32 func54 fun _ _ _ _=>?_;refine U 523167516 ?_;refine an (fun h23=>?_) fun h23=>?_
 ·refine U 800030007000516 ?_;refine cB ?_
  unfold tY
  rw [aex O,cex]
 refine U 20513167810 ?_;refine ar (α:=Nat) [2,3,4,10,11,12,13,14,15,16,17,18,19,20,21,22,23,24,25,26,27,28,29,30,31] (fun i=>[(10,.c (.int .i64 (i:Nat)))]) (fun _=>[]) (fun i=>i≤l.length∧jf l i=true) (fun i=>l.length-i) (0) ?_ (fun _=>rfl) ?_ ?_ ?_
 exact ⟨ZL _,rfl⟩
 ·(repeat (first|exact bh.nil|refine bh.cons Z ?_))
 ·(repeat (exact aD.nil))
 ·rintro i ⟨(hi:i≤l.length),hr⟩
  refine U 7526 ?_;refine aaa (fun h26=>?_) fun h26=>?_
  ·refine U 8000700051684000200020006000 ?_;refine cB ?_
   have hil:i=l.length:=by omega
   unfold tY
   rw [← hil,hr,abx O]
   rfl
  refine U 165116070016207810 ?_
  refine aq (ak (ut (l.getD i [])) ?_)
  refine U 130 ?_;refine aH 18 (fun g27=>?_) fun g27=>?_
  ·refine U 80003000500030003000500070005169000510000000044444444444 ?_;refine cB ?_
   have ho:Fe l i=false:=by
    unfold Fe
    (simp_all;done)
   unfold tY
   rw [xl ho O,aDx]
  refine U 121 ?_;refine aH 21 (fun g27_2=>?_) fun g27_2=>?_
  rotate_left
  ·refine U 851920084001030055005004444444 ?_;refine am (i+1) ?_ ?_
   ·refine ⟨by omega,?_⟩
    show (jf l i && Fe l i)=true
    rw [hr,awx]
    unfold Fe
    (simp_all;done)
   show l.length-(i+1)<l.length-i;omega
  refine U 9111 ?_;refine jq (dP (i:=(i-1)) (hz:=by omega)) ?_;refine U 60 ?_;refine jq (UN rfl rfl rfl) ?_;refine U 5500100000000 ?_;refine an (fun h27=>?_) fun h27=>?_
  ·refine U 8000300050003000300050007000516 ?_;refine cB ?_
   have ho:Fe l i=false:=by
    unfold Fe
    (rw [B0] at h27;simp_all;omega)
   unfold tY
   rw [xl ho O,aDx]
  refine U 8519200840010 ?_;refine am (i+1) ?_ ?_
  ·refine ⟨by omega,?_⟩
   show (jf l i && Fe l i)=true
   rw [hr,awx]
   unfold Fe
   (rw [B0] at h27;simp_all;done)
  show l.length-(i+1)<l.length-i;omega
theorem xW (a b:I):Op.bytesLess a b=true↔Op.bytesLess b a=false∧b≠a:=by
 have h1:=B0 a b
 have h2:=B0 a a
 constructor
 ·intro h
  rw [h,cux] at h1
  refine ⟨by simpa using h1.symm,fun e=>?_⟩
  subst e
  rw [h] at h2
  simp at h2
 ·rintro ⟨h3,h4⟩
  rw [h3] at h1
  simp only [cxx,atx,aUx] at h1
  rcases h1 with h|h
  exact h
  exact absurd h.symm h4
theorem Dl {l:Zx}:∀ {i:Nat},(∀ j,j<i→Fe l j=true)→jf l i=true
 | 0,_=>rfl
 | i+1,h=>by
  unfold jf
  rw [Dl (fun j hj=>h j O),h i O]
  rfl
theorem Bb (l:Zx):tY l=po l:=by
 rw [bmx]
 simp only [tY,po,Mj,Ih,ZE,pW,ZJ,bWx,Z1,ne_eq]
 constructor
 ·rintro ⟨h1,h2⟩
  have ho:=uu h2
  have hb:∀ j,j<l.length-1→Op.bytesLess (l.getD j []) (l.getD (j+1) [])=true:=fun j hj=>by
   have:=ho (j+1) O
   unfold Fe at this
   simp only [ZE,atx,ZJ] at this
   rcases this.2 with h|h
   omega
   exact h
  refine ⟨⟨⟨h1,fun j hj=>((xW _ _).1 (hb j hj)).1⟩,fun j hj=>((xW _ _).1 (hb j hj)).2⟩,fun x hx=>?_⟩
  obtain ⟨j,hj,rfl⟩:=bbx hx
  have:=ho j hj
  unfold Fe at this
  rw [ZE] at this
  simpa [List.getD,hj] using this.1
 ·rintro ⟨⟨⟨h1,h2⟩,h3⟩,h4⟩
  refine ⟨h1,Dl fun i hi=>?_⟩
  unfold Fe
  simp only [ZE,atx,ZJ]
  refine ⟨h4 _ (by simp [List.getD,hi]),?_⟩
  by_cases e:i=0
  exact .inl e
  ·obtain ⟨j,rfl⟩:∃ j,i=j+1:=⟨i-1,by omega⟩
   exact .inr ((xW _ _).2 ⟨h2 j O,h3 j O⟩)
def Ia:Fd:=⟨3,1,253402300799⟩
theorem pB:wn Ia:=by unfold wn Ia;decide
structure fG (q:Q5):Prop where
 who:gh mW (CS q.1)
 ky:gh wH (wo (eY q.2.1))
 us:1≤q.2.2.1∧q.2.2.1≤15
 du:gh Ia (yZ q.2.2.2.1)
 n8:q.2.2.2.2.length≤8
 al:∀ t ∈ q.2.2.2.2,az t 64=0
 hk:q.2.1.length=32∧q.2.1.all zi=true
theorem Lk {l:Zx} (h:tY l=true):l.length≤8∧∀ t ∈ l,az t 64=0:=by
 unfold tY at h
 rw [ZE,ZJ] at h
 refine ⟨h.1,fun t ht=>?_⟩
 obtain ⟨j,hj,rfl⟩:=bbx ht
 have ho:=uu h.2 j hj
 unfold Fe at ho
 rw [ZE] at ho
 have hl:kT (l[j])=true:=by simpa [List.getD,hj] using ho.1
 have hl:=uQ hl
 exact mH hl.1 hl.2.1 (by have:=hl.2.2;omega)
theorem mU {q:Q5} (h:cl q=true):fG q:=by
 unfold cl at h
 rw [← Bb] at h
 simp only [ZE,ZJ] at h
 have ⟨⟨⟨⟨⟨⟨⟨hw,h5⟩,hk⟩,u1⟩,u2⟩,d1⟩,d2⟩,ha⟩:=h
 have hk':=AD hk
 have lk:=kG q.2.1
 have ha':=Lk ha
 refine ⟨.inl ⟨rfl,rfl,hw⟩,.inr (.inr (.inl ⟨rfl,rfl,?_,?_⟩)),⟨u1,u2⟩,.inr (.inl ⟨.inl rfl,rfl,d1,d2⟩),ha'.1,ha'.2,hk'⟩
 show (16:Int)≤((eY q.2.1).length:Nat);omega
 show ((eY q.2.1).length:Nat)≤(16:Int);omega
def P4 (us:Int):I:=bB 3 (cn us.toNat)
def GO (l:Zx):I:=(l.map zl).flatten
def TC (q:Q5):I:=bB 48 (GO q.2.2.2.2)++[]
def TD (q:Q5):I:=fV Ia (yZ q.2.2.2.1)++TC q
def Rv (q:Q5):I:=P4 q.2.2.1++TD q
def M4 (q:Q5):I:=fV wH (wo (eY q.2.1))++Rv q
def y9 (q:Q5):I:=fV mW (CS q.1)++M4 q
def dA (q:Q5):I:=bB 48 (y9 q)
theorem sy {us:Int} (hu:1≤us∧us≤15):(cn us.toNat).length≤10:=by
 have e:=nv (m:=us.toNat) O
 have h8:=(qC (i:=us.toNat) O).2.1
 have hb:bl us.toNat=iy us.toNat:=by unfold bl;rw [jK]
 omega
theorem sA {l:Zx} (h8:l.length≤8) (h:∀ t ∈ l,az t 64=0):(GO l).length≤640:=by
 have:=KH h
 unfold GO
 omega
section
variable {q:Q5}
theorem ki (h:fG q):(y9 q).length≤20000∧(dA q).length≤20100:=by
 have a1:=(lm nZ h.who).1
 have a2:=(lm s8 h.ky).1
 have a3:=(lm pB h.du).1
 have a8:=sy h.us
 have a9:=sA h.n8 h.al
 have b1:=eG 3 (cn q.2.2.1.toNat)
 have b2:=eG 48 (GO q.2.2.2.2)
 have b4:=eG 48 (y9 q)
 have hR:(y9 q).length≤20000:=by
  unfold y9 M4 Rv TD TC P4
  simp only [ZD,List.length_nil]
  omega
 refine ⟨hR,?_⟩
 unfold dA
 omega
end
def XZ:W8:=cW 48 Tv
def V7 (q:Q5):W8:=mq mW (CS q.1) XZ
def TB (q:Q5):W8:=mq wH (wo (eY q.2.1)) (V7 q)
def U2 (q:Q5):W8:=mC (Lq q.2.2.1) (TB q)
def Ru (q:Q5):W8:=mq Ia (yZ q.2.2.2.1) (U2 q)
def U1 (q:Q5):W8:=dS (tW (Ru q) q.2.2.2.2 q.2.2.2.2.length)
def U0 (q:Q5):W8:=dS (U1 q)
def Yq:R8:=dm (w1 48) WO
def X0 (q:Q5):R8:=rK mW (CS q.1) Yq
def WU (q:Q5):R8:=rK wH (wo (eY q.2.1)) (X0 q)
def WT (q:Q5):R8:=dm (Lq q.2.2.1) (WU q)
def V9 (q:Q5):R8:=rK Ia (yZ q.2.2.2.1) (WT q)
def WR (q:Q5):R8:=dm w2 (QU (V9 q) q.2.2.2.2 q.2.2.2.2.length)
def WQ (q:Q5):R8:=dm w2 (WR q)
section
variable {q:Q5}
theorem VF {us:Int} (hu:1≤us∧us≤15) {t:Int} {ls:Zx} {fr:List (Int×Zx)} {d:I}:mC (Lq us) ⟨(t,ls)::fr,d,0⟩=⟨(t,ls++[P4 us])::fr,d,0⟩:=by
 rw [Ck (v:=Lq us) (by show (3:Int)≤10∧(10:Int)≤10;decide)]
 have hF:=sy hu
 have e:aF (Lq us)=(3,cn us.toNat,0):=by
  show ((3:Int),k8 us,oR us)=_
  unfold k8 oR
  rw [jK,jK]
 rw [e,rS rfl (show bH 3=true by decide) (by dsimp only;omega),mI]
 rfl
theorem Hl (h:fG q):ip (U0 q)=0∧ry (U0 q)=dA q:=by
 have ⟨l1,l3⟩:=ki h
 have hT:=sA h.n8 h.al
 have e1:V7 q=⟨[(48,[fV mW (CS q.1)])],[],0⟩:=by unfold V7 XZ;rw [show cW 48 Tv=⟨[(48,[])],[],0⟩ from rfl,BO nZ h.who jD];rfl
 have e2:TB q=⟨[(48,[fV mW (CS q.1),fV wH (wo (eY q.2.1))])],[],0⟩:=by unfold TB;rw [e1,BO s8 h.ky jD];rfl
 have e3:U2 q=⟨[(48,[fV mW (CS q.1),fV wH (wo (eY q.2.1)),P4 q.2.2.1])],[],0⟩:=by unfold U2;rw [e2,VF h.us];rfl
 have e4:Ru q=⟨[(48,[fV mW (CS q.1),fV wH (wo (eY q.2.1)),P4 q.2.2.1,fV Ia (yZ q.2.2.2.1)])],[],0⟩:=by unfold Ru;rw [e3,BO pB h.du jD];rfl
 have e5:U1 q=⟨[(48,[fV mW (CS q.1),fV wH (wo (eY q.2.1)),P4 q.2.2.1,fV Ia (yZ q.2.2.2.1),bB 48 (GO q.2.2.2.2)])],[],0⟩:=by
  unfold U1
  rw [e4,L9 h.al jD _ (ZA _),ZW,pT jD jD (by unfold GO at hT;omega),mI]
  rfl
 have e9:U0 q=⟨[],dA q,0⟩:=by
  unfold U0
  have ef:[fV mW (CS q.1),fV wH (wo (eY q.2.1)),P4 q.2.2.1,fV Ia (yZ q.2.2.2.1),bB 48 (GO q.2.2.2.2)].flatten=y9 q:=by
   unfold y9 M4 Rv TD TC
   simp only [arx,bJx]
  rw [e5,pT jD jD (by rw [ef];omega),ef]
  rfl
 have hz:ip (⟨[],dA q,0⟩:W8)=0:=by
  unfold ip
  rw [Zy (by simp),Zy (by simp),Zy (by dsimp only;omega)]
 rw [e9]
 refine ⟨hz,?_⟩
 unfold ry
 rw [Zz hz]
theorem TT {m:Nat} {r:R8} {w:W8} (h:gg m r w):gg (m+1) (dm w2 r) (dS w):=by
 have:=jl h lI
 rw [A0] at this
 exact this
theorem Ot {m:Nat} {r:R8} {w:W8} (h:gg m r w) {l:Zx} (hg:∀ t ∈ l,az t 64=0):∀ i,i≤l.length→gg (m+1+i) (QU r l i) (tW w l i)
 | 0,_=>by
  have:=jl h (fY (t:=48) jD)
  rw [tQ] at this
  exact this
 | i+1,hi=>by
  have e:l.getD i []=l[i]'O:=by simp [List.getD,show i<l.length by omega]
  exact jl (Ot h hg i O) (C5 (by rw [e];exact hg _ (aAx _)))
theorem Ov {m n:Nat} {r:R8} {w:W8} (h:gg m r w) (hn:m≤n):gg n r w:=by
 have ⟨i1,i2,i3,i4⟩:=h
 exact ⟨i1,Z7 i2 O,fun x hx=>⟨Z7 (i3 x hx).1 O,Z7 (i3 x hx).2 O⟩,i4⟩
theorem Gm (h:fG q):gg 15 (X0 q) (V7 q):=uW nZ h.who Ox
theorem Gl (h:fG q):gg 29 (WU q) (TB q):=uW s8 h.ky (Gm h)
theorem Gk (h:fG q):gg 30 (WT q) (U2 q):=jl (Gl h) ⟨by have:=h.us;show _≤q.2.2.1∧q.2.2.1≤_;omega,by simp [Lq],by simp [Lq]⟩
theorem Gj (h:fG q):gg 44 (V9 q) (Ru q):=uW pB h.du (Gk h)
theorem Ca (h:fG q) (i:Nat) (hi:i≤q.2.2.2.2.length):gg (45+i) (QU (V9 q) q.2.2.2.2 i) (tW (Ru q) q.2.2.2.2 i):=Ot (Gj h) h.al i hi
theorem Gi (h:fG q):gg 54 (WR q) (U1 q):=TT (Ov (Ca h _ (ZA _)) (by have:=h.n8;omega))
theorem Gg (h:fG q):gg 55 (WQ q) (U0 q):=TT (Gi h)
theorem MJ (h:fG q):fT (WQ q)=0∧pw (WQ q)=dA q:=by
 have hs:=IZ (Gg h).same
 have hp:=Hl h
 exact ⟨hs.1.trans hp.1,hs.2.trans hp.2⟩
theorem O0 {us:Int} (hu:1≤us∧us≤15):GS 1 ((3:Int),cn us.toNat):=lC jD jD (by have:=sy hu;omega)
theorem LS {l:Zx} (h8:l.length≤8) (h:∀ t ∈ l,az t 64=0):GS 2 ((48:Int),GO l):=by
 have hT:=sA h8 h
 have e:((l.map fun t=>((12:Int),t)).map nG).flatten=GO l:=by
  unfold GO
  rw [a8x]
  rfl
 rw [← e]
 refine np (d:=1) jD jD jD (fun x hx=>?_) (by rw [e];omega)
 obtain ⟨t,ht,rfl⟩:=bBx.1 hx
 have:=ii (h t ht)
 exact lC jD jD O
theorem uv (h:fG q):(aR (dA q)).2=0:=by
 have ⟨l1,l3⟩:=ki h
 have hflat:([Lu mW (CS q.1),Lu wH (wo (eY q.2.1)),(3,cn q.2.2.1.toNat),Lu Ia (yZ q.2.2.2.1),(48,GO q.2.2.2.2)].map nG).flatten=y9 q:=by
  unfold y9 M4 Rv TD TC P4
  simp only [Z6,bqx,arx,bJx]
  rfl
 have hL:GS 5 (48,y9 q):=by
  rw [← hflat]
  refine np (d:=4) jD jD jD (fun x hx=>?_) (by rw [hflat];omega)
  simp only [Z9,ahx,or_false] at hx
  rcases hx with rfl|rfl|rfl|rfl|rfl
  exact ((lm nZ h.who).2.2).mono jD
  exact ((lm s8 h.ky).2.2).mono jD
  exact (O0 h.us).mono jD
  exact ((lm pB h.du).2.2).mono jD
  exact (LS h.n8 h.al).mono jD
 have e:nG (48,y9 q)=dA q:=rfl
 have hd:=Au hL jD (by rw [e];omega)
 rw [e] at hd
 exact hd
end
end
def mB (at_:Nat):Nat:=if at_=0 then 2147483727 else 2147483647
def Xz (l:List Nat) (p:List Nat×Nat):List Nat×Nat:=if p.2≠0 then ([],p.2) else (l++p.1,0)
structure Zv (b:I) (a:Nat) (nums:List Nat):Prop where
 le:a≤b.length
 n0:nums.length≤a
 ne:a≠0→nums≠[]
 bd:∀ n ∈ nums,n≤2147483727
 eq:fN 2147483727 b=Xz nums (fN (mB a) (b.drop a))
section
open Go.RowKit Cal
def vE (kind:Int):VV:=⟨4,kind,false,[],[]⟩
section
variable {kind:Int} {fs:List Fd} {vs:List V4}
end
instance (f:Fd):Decidable (wn f):=by unfold wn;infer_instance
end
section
variable {gs:List Nat} [ib gs]
open Go.RowKit Cal
end
section
variable {gs:List Nat}
theorem X9 (N i:Nat) (hi:i≤5) {b:Int} (hb:b=7 * (i:Int)):(N:Int).fdiv (2 ^ (min b.toNat (IntKind.bits .i64)))=((N / 128 ^ i:Nat):Int):=by
 have e:b.toNat=7 * i:=by omega
 rw [e,show min (7 * i) (IntKind.bits .i64)=7 * i from bdx (by show 7 * i≤64;omega),aix _ (Int.pow_nonneg jD)]
 rw [show (128:Nat) ^ i=2 ^ (7 * i) by rw [Nat.pow_mul]]
 push_cast
 rfl
def oW (N k:Nat):I:=if k=0 then ez N else ik (N / 128 ^ k)
theorem EL (N i:Nat):N / 128 ^ (i+1)=N / 128 ^ i / 128:=by rw [bNx,bOx]
theorem IU {m:Nat} (h:(ik m).length=0):m=0:=by
 by_cases h0:m=0
 exact h0
 ·rw [gj h0] at h;simp at h
def mN (q i:Nat):UInt8:=if i=0 then UInt8.ofNat (q % 128) else UInt8.ofNat (q % 128+128)
theorem Bw {q i:Nat} (h:0<i):(q:Int) % 128+128=((mN q i).toNat:Nat):=by
 rw [mN,jK];exact (Db q).symm
theorem Bv {q i:Nat} (h:i=0):(q:Int) % 128=((mN q i).toNat:Nat):=by
 rw [mN,Zz h];exact (Hc q).symm
theorem M8 {N i q:Nat} {o:I} (hq:N / 128 ^ i=q) (ho:o=oW N (i+1)) (h0:0<i) (h:0<q % 128∨0<o.length):o++[UInt8.ofNat (q % 128+128)]=oW N i:=by
 have e1:oW N (i+1)=ik (q / 128):=by unfold oW;rw [jK,EL,hq]
 have e2:oW N i=ik q:=by unfold oW;rw [jK,hq]
 have hq0:q≠0:=fun e=>by
  rw [e] at h e1
  rw [ho,e1,show (0:Nat) / 128=0 from rfl,fg] at h
  rcases h with h|h
  exact absurd h jD
  exact absurd h jD
 rw [e2,ho,e1,gj hq0]
theorem FL {N q:Nat} {o:I} (hq:N / 128 ^ 0=q) (ho:o=oW N 1):o++[UInt8.ofNat (q % 128)]=oW N 0:=by
 have e0:q=N:=by rw [← hq,Nat.pow_zero,anx]
 rw [ho,e0]
 rfl
theorem U3 {N i q:Nat} {o:I} (hq:N / 128 ^ i=q) (ho:o=oW N (i+1)) (h0:0<i) (h1:¬ 0<q % 128) (h2:¬ 0<o.length):o=oW N i:=by
 have e1:oW N (i+1)=ik (q / 128):=by unfold oW;rw [jK,EL,hq]
 have e2:oW N i=ik q:=by unfold oW;rw [jK,hq]
 have e3:q / 128=0:=IU (by rw [← e1,← ho];omega)
 have e4:q=0:=by omega
 rw [ho,e1,e2,e3,e4]
theorem Rz {N k:Nat} (hN:N<34359738368) (hk:k≤6):(oW N k).length≤5:=by
 unfold oW
 split
 exact ku hN
 ·have h1:N / 128 ^ k≤N:=crx _ _
  exact zN 5 _ O
theorem He (N:Nat) (hN:N<34359738368):AC gs prog 216 [] [.c (.int .i64 (N:Nat))] (ss (ez N).length 1 (ez N).length (aV (ez N))):=by
 refine ae 38 func216 fun _ _ _ _=>?_;refine U 6516 ?_
 refine aq (aM 0 1 da fun p1=>?_)
 refine U 20516751 ?_;refine ar (α:=Nat×I×Option Nat) [3,4,5,7,8,9,10,11,12,13,14,15,16,17,18,19,20,21,22,23,24,25,26,27,28,29,30,31,32,33,34,35,36] (fun (k,o,g)=>[(4,.c (.int .i64 ((k:Int)-1))),(3,.os 0 g 0 o.length 1)]) (fun (k,o,g)=>[(g,.blk o.length (aV o))]) (fun (k,o,g)=>k≤6∧o=oW N k) (fun (k,o,g)=>k) ((6,[],p1)) ?_ (fun _=>rfl) ?_ ?_ ?_
 exact ⟨ZA _,by unfold oW;rw [Zy jD,show N / 128 ^ 6=0 by omega,fg]⟩
 exact .cons Z (.cons Z .nil)
 exact .blk rfl (fun j hj=>absurd hj (ZO j)) .nil
 ·rintro ⟨k,o,g⟩ ⟨(hk:k≤6),(ho:o=_)⟩
  have hol:o.length≤5:=by rw [ho];exact Rz hN hk
  refine U 52167 ?_;refine aaa (fun h65=>?_) fun h65=>?_
  ·refine U 84000200020006000 ?_
   obtain rfl:k=0:=by omega
   obtain rfl:o=ez N:=ho
   refine U 70005116 ?_
   exact nA 0 (.inl rfl) (aK rfl (ai rfl)) rfl rfl (ZA _) (fun _=>rfl) (fun j hj=>Z)
  refine U 207810 ?_
  obtain ⟨i,rfl⟩:∃ i,k=i+1:=⟨k-1,by omega⟩
  obtain ⟨q,hq⟩:∃ q,N / 128 ^ i=q:=⟨_,rfl⟩
  refine U 9116 ?_;refine jq (wg .i64 .u64) ?_;refine jq (gP rfl rfl rfl (by omega) ((q:Int)) (by rw [← hq];exact X9 N i O O)) ?_;refine U 1216511000000 ?_;refine aH 19 (fun g67=>?_) fun g67=>?_
  ·refine U 5216790005100000000441100000000444 ?_;refine aaa (fun h68=>?_) fun h68=>?_
   ·refine U 80000011200810 ?_
    refine aq (aM 1 1 da fun p2=>?_)
    refine aw (ay (l2:=[mN q i]) rfl rfl rfl (ZA _) (fun _ _=>Z) (aI rfl (.inl rfl) jD) rfl (bz (.cons (cI (by exact Bv O)) .nil)) underlying23 dV fR da jt rfl (by (simp;omega)) (cp rfl rfl) rfl rfl (fun p3=>?_))
    refine U 85191200840051 ?_
    refine am ((i,o++[mN q i],p3)) ?_ ?_ (h5:=?_) (h7:=?_)
    exact ⟨by omega,by obtain rfl:i=0:=O;rw [mN,Zz rfl];exact FL hq ho⟩
    show i<i+1;omega
    exact .cons (cI O) (.cons Z .nil)
    exact .same .nil
   refine U 8000001120085191200 ?_
   refine aq (aM 1 1 da fun p2=>?_)
   refine aw (ay (l2:=[mN q i]) rfl rfl rfl (ZA _) (fun _ _=>Z) (aI rfl (.inl rfl) jD) rfl (bz (.cons (cI (by exact Bw O)) .nil)) underlying23 dV fR da jt rfl (by (simp;omega)) (cp rfl rfl) rfl rfl (fun p3=>?_))
   refine U 85191200840051 ?_
   refine am ((i,o++[mN q i],p3)) ?_ ?_ (h5:=?_) (h7:=?_)
   exact ⟨by omega,by (rw [mN,jK];exact M8 hq ho O O)⟩
   show i<i+1;omega
   exact .cons (cI O) (.cons Z .nil)
   exact .same .nil
  refine U 1500231 ?_;refine aH 24 (fun g67_2=>?_) fun g67_2=>?_
  ·refine U 521679000510000000044 ?_;refine aaa (fun h68=>?_) fun h68=>?_
   ·refine U 80000011200810 ?_
    refine aq (aM 1 1 da fun p2=>?_)
    refine aw (ay (l2:=[mN q i]) rfl rfl rfl (ZA _) (fun _ _=>Z) (aI rfl (.inl rfl) jD) rfl (bz (.cons (cI (by exact Bv O)) .nil)) underlying23 dV fR da jt rfl (by (simp;omega)) (cp rfl rfl) rfl rfl (fun p3=>?_))
    refine U 85191200840051 ?_
    refine am ((i,o++[mN q i],p3)) ?_ ?_ (h5:=?_) (h7:=?_)
    exact ⟨by omega,by obtain rfl:i=0:=O;rw [mN,Zz rfl];exact FL hq ho⟩
    show i<i+1;omega
    exact .cons (cI O) (.cons Z .nil)
    exact .same .nil
   refine U 8000001120085191200 ?_
   refine aq (aM 1 1 da fun p2=>?_)
   refine aw (ay (l2:=[mN q i]) rfl rfl rfl (ZA _) (fun _ _=>Z) (aI rfl (.inl rfl) jD) rfl (bz (.cons (cI (by exact Bw O)) .nil)) underlying23 dV fR da jt rfl (by (simp;omega)) (cp rfl rfl) rfl rfl (fun p3=>?_))
   refine U 85191200840051 ?_
   refine am ((i,o++[mN q i],p3)) ?_ ?_ (h5:=?_) (h7:=?_)
   exact ⟨by omega,by (rw [mN,jK];exact M8 hq ho O O)⟩
   show i<i+1;omega
   exact .cons (cI O) (.cons Z .nil)
   exact .same .nil
  refine U 550021 ?_;refine aaa (fun h67=>?_) fun h67=>?_
  ·refine U 85191200840010 ?_
   refine am ((i,o,g)) ?_ ?_ (h5:=?_) (h7:=?_)
   exact ⟨by omega,U3 hq ho O O O⟩
   show i<i+1;omega
   exact .cons (cI O) (.cons Z .nil)
   exact .same .nil
  refine U 52167 ?_;refine aaa (fun h68=>?_) fun h68=>?_
  ·refine U 80000011200810 ?_
   refine aq (aM 1 1 da fun p2=>?_)
   refine aw (ay (l2:=[mN q i]) rfl rfl rfl (ZA _) (fun _ _=>Z) (aI rfl (.inl rfl) jD) rfl (bz (.cons (cI (by exact Bv O)) .nil)) underlying23 dV fR da jt rfl (by (simp;omega)) (cp rfl rfl) rfl rfl (fun p3=>?_))
   refine U 85191200840051 ?_
   refine am ((i,o++[mN q i],p3)) ?_ ?_ (h5:=?_) (h7:=?_)
   exact ⟨by omega,by obtain rfl:i=0:=O;rw [mN,Zz rfl];exact FL hq ho⟩
   show i<i+1;omega
   exact .cons (cI O) (.cons Z .nil)
   exact .same .nil
  refine U 8000001120085191200 ?_
  refine aq (aM 1 1 da fun p2=>?_)
  refine aw (ay (l2:=[mN q i]) rfl rfl rfl (ZA _) (fun _ _=>Z) (aI rfl (.inl rfl) jD) rfl (bz (.cons (cI (by exact Bw O)) .nil)) underlying23 dV fR da jt rfl O (cp rfl rfl) rfl rfl (fun p3=>?_))
  refine U 85191200840051 ?_
  refine am ((i,o++[mN q i],p3)) ?_ ?_ (h5:=?_) (h7:=?_)
  exact ⟨by omega,by (exfalso;omega)⟩
  show i<i+1;omega
  exact .cons (cI O) (.cons Z .nil)
  exact .same .nil
theorem MC (l:List Int) (hr:dz l=true):cd gs prog 180 [CE l] (bc (BP l)):=by
 have ⟨hl2,hl16,hall,ha,hb⟩:=kz hr
 have h0:=hall _ (dZ (l:=l) (k:=0) 0 O)
 have h1:=hall _ (dZ (l:=l) (k:=1) 0 O)
 refine ae 28 func180 fun _ _ _ _=>?_;refine U 7516 ?_;refine dQ (.rd 0 (.rd 1 (.rd 2 (.rd 3 (.rd 4 (.rd 5 (.rd 6 (.rd 7 (.one 8 (.rd 9 .done)))))))))) ?_;refine U 70 ?_;refine aJ (dP (i:=0)) ?_;refine U 703000070000 ?_;refine aJ (dP (i:=1)) ?_;refine U 3000070000 ?_
 refine gp (yd (He (40 * l.getD 0 0+l.getD 1 0).toNat O) (fun p1=>?_) (ho:=rfl) (he:=(.cons (se rfl (cI O)) .nil)))
 refine U 16788070 ?_;refine jq (D7 (hl:=(ci rfl (show (2:Int)=((2:Nat):Int) from rfl))) (hu:=(bv _ _))) ?_;refine U 20513 ?_;refine ar (α:=Nat×I×Option Nat) [3,5,18,19,20,21,22,23,24,25,26] (fun (i,o,g)=>[(3,.os 0 g 0 o.length 1),(18,.c (.int .i64 (i:Nat)))]) (fun (i,o,g)=>[(g,.blk o.length (aV o))]) (fun (i,o,g)=>i≤l.length-2∧o=ez (40 * l.getD 0 0+l.getD 1 0).toNat++(((l.drop 2).take i).map fun n=>ez n.toNat).flatten) (fun (i,o,g)=>l.length-i) ((0,ez (40 * l.getD 0 0+l.getD 1 0).toNat,p1)) ?_ (fun _=>rfl) ?_ ?_ ?_
 exact ⟨ZL _,by simp⟩
 exact .cons Z (.cons Z .nil)
 exact .same .nil
 ·rintro ⟨i,o,g⟩ ⟨(hi:i≤l.length-2),ho⟩
  have hol:o.length≤5+5 * i:=by
   rw [ho,ZD]
   have e1:=ku (n:=(40 * l.getD 0 0+l.getD 1 0).toNat) O
   have e2:=nO (l:=(l.drop 2).take i) (fun n hn=>hall n (cmx (b3x hn)))
   rw [ZK,ZI] at e2
   omega
  refine U 7526 ?_;refine aaa (fun h80=>?_) fun h80=>?_
  ·refine U 511684000200020006000 ?_;refine jE (freeze 0 rfl) ?_;refine jE (er 2 (o) rfl rfl (by rfl) rfl) ?_;refine U 80007000 ?_;refine aa.bs ?_
   rw [ho,ZY (by rw [ZI];omega)]
   rfl
  refine U 51607006207810 ?_
  have h3:=hall _ (dZ (l:=l) (k:=2+i) 0 O)
  have h4:=ku (n:=(l.getD (2+i) 0).toNat) O
  refine U 11200 ?_
  refine aq (yd (He (l.getD (2+i) 0).toNat O) (fun p2=>?_) (ho:=rfl) (he:=(.cons (se rfl (cI O)) .nil)))
  refine aw (ay rfl rfl rfl (ZA _) (fun _ _=>Z) (aI rfl (.inl rfl) O) rfl (fun j hj=>by rw [Nat.zero_add];exact Z) underlying23 dV fR da jt rfl O (fun j hj=>rfl) rfl rfl (fun p3=>?_))
  refine U 8519200840051 ?_
  refine am ((i+1,o++ez (l.getD (2+i) 0).toNat,p3)) ?_ ?_ (h5:=?_) (h7:=?_)
  exact ⟨by omega,by rw [ho,Da (by rw [ZI];omega),Z8]⟩
  show l.length-(i+1)<l.length-i;omega
  exact .cons Z (.cons (cI O) .nil)
  exact .same .nil
end
section
open Go.RowKit Cal
theorem FI (v:VV) (hv:Tl v) (h78:v.kind=7∨v.kind=8):AC gs prog 138 [] [yY v] (Ir v):=by
 have hvt:=hv.t
 refine ae 77 func138 fun _ _ _ _=>?_;refine eA ?_
 refine aq (ee 5 fun p1=>?_)
 refine U 51262055090675111 ?_;refine an (fun h31=>?_) fun h31=>?_
 ·exfalso;omega
 refine U 5126 ?_;refine an (fun h33=>?_) fun h33=>?_
 ·exfalso;omega
 refine U 5126 ?_;refine an (fun h35=>?_) fun h35=>?_
 ·exfalso;omega
 refine U 5126 ?_;refine an (fun h40=>?_) fun h40=>?_
 ·exfalso;omega
 refine U 5126 ?_;refine an (fun h42=>?_) fun h42=>?_
 ·refine ia ?_;refine dQ (.rd 0 (.rd 1 (.rd 3 (.rd 4 (.rd 5 (.rd 6 (.two 2 (.one 7 (.rd 8 (.rd 9 (.rd 10 .done)))) 7 (.rd 8 (.one 2 (.rd 9 (.rd 10 .done))))))))))) ?_;refine aJ (en 4 1 false) ?_;refine qF gy ?_;refine aJ (en 4 1 false) ?_;refine U 10000800000010000 ?_;refine ya ?_ ?_
  ·refine gp (Km ?_)
   refine gp (ak (qq v.t v.n O) ?_)
   refine U 300050007000880707070 ?_
   exact bL (.inl rfl) [] jD rfl (eP rfl bo bo bo) Z (mF (b':=v.t) (by unfold aF;rw [jK,jK,jK,jK,jP]) (fun h=>by rw [Zz h]))
  ·refine gp (ak (qq v.t v.n O) ?_)
   refine U 70 ?_
   refine gp (Km ?_)
   refine U 3000500070008807070 ?_
   exact bL (.inl rfl) [] jD rfl (eP rfl bo bo bo) Z (mF (b':=v.t) (by unfold aF;rw [jK,jK,jK,jK,jP]) (fun h=>by rw [Zz h]))
 refine U 5126 ?_;refine aaa (fun h44=>?_) fun h44=>?_
 ·exfalso;omega
 refine U 5070000006 ?_
 refine aq (ak (Jj v.t O) ?_)
 refine U 521675119009001 ?_;refine an (fun h46=>?_) fun h46=>?_
 ·refine U 3000500030007000511116 ?_
  exact bL (.inl rfl) [] jD rfl (eP rfl bo bo bo) (aa.tup3 Z cN Z) (mF (by unfold aF;rw [jK,jK,jK,jK,jK,jP]) (fun h=>by omega))
 refine U 810 ?_
 have hp0:(bq v.t).2=0:=by omega
 refine U 16 ?_
 refine aq (ak (MC (bq v.t).1 (xE hp0)) ?_)
 refine U 3000500070005111 ?_
 exact bL (.inl rfl) [] jD rfl (eP rfl bo bo bo) Z (mF (e:=0) (by unfold aF;rw [jK,jK,jK,jK,jK,jP,hp0]) (fun h=>by unfold iK;rw [Zz hp0]))
theorem lA (n:Nat) (s:R8) (v:VV) (hs:CB s) (hv:Tl v) (hk:v.kind=1∨v.kind=2∨v.kind=7∨v.kind=8):AC gs prog 68 [sQ n s] [.op 0 (some n) 0,yY v] (fun r H'=>r=.c (.tuple #[])∧H'=[sQ n (dm v s)]):=Du n s v hs hv fun h1 h2 _=>FI v hv O
end
section
variable {gs:List Nat} [dO gs] [rz gs]
open Go.RowKit Cal
theorem Jf {s:S3} {r:R8} (h:r.e≠0):mP s r=r:=by
 unfold mP
 split
 exact xw _ h
 rfl
theorem MG {gs:List Nat} (n:Nat) {i0:Nat} {r:R8} {w:W8} (hI:gg i0 r w) (hi0:i0≤800) (s:S3):AC gs prog 69 [sQ n r] [.op 0 (some n) 0,mj s] (fun x H'=>x=.c (.tuple #[])∧H'=[sQ n (mP s r)]):=by
 have I1:=jl hI (fY (t:=48) jD)
 refine ae 54 func69 fun _ _ _ _=>?_;refine eA ?_
 refine aq (ee 3 fun p1=>?_)
 refine U 5 ?_;refine kN 0 rfl fun gr=>?_;refine i5 (α:=Unit) [6,7,8,9,10,11,12,13,14,15,16,17,18] (fun _=>[]) (fun _=>[(some n,.blk 3 (ph ⟨r.tags,r.rows,if r.e=0∧bC s=false then 9 else r.e⟩ 2 gr)),(p1,.blk 3 (sF s)),(gr,.blk r.rows.length (dL r.rows))]) (fun _=>True) (fun _=>rfl) ?_ ?_
 ·refine U 125010004016 ?_;refine aH 11 (fun g95=>?_) fun g95=>?_
  rotate_left
  ·refine U 8103005500444 ?_
   refine fy (()) ?_ (h5:=?_) (h7:=?_)
   ·trivial
   exact .nil
   ·show aD _ [(some n,.blk 3 (ph ⟨r.tags,r.rows,if r.e=0∧bC s=false then 9 else r.e⟩ 2 gr)),(p1,.blk 3 (sF s)),(gr,.blk r.rows.length (dL r.rows))]
    first
    |(rw [Zz ⟨by omega,by simp_all⟩];exact aD.refl _)
    |(rw [Zy (by rintro ⟨_,h⟩;simp_all)];exact aD.refl _)
    |(rw [jK];exact aD.refl _)
  refine kj (bD 3) ?_
  refine aq (ak (zP s) ?_)
  refine U 510000000030 ?_;refine aaa (fun h95=>?_) fun h95=>?_
  ·refine U 810 ?_
   refine fy (()) ?_ (h5:=?_) (h7:=?_)
   ·trivial
   exact .nil
   ·show aD _ [(some n,.blk 3 (ph ⟨r.tags,r.rows,if r.e=0∧bC s=false then 9 else r.e⟩ 2 gr)),(p1,.blk 3 (sF s)),(gr,.blk r.rows.length (dL r.rows))]
    first
    |(rw [Zz ⟨by omega,by simp_all⟩];exact aD.refl _)
    |(rw [Zy (by rintro ⟨_,h⟩;simp_all)];exact aD.refl _)
    |(rw [jK];exact aD.refl _)
  refine U 1000401200 ?_
  refine aw (bg 1 (ph ⟨r.tags,r.rows,9⟩ 2 gr) ?_ ?_)
  exact sb
  refine U 85 ?_
  refine fy (()) ?_ (h5:=?_) (h7:=?_)
  ·trivial
  exact .nil
  ·show aD _ [(some n,.blk 3 (ph ⟨r.tags,r.rows,if r.e=0∧bC s=false then 9 else r.e⟩ 2 gr)),(p1,.blk 3 (sF s)),(gr,.blk r.rows.length (dL r.rows))]
   first
   |(rw [Zz ⟨by omega,by simp_all⟩];exact aD.refl _)
   |(rw [Zy (by rintro ⟨_,h⟩;simp_all)];exact aD.refl _)
   |(rw [jK];exact aD.refl _)
 ·rintro u _
  obtain ⟨e0,he0⟩:∃ e0,e0=(if r.e=0∧bC s=false then 9 else r.e):=⟨_,rfl⟩
  have hbad:e0≠0→mP s r=⟨r.tags,r.rows,e0⟩:=fun h=>by
   by_cases hc:r.e=0∧bC s=false
   ·rw [Zz hc] at he0
    unfold mP
    rw [Zy (by rw [hc.2];decide),Zz hc.1,he0]
   ·rw [Zy hc] at he0
    rw [Jf O,he0]
  have hgood:e0=0→r.e=0∧bC s=true:=fun h=>by
   by_cases hc:r.e=0∧bC s=false
   ·rw [Zz hc] at he0;omega
   ·rw [Zy hc] at he0
    refine ⟨by omega,?_⟩
    cases hb:bC s with
    | true=>rfl
    | false=>exact absurd ⟨by omega,hb⟩ hc
  rw [← he0]
  refine U 5250100040167 ?_;refine an (fun h98=>?_) fun h98=>?_
  ·refine U 30007000 ?_
   rw [hbad (by have h:((e0:Nat):Int)≠0:=h98;omega)]
   exact bG (.inl rfl) n ⟨r.tags,r.rows,e0⟩ 2 (br rfl) Z rfl rfl rfl (by exact Z) (by exact cO rfl) (by exact Z) (ZA _) (fun _ _=>by exact Z)
  refine U 810 ?_
  obtain ⟨hre,hr⟩:=hgood (by have h:¬ (((e0:Nat):Int)≠0):=h98;omega)
  have ⟨hg1,hg2⟩:=iM hr
  have hG:∀ j,j≤(aQ s).length→∃ w',gg (i0+1+4 * j) (iJ (((aQ s).take j).flatMap pv) (dm (w1 48) r)) w':=fun j hj=>by
   refine ⟨_,tq (wC (((aQ s).take j).flatMap pv) I1 fun v hv=>?_) ?_⟩
   ·have ⟨p,hp,hv⟩:=cLx.1 hv
    have h:=hg1 p (b3x hp)
    exact xe O O v hv
   ·rw [ww,ZK];omega
  have hS:∀ j,j<(aQ s).length→iJ (((aQ s).take (j+1)).flatMap pv) (dm (w1 48) r)=iJ (pv ((aQ s).getD j ([],[]))) (iJ (((aQ s).take j).flatMap pv) (dm (w1 48) r)):=fun j hj=>by
   rw [ZH hj,ctx,xx,ZB,ZM hj]
   simp
  have hE:mP s r=dm w2 (iJ ((aQ s).flatMap pv) (dm (w1 48) r)):=by
   unfold mP
   rw [Zz hr]
   show iJ ((aQ s).flatMap pv++[w2]) (dm (w1 48) r)=_
   rw [xx]
   rfl
  refine jE (qV n r 0 2 rfl rfl rfl Z (cO rfl) (cI O) (ZA _) (fun _ _=>Z)) ?_;refine jE (ce (H':=[sQ n r,(p1,.blk 3 (sF s))]) [0,1] jD rfl) ?_;refine U 16 ?_;refine jq (au (n:=5) rfl mf mr rfl rfl) ?_
  refine aw (aN 0 (lA n r (w1 48) (gE hI O) (fY jD).ok (.inl rfl)) ?_)
  refine U 675 ?_;refine kj (bD 3) ?_
  refine aq (ak (Ji s hr) ?_)
  refine U 20513 ?_;refine ar (α:=Nat) [5,30,31,32,33,34,35,36,37,38,39,40,41,42,43,44,45,46,47,48,49,50] (fun i=>[(30,.c (.int .i64 (i:Nat)))]) (fun i=>[sQ n (iJ (((aQ s).take i).flatMap pv) (dm (w1 48) r)),(p1,.blk 3 (sF s))]) (fun i=>i≤(aQ s).length) (fun i=>(aQ s).length-i) (0) ?_ (fun _=>rfl) ?_ ?_ ?_
  exact ZL _
  exact .cons Z .nil
  exact aD.refl _
  ·rintro i (hi:i≤(aQ s).length)
   refine U 7526 ?_;refine aaa (fun h102=>?_) fun h102=>?_
   ·refine U 84000200020006000 ?_
    have hie:i=(aQ s).length:=by omega
    have ⟨w',J0⟩:=hG i hi
    subst hie
    rw [ZW] at *
    refine U 1200 ?_;refine jq (au (n:=5) rfl mf mr rfl rfl) ?_
    refine aw (aN 0 (lA n _ w2 (gE J0 O) lI.ok (.inr (.inl rfl))) ?_)
    refine U 5 ?_
    rw [hE]
    exact bR (.inr rfl) rfl (br rfl) Z
   refine U 7006207810 ?_;refine jq (pJ 2) ?_
   refine aq (dh (n:=2) eO rfl fun p3=>?_)
   refine aw (bg 2 (im ((aQ s).getD i ([],[]))) ?_ ?_)
   exact sb
   refine U 5 ?_
   have hm:(aQ s).getD i ([],[]) ∈ aQ s:=by
    rw [ZB,ZM O]
    exact aAx _
   obtain ⟨_,hp1,hp2⟩:=hg1 _ hm
   have ⟨w',J0⟩:=hG i hi
   have J1:=jl J0 (fY (t:=48) jD)
   have J2:=jl J1 (sL (t:=((aQ s).getD i ([],[])).1) O)
   have J3:=jl J2 (sM (t:=((aQ s).getD i ([],[])).2) O)
   refine U 16 ?_;refine jq (au (n:=5) rfl mf mr rfl rfl) ?_
   refine aw (aN 0 (lA n _ (w1 48) (gE J0 O) (fY jD).ok (.inl rfl)) ?_)
   refine U 5090165 ?_;refine jq (au (n:=5) rfl mf mr rfl rfl) ?_
   refine aw (aN 0 (lA n _ (v8 ((aQ s).getD i ([],[])).1) (gE J1 O) (sL O).ok (.inr (.inr (.inr rfl)))) ?_)
   refine U 50100165 ?_;refine jq (au (n:=5) rfl mf mr rfl rfl) ?_
   refine aw (aN 0 (lA n _ (v7 ((aQ s).getD i ([],[])).2 64) (gE J2 O) (sM O).ok (.inr (.inr (.inl rfl)))) ?_)
   refine U 12005 ?_;refine jq (au (n:=5) rfl mf mr rfl rfl) ?_
   refine aw (aN 0 (lA n _ w2 (gE J3 O) lI.ok (.inr (.inl rfl))) ?_)
   refine U 851920084005 ?_
   refine am (i+1) ?_ ?_ (h5:=?_) (h7:=?_)
   show i+1≤(aQ s).length;omega
   show (aQ s).length-(i+1)<(aQ s).length-i;omega
   exact .cons (cI O) .nil
   ·rw [hS i O];exact aD.refl _
theorem Sw (l:Zx) (k:Nat) (hl:0<l.length):eB (kV l k).1.1 (kV l k).1.2≤eB l k:=by
 obtain ⟨_,e2,_,e4,e5,_⟩:=f7 (t:=48) (l:=l) (k:=k) hl
 have he:0<(af 48 l k).length:=by
  by_cases h0:(ab 48 l k).k=0
  ·rw [e4 h0];omega
  ·rw [e5 h0];omega
 have hs:=ot (sp:=bQ) (l0:=af 48 l k) (k0:=(ab 48 l k).k) (most:=8) mv he
 have hb:=nL (sp:=bQ) (l0:=af 48 l k) (k0:=(ab 48 l k).k) (most:=8) mv he _ hs.1
 have hE:eB (mc l k).1 (mc l k).2≤eB l k:=by
  unfold mc dj
  dsimp only
  split
  ·obtain ⟨_,f2,_⟩:=lN (l:=(bU bQ (af 48 l k) (ab 48 l k).k (jG bQ (af 48 l k) (ab 48 l k).k 8)).1.1) (k:=3) O
   have h3:eB (bU bQ (af 48 l k) (ab 48 l k).k (jG bQ (af 48 l k) (ab 48 l k).k 8)).1.1 3≤eB (bU bQ (af 48 l k) (ab 48 l k).k (jG bQ (af 48 l k) (ab 48 l k).k 8)).1.1 (bU bQ (af 48 l k) (ab 48 l k).k (jG bQ (af 48 l k) (ab 48 l k).k 8)).1.2:=by
    unfold eB
    rw [Zy jD]
    omega
   dsimp only
   omega
  ·obtain ⟨_,f2,_⟩:=lN (l:=(bU bQ (af 48 l k) (ab 48 l k).k (jG bQ (af 48 l k) (ab 48 l k).k 8)).1.1) (k:=(bU bQ (af 48 l k) (ab 48 l k).k (jG bQ (af 48 l k) (ab 48 l k).k 8)).1.2) O
   dsimp only
   omega
 unfold kV
 split
 exact hE
 ·rename_i h0
  dsimp only
  have h1:(mc l k).2=0:=a3x.1 h0
  refine Z7 ?_ hE
  unfold eB
  rw [Zz h1]
  split<;>omega
theorem tG (f:Fd) (ho:wn f) {l:Zx} {k m B:Nat} (hl:0<l.length∧l.length≤m) (hb:eB l k≤B):(0<(dy f l k).1.1.length∧(dy f l k).1.1.length≤m+17)∧eB (dy f l k).1.1 (dy f l k).1.2≤B:=by
 have h1:=(KN f ho (k:=k) hl.1).1
 refine ⟨by omega,?_⟩
 unfold dy
 split
 exact Z7 (Sw l k hl.1) hb
 exact Z7 (gA (su f) (l:=l) (k:=k) hl.1).2.1 hb
section
variable (n:Nat) (l:Zx) (k:Nat)
theorem QE {gs:List Nat} [dO gs] [rz gs] (f:Fd) (hc:f.call=0) (hl:0<l.length∧l.length≤100000) (hb:eB l k≤100000):AC gs prog 58 [eo n l k] [.op 0 (some n) 0] (fun r H'=>r=mj (dy f l k).2.who∧H'=[eo n (dy f l k).1.1 (dy f l k).1.2]):=by
 have h:=RR (gs:=gs) n l k hl (FX hb)
 have e:dy f l k=((kV l k).1,⟨0,[],[],(kV l k).2⟩):=by unfold dy;rw [Zz hc]
 rw [e]
 exact h
theorem Hm {f:Fd} (hc:f.call≠0):dy f l k=(((ac (su f) l k).l,(ac (su f) l k).k),⟨(ac (su f) l k).v.n,(ac (su f) l k).v.t,(ac (su f) l k).v.b,eD⟩):=by unfold dy;rw [Zy hc]
theorem Hz {gs:List Nat} [ib gs] (least most:Int) (hl:0<l.length∧l.length≤1000000) (hb:(cc l).length≤10000000):AC gs prog 59 [eo n l k] [.op 0 (some n) 0,.c (.int .i64 least),.c (.int .i64 most)] (fun r H'=>r=bc (dy ⟨6,least,most⟩ l k).2.b∧H'=[eo n (dy ⟨6,least,most⟩ l k).1.1 (dy ⟨6,least,most⟩ l k).1.2]):=by
 have h:=DH (gs:=gs) n l k least most hl hb
 rw [Hm l k (show ¬ (6:Int)=0 by decide),sU vB [] rfl (t:=4) (f:=lJ least most) (by show ¬ (6:Int)=1;decide) (by show ¬ (6:Int)=2;decide) (by show ¬ (6:Int)=11;decide) (by funext b;rfl) rfl]
 exact h
theorem Sn {gs:List Nat} [ib gs] (least most:Int) (hl:0<l.length∧l.length≤1000000) (hb:(cc l).length≤10000000):AC gs prog 61 [eo n l k] [.op 0 (some n) 0,.c (.int .i64 least),.c (.int .i64 most)] (fun r H'=>r=.c (.int .i64 (dy ⟨3,least,most⟩ l k).2.n)∧H'=[eo n (dy ⟨3,least,most⟩ l k).1.1 (dy ⟨3,least,most⟩ l k).1.2]):=by
 have h:=Oy (gs:=gs) n l k least most hl hb
 rw [Hm l k (show ¬ (3:Int)=0 by decide),sU vN 0 rfl (t:=2) (f:=fun b=>cq b least most) (by show ¬ (3:Int)=1;decide) (by show ¬ (3:Int)=2;decide) (by show ¬ (3:Int)=11;decide) (by funext b;rfl) rfl]
 exact h
end
end
section
open Go.RowKit Cal
section
variable (n:Nat) (w:W8) (least most:Int) (v:V4)
theorem Ig {kd:Int} (h1:kd≠1) (h2:kd≠2) (h3:kd≠11) (nn:Int) (b t:I) (w:W8):mC ⟨kd,nn,false,b,t⟩ w=fH (aF ⟨kd,nn,false,b,t⟩).1 (aF ⟨kd,nn,false,b,t⟩).2.1 (aF ⟨kd,nn,false,b,t⟩).2.2 w:=by
 unfold mC
 rw [Zy h1,Zy h2,Zy h3]
theorem Hs {f:Fd} (h:f.call≠0):mq f v w=mC (rg f v) w:=by unfold mq;rw [Zy h]
theorem RM [ib gs] (hs:vV w) (hb:v.b.length≤1000000):AC gs prog 42 [iu n w] [.op 0 (some n) 0,bc v.b] (fun r H'=>r=.c (.tuple #[])∧H'=[iu n (mq ⟨6,least,most⟩ v w)]):=by
 have e:mq ⟨6,least,most⟩ v w=fH 4 v.b 0 w:=by rw [Hs _ _ (show ¬ (6:Int)=0 by decide)];exact Ig (kd:=6) jD jD jD _ _ _ _
 rw [e]
 exact xJ n w v.b hb hs
theorem Sl [ib gs] (hs:vV w) (hz:-9223372036854775808≤v.n∧v.n≤9223372036854775807):AC gs prog 44 [iu n w] [.op 0 (some n) 0,.c (.int .i64 v.n)] (fun r H'=>r=.c (.tuple #[])∧H'=[iu n (mq ⟨3,least,most⟩ v w)]):=by
 have e:mq ⟨3,least,most⟩ v w=fH 2 (jz v.n) 0 w:=by rw [Hs _ _ (show ¬ (3:Int)=0 by decide)];exact Ig (kd:=3) jD jD jD _ _ _ _
 rw [e]
 exact Sk n w v.n hz hs
end
end
section
open Go.RowKit Cal
theorem MD [ib gs] {f:FuncId} (hc:bA prog f=true) (n:Nat) (tag:Int) (ws:W8) (l:Zx) (sG:Nat→W8) (h0:vV ws) (hs:sG 0=cW tag ws) (hok:∀ i,i≤l.length→vV (sG i)) (hl:l.length≤1000000) (hf:∀ i,i<l.length→AC gs prog f [iu n (sG i)] [.op 0 (some n) 0,ap (l.getD i [])] (fun r H'=>r=.c (.tuple #[])∧H'=[iu n (sG (i+1))])) :
  AC gs prog 45 [iu n ws] [.op 0 (some n) 0,.c (.int .i64 tag),ua l,.fn f 0 fun _=>.top] (fun r H'=>r=.c (.tuple #[])∧H'=[iu n (dS (sG l.length))]):=by
 refine ae 26 func45 fun _ _ _ _=>?_;refine U 116 ?_
 refine aw (aN 0 (pA n ws tag h0) ?_)
 refine U 205131675 ?_;refine ar (α:=Nat) [9,15,16,17,18,19,20,21,22,23] (fun i=>[(15,.c (.int .i64 (i:Nat)))]) (fun i=>[iu n (sG i)]) (fun i=>i≤l.length) (fun i=>l.length-i) (0) ?_ (fun _=>rfl) ?_ ?_ ?_
 exact ZL _
 exact .cons Z .nil
 ·rw [hs];exact aD.refl _
 ·rintro i (hi:i≤l.length)
  refine U 7526 ?_;refine aaa (fun h305=>?_) fun h305=>?_
  ·refine U 84000200020006000 ?_
   have hie:i=l.length:=by omega
   subst hie
   refine U 1200 ?_
   refine aw (aN 0 (nD n (sG l.length) (hok _ (ZA _))) ?_)
   refine U 5 ?_
   exact bi (.inr rfl) _ [_] [0] jD rfl (br rfl) ⟨rfl,rfl⟩
  refine U 7006207810 ?_
  first|refine kj gy ?_|refine jq kF ?_
  refine U 11120051 ?_
  refine aw (qy (i:=0) rfl rfl (by first|assumption|kernel_rfl) rfl (hf i O) (.cons cP (.cons Z .nil)) rfl rfl ?_)
  rintro _ _ ⟨rfl,rfl⟩
  refine ⟨_,rfl,?_⟩
  refine U 851920084005 ?_
  refine am (i+1) ?_ ?_ (h5:=?_) (h7:=?_)
  show i+1≤l.length;omega
  show l.length-(i+1)<l.length-i;omega
  exact .cons (cI O) .nil
  exact aD.refl _
section
variable {gs:List Nat} [ib gs]
end
section
variable {gs:List Nat} [dO gs] [rz gs]
def PW (gs:List Nat) (f:FuncId) (w:W8) (args:List CV) (w':W8):Prop:=∀ n,AC gs prog f [iu n w] (.op 0 (some n) 0::args) (fun r H'=>r=.c (.tuple #[])∧H'=[iu n w'])
variable {c:t8}
end
theorem vo:oJ iv:=⟨fun l k hl hm=>(gA Ln (l:=l) (k:=k) hl).2.2.1 (gU hm).1 jD,fun l k hl hm _=>(gA Ln (l:=l) (k:=k) hl).2.2.2.2.2.1 jD jD,fun l k hl hm=>by
 have:=(gA Ln (l:=l) (k:=k) hl).2.2.2.2.2.1 jD jD
 show l.length≤(ac Ln l k).l.length∧(ac Ln l k).l.length≤l.length+16
 omega⟩
theorem Q0 [ib gs] {f:FuncId} (hc:bA prog f=true) (n:Nat) (l:Zx) (k:Nat) (tag most:Int) {sp:t7 (I)} (ok:oJ sp) (hl:0<l.length∧l.length≤100000) (hb:cw l≤100000) (hf:∀ l k,0<l.length∧l.length≤200000→cw l≤100000→dq l k=true→AC gs prog f [eo n l k] [.op 0 (some n) 0] (fun r H'=>r=ap (sp l k).2∧H'=[eo n (sp l k).1.1 (sp l k).1.2])) :
  AC gs prog 62 [eo n l k] [.op 0 (some n) 0,.c (.int .i64 tag),.c (.int .i64 most),.fn f 0 fun _=>.top]
   (fun r H'=>r=ua (if (dj sp (af tag l k) (ab tag l k).k most).2=0 then (bU sp (af tag l k) (ab tag l k).k (jG sp (af tag l k) (ab tag l k).k most)).2 else [])∧H'=[eo n (dj sp (af tag l k) (ab tag l k).k most).1 (dj sp (af tag l k) (ab tag l k).k most).2]):=by
 have he:=f7 (t:=tag) (l:=l) (k:=k) hl.1
 have hle:l.length≤(af tag l k).length∧(af tag l k).length≤l.length+1:=by
  by_cases h:(ab tag l k).k=0
  ·have:=he.2.2.2.1 h;omega
  ·have:=he.2.2.2.2.1 h;omega
 have hsm:eB (af tag l k) (ab tag l k).k≤100001:=by
  have h0:eB l k≤100001:=by unfold eB;split<;>omega
  exact Z7 he.2.1 h0
 have hse:cw (af tag l k)≤100000:=by
  have h1:=he.2.1
  have h2:=he.2.2.1
  have h3:=he.1
  by_cases hk:k=0
  ·have h4:=h2 hk
   unfold eB at h4
   rw [Zz hk] at h4
   split at h4<;>omega
  ·rw [(h3 hk).1];exact hb
 have hnl:=wy l
 generalize hl0:af tag l k=l0 at *
 generalize hk0:(ab tag l k).k=k0 at *
 have hso:=fun j=>sI sp l0 k0 j
 have hbd:=nL (sp:=sp) (k0:=k0) (most:=most) ok (show 0<l0.length by omega)
 refine ae 36 func62 fun _ _ _ _=>?_;refine U 116516516 ?_
 refine aw (aN 0 (pQ n l k tag O O) ?_)
 refine U 2075 ?_
 rw [hl0,hk0]
 refine jE (mw 9 1 (gv 1 (fun (t:I) (_:Nat)=>ap t) [] []) rfl) ?_;refine ar (α:=Nat×Option Nat) [9,13,14,15,16,17,18,19,20,21,22,23,24,25,26,27] (fun (j,g)=>[(9,.os 1 g 0 (bU sp l0 k0 j).2.length 1)]) (fun (j,g)=>[eo n (bU sp l0 k0 j).1.1 (bU sp l0 k0 j).1.2,(g,.blk ((bU sp l0 k0 j).2.length * 1) (gv 1 (fun (t:I) (_:Nat)=>ap t) [] (bU sp l0 k0 j).2))]) (fun p=>∀ i,i<p.1→rf sp l0 k0 most i=true) (fun p=>eB (bU sp l0 k0 p.1).1.1 (bU sp l0 k0 p.1).1.2) ((0,none)) ?_ (fun _=>rfl) ?_ ?_ ?_
 exact fun i hi=>absurd hi (ZO i)
 exact .cons (cO rfl) .nil
 exact aD.refl _
 ·rintro ⟨j,g⟩ (hj:∀ i,i<j→rf sp l0 k0 most i=true)
  have ⟨hmj,hlk,hlo,hhi⟩:=hbd j hj
  have hjl:0<(bU sp l0 k0 j).1.1.length∧(bU sp l0 k0 j).1.1.length≤200000:=by omega
  have hjo:=hso j
  have hjm:j≤100001:=by omega
  refine U 167 ?_
  refine aw (aN 0 (HD n (bU sp l0 k0 j).1.1 (bU sp l0 k0 j).1.2 O) ?_)
  refine U 5 ?_;refine aaa (fun h315=>?_) fun h315=>?_
  ·refine U 84000200020006000 ?_
   first
    |(have hmt:dq (bU sp l0 k0 j).1.1 (bU sp l0 k0 j).1.2=true:=by simpa using h315
      have hkz:=(gU hmt).1
      rw [Zz hkz]
      have hstop:jG sp l0 k0 most=j:=ou ok O hj (by unfold rf;rw [hmt,awx,aGx];omega)
      have hE:eo n (bm (bU sp l0 k0 j).1.1 3) (ba (bU sp l0 k0 j).1.1 3)=eo n (dj sp l0 k0 most).1 (dj sp l0 k0 most).2:=by
       unfold dj
       rw [hstop]
       dsimp only
       rw [Zz hmt])
    |(have hmf:dq (bU sp l0 k0 j).1.1 (bU sp l0 k0 j).1.2=false:=by simpa using h315
      have hstop:jG sp l0 k0 most=j:=ou ok O hj (by unfold rf;rw [hmf];rfl)
      have hE:eo n (bm (bU sp l0 k0 j).1.1 (bU sp l0 k0 j).1.2) (ba (bU sp l0 k0 j).1.1 (bU sp l0 k0 j).1.2)=eo n (dj sp l0 k0 most).1 (dj sp l0 k0 most).2:=by
       unfold dj
       rw [hstop]
       dsimp only
       rw [Zy (by rw [hmf];simp)])
   refine U 16 ?_
   refine aw (aN 0 (lO n (bU sp l0 k0 j).1.1 _ O) ?_)
   refine U 75 ?_
   dsimp only
   rw [hE,hstop]
   refine bu 0 rfl fun gl=>?_;refine U 5500000501004016 ?_;refine an (fun h323=>?_) fun h323=>?_
   ·refine jE (cG n (dj sp l0 k0 most).2 (dj sp l0 k0 most).1 0 2 rfl rfl rfl (cO rfl) Z (ZA _) (fun _ _=>Z)) ?_;refine U 30007000516 ?_
    exact bL (.inl rfl) [0] jD rfl (aK rfl (ai rfl)) (m:=ua []) (aa.nilS' rfl) ⟨by rw [jK],rfl⟩
   refine U 810 ?_;refine jE (cG n (dj sp l0 k0 most).2 (dj sp l0 k0 most).1 0 2 rfl rfl rfl (cO rfl) Z (ZA _) (fun _ _=>Z)) ?_;refine U 5116 ?_;refine jE (freeze 1 rfl) ?_;refine jE (iG 8 (fun a b=>(fun (t:I) (_:Nat)=>ap t) ((bU sp l0 k0 j).2.getD a []) b) rfl rfl O (fun a b ha hb=>aa.of_eq (by rw [Nat.zero_add,kh hb]))) ?_;refine U 7000 ?_
   exact bL (.inl rfl) [0] jD rfl (aK rfl (ai rfl)) (m:=ua (bU sp l0 k0 j).2) Z ⟨by rw [jP],rfl⟩
  refine U 521316720810 ?_;refine aaa (fun h316=>?_) fun h316=>?_
  ·refine U 810 ?_
   have hmt0:dq (bU sp l0 k0 j).1.1 (bU sp l0 k0 j).1.2=true:=by simpa using h315
   have hgo:rf sp l0 k0 most j=true:=by unfold rf;rw [hmt0,awx,ZJ];omega
   refine U 111200 ?_
   refine aw (qy (i:=0) rfl rfl (by assumption) rfl (hf (bU sp l0 k0 j).1.1 (bU sp l0 k0 j).1.2 hjl (by have h1:eB (bU sp l0 k0 j).1.1 (bU sp l0 k0 j).1.2=cw (bU sp l0 k0 j).1.1+1:=(by unfold eB;rw [Zz (gU hmt0).1]);omega) hmt0) (.cons cP .nil) rfl rfl ?_)
   rintro _ _ ⟨rfl,rfl⟩
   refine ⟨_,rfl,?_⟩
   refine aq (aM 1 1 CC fun p3=>?_)
   refine aw (aB (gO 1 (fun (t:I) (_:Nat)=>ap t) []) (l2:=[(sp (bU sp l0 k0 j).1.1 (bU sp l0 k0 j).1.2).2]) rfl rfl rfl rfl (by exact ZA _) (fun _ _=>Z) (aI rfl (.inl rfl) jD) rfl (fun j hj=>by rcases j with _|j<;>first|exact Z|(exfalso;simp at hj<;>omega)) underlying27 JX P0 CC Wd rfl (by (simp;omega)) (by (simp;omega)) (bw rfl rfl) rfl rfl rfl (fun p4=>?_))
   refine U 840051 ?_
   refine am ((j+1,p4)) ?_ ?_ (h5:=?_) (h7:=?_)
   exact fun i hi=>if h:i<j then hj i h else (by obtain rfl:i=j:=(by have hi:i<j+1:=hi;omega);exact hgo)
   exact ok.mu _ _ O (by unfold rf at hgo;rw [ZE] at hgo;exact hgo.1)
   exact .cons (cO rfl) .nil
   exact aD.refl _
  refine U 16 ?_;refine jq (cK 2) ?_
  refine aw (aN 0 (va n (bU sp l0 k0 j).1.1 (bU sp l0 k0 j).1.2 3) ?_)
  refine U 84000200080000200060005 ?_
  first
   |(have hmt:dq (bU sp l0 k0 j).1.1 (bU sp l0 k0 j).1.2=true:=by simpa using h315
     have hkz:=(gU hmt).1
     rw [Zz hkz]
     have hstop:jG sp l0 k0 most=j:=ou ok O hj (by unfold rf;rw [hmt,awx,aGx];omega)
     have hE:eo n (bm (bU sp l0 k0 j).1.1 3) (ba (bU sp l0 k0 j).1.1 3)=eo n (dj sp l0 k0 most).1 (dj sp l0 k0 most).2:=by
      unfold dj
      rw [hstop]
      dsimp only
      rw [Zz hmt])
   |(have hmf:dq (bU sp l0 k0 j).1.1 (bU sp l0 k0 j).1.2=false:=by simpa using h315
     have hstop:jG sp l0 k0 most=j:=ou ok O hj (by unfold rf;rw [hmf];rfl)
     have hE:eo n (bm (bU sp l0 k0 j).1.1 (bU sp l0 k0 j).1.2) (ba (bU sp l0 k0 j).1.1 (bU sp l0 k0 j).1.2)=eo n (dj sp l0 k0 most).1 (dj sp l0 k0 most).2:=by
      unfold dj
      rw [hstop]
      dsimp only
      rw [Zy (by rw [hmf];simp)])
  refine U 16 ?_
  refine aw (aN 0 (lO n (bU sp l0 k0 j).1.1 _ O) ?_)
  refine U 75 ?_
  dsimp only
  rw [hE,hstop]
  refine bu 0 rfl fun gl=>?_;refine U 5500000501004016 ?_;refine an (fun h323=>?_) fun h323=>?_
  ·refine jE (cG n (dj sp l0 k0 most).2 (dj sp l0 k0 most).1 0 2 rfl rfl rfl (cO rfl) Z (ZA _) (fun _ _=>Z)) ?_;refine U 30007000516 ?_
   exact bL (.inl rfl) [0] jD rfl (aK rfl (ai rfl)) (m:=ua []) (aa.nilS' rfl) ⟨by rw [jK],rfl⟩
  refine U 810 ?_;refine jE (cG n (dj sp l0 k0 most).2 (dj sp l0 k0 most).1 0 2 rfl rfl rfl (cO rfl) Z (ZA _) (fun _ _=>Z)) ?_;refine U 5116 ?_;refine jE (freeze 1 rfl) ?_;refine jE (iG 8 (fun a b=>(fun (t:I) (_:Nat)=>ap t) ((bU sp l0 k0 j).2.getD a []) b) rfl rfl O (fun a b ha hb=>aa.of_eq (by rw [Nat.zero_add,kh hb]))) ?_;refine U 7000 ?_
  exact bL (.inl rfl) [0] jD rfl (aK rfl (ai rfl)) (m:=ua (bU sp l0 k0 j).2) Z ⟨by rw [jP],rfl⟩
section
variable {gs:List Nat} [ib gs]
end
theorem VG [ib gs] (n:Nat) (l:Zx) (k:Nat) (hl:0<l.length∧l.length≤1000000) (hb:(cc l).length≤10000000):AC gs prog 60 [eo n l k] [.op 0 (some n) 0] (fun r H'=>r=.c (.int .i64 (ac P5 l k).v.n)∧H'=[eo n (ac P5 l k).l (ac P5 l k).k]):=by
 have h:=Gv (gs:=gs) n l k hl hb
 rw [sU vN 0 rfl (t:=3) (f:=fun b=>((((bW b).1:Nat):Int),(bW b).2)) (by show ¬ (10:Int)=1;decide) (by show ¬ (10:Int)=2;decide) (by show ¬ (10:Int)=11;decide) (by funext b;rfl) rfl]
 exact h
section
variable {gs:List Nat} [dO gs] [rz gs] {c:t8}
end
end
section
open Go.RowKit Cal
def wY (l:Zx) (k:Nat):Zx×Nat:=dj iv (af 48 l k) (ab 48 l k).k 8
def Bn (l:Zx) (k:Nat):Zx:=(bU iv (af 48 l k) (ab 48 l k).k (jG iv (af 48 l k) (ab 48 l k).k 8)).2
theorem qD (l:Zx) (k:Nat) (h:0<l.length):0<(bm l k).length∧(bm l k).length≤l.length:=by
 obtain ⟨_,_,f3,f4⟩:=lN (l:=l) (k:=k) h
 by_cases h0:ba l k=0
 ·have:=f3 h0;omega
 ·rw [f4 h0];omega
theorem qO (t:Int) (l:Zx) (k:Nat) (h:0<l.length):0<(af t l k).length∧(af t l k).length≤l.length+1:=by
 obtain ⟨_,_,_,e4,e5,_⟩:=f7 (t:=t) (l:=l) (k:=k) h
 by_cases h0:(ab t l k).k=0
 ·rw [e4 h0];omega
 ·rw [e5 h0];omega
theorem Qv (l:Zx) (k:Nat) (hl:0<l.length):0<(wY l k).1.length∧(wY l k).1.length≤l.length+17:=by
 have he:=qO 48 l k hl
 have hs:=ot (sp:=iv) (l0:=af 48 l k) (k0:=(ab 48 l k).k) (most:=8) vo he.1
 have hb:=nL (sp:=iv) (l0:=af 48 l k) (k0:=(ab 48 l k).k) (most:=8) vo he.1 _ hs.1
 unfold wY dj
 dsimp only
 split
 ·have:=qD (bU iv (af 48 l k) (ab 48 l k).k (jG iv (af 48 l k) (ab 48 l k).k 8)).1.1 3 O
  dsimp only
  omega
 ·have:=qD (bU iv (af 48 l k) (ab 48 l k).k (jG iv (af 48 l k) (ab 48 l k).k 8)).1.1 (bU iv (af 48 l k) (ab 48 l k).k (jG iv (af 48 l k) (ab 48 l k).k 8)).1.2 O
  dsimp only
  omega
theorem Un (l:Zx) (k:Nat) (hl:0<l.length):eB (wY l k).1 (wY l k).2≤eB l k:=by
 have he:=qO 48 l k hl
 have hm:=(f7 (t:=48) (l:=l) (k:=k) hl).2.1
 have hs:=ot (sp:=iv) (l0:=af 48 l k) (k0:=(ab 48 l k).k) (most:=8) vo he.1
 have hb:=nL (sp:=iv) (l0:=af 48 l k) (k0:=(ab 48 l k).k) (most:=8) vo he.1 _ hs.1
 unfold wY dj
 dsimp only
 split
 ·have h3:=(lN (l:=(bU iv (af 48 l k) (ab 48 l k).k (jG iv (af 48 l k) (ab 48 l k).k 8)).1.1) (k:=3) O).2.1
  have h4:eB (bU iv (af 48 l k) (ab 48 l k).k (jG iv (af 48 l k) (ab 48 l k).k 8)).1.1 3≤eB (bU iv (af 48 l k) (ab 48 l k).k (jG iv (af 48 l k) (ab 48 l k).k 8)).1.1 (bU iv (af 48 l k) (ab 48 l k).k (jG iv (af 48 l k) (ab 48 l k).k 8)).1.2:=by
   unfold eB
   rw [Zy jD]
   omega
  dsimp only
  omega
 ·have h3:=(lN (l:=(bU iv (af 48 l k) (ab 48 l k).k (jG iv (af 48 l k) (ab 48 l k).k 8)).1.1) (k:=(bU iv (af 48 l k) (ab 48 l k).k (jG iv (af 48 l k) (ab 48 l k).k 8)).1.2) O).2.1
  dsimp only
  omega
theorem NZ {l:Zx} {k:Nat} (h:ba l k=0):k=0:=by
 refine cdx fun hp=>?_
 unfold ba at h
 rw [jP] at h
 omega
def oQ (b:I):Zx:=af 48 [b] (aR b).2
def ub (b:I):Nat:=(ab 48 [b] (aR b).2).k
def g2 (b:I):=dy mW (oQ b) (ub b)
def g3 (b:I):=dy wH (g2 b).1.1 (g2 b).1.2
def g4 (b:I):=ac P5 (g3 b).1.1 (g3 b).1.2
def g5 (b:I):=dy Ia (g4 b).l (g4 b).k
def g6 (b:I):=wY (g5 b).1.1 (g5 b).1.2
def gK (b:I):Nat:=nB (bm (g6 b).1 (g6 b).2) (ba (g6 b).1 (g6 b).2)
def Ej (b:I):Q5:=((g2 b).2.who,bJ (g3 b).2.b,(g4 b).v.n,(g5 b).2.n,Bn (g5 b).1.1 (g5 b).1.2)
def Dy:Q5:=(eD,[],0,0,[])
def tC (k:Nat) (q:Q5):Q5×Nat:=if k=0 then (if cl q=true then (q,0) else (Dy,4)) else (Dy,k)
def iS (b:I):Q5×Nat:=tC (gK b) (Ej b)
structure Zu (b:I):Prop where
 l1:0<(oQ b).length∧(oQ b).length≤2
 m1:eB (oQ b) (ub b)≤100000
 l2:0<(g2 b).1.1.length∧(g2 b).1.1.length≤19
 m2:eB (g2 b).1.1 (g2 b).1.2≤100000
 l3:0<(g3 b).1.1.length∧(g3 b).1.1.length≤36
 m3:eB (g3 b).1.1 (g3 b).1.2≤100000
 l4:0<(g4 b).l.length∧(g4 b).l.length≤37
 m4:eB (g4 b).l (g4 b).k≤100000
 l5:0<(g5 b).1.1.length∧(g5 b).1.1.length≤54
 m5:eB (g5 b).1.1 (g5 b).1.2≤100000
 l6:0<(g6 b).1.length∧(g6 b).1.length≤71
 m6:eB (g6 b).1 (g6 b).2≤100000
 l7:0<(bm (g6 b).1 (g6 b).2).length∧(bm (g6 b).1 (g6 b).2).length≤71
theorem XO {b:I} (hb:b.length≤90000):Zu b:=by
 have m0:eB [b] (aR b).2≤100000:=by
  have:cw [b]=b.length:=by simp [cw]
  unfold eB
  split<;>omega
 have hl:=qO 48 [b] (aR b).2 (by simp)
 have he:=f7 (t:=48) (l:=[b]) (k:=(aR b).2) (by simp)
 have l1:0<(oQ b).length∧(oQ b).length≤2:=⟨hl.1,by have:=hl.2;simpa [oQ] using this⟩
 have m1:eB (oQ b) (ub b)≤100000:=Z7 he.2.1 m0
 have ⟨l2,m2⟩:=tG mW nZ l1 m1
 have ⟨l3,m3⟩:=tG wH s8 l2 m2
 have ⟨l4,m4⟩:=sT P5 l3 m3 jD
 have ⟨l5,m5⟩:=tG Ia pB l4 m4
 have l6:=Qv (g5 b).1.1 (g5 b).1.2 l5.1
 have l5b:(g5 b).1.1.length≤54:=l5.2
 have l6':0<(g6 b).1.length∧(g6 b).1.length≤71:=⟨l6.1,Z7 l6.2 O⟩
 have l7:=qD (g6 b).1 (g6 b).2 l6'.1
 exact ⟨l1,m1,l2,m2,l3,m3,l4,m4,l5,m5,l6',Z7 (Un (g5 b).1.1 (g5 b).1.2 l5.1) m5,⟨l7.1,Z7 l7.2 l6'.2⟩⟩
theorem XA {b:I} (h:gK b=0):(g6 b).2=0:=NZ (Pf h)
theorem ux {q:Q5} (hr:cl q=true):iS (dA q)=(q,0):=by
 have h:=mU hr
 have hd:=uv h
 obtain ⟨e1,e2,_⟩:=qP [] (t:=48) (b:=y9 q) [] jD (by have:=(ki h).1;omega)
 rw [aMx] at e1 e2
 have s1:oQ (dA q)=[[]]++[y9 q]:=by unfold oQ;rw [hd];exact e1
 have k1:ub (dA q)=0:=by unfold ub;rw [hd];exact e2
 have s2:g2 (dA q)=(([[]]++[M4 q],0),CS q.1):=by unfold g2;rw [s1,k1];exact qL nZ h.who [[]] (M4 q)
 have s3:g3 (dA q)=(([[]]++[Rv q],0),wo (eY q.2.1)):=by unfold g3;rw [s2];exact qL s8 h.ky [[]] (Rv q)
 have hs:saidM P5 (cn q.2.2.1.toNat)=(vN q.2.2.1,0):=by
  have hu:=h.us
  have hm:=F6 (m:=q.2.2.1.toNat) O
  show (vN ((bW (cn q.2.2.1.toNat)).1:Nat),(bW (cn q.2.2.1.toNat)).2)=_
  rw [hm]
  show (vN ((q.2.2.1.toNat:Nat):Int),0)=_
  rw [bGx O]
 have s4:g4 (dA q)=⟨[[]]++[TD q],0,vN q.2.2.1⟩:=by
  unfold g4
  rw [s3]
  have:=pu P5 [[]] (b:=cn q.2.2.1.toNat) (TD q) (by show (3:Int)≤10∧(10:Int)≤10;decide) (by have:=sy h.us;omega) (by rw [hs])
  rw [hs] at this
  exact this
 have s5:g5 (dA q)=(([[]]++[TC q],0),yZ q.2.2.2.1):=by unfold g5;rw [s4];exact qL pB h.du [[]] (TC q)
 obtain ⟨f1,f2⟩:=Hf vo LT (tag:=48) (most:=8) [[]] (xs:=q.2.2.2.2) [] jD h.al (by have:=h.n8;omega) (by have:=sA h.n8 h.al;unfold GO at this;omega)
 have s6:g6 (dA q)=([[]]++[[]],0):=by unfold g6;rw [s5];exact f1
 have s6v:Bn (g5 (dA q)).1.1 (g5 (dA q)).1.2=q.2.2.2.2:=by rw [s5];exact f2
 have lv:=qE (ls:=[[]]) jD
 generalize dA q=B at s2 s3 s4 s5 s6 s6v ⊢
 have s7:gK B=0:=by
  unfold gK
  rw [s6]
  dsimp only
  rw [lv.1,lv.2]
  rfl
 have sq:Ej B=q:=by
  unfold Ej
  rw [s6v,s2,s3,s4,s5]
  show (q.1,bJ (eY q.2.1),q.2.2.1,q.2.2.2.1,q.2.2.2.2)=q
  rw [AO q.2.1 (by rw [h.hk.1]) h.hk.2]
 unfold iS tC
 rw [Zz s7,sq,Zz hr]
theorem MM {b:I} (h:(iS b).2=0):cl (iS b).1=true:=by
 unfold iS tC at h ⊢
 by_cases h1:gK b=0
 ·rw [Zz h1] at h ⊢
  by_cases h2:cl (Ej b)=true
  ·rw [Zz h2];exact h2
  ·rw [Zy h2] at h;dsimp only at h;omega
 ·rw [Zy h1] at h;dsimp only at h;exact absurd h h1
def X2:AA:=⟨11,0,0,0⟩
def XC:Fd:=⟨6,32,32⟩
theorem TG:wn XC:=by unfold wn XC;decide
def vX (b:I):=ac X2 (oQ b) (ub b)
def oU (b:I):=dy XC (vX b).l (vX b).k
def Uh (b:I):Nat:=nB (bm (oU b).1.1 (oU b).1.2) (ba (oU b).1.1 (oU b).1.2)
def zj (k:Nat) (v s:I):I×I×Nat:=if k=0 then (v,s,0) else ([],[],k)
def eF (b:I):I×I×Nat:=zj (Uh b) (vX b).v.b (oU b).2.b
structure Zt (b:I):Prop where
 l1:0<(oQ b).length∧(oQ b).length≤2
 m1:eB (oQ b) (ub b)≤100000
 l2:0<(vX b).l.length∧(vX b).l.length≤19
 m2:eB (vX b).l (vX b).k≤100000
 l3:0<(oU b).1.1.length∧(oU b).1.1.length≤36
 m3:eB (oU b).1.1 (oU b).1.2≤100000
 l4:0<(bm (oU b).1.1 (oU b).1.2).length∧(bm (oU b).1.1 (oU b).1.2).length≤36
theorem XN {b:I} (hb:b.length≤90000):Zt b:=by
 have m0:eB [b] (aR b).2≤100000:=by
  have:cw [b]=b.length:=by simp [cw]
  unfold eB
  split<;>omega
 have hl:=qO 48 [b] (aR b).2 (by simp)
 have he:=f7 (t:=48) (l:=[b]) (k:=(aR b).2) (by simp)
 have l1:0<(oQ b).length∧(oQ b).length≤2:=⟨hl.1,by have:=hl.2;simpa [oQ] using this⟩
 have m1:eB (oQ b) (ub b)≤100000:=Z7 he.2.1 m0
 have ⟨l2,m2⟩:=sT X2 l1 m1 jD
 have l2':0<(vX b).l.length∧(vX b).l.length≤19:=⟨l2.1,Z7 l2.2 O⟩
 have ⟨l3,m3⟩:=tG XC TG l2' m2
 have l4:=qD (oU b).1.1 (oU b).1.2 l3.1
 exact ⟨l1,m1,l2',m2,l3,m3,⟨l4.1,Z7 l4.2 l3.2⟩⟩
theorem sK {l:Zx} (h:0<l.length):∃ ls x,l=ls++[x]:=⟨l.dropLast,l.getLast (aax.1 h),(a5x _).symm⟩
theorem Bm {f:Fd} {v:V4} (h:gh f v):(f.call=0→v=CS v.who)∧(f.call=6→v=wo v.b)∧(f.call=3→v=yZ v.n):=by
 refine ⟨fun hc=>?_,fun hc=>?_,fun hc=>?_⟩
 all_goals
  rcases h with ⟨h1,h2,_⟩|⟨h1,h2,_⟩|⟨h1,h2,_⟩|⟨h1,h2,_⟩|⟨h1,h2,_⟩
  all_goals first|exact h2|(exfalso;omega)
attribute [local irreducible] g2 g3 g4 g5 g6 oQ ub gK ac dy nB bm ba dj af ab kV in
theorem FE {b:I} (hb:b.length≤90000) (h:(iS b).2=0):dA (iS b).1=b:=by
 have B:=XO hb
 have hz:gK b=0∧(iS b).1=Ej b:=by
  unfold iS tC at h ⊢
  by_cases h1:gK b=0
  ·rw [Zz h1] at h ⊢
   by_cases h2:cl (Ej b)=true
   ·rw [Zz h2];exact ⟨h1,rfl⟩
   ·rw [Zy h2] at h;dsimp only at h;omega
  ·rw [Zy h1] at h;dsimp only at h;exact absurd h h1
 have ⟨hk,hq⟩:=hz
 have k6:=XA hk
 have hkk:nB (bm (g6 b).1 (g6 b).2) (ba (g6 b).1 (g6 b).2)=0:=by rw [show gK b=_ by unfold gK;rfl] at hk;exact hk
 have E6:g6 b=wY (g5 b).1.1 (g5 b).1.2:=by unfold g6;rfl
 have E5:g5 b=dy Ia (g4 b).l (g4 b).k:=by unfold g5;rfl
 have E4:g4 b=ac P5 (g3 b).1.1 (g3 b).1.2:=by unfold g4;rfl
 have E3:g3 b=dy wH (g2 b).1.1 (g2 b).1.2:=by unfold g3;rfl
 have E2:g2 b=dy mW (oQ b) (ub b):=by unfold g2;rfl
 have V:Ej b=((g2 b).2.who,bJ (g3 b).2.b,(g4 b).v.n,(g5 b).2.n,Bn (g5 b).1.1 (g5 b).1.2):=by unfold Ej;rfl
 have L1:oQ b=af 48 [b] (aR b).2:=by unfold oQ;rfl
 have K1:ub b=(ab 48 [b] (aR b).2).k:=by unfold ub;rfl
 have l1:=B.l1.1
 have l2:=B.l2.1
 have l3:=B.l3.1
 have l4:=B.l4.1
 have l5:=B.l5.1
 have k5:(g5 b).1.2=0:=by
  have ⟨ls,x,e⟩:=sK l5
  rw [E6,e] at k6
  unfold wY at k6
  exact (xj vo LT ls x jD k6).1
 have k4:(g4 b).k=0:=by
  have ⟨ls,x,e⟩:=sK l4
  rw [E5,e] at k5
  exact (iN pB k5).1
 have k3:(g3 b).1.2=0:=by
  have ⟨ls,x,e⟩:=sK l3
  rw [E4,e] at k4
  exact (lz jD k4).1
 have k2:(g2 b).1.2=0:=by
  have ⟨ls,x,e⟩:=sK l2
  rw [E3,e] at k3
  exact (iN s8 k3).1
 have k1:ub b=0:=by
  have ⟨ls,x,e⟩:=sK l1
  rw [E2,e] at k2
  exact (iN nZ k2).1
 obtain ⟨hk0,body,r,e1,_,e3,_⟩:=so (ls:=[]) (x:=b) (t:=48) (k:=(aR b).2) jD (by rw [K1] at k1;exact k1)
 have s1:oQ b=[r]++[body]:=L1.trans e3
 rw [s1,k1] at E2
 rw [E2] at k2
 have ⟨_,v1,r1,v2,v3,v4⟩:=iN nZ k2
 rw [v4] at E2
 rw [E2] at E3
 dsimp only at E3
 rw [E3] at k3
 have ⟨_,u1,r2,u2,u3,u4⟩:=iN s8 k3
 rw [u4] at E3
 rw [E3] at E4
 dsimp only at E4
 rw [E4] at k4
 obtain ⟨_,fb,r3,f1,_,f3,f4⟩:=lz (a:=P5) jD k4
 rw [f4] at E4
 rw [E4] at E5
 dsimp only at E5
 rw [E5] at k5
 have ⟨_,d1,r4,d2,d3,d4⟩:=iN pB k5
 rw [d4] at E5
 rw [E5] at E6
 dsimp only at E6
 have T:Bn (g5 b).1.1 (g5 b).1.2=Bn ([r]++[r4]) 0:=by rw [E5]
 unfold wY at E6
 rw [E6] at k6
 obtain ⟨_,xs,r5,_,_,_,x4,x5,x6⟩:=xj vo LT [r] r4 jD k6
 rw [x5] at E6
 have T2:Bn ([r]++[r4]) 0=xs:=by unfold Bn;exact x6
 rw [E6] at hkk
 dsimp only at hkk
 obtain ⟨_,y1,_,y3⟩:=rZ (ls:=[r]) (x:=r5) (k:=0) (Pf hkk)
 rw [y3] at hkk
 have y4:=(Pe (l:=[r]) (by simp) hkk).2
 have hr:r=[]:=by simpa using y4
 have w1:=(Bm v2).1 rfl
 have w2:=(Bm u2).2.1 rfl
 have w3:=(Bm d2).2.2 rfl
 have hm:saidM P5 fb=(vN ((bW fb).1:Nat),(bW fb).2):=rfl
 have m1:cn (bW fb).1=fb:=Gu (by rw [hm] at f3;exact f3)
 rw [hq,V,T,T2,E2,E3,E4,E5]
 dsimp only
 rw [hm]
 unfold dA y9 M4 Rv TD TC P4
 dsimp only [vN]
 rw [AF,← w1,← w2,← w3,bXx,m1]
 rw [e1,v3,u3,f1,d3,x4,y1,hr]
 unfold GO
 simp only [aMx]
 rfl
section
variable {gs:List Nat} [dO gs] [rz gs]
end
end
section
open Go.RowKit Cal
theorem JN (v:VV) (hv:Tl v) (hF:v.kind=3∨v.kind=6∨v.kind=7∨v.kind=9∨v.kind=10):AC gs prog 138 [] [yY v] (Ir v):=by
 have hvt:=hv.t
 have hvn:=hv.n
 refine ae 77 func138 fun _ _ _ _=>?_;refine eA ?_
 refine aq (ee 5 fun p1=>?_)
 refine U 51262055090675111 ?_;refine an (fun h31=>?_) fun h31=>?_
 ·refine U 501006 ?_
  refine aq (ak (Jg v.n hv.n.1 hv.n.2) ?_)
  refine U 3000500070005111 ?_
  exact bL (.inl rfl) [] jD rfl (eP rfl bo bo bo) Z (mF (by unfold aF;rw [jP]) (fun _=>rfl))
 refine U 5126 ?_;refine an (fun h33=>?_) fun h33=>?_
 ·exfalso;omega
 refine U 5126 ?_;refine an (fun h35=>?_) fun h35=>?_
 ·exfalso;omega
 refine U 5126 ?_;refine an (fun h40=>?_) fun h40=>?_
 ·refine ia ?_;refine dQ (.rd 0 (.rd 1 (.rd 2 (.rd 3 (.rd 4 .done))))) ?_;refine aJ (en 3 1 false) ?_;refine U 30005000700088070707010000 ?_
  exact bL (.inl rfl) [] jD rfl (eP rfl bo bo bo) Z (mF (by unfold aF;rw [jK,jK,jK,jP]) (fun _=>rfl))
 refine U 5126 ?_;refine an (fun h42=>?_) fun h42=>?_
 ·refine ia ?_;refine dQ (.rd 0 (.rd 1 (.rd 3 (.rd 4 (.rd 5 (.rd 6 (.two 2 (.one 7 (.rd 8 (.rd 9 (.rd 10 .done)))) 7 (.rd 8 (.one 2 (.rd 9 (.rd 10 .done))))))))))) ?_;refine aJ (en 4 1 false) ?_;refine qF gy ?_;refine aJ (en 4 1 false) ?_;refine U 10000800000010000 ?_;refine ya ?_ ?_
  ·refine gp (Km ?_)
   refine gp (ak (qq v.t v.n O) ?_)
   refine U 300050007000880707070 ?_
   exact bL (.inl rfl) [] jD rfl (eP rfl bo bo bo) Z (mF (b':=v.t) (by unfold aF;rw [jK,jK,jK,jK,jP]) (fun h=>by rw [Zz h]))
  ·refine gp (ak (qq v.t v.n O) ?_)
   refine U 70 ?_
   refine gp (Km ?_)
   refine U 3000500070008807070 ?_
   exact bL (.inl rfl) [] jD rfl (eP rfl bo bo bo) Z (mF (b':=v.t) (by unfold aF;rw [jK,jK,jK,jK,jP]) (fun h=>by rw [Zz h]))
 refine U 5126 ?_;refine an (fun h44=>?_) fun h44=>?_
 ·exfalso;omega
 refine U 5126 ?_;refine aaa (fun h50=>?_) fun h50=>?_
 ·refine U 125010067840010 ?_;refine aH 69 (fun g56=>?_) fun g56=>?_
  ·refine U 300070005111690005100000000444 ?_
   exact bL (.inl rfl) [] jD rfl (eP rfl bo bo bo) (aa.tup3 Z cN Z) (mF (e:=1) (by unfold aF;rw [jK,jK,jK,jK,jK,jK,jK];unfold oR;rw [jP]) (fun h=>by cases h))
  refine U 5500250100 ?_;refine an (fun h56=>?_) fun h56=>?_
  ·refine U 3000700051116 ?_
   exact bL (.inl rfl) [] jD rfl (eP rfl bo bo bo) (aa.tup3 Z cN Z) (mF (e:=1) (by unfold aF;rw [jK,jK,jK,jK,jK,jK,jK];unfold oR;rw [jP]) (fun h=>by cases h))
  refine U 501006810 ?_
  refine aq (ak (Jo v.n.toNat O) ?_ (ho:=rfl) (he:=(.cons (se rfl (cI O)) .nil)))
  refine U 70005111 ?_
  exact bL (.inl rfl) [] jD rfl (eP rfl bo bo bo) Z (mF (e:=0) (by unfold aF;rw [jK,jK,jK,jK,jK,jK,jK];unfold oR;rw [jK]) (fun h=>by unfold k8;rw [jK]))
 refine U 125010067 ?_;refine aH 57 (fun g51=>?_) fun g51=>?_
 ·refine U 30005000300070005111690005100000000444 ?_
  exact bL (.inl rfl) [] jD rfl (eP rfl bo bo bo) (aa.tup3 Z cN Z) (mF (e:=1) (by unfold aF;rw [jK,jK,jK,jK,jK,jK,jP];unfold U9;rw [Zy (by unfold yV;omega),Zy (by unfold yV;omega)]) (fun h=>by cases h))
 refine U 5500250100 ?_;refine an (fun h51=>?_) fun h51=>?_
 ·refine U 300050003000700051116 ?_
  exact bL (.inl rfl) [] jD rfl (eP rfl bo bo bo) (aa.tup3 Z cN Z) (mF (e:=1) (by unfold aF;rw [jK,jK,jK,jK,jK,jK,jP];unfold U9;rw [Zy (by unfold yV;omega),Zy (by unfold yV;omega)]) (fun h=>by cases h))
 refine U 810 ?_
 have hin:yV v.n:=⟨by omega,by omega⟩
 refine U 501006 ?_
 refine aq (ak (Q2 v.n hin) ?_)
 refine aq (ak (Jc (BT v.n) (uG hin).1) ?_)
 refine U 3000500070005111 ?_
 exact bL (.inl rfl) [] jD rfl (eP rfl bo bo bo) Z (mF (e:=0) (by unfold aF;rw [jK,jK,jK,jK,jK,jK,jP];unfold U9;rw [Zz hin,Zz hin]) (fun h=>by unfold DG;rw [Zz hin]))
def RW (gs:List Nat) (f:FuncId) (r:R8) (args:List CV) (r':R8):Prop:=∀ n,AC gs prog f [sQ n r] (.op 0 (some n) 0::args) (fun x H'=>x=.c (.tuple #[])∧H'=[sQ n r'])
theorem mo (r:R8) (v:VV) (hs:CB r) (hv:Tl v) (hF:v.kind=1∨v.kind=2∨v.kind=3∨v.kind=6∨v.kind=7∨v.kind=9∨v.kind=10):RW gs 68 r [yY v] (dm v r):=fun n=>Du n r v hs hv fun _ _ _=>JN v hv O
theorem QY (n:Nat) (r:R8) (s:I) (hs:CB r) (h:dD s=true):AC gs prog 70 [sQ n r] [.op 0 (some n) 0,ap s] (fun x H'=>x=.c (.tuple #[])∧H'=[sQ n (rK wH (wo (eY s)) r)]):=by
 have hl:=(AD h).1
 have hx:=kG s
 have hb:=Hh (gs:=gs) s O
 rw [Zz h] at hb
 have hd:=mo (gs:=gs) r ⟨6,0,false,eY s,[]⟩ hs ⟨by show (-9223372036854775808:Int)≤0∧(0:Int)≤9223372036854775807;decide,by show (eY s).length≤_;omega,by simp⟩ (by simp) n
 have e:rK wH (wo (eY s)) r=dm ⟨6,0,false,eY s,[]⟩ r:=rfl
 rw [e]
 refine ae 15 func70 fun _ _ _ _=>?_;refine U 16 ?_
 refine aq (ak hb ?_)
 refine U 112005119009001 ?_;refine jq (au (n:=5) rfl mf mr rfl rfl) ?_
 refine aw (aN 0 hd ?_)
 refine U 5 ?_
 exact bi (.inr rfl) _ [_] [0] jD rfl (br rfl) ⟨rfl,rfl⟩
theorem QX (n:Nat) (r:R8) (l:Zx) (hl:l.length≤1000) (h0:CB r) (hok:∀ i,i≤l.length→CB (QU r l i)) (hg:∀ x ∈ l,az x 64=0):AC gs prog 71 [sQ n r] [.op 0 (some n) 0,ua l] (fun x H'=>x=.c (.tuple #[])∧H'=[sQ n (dm w2 (QU r l l.length))]):=by
 have hv:∀ i,i<l.length→Tl (G3 (l.getD i [])):=fun i hi=>by
  have e:l.getD i []=l[i]:=by simp [List.getD,hi]
  rw [e]
  exact (C5 (hg _ (aAx _))).ok
 refine ae 23 func71 fun _ _ _ _=>?_;refine U 16 ?_;refine jq (au (n:=5) rfl mf mr rfl rfl) ?_
 refine aw (aN 0 (mo r (w1 48) h0 (fY (t:=48) jD).ok (by simp [w1]) n) ?_)
 refine U 205131675 ?_;refine ar (α:=Nat) [5,11,12,13,14,15,16,17,18,19] (fun i=>[(11,.c (.int .i64 (i:Nat)))]) (fun i=>[sQ n (QU r l i)]) (fun i=>i≤l.length) (fun i=>l.length-i) (0) ?_ (fun _=>rfl) ?_ ?_ ?_
 exact ZL _
 exact .cons Z .nil
 exact aD.refl _
 ·rintro i (hi:i≤l.length)
  refine U 7526 ?_;refine aaa (fun h53=>?_) fun h53=>?_
  ·refine U 84000200020006000 ?_
   have hie:i=l.length:=by omega
   subst hie
   refine U 1200 ?_;refine jq (au (n:=5) rfl mf mr rfl rfl) ?_
   refine aw (aN 0 (mo (QU r l l.length) w2 (hok _ (ZA _)) lI.ok (by simp [w2]) n) ?_)
   refine U 5 ?_
   exact bi (.inr rfl) _ [_] [0] jD rfl (br rfl) ⟨rfl,rfl⟩
  refine U 1120051607006207810 ?_;refine jq (au (n:=5) rfl mf mr rfl rfl) ?_
  refine aw (aN 0 (mo (QU r l i) (G3 (l.getD i [])) (hok i O) (hv i O) (by simp [G3]) n) ?_)
  refine U 851920084005 ?_
  refine am (i+1) ?_ ?_ (h5:=?_) (h7:=?_)
  show i+1≤l.length;omega
  show l.length-(i+1)<l.length-i;omega
  exact .cons (cI O) .nil
  exact aD.refl _
section
variable {gs:List Nat} {c:t8}
theorem Yt {kd n:Int} (h:-9223372036854775808≤n∧n≤9223372036854775807):Tl ⟨kd,n,false,[],[]⟩:=⟨h,by simp,by simp⟩
end
end
section
open Go.RowKit Cal
theorem VJ (l:Zx):cd gs prog 55 [ua l,ua l] (.c (.bool true)):=by
 refine fF 0 rfl fun hlen=>?_;refine ae 26 func55 fun _ _ _ _=>?_;refine U 52313167516 ?_;refine an (fun h21=>?_) fun h21=>?_
 ·refine U 516 ?_
  refine jR (l9 (eN (hv:=absurd rfl h21)))
 refine U 20513167810 ?_;refine ar (α:=Nat) [4,5,13,14,15,16,17,18,19,20,21,22,23,24,25] (fun i=>[(13,.c (.int .i64 (i:Nat)))]) (fun _=>[]) (fun i=>i≤l.length) (fun i=>l.length-i) (0) ?_ (fun _=>rfl) ?_ ?_ ?_
 exact ZL _
 ·(repeat (first|exact bh.nil|refine bh.cons Z ?_))
 ·(repeat (exact aD.nil))
 ·rintro i (hi:i≤l.length)
  refine U 7526 ?_;refine aaa (fun h24=>?_) fun h24=>?_
  ·refine U 51684000200020006000 ?_
   refine jR eN
  refine U 75116207810 ?_;refine dQ (.rd 0 (.rd 1 (.rd 2 (.rd 3 (.rd 4 (.rd 5 (.rd 6 (.rd 7 (.rd 8 .done))))))))) ?_;refine U 7000090000707070000900007070 ?_;refine aJ zh ?_;refine U 880 ?_;refine an (fun h25=>?_) fun h25=>?_
  ·refine U 516 ?_
   refine jR (Oh (l9 (l9 (Oh (l9 (eN (hv:=absurd rfl h25)))))))
  refine U 8519200840010 ?_;refine am (i+1) ?_ ?_
  show i+1≤l.length;omega
  omega
section
variable {gs:List Nat} [dO gs] [rz gs]
end
end
end Am
end Go.Proofs.YtghminnpfnkbjaaGreatDoor
