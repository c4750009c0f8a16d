/- What the law leans on, part 14: W19h, W19i, AmO, L19a, L19b, L19f, L19g -/
import Derived.Test.YthlpfjnkieaeeaaGreatDoorM13ObjectsRead

set_option maxRecDepth 100000
namespace Go.Proofs.YthlpfjnkieaeeaaGreatDoor
set_option linter.unusedVariables false
namespace Am
open Go.RowKit
section
open Go.RowKit Cal
theorem jz:∀ (fs:List Fd) (i:Nat) (l:List (List UInt8)) (k:Nat),i<fs.length→am (fs.take (i+1)) l k=((aZ (fs.getD i Fd.z) (am (fs.take i) l k).1.1 (am (fs.take i) l k).1.2).1,(am (fs.take i) l k).2++[(aZ (fs.getD i Fd.z) (am (fs.take i) l k).1.1 (am (fs.take i) l k).1.2).2])
 | f::fs,0,l,k,_=>rfl
 | f::fs,i+1,l,k,h=>by
  have:=jz fs i (aZ f l k).1.1 (aZ f l k).1.2 (by simpa using h)
  show ((am (fs.take (i+1)) _ _).1,_::(am (fs.take (i+1)) _ _).2)=_
  rw [this]
  rfl
 | [],_,_,_,h=>absurd h (Nat.not_lt_zero _)
theorem xM:∀ (fs:List Fd) {l:List (List UInt8)} {k m B:Nat},(∀ f ∈ fs,fD f)→0<l.length∧l.length≤m→ec l k≤B→(0<(am fs l k).1.1.length∧(am fs l k).1.1.length≤m+17 * fs.length)∧ec (am fs l k).1.1 (am fs l k).1.2≤B
 | [],l,k,m,B,_,hl,hb=>⟨hl,hb⟩
 | f::fs,l,k,m,B,ho,hl,hb=>by
  obtain ⟨h1,h2⟩:=cp f (ho f List.mem_cons_self) hl hb
  obtain ⟨h3,h4⟩:=xM fs (fun g hg=>ho g (List.mem_cons_of_mem _ hg)) h1 h2
  refine ⟨⟨h3.1,?_⟩,h4⟩
  have:=h3.2
  rw [List.length_cons]
  show (am fs (aZ f l k).1.1 (aZ f l k).1.2).1.1.length≤_
  omega
theorem PI {f:Fd} (ho:fD f) (h0:f.call≠0):(ld f).kind=3∨(ld f).kind=4∨(ld f).kind=6∨(ld f).kind=7∨(ld f).kind=9:=by
 unfold fD at ho
 show f.call=3∨f.call=4∨f.call=6∨f.call=7∨f.call=9
 omega
theorem Al {f:Fd} (h0:f.call≠0) (l:List (List UInt8)) (k:Nat):aZ f l k=(((aa (ld f) l k).l,(aa (ld f) l k).k),⟨(aa (ld f) l k).v.n,(aa (ld f) l k).v.t,(aa (ld f) l k).v.b,bA⟩):=by unfold aZ;rw [if_neg h0]
theorem w7 {f:Fd} (h0:f.call=0) (l:List (List UInt8)) (k:Nat):aZ f l k=((eS l k).1,⟨0,[],[],(eS l k).2⟩):=by unfold aZ;rw [if_pos h0]
set_option maxHeartbeats 4000000 in
theorem uB {gs:List Nat} (kind:Int) (hk:bL kind) (fs:List Fd) (h8:fs.length≤8) (ho:∀ f ∈ fs,fD f) (hs:(kind=2→6≤fs.length)∧(kind=3→5≤fs.length)) (b:List UInt8) (hb:b.length≤90000):bM gs Tryz.prog 31 [MP kind fs,bu b] (.tup 2 (fl [lJ (if (aR kind fs b).2=0 then (aR kind fs b).1 else []),.c (.int .i64 ((aR kind fs b).2:Nat))])):=by
 have m0:ec [b] (af b).2≤100000:=by
  have:cm [b]=b.length:=by simp [cm]
  unfold ec
  split <;> omega
 obtain ⟨l1,m1⟩:=dP aL (m:=1) ⟨by simp,by simp⟩ m0 jD
 obtain ⟨l2,m2⟩:=dP (aK kind) l1 m1 (by show ¬ (4:Int)=2;decide)
 have n1:=bX m1
 have n2:=bX m2
 have hM1:(aW kind fs b).1=(am fs (aa (aK kind) (aa aL [b] (af b).2).l (aa aL [b] (af b).2).k).l (aa (aK kind) (aa aL [b] (af b).2).l (aa aL [b] (af b).2).k).k).2:=rfl
 have hM2:(aW kind fs b).2=ke (aa aE (am fs (aa (aK kind) (aa aL [b] (af b).2).l (aa aL [b] (af b).2).k).l (aa (aK kind) (aa aL [b] (af b).2).l (aa aL [b] (af b).2).k).k).1.1 (am fs (aa (aK kind) (aa aL [b] (af b).2).l (aa aL [b] (af b).2).k).l (aa (aK kind) (aa aL [b] (af b).2).l (aa aL [b] (af b).2).k).k).1.2).l (aa aE (am fs (aa (aK kind) (aa aL [b] (af b).2).l (aa aL [b] (af b).2).k).l (aa (aK kind) (aa aL [b] (af b).2).l (aa aL [b] (af b).2).k).k).1.1 (am fs (aa (aK kind) (aa aL [b] (af b).2).l (aa aL [b] (af b).2).k).l (aa (aK kind) (aa aL [b] (af b).2).l (aa aL [b] (af b).2).k).k).1.2).k:=rfl
 obtain ⟨L2,hL2⟩:∃ x,x=(aa (aK kind) (aa aL [b] (af b).2).l (aa aL [b] (af b).2).k).l:=⟨_,rfl⟩
 obtain ⟨K2,hK2⟩:∃ x,x=(aa (aK kind) (aa aL [b] (af b).2).l (aa aL [b] (af b).2).k).k:=⟨_,rfl⟩
 rw [← hL2,← hK2] at hM1 hM2
 rw [← hL2,← hK2] at m2
 rw [← hL2] at l2 n2
 have hP:∀ i,i≤fs.length→(0<(am (fs.take i) L2 K2).1.1.length∧(am (fs.take i) L2 K2).1.1.length≤300)∧ec (am (fs.take i) L2 K2).1.1 (am (fs.take i) L2 K2).1.2≤100000∧(am (fs.take i) L2 K2).2.length=i:=fun i hi=>by
  obtain ⟨a1,a2⟩:=xM (fs.take i) (fun f hf=>ho f (List.mem_of_mem_take hf)) l2 m2
  have a3:=eG (fs.take i) L2 K2
  rw [List.length_take,Nat.min_eq_left hi] at a1 a3
  exact ⟨by omega,a2,a3⟩
 refine ai 78 Tryz.func31 fun al w0 F0 St0=>?_;refine cy ?_
 refine ak (cE 2 fun p1=>?_)
 refine jU 16511 ?_
 refine ak (su (B5 b jO) ?_)
 rintro _ _ ⟨n,rfl,rfl⟩
 refine jU 651 ?_
 refine ak (aU 0 6 dq fun p2=>?_)
 refine jU 1651 ?_;refine jq (ae (n:=4) rfl nI oa rfl rfl) ?_
 refine ar (aJ 1 (nZ n [b] (af b).2 aL (by simp) (by show b.length≤_;omega) (fun h=>absurd rfl h)) ?_ (ho:=rfl) (he:=(.cons (se rfl cP) (.cons (se rfl (ab.agg rfl (fun j hj=>by rcases j with _|_|_|_|j <;> exact cZ))) .nil))))
 refine jU 50905090165 ?_;refine jq (ae (n:=4) rfl nI oa rfl rfl) ?_
 refine ar (aJ 1 ((by have h:=nZ (gs:=gs) n (aa aL [b] (af b).2).l (aa aL [b] (af b).2).k (aK kind) jO jO (fun _ _ _ b' hb'=>wU (aK kind) b' (.inr (.inl rfl)) hb');rw [← hL2,← hK2] at h;exact h)) ?_ (ho:=rfl) (he:=(.cons (se rfl cP) (.cons (se rfl (ab.agg rfl (fun j hj=>by rcases j with _|_|_|_|j <;> exact cZ))) .nil))))
 refine jU 2051350100675 ?_;refine aF (α:=Nat×Option Nat) [7,9,10,28,29,30,31,32,33,34,35,36,37,38,39,40,41,42,43,44,45,46,47,48,49,50,51,52,53,54,55,56,57,58,59,60] (fun (i,g)=>[(28,.c (.int .i64 (i:Nat))),(7,.os 2 g 0 (am (fs.take i) L2 K2).2.length 6)]) (fun (i,g)=>[(p1,.blk 2 (B6 kind fs)),zu n (am (fs.take i) L2 K2).1.1 (am (fs.take i) L2 K2).1.2,(g,.blk ((am (fs.take i) L2 K2).2.length * 6) (eK 6 yh V4.z (am (fs.take i) L2 K2).2))]) (fun p=>p.1≤fs.length) (fun p=>fs.length-p.1) ((0,p2)) ?_ (fun _=>rfl) ?_ ?_ ?_
 ·exact Nat.zero_le _
 ·exact .cons cZ (.cons (cO rfl) .nil)
 ·exact .blk rfl (fun j hj=>by rcases j with _|_|j <;> exact cZ) (.same (.blk rfl (fun j hj=>absurd hj (Nat.not_lt_zero j)) .nil))
 ·rintro ⟨i,g⟩ (hi:i≤fs.length)
  obtain ⟨q1,q2,q3⟩:=hP i hi
  have q4:=bX q2
  have q5:=CD q2
  refine jU 7526 ?_;refine aq (fun h106=>?_) fun h106=>?_
  ·refine jU 7006207810 ?_;refine jq (gq 3) ?_
   refine ak (bD (n:=3) en rfl fun p5=>?_)
   refine ar (bh 3 (Me (fs.getD i Fd.z)) ?_ ?_)
   ·exact (fun j hj=>by rcases j with _|_|_|j <;> first|exact cZ|omega)
   refine jU 525090675 ?_;refine aq (fun h107=>?_) fun h107=>?_
   ·have of:=Cs ho (i:=i) jO
    refine jU 116 ?_
    refine ar (aJ 1 (Hm n (am (fs.take i) L2 K2).1.1 (am (fs.take i) L2 K2).1.2 jO jO) ?_)
    refine jq (ae (n:=6) rfl dq fV rfl rfl) ?_
    refine ak (aU 6 6 dq fun p7=>?_)
    refine ar (av (ge 6 yh V4.z) (l2:=[⟨0,[],[],(eS (am (fs.take i) L2 K2).1.1 (am (fs.take i) L2 K2).1.2).2⟩]) rfl rfl rfl rfl (by exact Nat.le_refl _) (fun _ _=>cZ) (aY rfl (.inl rfl) jD) rfl (fun j hj=>by rcases j with _|_|_|_|_|_|j <;> first|exact cZ|exact cN|(exfalso;simp at hj <;> omega)) Tryz.underlying45 Pk Dr dq Ei rfl (by (simp;omega)) (by (simp;omega)) (bi rfl rfl) rfl rfl rfl (fun p8=>?_))
    refine jU 8519200840002000600051 ?_
    refine aw ((i+1,p8)) ?_ ?_ (h5:=?_) (h7:=?_)
    ·show i+1≤fs.length;omega
    ·show fs.length-(i+1)<fs.length-i;omega
    ·exact .cons (cI jO) (.cons (cO (by rw [jz fs i L2 K2 jO];simp only [List.length_append,List.length_cons,List.length_nil])) .nil)
    ·show aS _ [(p1,.blk 2 (B6 kind fs)),zu n (am (fs.take (i+1)) L2 K2).1.1 (am (fs.take (i+1)) L2 K2).1.2,(_,.blk ((am (fs.take (i+1)) L2 K2).2.length * 6) (eK 6 yh V4.z (am (fs.take (i+1)) L2 K2).2))]
     rw [jz fs i L2 K2 jO]
     first
     |(rw [w7 jO];exact aS.refl _)
     |(rw [Al jO];exact aS.refl _)
   refine jU 810 ?_
   have of:=Cs ho (i:=i) jO
   refine jU 50100050100509016 ?_;refine jq (ae (n:=4) rfl nI oa rfl rfl) ?_
   refine ar (aJ 1 (nZ n (am (fs.take i) L2 K2).1.1 (am (fs.take i) L2 K2).1.2 (ld (fs.getD i Fd.z)) jO jO (fun _ _ _ b' hb'=>wU (ld (fs.getD i Fd.z)) b' (PI of jO) hb')) ?_ (ho:=rfl) (he:=(.cons (se rfl cP) (.cons (se rfl (ab.agg rfl (fun j hj=>by rcases j with _|_|_|_|j <;> exact cZ))) .nil))))
   refine ak (bD (n:=5) cK rfl fun p7=>?_)
   refine ar (bh 5 (P9 (aa (ld (fs.getD i Fd.z)) (am (fs.take i) L2 K2).1.1 (am (fs.take i) L2 K2).1.2).v) ?_ ?_)
   ·exact (fun j hj=>by rcases j with _|_|_|_|_|j <;> first|exact cZ|omega)
   refine jU 5050000005070000005010012005 ?_;refine jq (ae (n:=6) rfl dq fV rfl rfl) ?_
   refine ak (aU 6 6 dq fun p8=>?_)
   refine ar (av (ge 6 yh V4.z) (l2:=[⟨(aa (ld (fs.getD i Fd.z)) (am (fs.take i) L2 K2).1.1 (am (fs.take i) L2 K2).1.2).v.n,(aa (ld (fs.getD i Fd.z)) (am (fs.take i) L2 K2).1.1 (am (fs.take i) L2 K2).1.2).v.t,(aa (ld (fs.getD i Fd.z)) (am (fs.take i) L2 K2).1.1 (am (fs.take i) L2 K2).1.2).v.b,bA⟩]) rfl rfl rfl rfl (by exact Nat.le_refl _) (fun _ _=>cZ) (aY rfl (.inl rfl) jD) rfl (fun j hj=>by rcases j with _|_|_|_|_|_|j <;> first|exact cZ|(exfalso;simp at hj <;> omega)) Tryz.underlying45 Pk Dr dq Ei rfl (by (simp;omega)) (by (simp;omega)) (bi rfl rfl) rfl rfl rfl (fun p9=>?_))
   refine jU 8519200840051 ?_
   refine aw ((i+1,p9)) ?_ ?_ (h5:=?_) (h7:=?_)
   ·show i+1≤fs.length;omega
   ·show fs.length-(i+1)<fs.length-i;omega
   ·exact .cons (cI jO) (.cons (cO (by rw [jz fs i L2 K2 jO];simp only [List.length_append,List.length_cons,List.length_nil])) .nil)
   ·show aS _ [(p1,.blk 2 (B6 kind fs)),zu n (am (fs.take (i+1)) L2 K2).1.1 (am (fs.take (i+1)) L2 K2).1.2,(_,.blk ((am (fs.take (i+1)) L2 K2).2.length * 6) (eK 6 yh V4.z (am (fs.take (i+1)) L2 K2).2))]
    rw [jz fs i L2 K2 jO]
    first
    |(rw [w7 jO];exact aS.refl _)
    |(rw [Al jO];exact aS.refl _)
  refine jU 84000200020006000 ?_
  have hie:i=fs.length:=by omega
  subst hie
  dsimp only
  rw [List.take_length] at *
  generalize hx:am fs L2 K2=x at *
  refine jU 16 ?_;refine jq (ae (n:=4) rfl nI oa rfl rfl) ?_
  refine ar (aJ 1 (nZ n x.1.1 x.1.2 aE jO jO (fun _ h=>absurd rfl h)) ?_ (ho:=rfl) (he:=(.cons (se rfl cP) (.cons (se rfl (ab.agg rfl (fun j hj=>by rcases j with _|_|_|_|j <;> exact cZ))) .nil))))
  refine jU 5 ?_
  obtain ⟨f3,f4⟩:=dK aE rfl x.1.1 x.1.2
  have l4:0<(aa aE x.1.1 x.1.2).l.length∧(aa aE x.1.1 x.1.2).l.length≤1000:=by
   rw [f3]
   obtain ⟨_,_,v3,v4⟩:=gI (l:=x.1.1) (k:=x.1.2) q1.1
   by_cases h0:bc x.1.1 x.1.2=0
   ·have:=v3 h0;omega
   ·rw [v4 h0];omega
  refine jU 16 ?_
  refine ar (aJ 1 (EZ n (aa aE x.1.1 x.1.2).l (aa aE x.1.1 x.1.2).k jO) ?_)
  refine jU 751 ?_;refine jE (freeze 2 rfl) ?_;refine jE (eP 7 (fun a c=>yh (x.2.getD a V4.z) c) rfl rfl jO (fun a c ha hc=>ab.of_eq (by rw [Nat.zero_add,gL hc]))) ?_;refine jU 1216 ?_;refine ay 68 (fun g116=>?_) fun g116=>?_
  rotate_left
  ·refine jU 5216781030055004444 ?_;refine aq (fun h119=>?_) fun h119=>?_
   rotate_left
   ·refine jU 8000700051116810 ?_
    have hE:aR kind fs b=(x.2,0):=by
     unfold aR
     rw [jK,hM1,if_neg (by simp_all)]
    rw [hE]
    exact cT (ab.rsL (by rw [if_pos rfl]) (by rw [if_pos rfl])) cZ
   refine jU 80003000700051116 ?_
   have hE:(aR kind fs b).2≠0∧(aR kind fs b).2=(if (aW kind fs b).2≠0 then (aW kind fs b).2 else 4):=by
    unfold aR
    split
    ·exact ⟨by assumption,rfl⟩
    ·rename_i h0
     have h0':(aW kind fs b).2=0:=Classical.not_not.1 h0
     split
     ·exact ⟨show (4:Nat)≠0 by decide,rfl⟩
     ·rename_i h1
      exfalso
      rw [hM1] at h1
      simp_all
   rw [if_neg hE.1,hE.2]
   exact cT (ab.nilS' rfl) (cI (by (rw [jP];omega)))
  refine eL (aV 2) ?_;refine jU 1 ?_
  refine ak (ap (Ab kind fs x.2 h8 jO hs) ?_ (ho:=rfl) (he:=(.cons (se rfl (ab.agg rfl (fun j hj=>by rcases j with _|_|j <;> exact cZ))) (.cons (se rfl (ab.rsL jO rfl)) .nil))))
  refine jU 510000000030 ?_;refine aq (fun h116=>?_) fun h116=>?_
  rotate_left
  ·refine jU 52167810 ?_;refine aq (fun h119=>?_) fun h119=>?_
   rotate_left
   ·refine jU 8000700051116810 ?_
    have hE:aR kind fs b=(x.2,0):=by
     unfold aR
     rw [jK,hM1,if_neg (by simp_all)]
    rw [hE]
    exact cT (ab.rsL (by rw [if_pos rfl]) (by rw [if_pos rfl])) cZ
   refine jU 80003000700051116 ?_
   have hE:(aR kind fs b).2≠0∧(aR kind fs b).2=(if (aW kind fs b).2≠0 then (aW kind fs b).2 else 4):=by
    unfold aR
    split
    ·exact ⟨by assumption,rfl⟩
    ·rename_i h0
     have h0':(aW kind fs b).2=0:=Classical.not_not.1 h0
     split
     ·exact ⟨show (4:Nat)≠0 by decide,rfl⟩
     ·rename_i h1
      exfalso
      rw [hM1] at h1
      simp_all
   rw [if_neg hE.1,hE.2]
   exact cT (ab.nilS' rfl) (cI (by (rw [jP];omega)))
  refine jU 52167851200 ?_;refine aq (fun h119=>?_) fun h119=>?_
  rotate_left
  ·refine jU 8000700051116810 ?_
   have hE:aR kind fs b=(x.2,0):=by
    unfold aR
    rw [jK,hM1,if_neg (by simp_all)]
   rw [hE]
   exact cT (ab.rsL (by rw [if_pos rfl]) (by rw [if_pos rfl])) cZ
  refine jU 80003000700051116 ?_
  have hE:(aR kind fs b).2≠0∧(aR kind fs b).2=(if (aW kind fs b).2≠0 then (aW kind fs b).2 else 4):=by
   unfold aR
   split
   ·exact ⟨by assumption,rfl⟩
   ·rename_i h0
    have h0':(aW kind fs b).2=0:=Classical.not_not.1 h0
    split
    ·exact ⟨show (4:Nat)≠0 by decide,rfl⟩
    ·rename_i h1
     exfalso
     rw [hM1] at h1
     simp_all
  rw [if_neg hE.1,hE.2]
  exact cT (ab.nilS' rfl) (cI (by (rw [jK];omega)))
end
section
open Go.RowKit Cal
def gh:List (Int×List Fd):=[(2,aM),(3,bU),(4,cg),(7,co),(6,dN)]
structure Kd (p:Int×List Fd):Prop where
 kind:bL p.1
 len:p.2.length≤8
 ok:∀ f ∈ p.2,fD f
 spec:(p.1=2→6≤p.2.length)∧(p.1=3→5≤p.2.length)
theorem oW:∀ p ∈ gh,Kd p:=by
 intro p hp
 simp only [gh,List.mem_cons,List.not_mem_nil,or_false] at hp
 rcases hp with rfl|rfl|rfl|rfl|rfl
 ·exact ⟨by unfold bL;decide,by decide,dJ,by decide⟩
 ·exact ⟨by unfold bL;decide,by decide,ix,by decide⟩
 ·exact ⟨by unfold bL;decide,by decide,lu,by decide⟩
 ·exact ⟨by unfold bL;decide,by decide,mK,by decide⟩
 ·exact ⟨by unfold bL;decide,by decide,r9,by decide⟩
theorem DG {i:Nat} (h:i<5):Kd (gh.getD i (0,[])):=by
 rw [List.getD_eq_getElem?_getD,List.getElem?_eq_getElem (by exact h)]
 exact oW _ (List.getElem_mem _)
theorem CL {b:List UInt8} {i:Nat} (hi:i<5) (h1:∀ j,j<i→(aR (gh.getD j (0,[])).1 (gh.getD j (0,[])).2 b).2≠0) (h2:(aR (gh.getD i (0,[])).1 (gh.getD i (0,[])).2 b).2=0):nr b=(gh.getD i (0,[])).1:=by
 have g0:=h1 0
 have g1:=h1 1
 have g2:=h1 2
 have g3:=h1 3
 clear h1
 unfold nr
 rcases i with _|_|_|_|_|i
 ·have h2:(aR 2 aM b).2=0:=h2
  rw [if_pos h2];rfl
 ·have h2:(aR 3 bU b).2=0:=h2
  have k0:(aR 2 aM b).2≠0:=g0 jO
  rw [if_neg k0,if_pos h2];rfl
 ·have h2:(aR 4 cg b).2=0:=h2
  have k0:(aR 2 aM b).2≠0:=g0 jO
  have k1:(aR 3 bU b).2≠0:=g1 jO
  rw [if_neg k0,if_neg k1,if_pos h2];rfl
 ·have h2:(aR 7 co b).2=0:=h2
  have k0:(aR 2 aM b).2≠0:=g0 jO
  have k1:(aR 3 bU b).2≠0:=g1 jO
  have k2:(aR 4 cg b).2≠0:=g2 jO
  rw [if_neg k0,if_neg k1,if_neg k2,if_pos h2];rfl
 ·have h2:(aR 6 dN b).2=0:=h2
  have k0:(aR 2 aM b).2≠0:=g0 jO
  have k1:(aR 3 bU b).2≠0:=g1 jO
  have k2:(aR 4 cg b).2≠0:=g2 jO
  have k3:(aR 7 co b).2≠0:=g3 jO
  rw [if_neg k0,if_neg k1,if_neg k2,if_neg k3,if_pos h2];rfl
 ·omega
theorem FL {b:List UInt8} (h1:∀ j,j<5→(aR (gh.getD j (0,[])).1 (gh.getD j (0,[])).2 b).2≠0):nr b=0:=by
 have k0:(aR 2 aM b).2≠0:=h1 0 jO
 have k1:(aR 3 bU b).2≠0:=h1 1 jO
 have k2:(aR 4 cg b).2≠0:=h1 2 jO
 have k3:(aR 7 co b).2≠0:=h1 3 jO
 have k4:(aR 6 dN b).2≠0:=h1 4 jO
 unfold nr
 rw [if_neg k0,if_neg k1,if_neg k2,if_neg k3,if_neg k4]
set_option maxHeartbeats 2000000 in
theorem B8 {gs:List Nat} (b:List UInt8) (hb:b.length≤90000):bM gs Tryz.prog 34 [bu b] (.c (.int .i64 (nr b))):=by
 refine ai 29 Tryz.func34 fun al w0 F0 St0=>?_;refine jU 67516 ?_
 refine ak (ap uV ?_)
 refine ak (ap uW ?_)
 refine ak (ap uF ?_)
 refine ak (ap uA ?_)
 refine ak (ap wY ?_)
 refine ak (aU 10 2 ql fun p1=>?_)
 refine jU 20513 ?_;refine jE (freeze 0 rfl) ?_;refine jE (eP 12 (fun a c=>B6 (gh.getD a (0,[])).1 (gh.getD a (0,[])).2 c) rfl rfl jD (fun a c ha hc=>by rcases a with _|_|_|_|_|a <;> (rcases c with _|_|c <;> first|exact cZ|omega))) ?_;refine jE (dB (H':=[]) [] jD rfl) ?_;refine aF (α:=Nat) [2,4,5,6,14,15,16,17,18,19,20,21,22,23,24,25,26,27,28] (fun i=>[(14,.c (.int .i64 (i:Nat)))]) (fun _=>[]) (fun i=>i≤5∧∀ j,j<i→(aR (gh.getD j (0,[])).1 (gh.getD j (0,[])).2 b).2≠0) (fun i=>5-i) (0) ?_ (fun _=>rfl) ?_ ?_ ?_
 ·exact ⟨Nat.zero_le _,fun j hj=>absurd hj (Nat.not_lt_zero j)⟩
 ·exact .cons cZ .nil
 ·(repeat (exact aS.nil))
 ·rintro i ⟨(hi:i≤5),(ha:∀ j,j<i→(aR (gh.getD j (0,[])).1 (gh.getD j (0,[])).2 b).2≠0)⟩
  refine jU 7526 ?_;refine aq (fun h127=>?_) fun h127=>?_
  rotate_left
  ·refine jU 8000700051684000200020006000 ?_
   have hie:i=5:=by omega
   subst hie
   exact cI (FL ha).symm
  refine jU 7006207810 ?_;refine jq (gq 2) ?_
  refine ak (bD (n:=2) ql rfl fun p2=>?_)
  refine ar (bh 2 (B6 (gh.getD i (0,[])).1 (gh.getD i (0,[])).2) ?_ ?_)
  ·exact (fun j hj=>by rcases j with _|_|j <;> first|exact cZ|omega)
  refine jU 5 ?_
  have ok:=DG (i:=i) jO
  refine cy ?_;refine eL (aV 2) ?_;refine jU 1 ?_
  refine ak (ap (uB _ ok.kind _ ok.len ok.ok ok.spec b hb) ?_ (ho:=rfl) (he:=(.cons (se rfl (ab.agg rfl (fun j hj=>by rcases j with _|_|j <;> exact cZ))) (.cons (se rfl cZ) .nil))))
  refine jU 5119009001 ?_
  have ok:=DG (i:=i) jO
  refine jU 5216 ?_;refine aq (fun h128=>?_) fun h128=>?_
  ·refine jU 5150906 ?_
   refine jR (yY (ii (ii (yY (ii (cX (hv:=cI (CL jO ha jO).symm)))))))
  refine jU 8519200840010 ?_
  refine aw (i+1) ?_ ?_ (h5:=?_)
  ·exact ⟨by omega,fun j hj=>if h:j<i then ha j h else (by obtain rfl:j=i:=(by have hj:j<i+1:=hj;omega);omega)⟩
  ·show 5-(i+1)<5-i;omega
  ·exact .cons (cI jO) .nil
end
section
section
variable {P:Program} {G:Gh} {o:Oper} {env:List (Nat×CV)} {b0:Nat→CV} {H:List (Option Nat×bp)} {K:AS→Prop}
theorem th (w:World) (b k:Nat) {cur:Array Value} {ty:TypeId} (h:w.heap[b]?=some (.cells cur ty (0,0))):(w.freeze ⟨b,k,none⟩ 1).heap[b]?=some (.cells cur ty (k,k+1)):=by
 unfold World.freeze
 rw [if_neg jD]
 simp only [Array.getElem?_modify,h,if_true,Option.map_some]
 rfl
theorem re (w:World) (b k q:Nat) (hq:q≠b):(w.freeze ⟨b,k,none⟩ 1).heap[q]?=w.heap[q]?:=by
 unfold World.freeze
 rw [if_neg jD]
 simp only [Array.getElem?_modify]
 rw [if_neg (fun h=>hq h.symm)]
theorem Bb (w:World) (b k:Nat):(w.freeze ⟨b,k,none⟩ 1).heap.size=w.heap.size∧(w.freeze ⟨b,k,none⟩ 1).os=w.os∧(w.freeze ⟨b,k,none⟩ 1).tape=w.tape∧(w.freeze ⟨b,k,none⟩ 1).output=w.output:=by
 unfold World.freeze
 rw [if_neg jD]
 exact ⟨by simp,rfl,rfl,rfl⟩
theorem aC.mark {St:Nat→Prop} {s:AS} {a:Act} {w:World} (h:aC G St s a w) {i g n:Nat} {f:Nat→CV} (hH:s.H[i]?=some (some g,.blk n f)) {cur:Array Value} {ty:TypeId} (hc:w.heap[g]?=some (.cells cur ty (0,0))) (k:Nat) :
  (∀ b,St b→b≠g)∧aC G (fun b=>St b∨b=g) ⟨s.env,s.b,s.H.set i (some g,.frz n f)⟩ a (w.freeze ⟨g,k,none⟩ 1):=by
 obtain ⟨fp,hp⟩:=h.hp
 have hlt:i<s.H.length:=(List.getElem?_eq_some_iff.1 hH).1
 have hrep:=hp.rep i (some g) _ hH
 have hg:fp i g:=(hrep.1 g).2 rfl
 obtain ⟨hg1,hg2,hg3⟩:=hp.own i g hg
 have hnew:=th w g k hc
 have hold:∀ b,b≠g→(w.freeze ⟨g,k,none⟩ 1).heap[b]?=w.heap[b]?:=fun b hb=>re w g k b hb
 obtain ⟨hsz,ho,ht,hu⟩:=Bb w g k
 have hs:∀ b,St b→St b∨b=g:=fun _ h=>.inl h
 have hne:∀ b,St b→b≠g:=fun b hb e=>hg2 (e ▸ hb)
 have he:qk St w (w.freeze ⟨g,k,none⟩ 1):=⟨fun b cu ct cz hb hcu=>(hold b (hne b hb)).trans hcu,fun b cu t z hb=>by
  by_cases e:b=g
  ·subst e
   rw [hc] at hb
   cases hb
   exact ⟨cur,_,hnew,rfl⟩
  ·exact ⟨cu,z,(hold b e).trans hb,rfl⟩⟩
 refine ⟨hne,h.df.keep hs (fun b hb=>hold b (hne b hb)),h.sz,fun d=>bv.evo he hs _ _ (h.env d),⟨ho.trans h.un.os,ht.trans h.un.tape,hu.trans h.un.output,by rw [hsz];exact h.un.size,fun k hk hF=>?_,fun b cu t z hb=>?_⟩,fun b hb=>.inl (h.s1 b hb),fun b hb=>?_,fun b hb=>?_,?_,?_,fun q hq=>.inl (h.sg.1 q hq),fun x hx=>.inl (h.sg.2 x hx)⟩
 ·refine (hold k (fun e=>?_)).trans (h.un.block k hk hF)
  subst e
  rcases hg3 with h1|h1
  ·omega
  ·exact hF h1
 ·obtain ⟨cur',z',h1,h2⟩:=h.un.sh b cu t z hb
  obtain ⟨cur2,z2,h3,h4⟩:=he.sh b cur' t z' h1
  exact ⟨cur2,z2,h3,h4.trans h2⟩
 ·rcases hb with hb|rfl
  ·exact h.s2 b hb
  ·exact .inr hg3
 ·rw [hsz]
  rcases hb with hb|rfl
  ·exact h.s3 b hb
  ·exact hg1
 ·refine ⟨fun j b=>j≠i∧fp j b,fun j q r hj=>?_,fun j l b h1 h2=>hp.dis j l b h1.2 h2.2,fun j b h1=>?_,fun j hj b h1=>hp.out j (by simpa using hj) b h1.2⟩
  ·by_cases e:j=i
   ·subst e
    simp [hlt] at hj
    obtain ⟨rfl,rfl⟩:=hj
    obtain ⟨h0,cur',t',h1,h2,h3⟩:=hrep
    rw [hc] at h1
    cases h1
    exact ⟨fun b hb=>absurd rfl hb.1,.inr rfl,cur,ty,_,hnew,h2,fun m hm=>bv.evo he hs _ _ (h3 m hm)⟩
   ·rw [List.getElem?_set_ne (Ne.symm e)] at hj
    have e2:(fun b=>j≠i∧fp j b)=fp j:=funext fun b=>propext ⟨fun h=>h.2,fun h=>⟨e,h⟩⟩
    show r.rep G.al _ _ (fun b=>j≠i∧fp j b) q
    rw [e2]
    exact bp.rep_evo he hs (fun b hF=>hold b (fun e3=>e (hp.dis j i b hF (e3 ▸ hg)))) (hp.rep j q r hj)
  ·obtain ⟨h2,h3,h4⟩:=hp.own j b h1.2
   exact ⟨by rw [hsz];exact h2,fun hb=>hb.elim h3 fun hb=>h1.1 (hp.dis j i b h1.2 (hb ▸ hg)),h4⟩
 ·exact fY.keep h.sn (fun q hq=>hold q (hne q (h.sg.1 q hq))) (fun q hq=>hold _ (hne _ (h.sg.2 q hq)))
theorem LJ {t:TypeId} {x:Operand} {i n N d:Nat} {g:Option Nat} {F:Nat→CV} {e:TypeId} (ho:o.op=.convert t t x) (hx:(⟨env,b0,H⟩:AS).eval x=.os i g 0 n 1) (hH:H[i]?=some (g,.blk N F)) (hn:0<n) (h1:P.underlying t=some (.slice e)) (h2:P.underlying e=some (.int .u8)) (hd:o.dst=some d) (hN:Nat.blt d G.N=true)
  (hK:K ⟨(d,.os i g 0 n 1)::env,b0,H.set i (g,.frz N F)⟩):uc P G o ⟨env,b0,H⟩ K:=fun St a w hr Q=>by
 have hv:=ka hr hx
 cases g with
 | none=>have h:=hv.1;omega
 | some g =>
  obtain ⟨cap,hval,c1,c2,cur,ty,z,h3,h4⟩:=hv
  obtain ⟨fp,hp⟩:=hr.hp
  obtain ⟨h00,cur',ty',hh,hle,hcell⟩:=hp.rep i (some g) _ hH
  rw [hh] at h3
  cases h3
  obtain ⟨hne,hm⟩:=hr.mark hH hh cur.size
  have hsh:w.shape? g=some (ty,cur.size):=by simp [World.shape?,hh]
  have hrun:(execOp a.eval o).run P w=.ok (.value (.slice (some ⟨g,0,none⟩) n cap)) (w.freeze ⟨g,cur.size,none⟩ 1):=by
   simp only [execOp,ho,hval]
   refine oI ?_
   simp [convert,underlying,h1,h2,markStringish,hsh]
  unfold Oper.wp
  rw [hrun]
  refine ⟨fun q hq=>re w g _ q (hne q hq),fun b=>St b∨b=g,fun _ h=>.inl h,_,hK,?_⟩
  have h5:=hm.put (dst:=o.dst) (v:=.os i (some g) 0 n 1) (x:=.slice (some ⟨g,0,none⟩) n cap) (ef (kW hd hN)) ⟨cap,rfl,c1,c2,cur,ty,_,th w g _ hh,h4⟩
  rw [hd] at h5 ⊢
  exact h5
theorem Pz {t:TypeId} {x:Operand} {i n N d:Nat} {g:Option Nat} {F:Nat→CV} (hK:K ⟨(d,.os i g 0 n 1)::env,b0,H.set i (g,.frz N F)⟩) (ho:o.op=.convert t t x:=by exact rfl) (hx:(⟨env,b0,H⟩:AS).eval x=.os i g 0 n 1:=by exact rfl) (hH:H[i]?=some (g,.blk N F):=by exact rfl) (hn:0<n:=by decide) (hT:CR P t=true:=by kernel_rfl) (hd:o.dst=some d:=by exact rfl) (hN:Nat.blt d G.N=true:=by exact rfl):uc P G o ⟨env,b0,H⟩ K:=by
 obtain ⟨e,h1,h2⟩:=qT hT
 exact LJ ho hx hH hn h1 h2 hd hN hK
end
end
section
open Go.RowKit Cal
def nw (who:S3) (rq:List UInt8) (cr vd:Int) (bd ct:List UInt8):List V4:=[⟨0,[],[],who⟩,⟨0,[],rq,bA⟩,⟨cr,[],[],bA⟩,⟨vd,[],[],bA⟩,⟨0,[],bd,bA⟩,⟨0,[],ct,bA⟩]
def BE (gn:Int) (dr:List UInt8) (ph fr tt la gi:Int):List V4:=[⟨gn,[],[],bA⟩,⟨0,[],dr,bA⟩,⟨ph,[],[],bA⟩,⟨fr,[],[],bA⟩,⟨tt,[],[],bA⟩,⟨la,[],[],bA⟩,⟨gi,[],[],bA⟩]
def AL (gn se at_ na:Int):List V4:=[⟨gn,[],[],bA⟩,⟨se,[],[],bA⟩,⟨at_,[],[],bA⟩,⟨na,[],[],bA⟩]
def zN (nd se:List UInt8) (ex:Int):List V4:=[⟨0,nd,[],bA⟩,⟨0,[],se,bA⟩,⟨ex,[],[],bA⟩]
def IL (bd tk:List UInt8):List V4:=[⟨0,[],bd,bA⟩,⟨0,[],tk,bA⟩]
theorem xo (who:S3) (rq:List UInt8) (cr vd:Int) (bd ct:List UInt8):fE aM (nw who rq cr vd bd ct) :=
 ⟨.inl ⟨rfl,rfl⟩,.inr (.inr (.inl ⟨rfl,rfl⟩)),.inr (.inr (.inr (.inr ⟨rfl,rfl⟩))),.inr (.inl ⟨.inr rfl,rfl⟩),.inr (.inr (.inl ⟨rfl,rfl⟩)),.inr (.inr (.inl ⟨rfl,rfl⟩)),trivial⟩
theorem Fu {gs:List Nat} (who:S3) (rq:List UInt8) (cr vd:Int) (bd ct:List UInt8):bM gs Tryz.prog 19 [.agg 8 (lC (nw who rq cr vd bd ct))] (lJ (nw who rq cr vd bd ct)):=by
 refine ai 22 Tryz.func19 fun al w0 F0 St0=>?_;refine cy ?_
 refine ak (cE 8 fun p1=>?_)
 refine jU 651 ?_;refine jq (da 0 3 true) ?_;refine eL (aV 3) ?_;refine jq (ae (n:=6) rfl dq fV rfl rfl) ?_;refine jU 505000000 ?_;refine jq (ae (n:=6) rfl dq fV rfl rfl) ?_;refine jU 507000000 ?_;refine jq (ae (n:=6) rfl dq fV rfl rfl) ?_;refine jU 506000000 ?_;refine jq (ae (n:=6) rfl dq fV rfl rfl) ?_;refine jU 5020000000 ?_;refine jq (ae (n:=6) rfl dq fV rfl rfl) ?_;refine jq (da 7 1 false) ?_;refine jU 50 ?_;refine jq (ae (n:=6) rfl dq fV rfl rfl) ?_
 refine ak (aU 36 6 dq (l:=[.c (.int .i64 0),au [],.c (.slice none 0 0),.c (.int .i64 who.1),au who.2.1,au who.2.2,.c (.int .i64 0),au [],bu rq,.c (.int .i64 0),au [],au [],.c (.int .i64 cr),au [],.c (.slice none 0 0),.c (.int .i64 0),au [],au [],.c (.int .i64 vd),au [],.c (.slice none 0 0),.c (.int .i64 0),au [],au [],.c (.int .i64 0),au [],bu bd,.c (.int .i64 0),au [],au [],.c (.int .i64 0),au [],bu ct,.c (.int .i64 0),au [],au []]) (hf:=by kernel_rfl) fun p2=>?_)
 refine jU 51 ?_;refine jE (freeze 1 rfl) ?_;refine jE (eP 2 (fun a b=>yh ((nw who rq cr vd bd ct).getD a V4.z) b) rfl rfl jD (fun a b ha hb=>by rcases a with _|_|_|_|_|_|a <;> (rcases b with _|_|_|_|_|_|b <;> first|exact cZ|exact cN|omega))) ?_
 refine jR (cX (hv:=cZ))
def Qz:List V4:=nw (1,[],[97]) [114] 0 1 [] []
def QP:List V4:=nw (1,[],[97]) [114] 0 1 [] [99]
theorem Jj:aQ 2 aM Qz=true∧aQ 2 aM QP=false∧10<(tF 2 aM Qz).length:=by decide +kernel
theorem Dg {gs:List Nat} [eN gs] [mm gs]:bM gs Tryz.prog 15 [] (.c (.bool true)):=by
 obtain ⟨ra,rb,rl⟩:=Jj
 have hA:=rA (gs:=gs) _ _ _ _ _ _ (xo (1,[],[97]) [114] 0 1 [] [])
 have hB:=rA (gs:=gs) _ _ _ _ _ _ (xo (1,[],[97]) [114] 0 1 [] [99])
 have ra':aQ 2 aM (nw (1,[],[97]) [114] 0 1 [] [])=true:=ra
 have rb':aQ 2 aM (nw (1,[],[97]) [114] 0 1 [] [99])=false:=rb
 have rl':(10:Int)<((tF 2 aM [⟨0,[],[],(1,[],[97])⟩,⟨0,[],[114],bA⟩,⟨0,[],[],bA⟩,⟨1,[],[],bA⟩,⟨0,[],[],bA⟩,⟨0,[],[],bA⟩]).length:Nat):=Int.ofNat_lt.2 rl
 refine ai 35 Tryz.func15 fun al w0 F0 St0=>?_;refine jU 6516 ?_;refine jq (ae (n:=3) rfl nH Av rfl rfl) ?_
 refine ak (aU 1 1 f7 fun p1=>?_)
 refine ar (Pz ?_)
 refine bg (gP 8 [114] rfl rfl rfl rfl (.cons cZ .nil)) ?_;refine jq (ae (n:=8) rfl wm Pa rfl rfl) ?_
 refine ak (bD (n:=8) wm rfl fun p2=>?_)
 refine ar (bh 8 (lC Qz) ?_ ?_)
 ·exact (fun j hj=>by rcases j with _|_|_|_|_|_|_|_|j <;> first|exact cZ|exact cN|omega)
 refine jU 65 ?_;refine eL (aV 8) ?_
 refine ak (ap ((by have h:=hA;unfold nw at ra';erw [if_pos ra',if_pos ra'] at h;exact h)) ?_ (ho:=rfl) (he:=(.cons (se rfl (ab.agg rfl (fun j hj=>by rcases j with _|_|_|_|_|_|_|_|j <;> exact cZ))) .nil)))
 refine jU 65119009001 ?_
 refine ak (aU 1 1 f7 fun p3=>?_)
 refine ar (Pz ?_)
 refine bg (gP 16 [99] rfl rfl rfl rfl (.cons cZ .nil)) ?_;refine jq (da 7 1 false) ?_
 refine ar (bh 1 (lC QP) ?_ ?_)
 ·exact (fun j hj=>by rcases j with _|_|_|_|_|_|_|_|j <;> exact cZ)
 refine jU 65 ?_;refine eL (aV 8) ?_
 refine ak (ap ((by have h:=hB;unfold nw at rb';erw [if_neg (by rw [rb'];decide),if_neg (by rw [rb'];decide)] at h;exact h)) ?_ (ho:=rfl) (he:=(.cons (se rfl (ab.agg rfl (fun j hj=>by rcases j with _|_|_|_|_|_|_|_|j <;> exact cZ))) .nil)))
 refine jU 1500000165119009001 ?_;refine ay 25 (fun g17=>?_) fun g17=>?_
 rotate_left
 ·refine jU 80007000515004441500444 ?_
  first
  |(exfalso;omega)
  |(refine cB ?_;first|rfl|(simp;done)|(rw [decide_eq_true rl'];rfl)|(simp_all;done))
 refine jU 1100000000231 ?_;refine ay 30 (fun g17_2=>?_) fun g17_2=>?_
 ·refine jU 1 ?_
  refine ak (ap (Ik 4 jD) ?_)
  refine jU 80007000511000000002 ?_
  first
  |(exfalso;omega)
  |(refine cB ?_;rfl)
 refine jU 8000700051500444 ?_
 first
 |(exfalso;omega)
 |(refine cB ?_;first|rfl|(simp;done)|(rw [decide_eq_true rl'];rfl)|(simp_all;done))
end
section
open Go.RowKit Cal
theorem Fv {gs:List Nat} (gn:Int) (dr:List UInt8) (ph fr tt la gi:Int):bM gs Tryz.prog 24 [.agg 7 (rE (BE gn dr ph fr tt la gi))] (lJ (BE gn dr ph fr tt la gi)):=by
 refine ai 25 Tryz.func24 fun al w0 F0 St0=>?_;refine cy ?_
 refine ak (cE 7 fun p1=>?_)
 refine jU 5090651 ?_;refine jq (ae (n:=6) rfl dq fV rfl rfl) ?_;refine jU 50100 ?_;refine jq (ae (n:=6) rfl dq fV rfl rfl) ?_;refine jU 501000 ?_;refine jq (ae (n:=6) rfl dq fV rfl rfl) ?_;refine jU 505000000 ?_;refine jq (ae (n:=6) rfl dq fV rfl rfl) ?_;refine jU 507000000 ?_;refine jq (ae (n:=6) rfl dq fV rfl rfl) ?_;refine jU 506000000 ?_;refine jq (ae (n:=6) rfl dq fV rfl rfl) ?_;refine jU 5020000000 ?_;refine jq (ae (n:=6) rfl dq fV rfl rfl) ?_
 refine ak (aU 42 6 dq (l:=[.c (.int .i64 gn),au [],.c (.slice none 0 0),.c (.int .i64 0),au [],au [],.c (.int .i64 0),au [],bu dr,.c (.int .i64 0),au [],au [],.c (.int .i64 ph),au [],.c (.slice none 0 0),.c (.int .i64 0),au [],au [],.c (.int .i64 fr),au [],.c (.slice none 0 0),.c (.int .i64 0),au [],au [],.c (.int .i64 tt),au [],.c (.slice none 0 0),.c (.int .i64 0),au [],au [],.c (.int .i64 la),au [],.c (.slice none 0 0),.c (.int .i64 0),au [],au [],.c (.int .i64 gi),au [],.c (.slice none 0 0),.c (.int .i64 0),au [],au []]) (hf:=by kernel_rfl) fun p2=>?_)
 refine jU 51 ?_;refine jE (freeze 1 rfl) ?_;refine jE (eP 2 (fun a b=>yh ((BE gn dr ph fr tt la gi).getD a V4.z) b) rfl rfl jD (fun a b ha hb=>by rcases a with _|_|_|_|_|_|_|a <;> (rcases b with _|_|_|_|_|_|b <;> first|exact cZ|exact cN|omega))) ?_
 refine jR (cX (hv:=cZ))
theorem Ft {gs:List Nat} (gn se at_ na:Int):bM gs Tryz.prog 39 [.agg 4 (qP (AL gn se at_ na))] (lJ (AL gn se at_ na)):=by
 refine ai 16 Tryz.func39 fun al w0 F0 St0=>?_;refine cy ?_
 refine ak (cE 4 fun p1=>?_)
 refine jU 5090651 ?_;refine jq (ae (n:=6) rfl dq fV rfl rfl) ?_;refine jU 50100 ?_;refine jq (ae (n:=6) rfl dq fV rfl rfl) ?_;refine jU 501000 ?_;refine jq (ae (n:=6) rfl dq fV rfl rfl) ?_;refine jU 505000000 ?_;refine jq (ae (n:=6) rfl dq fV rfl rfl) ?_
 refine ak (aU 24 6 dq (l:=[.c (.int .i64 gn),au [],.c (.slice none 0 0),.c (.int .i64 0),au [],au [],.c (.int .i64 se),au [],.c (.slice none 0 0),.c (.int .i64 0),au [],au [],.c (.int .i64 at_),au [],.c (.slice none 0 0),.c (.int .i64 0),au [],au [],.c (.int .i64 na),au [],.c (.slice none 0 0),.c (.int .i64 0),au [],au []]) (hf:=by kernel_rfl) fun p2=>?_)
 refine jU 51 ?_;refine jE (freeze 1 rfl) ?_;refine jE (eP 2 (fun a b=>yh ((AL gn se at_ na).getD a V4.z) b) rfl rfl jD (fun a b ha hb=>by rcases a with _|_|_|_|a <;> (rcases b with _|_|_|_|_|_|b <;> first|exact cZ|exact cN|omega))) ?_
 refine jR (cX (hv:=cZ))
theorem Fs {gs:List Nat} (nd se:List UInt8) (ex:Int):bM gs Tryz.prog 40 [.agg 3 (qo (zN nd se ex))] (lJ (zN nd se ex)):=by
 refine ai 13 Tryz.func40 fun al w0 F0 St0=>?_;refine cy ?_
 refine ak (cE 3 fun p1=>?_)
 refine jU 5090651 ?_;refine jq (ae (n:=6) rfl dq fV rfl rfl) ?_;refine jU 50100 ?_;refine jq (ae (n:=6) rfl dq fV rfl rfl) ?_;refine jU 501000 ?_;refine jq (ae (n:=6) rfl dq fV rfl rfl) ?_
 refine ak (aU 18 6 dq (l:=[.c (.int .i64 0),au nd,.c (.slice none 0 0),.c (.int .i64 0),au [],au [],.c (.int .i64 0),au [],bu se,.c (.int .i64 0),au [],au [],.c (.int .i64 ex),au [],.c (.slice none 0 0),.c (.int .i64 0),au [],au []]) (hf:=by kernel_rfl) fun p2=>?_)
 refine jU 51 ?_;refine jE (freeze 1 rfl) ?_;refine jE (eP 2 (fun a b=>yh ((zN nd se ex).getD a V4.z) b) rfl rfl jD (fun a b ha hb=>by rcases a with _|_|_|a <;> (rcases b with _|_|_|_|_|_|b <;> first|exact cZ|exact cN|omega))) ?_
 refine jR (cX (hv:=cZ))
theorem H8 {gs:List Nat} (bd tk:List UInt8):bM gs Tryz.prog 41 [.agg 2 (yZ (IL bd tk))] (lJ (IL bd tk)):=by
 refine ai 10 Tryz.func41 fun al w0 F0 St0=>?_;refine cy ?_
 refine ak (cE 2 fun p1=>?_)
 refine jU 5090651 ?_;refine jq (ae (n:=6) rfl dq fV rfl rfl) ?_;refine jU 50100 ?_;refine jq (ae (n:=6) rfl dq fV rfl rfl) ?_
 refine ak (aU 12 6 dq (l:=[.c (.int .i64 0),au [],bu bd,.c (.int .i64 0),au [],au [],.c (.int .i64 0),au [],bu tk,.c (.int .i64 0),au [],au []]) (hf:=by kernel_rfl) fun p2=>?_)
 refine jU 51 ?_;refine jE (freeze 1 rfl) ?_;refine jE (eP 2 (fun a b=>yh ((IL bd tk).getD a V4.z) b) rfl rfl jD (fun a b ha hb=>by rcases a with _|_|a <;> (rcases b with _|_|_|_|_|_|b <;> first|exact cZ|omega))) ?_
 refine jR (cX (hv:=cZ))
end
section
open Go.RowKit Cal
theorem F5 {f:Fd} {v:V4} (h:iS f v):lG f v:=by
 unfold iS at h
 unfold lG
 rcases h with ⟨h1,h2,_⟩|⟨h1,h2,_⟩|⟨h1,h2,_⟩|⟨h1,h2,_⟩|⟨h1,h2,_⟩
 ·exact .inl ⟨h1,h2⟩
 ·exact .inr (.inl ⟨h1,h2⟩)
 ·exact .inr (.inr (.inl ⟨h1,h2⟩))
 ·exact .inr (.inr (.inr (.inl ⟨h1,h2⟩)))
 ·exact .inr (.inr (.inr (.inr ⟨h1,h2⟩)))
theorem vo:∀ {fs:List Fd} {vs:List V4},eY fs vs→fE fs vs
 | [],[],_=>trivial
 | _::_,_::_,h=>⟨F5 h.1,vo h.2⟩
 | [],_::_,h=>h.elim
 | _::_,[],h=>h.elim
theorem sb:∀ {fs:List Fd},(∀ f ∈ fs,fD f)→fE fs (List.replicate fs.length V4.z)
 | [],_=>trivial
 | f::fs,h=>by
  refine ⟨?_,sb fun g hg=>h g (List.mem_cons_of_mem _ hg)⟩
  have:=h f List.mem_cons_self
  unfold fD at this
  unfold lG
  rcases this with h|h|h|h|h
  ·exact .inl ⟨h,rfl⟩
  ·exact .inr (.inl ⟨h.1,rfl⟩)
  ·exact .inr (.inr (.inl ⟨h.1,rfl⟩))
  ·exact .inr (.inr (.inr (.inl ⟨h.1,rfl⟩)))
  ·exact .inr (.inr (.inr (.inr ⟨h,rfl⟩)))
theorem rV {kind:Int} {fs:List Fd} (ho:∀ f ∈ fs,fD f) (b:List UInt8):fE fs (aR kind fs b).1:=by
 unfold aR
 split
 ·exact sb ho
 ·rename_i h0
  split
  ·exact sb ho
  ·exact vo (qG ho (Classical.not_not.1 h0)).1
theorem kK:∀ {fs:List Fd} {vs:List V4},fE fs vs→vs.length=fs.length
 | [],[],_=>rfl
 | _::_,_::_,h=>by simp [kK h.2]
 | [],_::_,h=>h.elim
 | _::_,[],h=>h.elim
theorem QT {f:Fd} {v:V4} (h:lG f v) (hc:f.call=0):v=⟨0,[],[],v.who⟩:=by
 unfold lG at h
 rcases h with h|h|h|h|h <;> first|exact h.2|(exfalso;omega)
theorem FC {f:Fd} {v:V4} (h:lG f v) (hc:f.call=3∨f.call=4∨f.call=9):v=⟨v.n,[],[],bA⟩:=by
 unfold lG at h
 rcases h with h|h|h|h|h <;> first|exact h.2|(exfalso;omega)
theorem N6 {f:Fd} {v:V4} (h:lG f v) (hc:f.call=6):v=⟨0,[],v.b,bA⟩:=by
 unfold lG at h
 rcases h with h|h|h|h|h <;> first|exact h.2|(exfalso;omega)
theorem QS {f:Fd} {v:V4} (h:lG f v) (hc:f.call=7):v=⟨0,v.t,[],bA⟩:=by
 unfold lG at h
 rcases h with h|h|h|h|h <;> first|exact h.2|(exfalso;omega)
theorem Mx {vs:List V4} (h:fE aM vs):∃ who rq cr vd bd ct,vs=nw who rq cr vd bd ct:=by
 obtain ⟨v0,v1,v2,v3,v4,v5,rfl⟩:=yR vs (kK h)
 obtain ⟨h0,h1,h2,h3,h4,h5,_⟩:=h
 exact ⟨v0.who,v1.b,v2.n,v3.n,v4.b,v5.b,by rw [nw,← QT h0 rfl,← N6 h1 rfl,← FC h2 (.inr (.inr rfl)),← FC h3 (.inr (.inl rfl)),← N6 h4 rfl,← N6 h5 rfl]⟩
theorem MA {vs:List V4} (h:fE bU vs):∃ gn dr ph fr tt la gi,vs=BE gn dr ph fr tt la gi:=by
 obtain ⟨v0,v1,v2,v3,v4,v5,v6,rfl⟩:=yS vs (kK h)
 obtain ⟨h0,h1,h2,h3,h4,h5,h6,_⟩:=h
 exact ⟨v0.n,v1.b,v2.n,v3.n,v4.n,v5.n,v6.n,by rw [BE,← FC h0 (.inl rfl),← N6 h1 rfl,← FC h2 (.inr (.inl rfl)),← FC h3 (.inr (.inr rfl)),← FC h4 (.inr (.inr rfl)),← FC h5 (.inr (.inr rfl)),← FC h6 (.inl rfl)]⟩
theorem LK {vs:List V4} (h:fE cg vs):∃ gn se at_ na,vs=AL gn se at_ na:=by
 obtain ⟨v0,v1,v2,v3,rfl⟩:=yQ vs (kK h)
 obtain ⟨h0,h1,h2,h3,_⟩:=h
 exact ⟨v0.n,v1.n,v2.n,v3.n,by rw [AL,← FC h0 (.inl rfl),← FC h1 (.inl rfl),← FC h2 (.inr (.inr rfl)),← FC h3 (.inr (.inr rfl))]⟩
theorem KG {vs:List V4} (h:fE co vs):∃ nd se ex,vs=zN nd se ex:=by
 obtain ⟨v0,v1,v2,rfl⟩:=yO vs (kK h)
 obtain ⟨h0,h1,h2,_⟩:=h
 exact ⟨v0.t,v1.b,v2.n,by rw [zN,← QS h0 rfl,← N6 h1 rfl,← FC h2 (.inr (.inr rfl))]⟩
theorem Oh {vs:List V4} (h:fE dN vs):∃ bd tk,vs=IL bd tk:=by
 obtain ⟨v0,v1,rfl⟩:=CK vs (kK h)
 obtain ⟨h0,h1,_⟩:=h
 exact ⟨v0.b,v1.b,by rw [IL,← N6 h0 rfl,← N6 h1 rfl]⟩
theorem H9 {gs:List Nat} {vs:List V4} (h:fE aM vs):bM gs Tryz.prog 19 [.agg 8 (lC vs)] (lJ vs):=by
 obtain ⟨who,rq,cr,vd,bd,ct,rfl⟩:=Mx h
 exact Fu who rq cr vd bd ct
theorem Ia {gs:List Nat} {vs:List V4} (h:fE bU vs):bM gs Tryz.prog 24 [.agg 7 (rE vs)] (lJ vs):=by
 obtain ⟨gn,dr,ph,fr,tt,la,gi,rfl⟩:=MA h
 exact Fv gn dr ph fr tt la gi
theorem H7 {gs:List Nat} {vs:List V4} (h:fE cg vs):bM gs Tryz.prog 39 [.agg 4 (qP vs)] (lJ vs):=by
 obtain ⟨gn,sr,at_,na,rfl⟩:=LK h
 exact Ft gn sr at_ na
theorem H6 {gs:List Nat} {vs:List V4} (h:fE co vs):bM gs Tryz.prog 40 [.agg 3 (qo vs)] (lJ vs):=by
 obtain ⟨nd,sc,ex,rfl⟩:=KG h
 exact Fs nd sc ex
theorem Ly {gs:List Nat} {vs:List V4} (h:fE dN vs):bM gs Tryz.prog 41 [.agg 2 (yZ vs)] (lJ vs):=by
 obtain ⟨bd,tk,rfl⟩:=Oh h
 exact H8 bd tk
theorem qM {kind:Int} {fs:List Fd} {b:List UInt8} {R:List V4×Nat} (h:aR kind fs b=R) (ok:∀ f ∈ fs,fD f):fE fs R.1:=by
 subst h
 exact rV ok b
set_option maxHeartbeats 1000000 in
theorem Ce {gs:List Nat} [eN gs] [mm gs] (b:List UInt8) (hb:b.length≤90000):bM gs Tryz.prog 30 [.c (.int .i64 2),bu b] (.tup 2 (fl [lJ (aR 2 aM b).1,.err (aR 2 aM b).2])):=by
 have rh:=An (gs:=gs) b hb
 obtain ⟨R,hR⟩:∃ R,aR 2 aM b=R:=⟨_,rfl⟩
 have nh:=qM hR dJ
 rw [hR] at rh ⊢
 have hO:=H9 (gs:=gs) nh
 refine ai 65 Tryz.func30 fun al w0 F0 St0=>?_;refine jU 51262051675116 ?_;refine aq (fun h122=>?_) fun h122=>?_
 rotate_left
 ·exfalso;exact absurd rfl h122
 refine jU 16 ?_
 refine ak (ap rh ?_)
 refine jU 9009001 ?_
 refine ak (bD (n:=8) wm rfl fun p1=>?_)
 refine ar (bh 8 (lC R.1) ?_ ?_)
 ·exact (fun j hj=>by rcases j with _|_|_|_|_|_|_|_|j <;> first|exact cZ|omega)
 refine jU 651 ?_;refine eL (aV 8) ?_
 refine ak (ap hO ?_ (ho:=rfl) (he:=(.cons (se rfl (ab.agg rfl (fun j hj=>by rcases j with _|_|_|_|_|_|_|_|j <;> exact cZ))) .nil)))
 refine jU 5111 ?_
 refine jR (yY (ii (cX (hv:=cZ))))
set_option maxHeartbeats 1000000 in
theorem Cf {gs:List Nat} [eN gs] [mm gs] (b:List UInt8) (hb:b.length≤90000):bM gs Tryz.prog 30 [.c (.int .i64 3),bu b] (.tup 2 (fl [lJ (aR 3 bU b).1,.err (aR 3 bU b).2])):=by
 have rh:=Ao (gs:=gs) b hb
 obtain ⟨R,hR⟩:∃ R,aR 3 bU b=R:=⟨_,rfl⟩
 have nh:=qM hR ix
 rw [hR] at rh ⊢
 have hO:=Ia (gs:=gs) nh
 refine ai 65 Tryz.func30 fun al w0 F0 St0=>?_;refine jU 51262051675116 ?_;refine aq (fun h122=>?_) fun h122=>?_
 ·exfalso;exact absurd h122 jD
 refine jU 5126 ?_;refine aq (fun h125=>?_) fun h125=>?_
 rotate_left
 ·exfalso;exact absurd rfl h125
 refine jU 16 ?_
 refine ak (ap rh ?_)
 refine jU 9009001 ?_
 refine ak (bD (n:=7) zB rfl fun p1=>?_)
 refine ar (bh 7 (rE R.1) ?_ ?_)
 ·exact (fun j hj=>by rcases j with _|_|_|_|_|_|_|j <;> first|exact cZ|omega)
 refine jU 651 ?_;refine eL (aV 7) ?_
 refine ak (ap hO ?_ (ho:=rfl) (he:=(.cons (se rfl (ab.agg rfl (fun j hj=>by rcases j with _|_|_|_|_|_|_|j <;> exact cZ))) .nil)))
 refine jU 5111 ?_
 refine jR (yY (ii (cX (hv:=cZ))))
set_option maxHeartbeats 1000000 in
theorem Cc {gs:List Nat} [eN gs] [mm gs] (b:List UInt8) (hb:b.length≤90000):bM gs Tryz.prog 30 [.c (.int .i64 4),bu b] (.tup 2 (fl [lJ (aR 4 cg b).1,.err (aR 4 cg b).2])):=by
 have rh:=Aj (gs:=gs) b hb
 obtain ⟨R,hR⟩:∃ R,aR 4 cg b=R:=⟨_,rfl⟩
 have nh:=qM hR lu
 rw [hR] at rh ⊢
 have hO:=H7 (gs:=gs) nh
 refine ai 65 Tryz.func30 fun al w0 F0 St0=>?_;refine jU 51262051675116 ?_;refine aq (fun h122=>?_) fun h122=>?_
 ·exfalso;exact absurd h122 jD
 refine jU 5126 ?_;refine aq (fun h125=>?_) fun h125=>?_
 ·exfalso;exact absurd h125 jD
 refine jU 5126 ?_;refine aq (fun h128=>?_) fun h128=>?_
 rotate_left
 ·exfalso;exact absurd rfl h128
 refine jU 16 ?_
 refine ak (ap rh ?_)
 refine jU 9009001 ?_
 refine ak (bD (n:=4) zA rfl fun p1=>?_)
 refine ar (bh 4 (qP R.1) ?_ ?_)
 ·exact (fun j hj=>by rcases j with _|_|_|_|j <;> first|exact cZ|omega)
 refine jU 651 ?_;refine eL (aV 4) ?_
 refine ak (ap hO ?_ (ho:=rfl) (he:=(.cons (se rfl (ab.agg rfl (fun j hj=>by rcases j with _|_|_|_|j <;> exact cZ))) .nil)))
 refine jU 5111 ?_
 refine jR (yY (ii (cX (hv:=cZ))))
set_option maxHeartbeats 1000000 in
theorem Cd {gs:List Nat} [eN gs] [mm gs] (b:List UInt8) (hb:b.length≤90000):bM gs Tryz.prog 30 [.c (.int .i64 6),bu b] (.tup 2 (fl [lJ (aR 6 dN b).1,.err (aR 6 dN b).2])):=by
 have rh:=Ca (gs:=gs) b hb
 obtain ⟨R,hR⟩:∃ R,aR 6 dN b=R:=⟨_,rfl⟩
 have nh:=qM hR r9
 rw [hR] at rh ⊢
 have hO:=Ly (gs:=gs) nh
 refine ai 65 Tryz.func30 fun al w0 F0 St0=>?_;refine jU 51262051675116 ?_;refine aq (fun h122=>?_) fun h122=>?_
 ·exfalso;exact absurd h122 jD
 refine jU 5126 ?_;refine aq (fun h125=>?_) fun h125=>?_
 ·exfalso;exact absurd h125 jD
 refine jU 5126 ?_;refine aq (fun h128=>?_) fun h128=>?_
 ·exfalso;exact absurd h128 jD
 refine jU 5126 ?_;refine aq (fun h131=>?_) fun h131=>?_
 rotate_left
 ·exfalso;exact absurd rfl h131
 refine jU 16 ?_
 refine ak (ap rh ?_)
 refine jU 9009001 ?_
 refine ak (bD (n:=2) zw rfl fun p1=>?_)
 refine ar (bh 2 (yZ R.1) ?_ ?_)
 ·exact (fun j hj=>by rcases j with _|_|j <;> first|exact cZ|omega)
 refine jU 651 ?_;refine eL (aV 2) ?_
 refine ak (ap hO ?_ (ho:=rfl) (he:=(.cons (se rfl (ab.agg rfl (fun j hj=>by rcases j with _|_|j <;> exact cZ))) .nil)))
 refine jU 5111 ?_
 refine jR (yY (ii (cX (hv:=cZ))))
set_option maxHeartbeats 1000000 in
theorem Cb {gs:List Nat} [eN gs] [mm gs] (b:List UInt8) (hb:b.length≤90000):bM gs Tryz.prog 30 [.c (.int .i64 7),bu b] (.tup 2 (fl [lJ (aR 7 co b).1,.err (aR 7 co b).2])):=by
 have rh:=Ai (gs:=gs) b hb
 obtain ⟨R,hR⟩:∃ R,aR 7 co b=R:=⟨_,rfl⟩
 have nh:=qM hR mK
 rw [hR] at rh ⊢
 have hO:=H6 (gs:=gs) nh
 refine ai 65 Tryz.func30 fun al w0 F0 St0=>?_;refine jU 51262051675116 ?_;refine aq (fun h122=>?_) fun h122=>?_
 ·exfalso;exact absurd h122 jD
 refine jU 5126 ?_;refine aq (fun h125=>?_) fun h125=>?_
 ·exfalso;exact absurd h125 jD
 refine jU 5126 ?_;refine aq (fun h128=>?_) fun h128=>?_
 ·exfalso;exact absurd h128 jD
 refine jU 5126 ?_;refine aq (fun h131=>?_) fun h131=>?_
 ·exfalso;exact absurd h131 jD
 refine jU 16840010 ?_
 refine ak (ap rh ?_)
 refine jU 9009001 ?_
 refine ak (bD (n:=3) zy rfl fun p1=>?_)
 refine ar (bh 3 (qo R.1) ?_ ?_)
 ·exact (fun j hj=>by rcases j with _|_|_|j <;> first|exact cZ|omega)
 refine jU 651 ?_;refine eL (aV 3) ?_
 refine ak (ap hO ?_ (ho:=rfl) (he:=(.cons (se rfl (ab.agg rfl (fun j hj=>by rcases j with _|_|_|j <;> exact cZ))) .nil)))
 refine jU 5111 ?_
 refine jR (cX (hv:=cZ))
theorem E2 {gs:List Nat} [eN gs] [mm gs] (kind:Int) (fs:List Fd) (hp:(kind=2∧fs=aM)∨(kind=3∧fs=bU)∨(kind=4∧fs=cg)∨(kind=6∧fs=dN)∨(kind=7∧fs=co)) (b:List UInt8) (hb:b.length≤90000):bM gs Tryz.prog 30 [.c (.int .i64 kind),bu b] (.tup 2 (fl [lJ (aR kind fs b).1,.err (aR kind fs b).2])):=by
 rcases hp with ⟨rfl,rfl⟩|⟨rfl,rfl⟩|⟨rfl,rfl⟩|⟨rfl,rfl⟩|⟨rfl,rfl⟩
 ·exact Ce b hb
 ·exact Cf b hb
 ·exact Cc b hb
 ·exact Cd b hb
 ·exact Cb b hb
theorem K4 (f:Fd) {l:List (List UInt8)} {k:Nat} (h:k≤28):(aZ f l k).1.2≤28:=by
 unfold aZ
 split
 ·exact Ok h
 ·exact kp _ h
theorem Ak:∀ (fs:List Fd) {l:List (List UInt8)} {k:Nat},k≤28→(am fs l k).1.2≤28
 | [],_,_,h=>h
 | f::fs,_,_,h=>Ak fs (K4 f h)
theorem Nz (kind:Int) (fs:List Fd) (b:List UInt8):(aR kind fs b).2≤28:=by
 have h:(aW kind fs b).2≤28:=by
  unfold aW
  dsimp only
  exact Mi (kp aE (Ak fs (kp _ (kp aL (Nat.le_trans (Gk b).2 jD)))))
 unfold aR
 split
 ·exact h
 ·split
  ·show 4≤28;decide
  ·exact Nat.zero_le _
end
section
open Go.RowKit Cal
theorem zD (n j:Nat):ab (.c ((Value.agg #[.int .i64 0,.string ByteArray.empty,.slice none 0 0,.int .i64 0,.string ByteArray.empty,.string ByteArray.empty]).cells[j % 6]!)) (eK 6 yh V4.z (List.replicate n V4.z) j):=by
 have e:(List.replicate n V4.z).getD (j / 6) V4.z=V4.z:=by
  rw [List.getD_eq_getElem?_getD,List.getElem?_replicate]
  split <;> rfl
 show ab _ (yh ((List.replicate n V4.z).getD (j / 6) V4.z) (j % 6))
 rw [e]
 have h:=Nat.mod_lt j (show 0<6 by decide)
 generalize j % 6=m at *
 rcases m with _|_|_|_|_|_|m <;> first|exact cZ|exact cN|omega
def jy:List (Int×List Fd):=[(2,aM),(3,bU),(4,cg),(6,dN),(7,co)]
theorem Ht {i:Nat} (h:i<5):Kd (jy.getD i (0,[]))∧((jy.getD i (0,[])).1=2∧(jy.getD i (0,[])).2=aM∨(jy.getD i (0,[])).1=3∧(jy.getD i (0,[])).2=bU∨(jy.getD i (0,[])).1=4∧(jy.getD i (0,[])).2=cg∨(jy.getD i (0,[])).1=6∧(jy.getD i (0,[])).2=dN∨(jy.getD i (0,[])).1=7∧(jy.getD i (0,[])).2=co):=by
 rcases i with _|_|_|_|_|i
 ·exact ⟨oW (2,aM) (by simp [gh]),.inl ⟨rfl,rfl⟩⟩
 ·exact ⟨oW (3,bU) (by simp [gh]),.inr (.inl ⟨rfl,rfl⟩)⟩
 ·exact ⟨oW (4,cg) (by simp [gh]),.inr (.inr (.inl ⟨rfl,rfl⟩))⟩
 ·exact ⟨oW (6,dN) (by simp [gh]),.inr (.inr (.inr (.inl ⟨rfl,rfl⟩)))⟩
 ·exact ⟨oW (7,co) (by simp [gh]),.inr (.inr (.inr (.inr ⟨rfl,rfl⟩)))⟩
 ·omega
theorem Hu {kind:Int} {fs:List Fd} {b:List UInt8} (h:(aR kind fs b).2≠0):(aR kind fs b).1=List.replicate fs.length V4.z:=by
 unfold aR at h ⊢
 by_cases h1:(aW kind fs b).2≠0
 ·rw [if_pos h1]
 ·rw [if_neg h1] at h ⊢
  by_cases h2:aQ kind fs (aW kind fs b).1=false
  ·rw [if_pos h2]
  ·rw [if_neg h2] at h;exact absurd rfl h
set_option maxHeartbeats 4000000 in
theorem u7 {gs:List Nat} [eN gs] [mm gs] (b:List UInt8):bM gs Tryz.prog 6 [bu b] (.c (.bool true)):=by
 refine ai 86 Tryz.func6 fun al w0 F0 St0=>?_;refine jU 67516 ?_
 refine ak (ap Dg ?_)
 refine jU 530 ?_;refine aq (fun h141=>?_) fun h141=>?_
 ·exfalso;exact absurd h141 jD
 refine jU 523167810 ?_;refine aq (fun h144=>?_) fun h144=>?_
 ·refine jU 516 ?_
  refine jR (ii (cX (hv:=cZ)))
 refine jU 16810 ?_
 refine ak (ap (Po b jO) ?_)
 refine jU 6751 ?_
 refine ak (ap uV ?_)
 refine ak (ap uW ?_)
 refine ak (ap uF ?_)
 refine ak (ap wY ?_)
 refine ak (ap uA ?_)
 refine ak (aU 10 2 ql fun p1=>?_)
 refine jU 20513 ?_;refine jE (freeze 0 rfl) ?_;refine jE (eP 22 (fun a c=>B6 (jy.getD a (0,[])).1 (jy.getD a (0,[])).2 c) rfl rfl jD (fun a c ha hc=>by rcases a with _|_|_|_|_|a <;> (rcases c with _|_|c <;> first|exact cZ|omega))) ?_;refine jE (dB (H':=[]) [] jD rfl) ?_;refine aF (α:=Nat) [2,5,6,7,8,9,24,25,26,27,28,29,30,31,32,33,34,35,36,37,38,39,40,41,42,43,44,45,46,47,48,49,50,51,52,53,54,55,56,57,58,59,60,61,62,63,64,65,66,67,68,69,70,71,72,73,74,75] (fun i=>[(24,.c (.int .i64 (i:Nat)))]) (fun _=>[]) (fun i=>i≤5) (fun i=>5-i) (0) ?_ (fun _=>rfl) ?_ ?_ ?_
 ·exact Nat.zero_le _
 ·exact .cons cZ .nil
 ·(repeat (exact aS.nil))
 ·rintro i (hi:i≤5)
  refine jU 7526 ?_;refine aq (fun h148=>?_) fun h148=>?_
  rotate_left
  ·refine jU 1684000200020006000 ?_
   refine ak (ap (FM b jO) ?_ (ho:=rfl) (he:=(.cons (se rfl ab.mark) .nil)))
   refine jU 1 ?_
   refine ak (ap (B8 b jO) ?_)
   refine jU 12 ?_;refine ay 81 (fun g158=>?_) fun g158=>?_
   ·refine jU 11 ?_
    refine ak (ap (LS b) ?_)
    refine jU 8000700051100000000 ?_;refine cB ?_
    rfl
   refine jU 8000700051500444 ?_;refine cB ?_
   (simp_all;done)
  refine jU 7006207810 ?_;refine jq (gq 2) ?_
  refine ak (bD (n:=2) ql rfl fun p2=>?_)
  refine ar (bh 2 (B6 (jy.getD i (0,[])).1 (jy.getD i (0,[])).2) ?_ ?_)
  ·exact (fun j hj=>by rcases j with _|_|j <;> first|exact cZ|omega)
  refine jU 5 ?_
  obtain ⟨NZ,hp⟩:=Ht (i:=i) jO
  have okk:=NZ.kind
  have okl:=NZ.len
  have oko:=NZ.ok
  have oks:=NZ.spec
  clear NZ
  generalize (jy.getD i (0,[])).1=kd at *
  generalize (jy.getD i (0,[])).2=fs at *
  have hk28:=Nz kd fs b
  have hln:=kK (rV (kind:=kd) oko b)
  have hbk:=fun h=>(w6 (kind:=kd) oko (b:=b) h).1
  refine jU 150906 ?_
  refine ak (ap (E2 kd fs hp b jO) ?_ (ho:=rfl) (he:=(.cons (se rfl cZ) (.cons (se rfl ab.mark) .nil))))
  refine jU 65119009001 ?_;refine eL (aV 2) ?_;refine jU 1 ?_
  refine ak (ap (uB kd okk fs okl oko oks b jO) ?_ (ho:=rfl) (he:=(.cons (se rfl (ab.agg rfl (fun j hj=>by rcases j with _|_|j <;> exact cZ))) (.cons (se rfl cZ) .nil))))
  refine jU 775119009001 ?_;refine ff (.rd 0 (.rd 2 (.one 1 (.rd 3 (.rd 4 (.rd 5 (.rd 6 (.rd 7 (.rd 8 (.rd 9 (.one 10 (.rd 11 (.rd 12 (.rd 13 (.rd 14 (.rd 17 (.rd 18 (.one 15 (.rd 16 (.rd 19 (.rd 20 (.rd 21 (.rd 22 .done))))))))))))))))))))))) ?_;refine jU 7070 ?_
  refine kO (ap (Ik (aR kd fs b).2 hk28) ?_)
  refine jU 70800 ?_;refine gG 45 (fun g151=>?_) fun g151=>?_
  ·refine jU 600600600600600 ?_;refine pY ?_;refine jU 600600600600600600 ?_;refine pY ?_;refine jU 8000300050003000300050003000700051690008803000000600600600600 ?_
   exfalso
   (simp_all;done)
  refine jU 7080070 ?_;refine gG 48 (fun g151_2=>?_) fun g151_2=>?_
  rotate_left
  ·refine jU 600600 ?_;refine pY ?_;refine jU 600600600600600600 ?_;refine pY ?_;refine jU 1216810300880300000300000600600600 ?_;refine ay 66 (fun g154=>?_) fun g154=>?_
   rotate_left
   ·refine jU 851920084001030055004444444 ?_
    refine aw (i+1) ?_ ?_ (h5:=?_)
    ·show i+1≤5;omega
    ·show 5-(i+1)<5-i;omega
    ·exact .cons (cI jO) .nil
   refine jU 3501001 ?_
   refine ak (Ju (F:=(eK 6 yh V4.z (List.replicate fs.length V4.z))) rfl rfl rfl (by exact rfl) (by exact rfl) (by (omega)) Tryz.underlying45 Dr dq Ei (by (omega)) (by (omega)) (fun j hj=>zD _ j) rfl rfl (fun p3=>?_))
   have hz:=Hu (kind:=kd) (fs:=fs) (b:=b) jO
   refine bg (freeze 1 rfl) ?_;refine bg (eP 71 (fun a c=>yh ((List.replicate fs.length V4.z).getD a V4.z) c) rfl rfl (by simp) (fun a c ha hc=>ab.of_eq (by rw [Nat.zero_add,gL hc]))) ?_
   refine ak (ap (pP (List.replicate fs.length V4.z) (by simp;omega)) ?_ (ho:=rfl) (he:=(.cons (se rfl (by rw [hz];exact cZ)) (.cons (se rfl (ab.rs (by simp) fun i j _ _=>cZ)) .nil))))
   refine jU 510000000030 ?_;refine aq (fun h154=>?_) fun h154=>?_
   ·refine jU 8000300050003000300050007000516 ?_
    exfalso
    (simp_all;done)
   refine jU 8519200840010 ?_
   refine aw (i+1) ?_ ?_ (h5:=?_)
   ·show i+1≤5;omega
   ·show 5-(i+1)<5-i;omega
   ·exact .cons (cI jO) .nil
  refine jU 7070 ?_
  refine kO (ap (pP (aR kd fs b).1 jO) ?_ (ho:=rfl) (he:=(.cons (se rfl cZ) (.cons (se rfl (by rw [jP];exact cZ)) .nil))))
  refine jU 70100000 ?_;refine gG 53 (fun g151_3=>?_) fun g151_3=>?_
  ·refine jU 600600600600 ?_;refine pY ?_;refine jU 80003000500030003000500030007000516900088030000030000003000000600600 ?_
   exfalso
   (simp_all;done)
  refine Ki (aV 2) ?_;refine jU 7070 ?_;refine bV (rY rfl rfl Tryz.underlying22 Tryz.underlying5 Tryz.underlying9) ?_
  refine kO (ap (As kd okk fs (aR kd fs b).1 oko okl (om (rV oko b) (by have h:=(w6 (kind:=kd) oko (b:=b) jO).2;unfold aQ at h;rw [Bool.and_eq_true] at h;exact h.1))) ?_ (ho:=rfl) (he:=(.cons (se rfl (ab.agg rfl (fun j hj=>by rcases j with _|_|j <;> exact cZ))) (.cons (se rfl (by rw [jP];exact cZ)) .nil))))
  refine bV (rY rfl rfl Tryz.underlying22 Tryz.underlying5 Tryz.underlying9) ?_;refine bV (HA rfl rfl rfl) ?_;refine jU 8803000003000000300000 ?_;refine aq (fun h151=>?_) fun h151=>?_
  ·refine jU 80003000500030003000500030007000516 ?_
   exfalso
   (simp_all;done)
  refine jU 1216810 ?_;refine ay 66 (fun g154=>?_) fun g154=>?_
  rotate_left
  ·refine jU 851920084001030055004444444 ?_
   refine aw (i+1) ?_ ?_ (h5:=?_)
   ·show i+1≤5;omega
   ·show 5-(i+1)<5-i;omega
   ·exact .cons (cI jO) .nil
  refine jU 3501001 ?_
  refine ak (Ju (F:=(eK 6 yh V4.z (List.replicate fs.length V4.z))) rfl rfl rfl (by exact rfl) (by exact rfl) (by (omega)) Tryz.underlying45 Dr dq Ei (by (omega)) (by (omega)) (fun j hj=>zD _ j) rfl rfl (fun p3=>?_))
  have hz:=Hu (kind:=kd) (fs:=fs) (b:=b) jO
  refine bg (freeze 1 rfl) ?_;refine bg (eP 71 (fun a c=>yh ((List.replicate fs.length V4.z).getD a V4.z) c) rfl rfl (by simp) (fun a c ha hc=>ab.of_eq (by rw [Nat.zero_add,gL hc]))) ?_
  refine ak (ap (pP (List.replicate fs.length V4.z) (by simp;omega)) ?_ (ho:=rfl) (he:=(.cons (se rfl (by rw [hz];exact cZ)) (.cons (se rfl (ab.rs (by simp) fun i j _ _=>cZ)) .nil))))
  refine jU 510000000030 ?_;refine aq (fun h154=>?_) fun h154=>?_
  ·refine jU 8000300050003000300050007000516 ?_
   exfalso
   (simp_all;done)
  refine jU 8519200840010 ?_
  refine aw (i+1) ?_ ?_ (h5:=?_)
  ·show i+1≤5;omega
  ·show 5-(i+1)<5-i;omega
  ·exact .cons (cI jO) .nil
end
end Am
end Go.Proofs.YthlpfjnkieaeeaaGreatDoor
