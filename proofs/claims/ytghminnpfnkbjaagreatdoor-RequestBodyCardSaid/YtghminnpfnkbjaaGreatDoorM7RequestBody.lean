/- What the law leans on, part 7 -/
import Derived.Test.YtghminnpfnkbjaaGreatDoorM6RequestBody
import Derived.Shelf.SlSortCmp.Kit1
import Derived.Shelf.Strings.Builder1
import Derived.Shelf.Strings.Builder2
import Derived.Shelf.Strings.OnBuilder
import Derived.Shelf.Small.Bits
import Derived.Shelf.Small.Strs
import Derived.Shelf.Strconv.Itoa0
import Derived.Shelf.Strings.Search1
import Derived.Shelf.Strings.Search2
import Derived.Shelf.Strings.Search3
import Derived.Shelf.LaysM
import Derived.Shelf.Strings.Shaped
import Derived.Shelf.Strings.Prefix
import Derived.Shelf.Unicode.Decode
import Derived.Shelf.Unicode.DecodeSlow
import Derived.Shelf.Unicode.DecodeAny
import Derived.Ground.Names2Prog
import Derived.Shelf.Slices.Clone
import Derived.Shelf.Slices.CompactS
import Derived.Shelf.Slices.Cells
import Derived.Ground.SlgnProg
import Derived.Shelf.SlicesE.Clone
import Derived.Test.YtghminnpfnkbjaaGreatDoorProg
import Derived.Shelf.SlSortCmp.NoneTotal
import Derived.Ground.SlsfProg
set_option maxRecDepth 100000
set_option maxHeartbeats 8000000
set_option linter.unusedVariables false
variable {gs:List Nat}
open Go.Proofs.Tryz
namespace Go.Proofs.YtghminnpfnkbjaaGreatDoor
namespace Am
open Go.RowKit
theorem Ar {rec:Nat→I→Nat×Nat} {set:Bool} {lv:Nat}:∀ {fuel:Nat} {b last:I} {dp:Nat},(fZ rec set lv fuel b last dp).2≠0→(fZ rec set lv fuel b last dp).1=0
 | 0,b,last,dp,h=>by simp [fZ] at h
 | fuel+1,b,last,dp,h=>by
  unfold fZ at h ⊢
  split
  ·rename_i h1;rw [Zz h1] at h;exact absurd rfl h
  ·rename_i h1;rw [Zy h1] at h
   split
   rfl
   ·rename_i h2;rw [Zy h2] at h
    split
    rfl
    ·rename_i h3;rw [Zy h3] at h
     split
     rfl
     ·rename_i h4;rw [Zy h4] at h
      split
      rfl
      ·rename_i h5;rw [Zy h5] at h
       exact Ar h
theorem Aq {rec:Nat→I→Nat×Nat} {set:Bool} {lv:Nat}:∀ {fuel:Nat} {b last:I} {dp:Nat},1≤dp→(fZ rec set lv fuel b last dp).2=0→1≤(fZ rec set lv fuel b last dp).1
 | 0,b,last,dp,hd,h=>hd
 | fuel+1,b,last,dp,hd,h=>by
  have hn:=gT b
  unfold fZ at h ⊢
  split
  exact hd
  ·rename_i h1;rw [Zy h1] at h
   split
   ·rename_i h2;rw [Zz h2] at h;exact absurd h h2
   ·rename_i h2;rw [Zy h2] at h
    split
    ·rename_i h3;rw [Zz h3] at h;exact absurd h jD
    ·rename_i h3;rw [Zy h3] at h
     split
     ·rename_i h4;rw [Zz h4] at h;exact absurd h h4
     ·rename_i h4;rw [Zy h4] at h
      split
      ·rename_i h5;rw [Zz h5] at h;exact absurd h jD
      ·rename_i h5;rw [Zy h5] at h
       exact Aq O h
theorem rD {lv tag:Nat} {body:I} (h:(be lv tag body).2=0):1≤(be lv tag body).1:=by
 match lv with
 | 0=>simp [be]
 | lv+1 =>
  unfold be at h ⊢
  split
  ·simp
  ·rename_i h1;rw [Zy h1] at h
   exact Aq (ZA _) h
def zq (lv:Nat) (set:Bool) (body:I):Nat×Nat:=fZ (be lv) set (lv+1) body.length body [] 1
theorem sC {b:I} (h:(ah b).e=0):Lr b=b.length-(ah b).rest.length:=by unfold Lr;rw [Zz h]
theorem J7 {b:I} (h:(ah b).e=0):(ah b).body=(b.take (Lr b)).drop (tA b)∧(ah b).rest=b.drop (Lr b)∧tA b≤Lr b∧Lr b≤b.length:=by
 obtain ⟨n,k,hk,hr,hn,hkl,hb⟩:∃ n k,k≤b.length∧(ah b).rest=(b.drop k).drop n∧n≤b.length-k∧k≤b.length∧(ah b).body=(b.drop k).take n:=by
  have hm:∀ c:I,(cm c).e=0→∃ k,k≤c.length∧(cm c).rest=c.drop k:=by
   intro c
   unfold cm
   split
   ·intro h;exact absurd h jD
   ·dsimp only
    split
    exact fun _=>⟨1,by omega,rfl⟩
    ·split
     ·intro h;exact absurd h jD
     ·split
      ·intro h;exact absurd h jD
      ·split
       ·intro h;exact absurd h jD
       ·rename_i h1 h2 h3 h4 h5
        rw [ZI] at h4
        exact fun _=>⟨1+((c.getD 0 0).toNat-128),by omega,by dsimp only;rw [aZx]⟩
  unfold ah at h ⊢
  split
  ·rename_i h1;rw [Zz h1] at h;exact absurd h jD
  ·rename_i h1;rw [Zy h1] at h
   split
   ·rename_i h2;rw [Zz h2] at h;exact absurd h jD
   ·rename_i h2;rw [Zy h2] at h
    dsimp only at h ⊢
    split
    ·rename_i h3;rw [Zz h3] at h;exact absurd h h3
    ·rename_i h3;rw [Zy h3] at h
     split
     ·rename_i h4;rw [Zz h4] at h;exact absurd h jD
     ·rename_i h4;rw [Zy h4] at h
      split
      ·rename_i h5;rw [Zz h5] at h;exact absurd h jD
      ·rename_i h5
       obtain ⟨k,hk,hr⟩:=hm (b.drop 1) O
       rw [ZI] at hk
       rw [hr,ZI,ZI] at h5
       exact ⟨(cm (b.drop 1)).n,1+k,by omega,by rw [hr,aZx],by omega,by omega,by rw [hr,aZx]⟩
 have e1:Lr b=k+n:=by
  rw [sC h,hr,ZI,ZI]
  omega
 have e2:tA b=k:=by
  unfold tA
  rw [Zz h,hb,hr,ZK,ZI,ZI]
  omega
 rw [e1,e2,hb,hr]
 refine ⟨?_,by rw [aZx],by omega,by omega⟩
 rw [List.drop_take]
 congr 1
 omega
theorem rE {lv tag:Nat} {body:I} (h:bO tag=false):be lv tag body=(1,0):=by
 match lv with
 | 0=>rfl
 | lv+1=>unfold be;rw [Zz h]
theorem I5:∀ (lv:Nat) (set:Bool) (body:I),lv≤16→body.length≤1000000→cd gs prog 176 [bc body,.c (.int .i64 (lv:Nat)),.c (.bool set)] (.tup 2 (fl [.c (.int .i64 ((zq lv set body).1-1:Nat)),.c (.int .i64 (zq lv set body).2)])):=by
 intro lv
 induction lv using Nat.strongRecOn with
 | _ lv ih =>
 intro set body hlv hbody
 have ih':1≤lv→∀ (tag:Nat) (body:I),bO tag=true→body.length≤1000000→cd gs prog 176 [bc body,.c (.int .i64 ((lv:Int)-1)),.c (.bool (decide (tag=49)))] (.tup 2 (fl [.c (.int .i64 ((be lv tag body).1-1:Nat)),.c (.int .i64 (be lv tag body).2)])):=fun h tag body hm hb=>by
  have:=ih (lv-1) O (decide (tag=49)) body O hb
  have e:be lv tag body=zq (lv-1) (decide (tag=49)) body:=by
   obtain ⟨m,rfl⟩:∃ m,lv=m+1:=⟨lv-1,by omega⟩
   unfold be zq
   rw [Zy (by rw [hm];exact Bool.noConfusion)]
   rfl
  rw [e,show (lv:Int)-1=((lv-1:Nat):Int) by omega]
  exact this
 have hR:∀ t b,(be lv t b).1≤lv+1∧(be lv t b).2≤7:=fun t b=>uh lv t b
 refine ae 73 func176 fun _ _ _ _=>?_;refine U 65165116 ?_
 refine aq (aM 0 1 da fun p1=>?_)
 refine U 20751 ?_;refine jE (freeze 0 rfl) ?_;refine jE (iG 9 (fun i _=>aV [] i) rfl rfl O (fun a b ha hb=>absurd ha (ZO a))) ?_;refine jE (ce (H':=[]) [] jD rfl) ?_;refine ar (α:=WS) [0,6,7,8,9,10,11,12,13,14,15,16,18,19,20,21,22,23,24,25,26,27,28,29,30,31,32,33,34,35,36,37,38,39,40,41,42,43,44,45,46,47,48,49,50,51,52,53,54,55,56,57,58,59,60,61,62,63,64,65,66,67,68,69,70,71] (fun x=>[(0,bc x.b),(8,.c (.int .i64 ((x.dp-1:Nat):Int))),(9,bc x.last)]) (fun _=>[]) (fun x=>1≤x.dp∧x.b.length≤x.f∧x.b.length≤1000000∧x.dp≤lv+2∧fZ (be lv) set (lv+1) x.f x.b x.last x.dp=zq lv set body) (fun x=>x.f) (⟨body.length,body,[],1⟩) ?_ (fun _=>rfl) ?_ ?_ ?_
 exact ⟨ZA _,ZA _,hbody,by show 1≤lv+2;omega,rfl⟩
 ·(repeat (first|exact bh.nil|refine bh.cons Z ?_))
 ·(repeat (exact aD.nil))
 ·rintro x ⟨hd1,hxf,hxb',hdp,hw⟩
  have hxb:x.b.length≤10000000:=by omega
  have hnb:=gT x.b
  refine U 523167 ?_;refine aaa (fun h97=>?_) fun h97=>?_
  ·refine U 800070005111684000200020006000 ?_
   obtain hnil:x.b=[]:=Z5 O
   rw [hnil,qz] at hw
   rw [← hw]
   exact Z
  refine U 1620810 ?_
  refine aq (ak (Dj x.b hxb) ?_)
  refine U 52167511119009009009001 ?_;refine an (fun h99=>?_) fun h99=>?_
  ·refine U 800030005000300050003000700051116 ?_
   rw [← hw,cg _ _ _ _ _ _ _ O hxf,jP]
   exact Z
  refine U 7810 ?_
  have he:¬(ah x.b).e≠0:=by omega
  have hcut:=J7 (b:=x.b) O
  have htm:=sC (b:=x.b) O
  refine U 5216 ?_;refine an (fun h102=>?_) fun h102=>?_
  ·refine U 80003000500030005000300070005116 ?_
   rw [← hw,cg _ _ _ _ _ _ _ O hxf,Zy he,jP]
   exact Z
  refine U 810 ?_
  have hW:=hR (ah x.b).tag (ah x.b).body
  refine U 167516 ?_
  refine aq (ak (xk _) ?_)
  refine U 5 ?_;refine aaa (fun h106=>?_) fun h106=>?_
  ·refine U 77810 ?_
   have hw0:¬(be lv (ah x.b).tag (ah x.b).body).2≠0:=by (rw [rE (aex h106)];decide)
   have hw1:=rD (a3x.1 hw0)
   refine jE (bj 14 (.c (.int .i64 ((be lv (ah x.b).tag (ah x.b).body).1:Nat))) (cI (by (rw [rE (aex h106)];rfl)))) ?_;refine dQ (.rd 0 (.rd 1 (.rd 2 (.rd 3 (.rd 4 (.rd 5 (.rd 6 (.rd 7 (.rd 8 (.rd 9 .done)))))))))) ?_;refine U 7070 ?_;refine ze 53 (fun g113=>?_) fun g113=>?_
   rotate_left
   ·refine U 7810300880300000600600600600600600600 ?_
    have hset:¬(set=true∧Op.bytesLess (x.b.take (x.b.length-(ah x.b).rest.length)) x.last=true):=by
     rintro ⟨h1,h2⟩
     rw [← htm] at h2
     (rw [h1] at g113;exact absurd g113 jD)
    refine U 52116 ?_;refine aaa (fun h116=>?_) fun h116=>?_
    ·refine U 112005190000000116810 ?_;refine jq o0 ?_;refine U 840051 ?_
     refine am (⟨x.f-1,(ah x.b).rest,x.b.take (x.b.length-(ah x.b).rest.length),max x.dp ((be lv (ah x.b).tag (ah x.b).body).1+1)⟩) ?_ ?_ (h5:=?_)
     ·exact ⟨by dsimp only;omega,by dsimp only;omega,by dsimp only;omega,by dsimp only;omega,by
       dsimp only
       rw [← hw,cg _ _ _ _ _ _ _ O hxf,Zy he,jK,Zy hw0,Zy hset]⟩
     ·dsimp only
      omega
     exact .cons (aa.bs hcut.2.1.symm) (.cons (cI (by dsimp only;omega)) (.cons (aa.bs (by rw [htm])) .nil))
    refine U 1120051900000001168511200 ?_;refine jq o0 ?_;refine U 840051 ?_
    refine am (⟨x.f-1,(ah x.b).rest,x.b.take (x.b.length-(ah x.b).rest.length),max x.dp ((be lv (ah x.b).tag (ah x.b).body).1+1)⟩) ?_ ?_ (h5:=?_)
    ·exact ⟨by dsimp only;omega,by dsimp only;omega,by dsimp only;omega,by dsimp only;omega,by
      dsimp only
      rw [← hw,cg _ _ _ _ _ _ _ O hxf,Zy he,jK,Zy hw0,Zy hset]⟩
    ·dsimp only
     omega
    exact .cons (aa.bs hcut.2.1.symm) (.cons (cI (by dsimp only;omega)) (.cons (aa.bs (by rw [htm])) .nil))
   refine U 7070 ?_;refine aJ D5 ?_;refine U 300000007030000000 ?_;refine aJ zh ?_;refine U 8803000000 ?_;refine an (fun h113=>?_) fun h113=>?_
   ·refine U 80003000500030005000300070005116 ?_
    rw [← hw,cg _ _ _ _ _ _ _ O hxf,Zy he,jK,Zy hw0,Zz ⟨by assumption,by rw [← htm];simpa using h113⟩]
    exact Z
   refine U 7810 ?_
   have hset:¬(set=true∧Op.bytesLess (x.b.take (x.b.length-(ah x.b).rest.length)) x.last=true):=by
    rintro ⟨h1,h2⟩
    rw [← htm] at h2
    (rw [h2] at h113;exact absurd h113 jD)
   refine U 52116 ?_;refine aaa (fun h116=>?_) fun h116=>?_
   ·refine U 112005190000000116810 ?_;refine jq o0 ?_;refine U 840051 ?_
    refine am (⟨x.f-1,(ah x.b).rest,x.b.take (x.b.length-(ah x.b).rest.length),max x.dp ((be lv (ah x.b).tag (ah x.b).body).1+1)⟩) ?_ ?_ (h5:=?_)
    ·exact ⟨by dsimp only;omega,by dsimp only;omega,by dsimp only;omega,by dsimp only;omega,by
      dsimp only
      rw [← hw,cg _ _ _ _ _ _ _ O hxf,Zy he,jK,Zy hw0,Zy hset]⟩
    ·dsimp only
     omega
    exact .cons (aa.bs hcut.2.1.symm) (.cons (cI (by dsimp only;omega)) (.cons (aa.bs (by rw [htm])) .nil))
   refine U 1120051900000001168511200 ?_;refine jq o0 ?_;refine U 840051 ?_
   refine am (⟨x.f-1,(ah x.b).rest,x.b.take (x.b.length-(ah x.b).rest.length),max x.dp ((be lv (ah x.b).tag (ah x.b).body).1+1)⟩) ?_ ?_ (h5:=?_)
   ·exact ⟨by dsimp only;omega,by dsimp only;omega,by dsimp only;omega,by dsimp only;omega,by
     dsimp only
     rw [← hw,cg _ _ _ _ _ _ _ O hxf,Zy he,jK,Zy hw0,Zy hset]⟩
   ·dsimp only
    omega
   exact .cons (aa.bs hcut.2.1.symm) (.cons (cI (by dsimp only;omega)) (.cons (aa.bs (by rw [htm])) .nil))
  refine U 1116 ?_;refine jq Xf ?_;refine U 2191 ?_
  refine aq (ak (ih' O (ah x.b).tag (ah x.b).body (abx h106) O) ?_ (ho:=rfl) (he:=(.cons (se rfl (aa.bs hcut.1.symm)) (.cons (se rfl Z) (.cons (se rfl (cB (decide_eq_decide.2 O))) .nil)))))
  refine U 521675119009001 ?_;refine an (fun h108=>?_) fun h108=>?_
  ·refine U 8000300050003000500030003000700051116 ?_
   rw [← hw,cg _ _ _ _ _ _ _ O hxf,Zy he,jK,jP]
   exact Z
  refine U 7785191200810 ?_
  have hw0:¬(be lv (ah x.b).tag (ah x.b).body).2≠0:=by omega
  have hw1:=rD (a3x.1 hw0)
  refine jE (bj 14 (.c (.int .i64 ((be lv (ah x.b).tag (ah x.b).body).1:Nat))) (cI O)) ?_;refine dQ (.rd 0 (.rd 1 (.rd 2 (.rd 3 (.rd 4 (.rd 5 (.rd 6 (.rd 7 (.rd 8 (.rd 9 .done)))))))))) ?_;refine U 7070 ?_;refine ze 53 (fun g113=>?_) fun g113=>?_
  rotate_left
  ·refine U 7810300880300000600600600600600600600 ?_
   have hset:¬(set=true∧Op.bytesLess (x.b.take (x.b.length-(ah x.b).rest.length)) x.last=true):=by
    rintro ⟨h1,h2⟩
    rw [← htm] at h2
    (rw [h1] at g113;exact absurd g113 jD)
   refine U 52116 ?_;refine aaa (fun h116=>?_) fun h116=>?_
   ·refine U 112005190000000116810 ?_;refine jq o0 ?_;refine U 840051 ?_
    refine am (⟨x.f-1,(ah x.b).rest,x.b.take (x.b.length-(ah x.b).rest.length),max x.dp ((be lv (ah x.b).tag (ah x.b).body).1+1)⟩) ?_ ?_ (h5:=?_)
    ·exact ⟨by dsimp only;omega,by dsimp only;omega,by dsimp only;omega,by dsimp only;omega,by
      dsimp only
      rw [← hw,cg _ _ _ _ _ _ _ O hxf,Zy he,jK,Zy hw0,Zy hset]⟩
    ·dsimp only
     omega
    exact .cons (aa.bs hcut.2.1.symm) (.cons (cI (by dsimp only;omega)) (.cons (aa.bs (by rw [htm])) .nil))
   refine U 1120051900000001168511200 ?_;refine jq o0 ?_;refine U 840051 ?_
   refine am (⟨x.f-1,(ah x.b).rest,x.b.take (x.b.length-(ah x.b).rest.length),max x.dp ((be lv (ah x.b).tag (ah x.b).body).1+1)⟩) ?_ ?_ (h5:=?_)
   ·exact ⟨by dsimp only;omega,by dsimp only;omega,by dsimp only;omega,by dsimp only;omega,by
     dsimp only
     rw [← hw,cg _ _ _ _ _ _ _ O hxf,Zy he,jK,Zy hw0,Zy hset]⟩
   ·dsimp only
    omega
   exact .cons (aa.bs hcut.2.1.symm) (.cons (cI (by dsimp only;omega)) (.cons (aa.bs (by rw [htm])) .nil))
  refine U 7070 ?_;refine aJ D5 ?_;refine U 300000007030000000 ?_;refine aJ zh ?_;refine U 8803000000 ?_;refine an (fun h113=>?_) fun h113=>?_
  ·refine U 80003000500030005000300070005116 ?_
   rw [← hw,cg _ _ _ _ _ _ _ O hxf,Zy he,jK,Zy hw0,Zz ⟨by assumption,by rw [← htm];simpa using h113⟩]
   exact Z
  refine U 7810 ?_
  have hset:¬(set=true∧Op.bytesLess (x.b.take (x.b.length-(ah x.b).rest.length)) x.last=true):=by
   rintro ⟨h1,h2⟩
   rw [← htm] at h2
   (rw [h2] at h113;exact absurd h113 jD)
  refine U 52116 ?_;refine aaa (fun h116=>?_) fun h116=>?_
  ·refine U 112005190000000116810 ?_;refine jq o0 ?_;refine U 840051 ?_
   refine am (⟨x.f-1,(ah x.b).rest,x.b.take (x.b.length-(ah x.b).rest.length),max x.dp ((be lv (ah x.b).tag (ah x.b).body).1+1)⟩) ?_ ?_ (h5:=?_)
   ·exact ⟨by dsimp only;omega,by dsimp only;omega,by dsimp only;omega,by dsimp only;omega,by
     dsimp only
     rw [← hw,cg _ _ _ _ _ _ _ O hxf,Zy he,jK,Zy hw0,Zy hset]⟩
   ·dsimp only
    omega
   exact .cons (aa.bs hcut.2.1.symm) (.cons (cI (by dsimp only;omega)) (.cons (aa.bs (by rw [htm])) .nil))
  refine U 1120051900000001168511200 ?_;refine jq o0 ?_;refine U 840051 ?_
  refine am (⟨x.f-1,(ah x.b).rest,x.b.take (x.b.length-(ah x.b).rest.length),max x.dp ((be lv (ah x.b).tag (ah x.b).body).1+1)⟩) ?_ ?_ (h5:=?_)
  ·exact ⟨by dsimp only;omega,by dsimp only;omega,by dsimp only;omega,by dsimp only;omega,by
    dsimp only
    rw [← hw,cg _ _ _ _ _ _ _ O hxf,Zy he,jK,Zy hw0,Zy hset]⟩
  ·dsimp only
   omega
  exact .cons (aa.bs hcut.2.1.symm) (.cons (cI (by dsimp only;omega)) (.cons (aa.bs (by rw [htm])) .nil))
theorem PP {b:I} (h:(ah b).e=0) (hr:(ah b).rest=[]):((zq 16 false b).1-1,(zq 16 false b).2)=be 16 (ah b).tag (ah b).body:=by
 have hb:b≠[]:=by rintro rfl;exact absurd h jD
 have hl:0<b.length:=aax.2 hb
 unfold zq
 rw [cg _ _ _ _ _ _ _ hl (ZA _),jK,Zy jD]
 by_cases hw:(be 16 (ah b).tag (ah b).body).2=0
 ·have:=rD hw
  rw [jK,Zy (by simp),hr,qz]
  refine czx ?_ hw.symm
  show max 1 _-1=_
  omega
 ·rw [Zz hw]
  refine czx ?_ rfl
  show 0-1=_
  have:(be 16 (ah b).tag (ah b).body).1=0:=by
   unfold be at hw ⊢
   split
   ·rename_i h1;rw [Zz h1] at hw;exact absurd rfl hw
   ·rename_i h1;rw [Zy h1] at hw;exact Ar hw
  omega
theorem JM (b:I) (hb:b.length≤1000000):cd gs prog 136 [bc b] (.tup 2 (fl [.c (.int .i64 (aR b).1),.c (.int .i64 (aR b).2)])):=by
 have hnb:=gT b
 refine ae 29 func136 fun _ _ _ _=>?_;refine U 5231675116 ?_;refine an (fun h127=>?_) fun h127=>?_
 ·refine U 8000300070005116 ?_
  unfold aR
  rw [jP]
  exact Z
 refine U 16810 ?_
 refine aq (ak (Dj b O) ?_)
 refine U 52167511119009009009001 ?_;refine an (fun h131=>?_) fun h131=>?_
 ·refine U 80003000700051116 ?_
  unfold aR
  rw [jK,jP]
  exact Z
 refine U 5231167810 ?_;refine an (fun h134=>?_) fun h134=>?_
 ·refine U 8000300070005116 ?_
  have htm:=sC (b:=b) O
  unfold aR
  rw [jK,jK,jP]
  exact Z
 refine U 16810 ?_
 refine aq (ak (I5 16 false b O hb) ?_)
 refine U 80007000511900900 ?_
 have htm:=sC (b:=b) O
 have hr:(ah b).rest=[]:=Z5 O
 have:=PP (b:=b) O hr
 have hd:aR b=((zq 16 false b).1-1,(zq 16 false b).2):=by
  unfold aR
  rw [jK,jK,jK,this]
 rw [hd]
 exact Z
theorem sd (x:Int) (w:World):Calls prog 261 #[.int .u8 x] w fun e w'=>e=.returned (.bool false)∧w'=w:=by
 go_enter func261,ntmps261
 go_wp2
 go_ret
 exact ⟨rfl,rfl⟩
theorem EU (a b:UInt8) (w:World):Calls prog 240 #[.int .u8 (a.toNat:Nat),.int .u8 (b.toNat:Nat)] w fun e w'=>e=.returned (.int .i64 (gG a b))∧w'=w:=by
 rcases bYx a.toNat b.toNat with h|h|h
 ·have HF:Hid (gG a b=-1):=by unfold gG;rw [Zz h];rfl
  have h1:decide (((a.toNat:Nat):Int)<(b.toNat:Nat))=true:=by simp;omega
  go_enter func240,ntmps240
  go_wp2_with (go_at_call 261;refine (sd _ _).mono ?_;rintro e w' ⟨rfl,rfl⟩)
  go_ret
  exact ⟨by rw [HF.out];rfl,rfl⟩
 ·have HF:Hid (gG a b=0):=by unfold gG;rw [jK,jK];rfl
  have h1:decide (((a.toNat:Nat):Int)<(b.toNat:Nat))=false:=by simp;omega
  have h2:decide (((b.toNat:Nat):Int)<(a.toNat:Nat))=false:=by simp;omega
  go_enter func240,ntmps240
  go_wp2_with (go_at_call 261;refine (sd _ _).mono ?_;rintro e w' ⟨rfl,rfl⟩)
  go_ret
  exact ⟨by rw [HF.out];rfl,rfl⟩
 ·have HF:Hid (gG a b=1):=by unfold gG;rw [jK,Zz h];rfl
  have h1:decide (((a.toNat:Nat):Int)<(b.toNat:Nat))=false:=by simp;omega
  have h2:decide (((b.toNat:Nat):Int)<(a.toNat:Nat))=true:=by simp;omega
  go_enter func240,ntmps240
  go_wp2_with (go_at_call 261;refine (sd _ _).mono ?_;rintro e w' ⟨rfl,rfl⟩)
  go_ret
  exact ⟨by rw [HF.out];rfl,rfl⟩
theorem Ij {w:World} {ao:Option Addr} {n cap:Nat} {l:I} (h:Bs w (.slice ao n cap) l) {k:Nat} (hk:k<l.length):∃ b o,ao=some ⟨b,o,none⟩∧w.cell? ⟨b,o+k,none⟩=some (.int .u8 (l.getD k 0).toNat):=by
 have ⟨b,o,cap',e,h1,h2,h3⟩:=h.cons O
 injection e with e1 e2 e3
 exact ⟨b,o,e1,h3 k hk⟩
theorem Cp {w:World} {v1 v2:Value} {l r:I} (h1:Bs w v1 l) (h2:Bs w v2 r):Calls prog 204 #[v1,v2] w fun e w'=>e=.returned (.int .i64 (eS l r))∧w'=w:=by
 obtain ⟨ao1,cap1,rfl,a1,a2,-,-⟩:=id h1
 obtain ⟨ao2,cap2,rfl,b1,b2,-,-⟩:=id h2
 have H1:=Lib.hid h1
 have H2:=Lib.hid h2
 clear h1 h2
 have L1:(l.length:Int)≤9223372036854775807:=by omega
 have A1:=Lib.hid a1;have A2:=Lib.hid a2;have B1:=Lib.hid b1;have B2:=Lib.hid b2
 clear a1 a2 b1 b2
 go_enter func204,ntmps204
 go_wp2
 go_loopw [11] (fun i wr=>∃ k:Nat,Hid (k≤l.length∧k≤r.length∧eS (l.drop k) (r.drop k)=eS l r)∧i=.int .i64 k∧wr=w) (fun i _=>l.length-(intOf i).toNat)
 case atStart=>exact ⟨0,⟨ZL _,ZL _,rfl⟩,rfl,rfl⟩
 case round =>
  obtain ⟨k,HK,rfl,rfl⟩:=hrel
  by_cases hk:k<l.length
  ·have q1:decide ((k:Int)<(l.length:Int))=true:=by simp;omega
   obtain ⟨p1,o1,rfl,c1⟩:=Ij H1.out hk
   by_cases hr:k<r.length
   ·have q2:decide ((r.length:Int)≤(k:Int))=false:=by simp;omega
    obtain ⟨p2,o2,rfl,c2⟩:=Ij H2.out hr
    have HS:=Lib.hid (vj (l:=l) (r:=r) (i:=k) hk hr)
    have i1:(0:Int)≤(k:Int):=by omega
    have i2:(k:Int)<(l.length:Int):=by omega
    have i3:(k:Int)<(r.length:Int):=by omega
    generalize l.getD k 0=x at c1 HS
    generalize r.getD k 0=y at c2 HS
    by_cases hz:gG x y=0
    ·have HZ:=Lib.hid hz
     have q3:(gG x y != 0)=false:=by rw [hz];rfl
     clear hz
     go_wp2_with (go_at_call 240;refine (EU _ _ _).mono ?_;rintro e w' ⟨rfl,rfl⟩)
     case roundEnd=>exact ⟨⟨k+1,⟨by omega,by omega,by rw [← HK.out.2.2,HS.out,Zy (fun e=>e HZ.out)]⟩,by simp,trivial⟩,by simp [intOf];omega⟩
    ·have HF:Hid (eS l r=gG x y):=by show _=_;rw [← HK.out.2.2,HS.out,Zz hz]
     have q3:(gG x y != 0)=true:=by simp [hz]
     clear hz
     go_wp2_with (go_at_call 240;refine (EU _ _ _).mono ?_;rintro e w' ⟨rfl,rfl⟩)
     all_goals (go_ret;exact ⟨by rw [HF.out];rfl,rfl⟩)
   ·have HF:Hid (eS l r=1):=by
     show _=_
     rw [← HK.out.2.2,aux (by omega:r.length≤k),ZZ hk];rfl
    have q2:decide ((r.length:Int)≤(k:Int))=true:=by simp;omega
    have i1:(0:Int)≤(k:Int):=by omega
    have i2:(k:Int)<(l.length:Int):=by omega
    go_wp2
    all_goals (go_ret;exact ⟨by rw [HF.out];rfl,rfl⟩)
  ·have q1:decide ((k:Int)<(l.length:Int))=false:=by simp;omega
   have hkl:k=l.length:=by have:=HK.out.1;omega
   by_cases hr:l.length<r.length
   ·have HF:Hid (eS l r=-1):=by
     show _=_
     rw [← HK.out.2.2,hkl,bHx,ZZ hr];rfl
    have q2:decide ((l.length:Int)<(r.length:Int))=true:=by simp;omega
    go_wp2
    all_goals (go_ret;exact ⟨by rw [HF.out];rfl,rfl⟩)
   ·have HF:Hid (eS l r=0):=by
     show _=_
     have e:r.length=l.length:=by have:=HK.out.2.1;omega
     rw [← HK.out.2.2,hkl,bHx,← e,bHx];rfl
    have q2:decide ((l.length:Int)<(r.length:Int))=false:=by simp;omega
    go_wp2
    all_goals (go_ret;exact ⟨by rw [HF.out];rfl,rfl⟩)
section
open Go.Sort (SWO PermIn SortedIn putCells putRow mapBlock ahead grow onCells)
def nq (ls:Zx) (j:Nat):CV:=bc (ls.getD j [])
section
variable {α:Type} [Inhabited α] {enc:α→Value} {w:World} {g n:Nat} {d:Array α} {os:Array Obj}
theorem pf {b:Nat} (hb:b<w.heap.size) (hn:b≠g):(sortWorld enc w g 0 n d os).heap[b]?=w.heap[b]?:=by
 show ((w.heap.modify g (onCells (putCells enc 0 d)))++os)[b]?=_
 rw [aCx (by simpa using hb),bex,Zy (fun e=>hn e.symm)]
theorem Mi {cur:Array Value} {t:TypeId} {z:Nat×Nat} (h:w.heap[g]?=some (.cells cur t z)):(sortWorld enc w g 0 n d os).heap[g]?=some (.cells (putCells enc 0 d cur) t z):=by
 have hb:g<w.heap.size:=(ZX.1 h).1
 show ((w.heap.modify g (onCells (putCells enc 0 d)))++os)[g]?=_
 rw [aCx (by simpa using hb),bex,Zz rfl,h]
 rfl
theorem Fs:w.heap.size≤(sortWorld enc w g 0 n d os).heap.size:=by
 show _≤((w.heap.modify g (onCells (putCells enc 0 d)))++os).size
 rw [Array.size_append,Array.size_modify]
 omega
end
theorem QZ {cs:Array Value} {m:Nat} {enc:Fin (m+1)→Value} {d:Array (Fin (m+1))} {i:Nat} (hi:i<d.size) (hc:d.size≤cs.size):(putCells enc 0 d cs).getD i undef=enc d[i]! := by
 have h2:i<(putCells enc 0 d cs).size:=by simp [putCells];omega
 rw [ayx,ZP h2]
 simp [putCells,hi]
theorem Mk {P:Program} {fs fc:FuncId}
  (hnone:∀ (p:Option Addr) (cap:Nat) (fv:Value) (w:World),Calls P fs #[.slice p 0 cap,fv] w fun e w'=>e=.returned (.tuple #[])∧w'=w)
  (hsort:∀ (m:Nat) (enc:Fin (m+1)→Value) (h1:OneCell enc) (cf:Fin (m+1)→Fin (m+1)→Int) (hO:SWO (ltOf cf)) (blk cap:Nat) (d:Array (Fin (m+1))) (w:World),CmpLays1 P fc #[] enc cf blk 0 d.size w→Go.Sort.Holds enc w blk 0 d→blk<w.heap.size→d.size<4611686018427387904 →
   Calls P fs #[.slice (some ⟨blk,0,none⟩) d.size cap,.func (.func fc) #[] #[]] w fun e w'=>e=.returned (.tuple #[])∧∃ d' n os,PermIn 0 d.size d d'∧SortedIn (ltOf cf) 0 d.size d'∧w'=sortWorld enc w blk 0 n d' os)
  (hcmp:∀ (w:World) (v1 v2:Value) (l r:I),Bs w v1 l→Bs w v2 r→Calls P fc #[v1,v2] w fun e w'=>e=.returned (.int .i64 (eS l r))∧w'=w)
  (g:Option Nat) (ls:Zx) (hl:ls.length≤1000000000):AC gs P fs [(g,.blk ls.length (nq ls))] [.os 0 g 0 ls.length 1,.c (.func (.func fc) #[] #[])] (fun r H'=>r=.c (.tuple #[])∧H'=[(g,.blk ls.length (nq (gz ls)))]):=by
 intro al w St F0 vals he hs hv
 have ⟨fp,hp⟩:=he.hp
 have v0:=hv 0
 have v1:vals.getD 1 undef=.func (.func fc) #[] #[]:=hv 1
 have hnil:ls.length=0→gz ls=ls:=fun h=>by
  have:ls=[]:=Z5 h
  subst this;simp [gz]
 have same:ls.length=0→cY al St w w.heap.size F0 [(g,.blk ls.length (nq (gz ls)))]:=fun h=>⟨fp,by rw [hnil h];exact hp⟩
 rw [wW hs,v1]
 by_cases hz:ls.length=0
 ·have hx:∃ p cap,vals.getD 0 undef=.slice p 0 cap:=by
   cases g with
   | none=>exact ⟨none,0,v0.2⟩
   | some b=>have ⟨cap,h1,_⟩:=v0;exact ⟨_,cap,by rw [h1,hz]⟩
  have ⟨p,cap,hx⟩:=hx
  rw [hx]
  refine (hnone p cap _ w).mono ?_
  rintro e w' ⟨rfl,rfl⟩
  exact ⟨_,_,_,St,rfl,⟨rfl,rfl⟩,rfl,jw.refl _ _,fun _ h=>h,fun _ h=>.inl h,he.s3,same hz⟩
 ·cases g with
  | none=>exact absurd v0.1 hz
  | some b =>
   have ⟨cap,h1,h2,h3,cur0,t0,z0,h4,h5⟩:=v0
   obtain ⟨hF,cur,t,k1,k2,k3⟩:=hp.rep 0 (some b) _ rfl
   have hF0:F0 b:=by
    rcases (hp.own 0 b ((hF b).2 rfl)).2.2 with h|h
    ·have:=(hp.own 0 b ((hF b).2 rfl)).1;omega
    exact h
   have hSt:∀ x,St x→x≠b:=fun x hx e=>(hp.own 0 b ((hF b).2 rfl)).2.1 (e ▸ hx)
   have hb:b<w.heap.size:=(ZX.1 k1).1
   obtain ⟨m,hm⟩:∃ m,ls.length=m+1:=⟨ls.length-1,by omega⟩
   let enc:Fin (m+1)→Value:=fun i=>cur.getD i.val undef
   let d:Array (Fin (m+1)):=Array.ofFn id
   have hd:d.size=ls.length:=by simp [d,hm]
   have hrep:∀ i:Fin (m+1),aP al St w (bc (ls.getD i.val [])) (enc i):=fun i=>k3 i.val O
   have hbs:∀ (w':World),ff St w w'→∀ i:Fin (m+1),Bs w' (enc i) (ls.getD i.val []):=fun w' hk i=>A8 (pt (hrep i) hk)
   have hone:OneCell enc:=fun i=>by
    obtain ⟨ao,cap,e,_⟩:=hbs w (ff.refl _ _) i
    rw [e];rfl
   have hkeep:∀ (n:Nat) (d':Array (Fin (m+1))) (os:Array Obj),ff St w (sortWorld enc w b 0 n d' os):=fun n d' os x hx=>pf (he.s3 x hx) (hSt x hx)
   have hO:=Pv (fun i:Fin (m+1)=>ls.getD i.val [])
   have hH:Go.Sort.Holds enc w b 0 d:=fun j hj=>by
    have hj2:j<cur.size:=by omega
    have e1:d[j]! = ⟨j,by omega⟩:=by simp [d,show j<m+1 by omega]
    refine ⟨?_,?_⟩
    ·simp only [World.cell?,k1,Nat.zero_add]
     rw [Zy (by simp),e1]
     simp [enc,hj2]
    ·simp [World.frozen?,k1]
   have key:=hsort m enc hone (fun x y=>eS (ls.getD x.val []) (ls.getD y.val [])) hO b cap d w (fun n os dk hdk x y=>(hcmp _ _ _ _ _ (hbs _ (hkeep n dk os) x) (hbs _ (hkeep n dk os) y)).mono (by rintro e w' ⟨rfl,rfl⟩;exact ⟨rfl,0,#[],by simp [World.drewN]⟩)) hH hb O
   rw [h1,← hd]
   refine key.mono ?_
   rintro e w' ⟨rfl,d',n,os,hP,hS,rfl⟩
   have hd':d'.size=ls.length:=hP.1.trans hd
   have hms:(d'.toList.map fun i=>ls.getD i.val [])=gz ls:=by
    refine C4 ?_ ?_
    ·have h6:=hP.2.2
     have e1:(d'.extract 0 d.size).toList=d'.toList:=by rw [← hP.1];simp
     have e2:(d.extract 0 d.size).toList=d.toList:=by simp
     rw [e1,e2] at h6
     refine (h6.map _).trans ?_
     have e3:d.toList.map (fun i:Fin (m+1)=>ls.getD i.val [])=ls:=by
      apply bgx
      ·simp [d,hm]
      ·intro i h7 h8
       rw [List.getElem_map,ckx]
       have e4:d[i]'(by rw [hd];exact h8)=⟨i,by omega⟩:=by simp only [d,Array.getElem_ofFn];rfl
       rw [e4];simp only [List.getD,ZM h8,asx]
     rw [e3]
    ·rw [List.pairwise_map,cAx]
     intro i j hi hj hij
     have h7:=hS i j (ZL _) hij (by rw [← hP.1];simpa using hj)
     have hi2:i<d'.size:=by simpa using hi
     have hj2:j<d'.size:=by simpa using hj
     rw [getElem!_pos d' i hi2,getElem!_pos d' j hj2] at h7
     unfold ltOf at h7
     simp only [aGx,Int.not_lt] at h7
     have h8:=ec (ls.getD (d'[j]).val []) (ls.getD (d'[i]).val [])
     unfold uN
     rw [ZJ]
     simp only [ckx]
     omega
   have hw:=Mi (enc:=enc) (n:=n) (d:=d') (os:=os) k1
   have hsz:=Fs (enc:=enc) (w:=w) (g:=b) (n:=n) (d:=d') (os:=os)
   have hput:(putCells enc 0 d' cur).size=cur.size:=by simp [putCells]
   refine ⟨_,_,_,St,rfl,⟨rfl,rfl⟩,rfl,⟨rfl,rfl,rfl,hsz,fun x hx hn=>pf hx (fun e=>hn (e ▸ hF0)),fun x cx tx zx hx=>?_⟩,fun _ h=>h,fun _ h=>.inl h,fun x hx=>Z4 (he.s3 x hx) hsz,fp,fun i g' r hi=>?_,hp.dis,fun i x hx=>?_,hp.out⟩
   ·by_cases e:x=b
    ·subst e
     rw [k1] at hx
     cases hx
     exact ⟨_,_,hw,hput⟩
    exact ⟨cx,zx,(pf (ZX.1 hx).1 e).trans hx,rfl⟩
   ·cases i with
    | zero =>
     cases hi
     refine ⟨hF,_,t,hw,by rw [hput];omega,fun i hi=>?_⟩
     have hi':i<d'.size:=by omega
     rw [QZ hi' O]
     have e:nq (gz ls) i=bc (ls.getD (d'[i]!).val []):=by
      unfold nq
      rw [← hms]
      simp [List.getD,hi']
     rw [e]
     exact pt (hrep _) (hkeep n d' os)
    | succ i=>simp at hi
   exact ⟨Z4 (hp.own i x hx).1 hsz,(hp.own i x hx).2⟩
end
theorem dN:Cy 1 nq:=fun l l2 j hj=>by
 simp only [nq,ZB]
 split
 ·rw [ZF O]
 ·rw [ZR O,ZS]
theorem B5 {ls:Zx}:∀ a b,a<ls.length→b<1→aa (nq ls (0+(a * 1+b))) (bc (ls.getD a [])):=fun a b ha hb=>aa.of_eq (by rw [show 0+(a * 1+b)=a by omega];rfl)
theorem K9 (l:Zx) (hl:l.length≤1000000):AC gs prog 202 [] [we l] (ss l.length 1 l.length (nq l)):=by
 refine ae 8 func202 fun _ _ _ _=>?_;refine U 167516 ?_;refine qj (aU rfl) rfl rfl rfl underlying138 rfl rfl (fun h357=>?_) ?_
 ·refine U 51690005 ?_;refine jE (mw 2 1 (nq l) rfl) ?_;refine U 30007000 ?_
  exact nA 0 (.inl rfl) (aK rfl (ai rfl)) rfl O O (fun _=>by omega) (fun j hj=>by omega)
 ·refine U 68103005 ?_
  refine aq (aM 0 1 eC fun p1=>?_)
  refine U 1 ?_
  refine aw (aB (l:=[]) ( dN) rfl rfl rfl rfl (aqx (aKx _)) (fun j hj=>absurd hj (by simp)) (cX rfl) rfl (fun j hj=>by (simp only [anx];exact Z)) underlying138 ix mM eC mX rfl (by (simp;omega)) (by (simp;omega)) (fun j hj=>rfl) rfl rfl rfl (fun p2=>?_))
  refine U 700051 ?_
  exact nA 0 (.inl rfl) (aK rfl (ai rfl)) rfl (by simp) (by simp) (fun _=>by simp) (fun j hj=>Z)
theorem B3 {a b:I}:uN a b=true↔0≤eS b a:=by
 have:=ec a b
 unfold uN
 rw [ZJ]
 omega
abbrev Iq:=(Int×Zx)×Option Nat
def u6:Iq:=((0,[]),none)
def uc (x:Iq):Nat→CV:=fl [.c (.int .i64 x.1.1),.os 0 x.2 0 x.1.2.length 1]
def R7 (x:Iq):Option Nat×aW:=(x.2,.blk x.1.2.length (nq x.1.2))
abbrev CH (fr:List (Int×Zx)):={ z:Nat×Option Nat×Option Nat×List Iq // z.2.2.2.map Prod.fst=fr }
def G0 (s:W8) (io jd:Nat) (go gd:Option Nat):Nat→CV:=fl [.os io go 0 s.fr.length 2,.os jd gd 0 s.d.length 1,.err s.k]
def CD (s:W8) (z:CH s.fr):List (Option Nat×aW):=[(some z.1.1,.blk 3 (G0 s 1 2 z.1.2.1 z.1.2.2.1)),(z.1.2.1,.blk (s.fr.length * 2) (gv 2 uc u6 z.1.2.2.2.reverse)),(z.1.2.2.1,.blk s.d.length (aV s.d)),ka (z.1.2.2.2.map R7)]
def iu (n:Nat) (s:W8):Option Nat×aW:=lK n (fun z:CH s.fr=>z.1.1) (CD s)
section
variable {P:Program} {G:Gh} {c:Code} {R:Exit→AS→Prop} {n:Nat} {s:W8} {env:List (Nat×CV)} {b0:Nat→CV} {H:List (Option Nat×aW)}
theorem gY (i:Nat) (hi:H[i]?=some (iu n s)) (h:∀ go gd (zs:List Iq),zs.map Prod.fst=s.fr→aY P G c ⟨env,b0,H.set i (some n,.blk 3 (G0 s H.length (H.length+1) go gd))++[(go,.blk (s.fr.length * 2) (gv 2 uc u6 zs.reverse)),(gd,.blk s.d.length (aV s.d)),ka (zs.map R7)]⟩ R):aY P G c ⟨env,b0,H⟩ R:=by
 have hlt:=(ZC.1 hi).1
 refine kM i hi fun z hz=>?_
 have ⟨⟨n',go,gd,zs⟩,hzs⟩:=z
 obtain rfl:n'=n:=hz
 refine jE (cE i 3 (G0 s H.length (H.length+1) go gd) (n:=3) (g:=some n') (f:=G0 s 1 2 go gd) ?_ (ZA _) fun j hj=>?_) ?_
 ·show (H.set i _++_)[i]?=_
  rw [ZF (by simpa using hlt)]
  simp [hlt]
 ·rcases j with _|_|_|j
  exact cO rfl
  exact cO rfl
  exact Z
  omega
 ·have:=h go gd zs hzs
  rw [← bjx (a:=(some n',aW.blk 3 (G0 s 1 2 go gd))),← b2x _ _ (by simpa using hlt)] at this
  exact this
theorem Cq (n:Nat) (s:W8) (zs:List Iq) (i jo jd jb:Nat) (hzs:zs.map Prod.fst=s.fr) {go gd:Option Nat} {No Nd:Nat} {f Fo Fd:Nat→CV} (hi:H[i]?=some (some n,.blk 3 f)) (ho:H[jo]?=some (go,.blk No Fo)) (hd:H[jd]?=some (gd,.blk Nd Fd)) (hb:H[jb]?=some (ka (zs.map R7))) (hij:[i,jo,jd,jb].Nodup)
  (h0:aa (f 0) (.os 1 go 0 s.fr.length 2)) (h1:aa (f 1) (.os 1 gd 0 s.d.length 1)) (h2:aa (f 2) (.err s.k)) (hNo:s.fr.length * 2≤No) (hFo:∀ a,a<s.fr.length * 2→aa (Fo a) (gv 2 uc u6 zs.reverse a)) (hNd:s.d.length≤Nd) (hFd:∀ a,a<s.d.length→aa (Fd a) (aV s.d a)) :
  ∀ {al:List Addr} {St:Nat→Prop} {w:World} {base:Nat} {F0:Nat→Prop},cY al St w base F0 H→cY al St w base F0 ((((H.set i (iu n s)).set jo (none,.dead)).set jd (none,.dead)).set jb (none,.dead)):=by
 intro al St w base F0 h
 simp only [bQx,Z9,ahx,or_false,not_or,not_false_iff,cTx,c0x] at hij
 have ⟨⟨e1,e2,e3⟩,⟨e4,e5⟩,e6⟩:=hij
 have hil:=(ZC.1 hi).1
 have hol:=(ZC.1 ho).1
 have hdl:=(ZC.1 hd).1
 have hbl:=(ZC.1 hb).1
 have k1:=h.weak (F:=G0 s 1 2 go gd) hi (ZA _) fun a ha=>by
  rcases a with _|_|_|a
  exact h0.trans (cO rfl)
  exact h1.trans (cO rfl)
  exact h2
  omega
 have k2:=k1.weak (i:=jo) (F:=gv 2 uc u6 zs.reverse) (by rw [ZQ e1];exact ho) hNo hFo
 have k3:=k2.weak (i:=jd) (F:=aV s.d) (by rw [ZQ e4,ZQ e2];exact hd) hNd hFd
 have k4:=k3.closeN (gd:=fun z:CH s.fr=>z.1.1) (E:=CD s) ⟨(n,go,gd,zs),hzs⟩ i [jo,jd,jb] (by simp [e1,e2,e3,e4,e5,e6]) (by simp [hil,hol,hdl,hbl]) (by
  have g1:∀ {x},((H.set i x).set jo (go,aW.blk (s.fr.length * 2) (gv 2 uc u6 zs.reverse))).set jd (gd,aW.blk s.d.length (aV s.d))=((H.set i x).set jo (go,aW.blk (s.fr.length * 2) (gv 2 uc u6 zs.reverse))).set jd (gd,aW.blk s.d.length (aV s.d)):=rfl
  simp only [il,Z6,bqx,ZB]
  rw [ZQ (Ne.symm e2),ZQ (Ne.symm e1),ZQ (Ne.symm e4),ZQ e6,ZQ e5,ZQ e3,hb]
  simp [hil,hol,hdl,CD])
 have e:kX ((((H.set i (some n,aW.blk 3 (G0 s 1 2 go gd))).set jo (go,aW.blk (s.fr.length * 2) (gv 2 uc u6 zs.reverse))).set jd (gd,aW.blk s.d.length (aV s.d))).set i (lK n (fun z:CH s.fr=>z.1.1) (CD s))) [jo,jd,jb]=(((H.set i (iu n s)).set jo (none,.dead)).set jd (none,.dead)).set jb (none,.dead):=by
  show ((((((H.set i _).set jo _).set jd _).set i _).set jo _).set jd _).set jb _=_
  rw [cjx _ _ (Ne.symm e2),cjx _ _ (Ne.symm e1),bjx,cjx _ _ (Ne.symm e4),bjx,bjx]
  rfl
 rw [← e]
 exact k4
theorem pU (n:Nat) (s:W8) (zs:List Iq) (i jo jd jb:Nat) (hzs:zs.map Prod.fst=s.fr) {go gd:Option Nat} {No Nd:Nat} {f Fo Fd:Nat→CV} (hi:H[i]?=some (some n,.blk 3 f)) (ho:H[jo]?=some (go,.blk No Fo)) (hd:H[jd]?=some (gd,.blk Nd Fd)) (hb:H[jb]?=some (ka (zs.map R7))) (hij:[i,jo,jd,jb].Nodup)
  (h0:aa (f 0) (.os 1 go 0 s.fr.length 2)) (h1:aa (f 1) (.os 1 gd 0 s.d.length 1)) (h2:aa (f 2) (.err s.k)) (hNo:s.fr.length * 2≤No) (hFo:∀ a,a<s.fr.length * 2→aa (Fo a) (gv 2 uc u6 zs.reverse a)) (hNd:s.d.length≤Nd) (hFd:∀ a,a<s.d.length→aa (Fd a) (aV s.d a)) :
  cJ G ⟨env,b0,H⟩ ⟨env,b0,(((H.set i (iu n s)).set jo (none,.dead)).set jd (none,.dead)).set jb (none,.dead)⟩:=cJ.hrel (Cq n s zs i jo jd jb hzs hi ho hd hb hij h0 h1 h2 hNo hFo hNd hFd)
end
section
variable {gs:List Nat} [ib gs]
theorem LQ (n:Int) (i:Nat) (h:i<8):IntKind.u8.wrap ((n % 18446744073709551616).fdiv (2 ^ (min (8 * (i:Int)).toNat IntKind.u64.bits)))=((me (sh i n)).toNat:Nat):=by
 rw [IntKind.wrap_u8,eI]
 have hf:∀ d:Int,0≤d→(n % 18446744073709551616).fdiv d=n % 18446744073709551616 / d:=fun d hd=>aix _ hd
 rcases i with _|_|_|_|_|_|_|_|i
 ·show (n % 18446744073709551616).fdiv 1 % 256=_;rw [hf _ jD];simp only [sh];omega
 ·show (n % 18446744073709551616).fdiv 256 % 256=_;rw [hf _ jD];simp only [sh];omega
 ·show (n % 18446744073709551616).fdiv 65536 % 256=_;rw [hf _ jD];simp only [sh];omega
 ·show (n % 18446744073709551616).fdiv 16777216 % 256=_;rw [hf _ jD];simp only [sh];omega
 ·show (n % 18446744073709551616).fdiv 4294967296 % 256=_;rw [hf _ jD];simp only [sh];omega
 ·show (n % 18446744073709551616).fdiv 1099511627776 % 256=_;rw [hf _ jD];simp only [sh];omega
 ·show (n % 18446744073709551616).fdiv 281474976710656 % 256=_;rw [hf _ jD];simp only [sh];omega
 ·show (n % 18446744073709551616).fdiv 72057594037927936 % 256=_;rw [hf _ jD];simp only [sh];omega
 omega
theorem vg {n:Int} {j:Nat} (h:j<8):(dC 8 n).reverse.take j++[me (sh (7-j) n)]=(dC 8 n).reverse.take (j+1):=by
 have hl:j<(dC 8 n).reverse.length:=by rw [a2x,bZ];exact h
 rw [ZH hl,← tR n 8 j h]
 simp [List.getD,show j<(dC 8 n).length by rw [bZ];exact h]
theorem vh (n:Int) (m:Nat):(dC (m+1+1) n).reverse.drop 1=(dC (m+1) n).reverse:=by
 rw [jY (m+1)];simp
theorem Jg {gs:List Nat} (n:Int) (h1:-9223372036854775808≤n) (h2:n≤9223372036854775807):cd gs prog 177 [.c (.int .i64 n)] (bc (jz n)):=by
 have h7:=um n h1 h2
 have hd8:(dC 8 n).reverse.length=8:=by rw [a2x,bZ]
 refine ae 52 func177 fun _ _ _ _=>?_;refine U 6516 ?_
 refine aq (aM 0 1 da fun p1=>?_)
 refine U 1651 ?_;refine jq (cC rfl rfl underlying3 underlying259 ((n % 18446744073709551616)) ((by rw [IntKind.wrap_u64]))) ?_;refine U 20516751 ?_;refine ar (α:=Nat×Option Nat) [3,5,9,10,11,12,13,14,15,16,17,18,19,20,21] (fun (j,g)=>[(5,.c (.int .i64 (7-(j:Int)))),(3,.os 0 g 0 ((dC 8 n).reverse.take j).length 1)]) (fun (j,g)=>[(g,.blk ((dC 8 n).reverse.take j).length (aV ((dC 8 n).reverse.take j)))]) (fun (j,g)=>j≤8) (fun (j,g)=>8-j) ((0,p1)) ?_ (fun _=>rfl) ?_ ?_ ?_
 exact ZL _
 exact .cons (cI O) (.cons Z .nil)
 exact .blk rfl (fun j hj=>absurd hj (ZO j)) .nil
 ·rintro ⟨j,g⟩ (hj:j≤8)
  have htl:((dC 8 n).reverse.take j).length=j:=by rw [ZK];omega
  refine U 52167 ?_;refine an (fun h10=>?_) fun h10=>?_
  ·refine U 207810 ?_
   obtain ⟨q,hqj,hq8⟩:∃ q:Nat,7-j=q∧(7:Int)-(j:Int)=(q:Int):=⟨7-j,rfl,by omega⟩
   refine jE (bj 5 (.c (.int .i64 (q:Nat))) (cI hq8)) ?_;refine U 9111200 ?_;refine jq (wg .i64 .u64) ?_;refine jq (gP rfl rfl rfl (by omega) _ rfl) ?_;refine jq (cC rfl rfl underlying259 underlying5 ((((me (sh q n)).toNat:Nat):Int)) (LQ n q O)) ?_
   refine aq (aM 1 1 da fun p2=>?_)
   refine aw (ay (l2:=[me (sh q n)]) rfl rfl rfl (ZA _) (fun _ _=>Z) (aI rfl (.inl rfl) jD) rfl (bz (.cons (cI (rfl)) .nil)) underlying23 dV fR da jt rfl (by (simp;omega)) (cp rfl rfl) rfl rfl (fun p3=>?_))
   refine U 85191200840051 ?_
   refine am ((j+1,p3)) ?_ ?_ (h5:=?_) (h7:=?_)
   show j+1≤8;omega
   show 8-(j+1)<8-j;omega
   exact .cons (cI O) (.cons (cO (by rw [← vg O,hqj])) .nil)
   exact .blk (by rw [← vg O,hqj]) (fun i hi=>aa.of_eq (by rw [← vg O,hqj])) .nil
  refine U 20784000200020006000 ?_
  have hj8:j=8:=by omega
  refine jE (freeze 0 rfl) ?_;refine jE (er 3 ((dC 8 n).reverse.take j) rfl rfl (by rfl) rfl) ?_;refine jE (bj 3 (bc (dC (7+1) n).reverse) (aa.bs (by rw [hj8,ZY O]))) ?_;refine jE (ce (H':=[]) [] jD rfl) ?_;refine ar (α:=Nat) [3,22,23,24,25,26,27,28,29,30,31,32,33,34,35,36,37,38,39,40,41,42,43,44,45,46,47,48,49,50] (fun k=>[(3,bc (dC (k+1) n).reverse)]) (fun _=>[]) (fun k=>k≤7∧pc k n=true) (fun k=>k) (7) ?_ (fun _=>rfl) ?_ ?_ ?_
  exact ⟨ZA _,h7⟩
  ·(repeat (first|exact bh.nil|refine bh.cons Z ?_))
  ·(repeat (exact aD.nil))
  ·rintro k ⟨hk,hst⟩
   have hkl:(dC (k+1) n).reverse.length=k+1:=by rw [a2x,bZ]
   have hid:=fun h=>H0 (l:=(dC (k+1) n).reverse) h
   refine U 123167 ?_;refine aH 25 (fun g13=>?_) fun g13=>?_
   rotate_left
   ·refine U 8400020002000600030055004444444444444444444444 ?_
    have hno:∀ j,j<k→pc j n=false:=fun j hj=>by
     cases e:pc j n with
     | false=>rfl
     | true =>
      exfalso
      obtain ⟨m,rfl⟩:∃ m,k=m+1:=⟨k-1,by omega⟩
      have h3:=lr n j m O e
      rw [← gq n m hst,hid O] at h3
      omega
    refine U 5116 ?_
    refine jR (eN (hv:=aa.bs (nV h1 h2 ⟨hk,hst,hno⟩)))
   refine U 126020000001 ?_;refine aH 30 (fun g13_2=>?_) fun g13_2=>?_
   rotate_left
   ·refine U 12602000000115004444 ?_;refine aH 41 (fun g13_3=>?_) fun g13_3=>?_
    rotate_left
    ·refine U 8400020002000600030051000000005005004444 ?_
     have hno:∀ j,j<k→pc j n=false:=fun j hj=>by
      cases e:pc j n with
      | false=>rfl
      | true =>
       exfalso
       obtain ⟨m,rfl⟩:∃ m,k=m+1:=⟨k-1,by omega⟩
       have h3:=lr n j m O e
       rw [← gq n m hst,hid O] at h3
       omega
     refine U 5116 ?_
     refine jR (eN (hv:=aa.bs (nV h1 h2 ⟨hk,hst,hno⟩)))
    refine U 1 ?_;refine jq (dP (i:=1)) ?_;refine U 5100000000500100000000260 ?_;refine aaa (fun h13=>?_) fun h13=>?_
    ·refine U 84000200020006000 ?_
     have hno:∀ j,j<k→pc j n=false:=fun j hj=>by
      cases e:pc j n with
      | false=>rfl
      | true =>
       exfalso
       obtain ⟨m,rfl⟩:∃ m,k=m+1:=⟨k-1,by omega⟩
       have h3:=lr n j m O e
       rw [← gq n m hst,hid O] at h3
       omega
     refine U 5116 ?_
     refine jR (eN (hv:=aa.bs (nV h1 h2 ⟨hk,hst,hno⟩)))
    refine U 20810 ?_
    have hi:o5 (dC (k+1) n).reverse=true:=(hid O).2 O
    have hdr:(dC (k+1) n).reverse.drop 1=(dC (k-1+1) n).reverse:=by
     obtain ⟨m,rfl⟩:∃ m,k=m+1:=⟨k-1,by omega⟩
     exact vh n m
    have hnx:k-1≤7∧pc (k-1) n=true:=by
     obtain ⟨m,rfl⟩:∃ m,k=m+1:=⟨k-1,by omega⟩
     rw [gq n m hst] at hi
     exact ⟨by omega,hi⟩
    have hk1:0<k:=by omega
    refine U 1200 ?_;refine jq (o0 (hz1:=(show (1:Int)=((1:Nat):Int) from rfl))) ?_;refine U 840051 ?_
    refine am (k-1) ?_ ?_ (h5:=?_)
    exact hnx
    show k-1<k;omega
    exact .cons (aa.bs hdr) .nil
   refine U 1 ?_;refine jq (dP (i:=1)) ?_;refine U 1100000000260 ?_;refine aH 36 (fun g13_3=>?_) fun g13_3=>?_
   ·refine U 20810900051000000001000000004444444444 ?_
    have hi:o5 (dC (k+1) n).reverse=true:=(hid O).2 O
    have hdr:(dC (k+1) n).reverse.drop 1=(dC (k-1+1) n).reverse:=by
     obtain ⟨m,rfl⟩:∃ m,k=m+1:=⟨k-1,by omega⟩
     exact vh n m
    have hnx:k-1≤7∧pc (k-1) n=true:=by
     obtain ⟨m,rfl⟩:∃ m,k=m+1:=⟨k-1,by omega⟩
     rw [gq n m hst] at hi
     exact ⟨by omega,hi⟩
    have hk1:0<k:=by omega
    refine U 1200 ?_;refine jq (o0 (hz1:=(show (1:Int)=((1:Nat):Int) from rfl))) ?_;refine U 840051 ?_
    refine am (k-1) ?_ ?_ (h5:=?_)
    exact hnx
    show k-1<k;omega
    exact .cons (aa.bs hdr) .nil
   refine U 126020000001 ?_;refine aH 41 (fun g13_4=>?_) fun g13_4=>?_
   rotate_left
   ·refine U 8400020002000600030051000000005005004444 ?_
    have hno:∀ j,j<k→pc j n=false:=fun j hj=>by
     cases e:pc j n with
     | false=>rfl
     | true =>
      exfalso
      obtain ⟨m,rfl⟩:∃ m,k=m+1:=⟨k-1,by omega⟩
      have h3:=lr n j m O e
      rw [← gq n m hst,hid O] at h3
      omega
    refine U 5116 ?_
    refine jR (eN (hv:=aa.bs (nV h1 h2 ⟨hk,hst,hno⟩)))
   refine U 1 ?_;refine jq (dP (i:=1)) ?_;refine U 5100000000500100000000260 ?_;refine aaa (fun h13=>?_) fun h13=>?_
   ·refine U 84000200020006000 ?_
    have hno:∀ j,j<k→pc j n=false:=fun j hj=>by
     cases e:pc j n with
     | false=>rfl
     | true =>
      exfalso
      obtain ⟨m,rfl⟩:∃ m,k=m+1:=⟨k-1,by omega⟩
      have h3:=lr n j m O e
      rw [← gq n m hst,hid O] at h3
      omega
    refine U 5116 ?_
    refine jR (eN (hv:=aa.bs (nV h1 h2 ⟨hk,hst,hno⟩)))
   refine U 20810 ?_
   have hi:o5 (dC (k+1) n).reverse=true:=(hid O).2 O
   have hdr:(dC (k+1) n).reverse.drop 1=(dC (k-1+1) n).reverse:=by
    obtain ⟨m,rfl⟩:∃ m,k=m+1:=⟨k-1,by omega⟩
    exact vh n m
   have hnx:k-1≤7∧pc (k-1) n=true:=by
    obtain ⟨m,rfl⟩:∃ m,k=m+1:=⟨k-1,by omega⟩
    rw [gq n m hst] at hi
    exact ⟨by omega,hi⟩
   have hk1:0<k:=by omega
   refine U 1200 ?_;refine jq (o0 (hz1:=(show (1:Int)=((1:Nat):Int) from rfl))) ?_;refine U 840051 ?_
   refine am (k-1) ?_ ?_ (h5:=?_)
   exact hnx
   show k-1<k;omega
   exact .cons (aa.bs hdr) .nil
def dL (r:List (Zx)) (j:Nat):CV:=we (r.getD j [])
def ph (s:R8) (jr:Nat) (gr:Option Nat):Nat→CV:=fl [CE s.tags,.os jr gr 0 s.rows.length 1,.c (.int .i64 (s.e:Nat))]
def XY (s:R8) (z:Nat×Option Nat):List (Option Nat×aW):=[(some z.1,.blk 3 (ph s 1 z.2)),(z.2,.blk s.rows.length (dL s.rows))]
def sQ (n:Nat) (s:R8):Option Nat×aW:=lK n (fun z:Nat×Option Nat=>z.1) (XY s)
section
variable {P:Program} {G:Gh} {c:Code} {R:Exit→AS→Prop} {n:Nat} {s:R8} {env:List (Nat×CV)} {b0:Nat→CV} {H:List (Option Nat×aW)}
theorem kN (i:Nat) (hi:H[i]?=some (sQ n s)) (h:∀ gr,aY P G c ⟨env,b0,H.set i (some n,.blk 3 (ph s H.length gr))++[(gr,.blk s.rows.length (dL s.rows))]⟩ R):aY P G c ⟨env,b0,H⟩ R:=by
 have hlt:=(ZC.1 hi).1
 refine kM i hi fun z hz=>?_
 have ⟨n',gr⟩:=z
 obtain rfl:n'=n:=hz
 refine jE (cE i 3 (ph s H.length gr) (n:=3) (g:=some n') (f:=ph s 1 gr) ?_ (ZA _) fun j hj=>?_) ?_
 ·show (H.set i _++_)[i]?=_
  rw [ZF (by simpa using hlt)]
  simp [hlt]
 ·rcases j with _|_|_|j
  exact Z
  exact cO rfl
  exact Z
  omega
 ·have:=h gr
  rw [← bjx (a:=(some n',aW.blk 3 (ph s 1 gr))),← b2x _ _ (by simpa using hlt)] at this
  exact this
theorem EV (n:Nat) (s:R8) (i j:Nat) {gr:Option Nat} {N:Nat} {f F:Nat→CV} (hi:H[i]?=some (some n,.blk 3 f)) (hj:H[j]?=some (gr,.blk N F)) (hij:Nat.beq i j=false) (h0:aa (f 0) (CE s.tags)) (h1:aa (f 1) (.os 1 gr 0 s.rows.length 1)) (h2:aa (f 2) (.c (.int .i64 (s.e:Nat)))) (hN:s.rows.length≤N) (hF:∀ a,a<s.rows.length→aa (F a) (dL s.rows a)) :
  ∀ {al:List Addr} {St:Nat→Prop} {w:World} {base:Nat} {F0:Nat→Prop},cY al St w base F0 H→cY al St w base F0 ((H.set i (sQ n s)).set j (none,.dead)):=by
 intro al St w base F0 h
 have hij:=bMx hij
 have hil:=(ZC.1 hi).1
 have hjl:=(ZC.1 hj).1
 have k1:=h.weak (F:=ph s 1 gr) hi (ZA _) fun a ha=>by
  rcases a with _|_|_|a
  exact h0
  exact h1
  exact h2
  omega
 have k2:=k1.weak (i:=j) (F:=dL s.rows) (by rw [ZQ hij];exact hj) hN hF
 have k4:=k2.closeN (gd:=fun z:Nat×Option Nat=>z.1) (E:=XY s) (n,gr) i [j] (by simp [hij]) (by simp [hil,hjl]) (by
  simp only [il,Z6,bqx,ZB]
  rw [ZQ (Ne.symm hij)]
  simp [hil,hjl,XY])
 have e:kX (((H.set i (some n,aW.blk 3 (ph s 1 gr))).set j (gr,aW.blk s.rows.length (dL s.rows))).set i (lK n (fun z:Nat×Option Nat=>z.1) (XY s))) [j]=(H.set i (sQ n s)).set j (none,.dead):=by
  show ((((H.set i _).set j _).set i _).set j _)=_
  rw [cjx _ _ (Ne.symm hij),bjx,bjx]
  rfl
 rw [← e]
 exact k4
theorem qV (n:Nat) (s:R8) (i j:Nat) {gr:Option Nat} {N:Nat} {f F:Nat→CV} (hi:H[i]?=some (some n,.blk 3 f)) (hj:H[j]?=some (gr,.blk N F)) (hij:Nat.beq i j=false) (h0:aa (f 0) (CE s.tags)) (h1:aa (f 1) (.os 1 gr 0 s.rows.length 1)) (h2:aa (f 2) (.c (.int .i64 (s.e:Nat)))) (hN:s.rows.length≤N) (hF:∀ a,a<s.rows.length→aa (F a) (dL s.rows a)) :
  cJ G ⟨env,b0,H⟩ ⟨env,b0,(H.set i (sQ n s)).set j (none,.dead)⟩:=cJ.hrel (EV n s i j hi hj hij h0 h1 h2 hN hF)
end
theorem bG {P:Program} {G:Gh} {fn:Func} {e:Exit} {v m:CV} {env:List (Nat×CV)} {b0:Nat→CV} {H:List (Option Nat×aW)} (he:e=.ret∨e=.normal) (n:Nat) (s:R8) (j:Nat) {gr:Option Nat} {N:Nat} {f F:Nat→CV} (hres:lp P G fn ⟨env,b0,(H.set 0 (sQ n s)).set j (none,.dead)⟩ v) (hv:aa v m) (hi:H[0]?=some (some n,.blk 3 f)) (hj:H[j]?=some (gr,.blk N F)) (hij:Nat.beq 0 j=false) (h0:aa (f 0) (CE s.tags)) (h1:aa (f 1) (.os 1 gr 0 s.rows.length 1)) (h2:aa (f 2) (.c (.int .i64 (s.e:Nat)))) (hN:s.rows.length≤N) (hF:∀ a,a<s.rows.length→aa (F a) (dL s.rows a)) :
  lW P G fn (fun r H'=>r=m∧H'=[sQ n s]) e ⟨env,b0,H⟩:=by
 refine yq (EV n s 0 j hi hj hij h0 h1 h2 hN hF) (bR he ?_ hres hv)
 have hlt:=(ZC.1 hi).1
 show (List.set _ _ _)[0]?=_
 rw [ZQ (Ne.symm (bMx hij))]
 simp [hlt]
theorem zQ:Cy 1 dL:=fun l l2 j hj=>by
 simp only [dL,ZB]
 split
 ·rw [ZF O]
 ·rw [ZR O,ZS]
theorem nc {l:List (Zx)} {i:Nat} {x:Zx} {j:Nat} {c:CV} (hc:aa c (we x)) (hj:j<l.length):aa (fX (dL l) i [c] j) (dL (l.set i x) j):=by
 rw [db]
 by_cases h:j=i
 ·subst h
  rw [Zz (by simp)]
  have e:dL (l.set j x) j=we x:=by simp [dL,hj]
  rw [e,bAx]
  exact hc
 ·rw [Zy (by simp;omega)]
  refine aa.of_eq ?_
  simp [dL,ZQ (Ne.symm h)]
structure XT (s:R8):Prop where
 n:s.tags.length≤100000
 r:s.rows.length≤100000
 k:∀ x ∈ s.rows,x.length≤1000000
theorem FR {s:R8} (h:XT s) (j:Nat):(s.rows.getD j []).length≤1000000:=by
 rw [ZB]
 cases e:s.rows[j]? with
 | none=>simp
 | some x=>simpa using h.k x (azx e)
def fm (s:R8) (i:Nat):R8:=⟨s.tags,s.rows++List.replicate i [],s.e⟩
theorem tc (s:R8) (i m:Nat) (h:i=m-s.rows.length):fm s i=⟨s.tags,eT m s.rows,s.e⟩:=by subst h;rfl
theorem qx (s:R8) (i:Nat):(fm s i).rows++[[]]=(fm s (i+1)).rows:=by simp [fm,c1x]
theorem zZ {gs:List Nat} (n:Nat) (s:R8) (b:I) (hs:XT s):AC gs prog 137 [sQ n s] [.op 0 (some n) 0,bc b] (fun r H'=>r=.c (.tuple #[])∧H'=[sQ n (kW b s)]):=by
 have hsn:=hs.n
 have hsr:=hs.r
 refine ae 48 func137 fun _ _ _ _=>?_;refine U 207 ?_;refine kN 0 rfl fun gr=>?_;refine ar (α:=Nat×Option Nat) [5,6,7,8,9,10,11,12,13,14,15,16,17,18,19,20,21,22,23,24] (fun i=>[]) (fun (i,g)=>[(some n,.blk 3 (ph (fm s i) 1 g)),(g,.blk (fm s i).rows.length (dL (fm s i).rows))]) (fun i=>i.1≤s.tags.length+1-s.rows.length) (fun i=>s.tags.length+1-s.rows.length-i.1) ((0,gr)) ?_ (fun _=>rfl) ?_ ?_ ?_
 exact ZL _
 ·(repeat (exact bh.nil))
 ·(show aD _ [(some n,aW.blk 3 (ph (fm s 0) 1 gr)),(gr,aW.blk (fm s 0).rows.length (dL (fm s 0).rows))];rw [show fm s 0=s by unfold fm;simp];exact aD.refl _)
 ·rintro ⟨i,g⟩ (hi:i≤s.tags.length+1-s.rows.length)
  have hml:(fm s i).rows.length=s.rows.length+i:=by simp [fm]
  have hmt:(fm s i).tags.length=s.tags.length:=rfl
  refine U 77 ?_;refine dQ (.rd 0 (.rd 1 (.rd 2 (.rd 3 (.rd 4 (.rd 5 (.rd 6 (.rd 7 (.rd 8 (.rd 9 (.rd 10 .done))))))))))) ?_;refine U 88080020000100009000005000070200001000080000005000070 ?_;refine an (fun h72=>?_) fun h72=>?_
  ·refine U 50100401120020810 ?_
   refine aq (aM 1 1 GU fun p1=>?_)
   refine aA (cE 2 1 (dL [[]]) rfl (ZA _) (fun j hj=>by rcases j with _|j<;>first|exact aa.nilS _ _|omega)) ?_
   refine aw (aB zQ (l2:=[[]]) rfl rfl rfl rfl (aqx (ZS _)) (fun _ _=>Z) (aI rfl (.inl rfl) jD) rfl (fun j hj=>by rw [Nat.zero_add];exact Z) underlying107 TH Tx GU T0 rfl (by simp;omega) (by simp;omega) (fun j hj=>rfl) rfl rfl (ZS _) (fun p2=>?_))
   refine U 10040 ?_
   refine aw (bg 1 (ph (fm s (i+1)) 1 p2) ?_ ?_)
   ·exact (fun j hj=>by rcases j with _|_|_|j<;>first|exact Z|exact cO (by rw [qx]))
   refine U 84005 ?_
   refine am ((i+1,p2)) ?_ ?_ (h7:=?_)
   ·(show i+1≤_;omega)
   ·(show _-(i+1)<_-i;omega)
   ·simp only [qx];exact aD.refl _
  refine U 5135090401684000200020006000 ?_
  have hiE:i=s.tags.length+1-s.rows.length:=by omega
  have hk:=FR hs s.tags.length
  have hpl:=nX (s.tags.length+1) s.rows
  dsimp only
  rw [tc s i _ hiE]
  rw [tc s i _ hiE] at hml
  have hk2:((eT (s.tags.length+1) s.rows)[s.tags.length]?.getD []).length≤1000000:=by rw [← ZB,gB];exact hk
  refine YG n (.rd 0 (.rd 1 (.rd 2 (.rd 3 (.rd 4 (.rd 6 (.rd 7 (.rd 8 (.rd 9 (.rd 10 (.rd 11 (.rd 12 (.rd 14 (.two 5 (.two 13 (.one 15 (.one 16 (.rd 17 (.one 18 .done)))) 15 (.one 13 (.one 16 (.rd 17 (.one 18 .done))))) 15 (.one 5 (.one 13 (.one 16 (.rd 17 (.one 18 .done))))))))))))))))))) ?_;refine Kp Lt ?_;refine Kp Kj ?_;refine Kp (en 1 1 false) ?_;refine Y1 Xo ?_;refine Kp Lt ?_;refine Kp Lt ?_;refine Kp Kj ?_;refine Kp (en 1 1 false) ?_;refine Y1 Xo ?_;refine Kp Lt ?_;refine Kp dP ?_;refine Zr gy ?_;refine Kp Lt ?_;refine TS ?_ ?_
  ·refine Xu 0 (aM 0 1 eC fun p1=>?_)
   refine TS ?_ ?_
   ·refine Sh 0 2 (jQ dN (l:=[]) (l2:=(eT (s.tags.length+1) s.rows).getD s.tags.length []) rfl rfl rfl rfl (aqx (aKx _)) (fun j hj=>absurd hj (by simp)) (cX rfl) rfl (fun j hj=>by (simp only [anx];exact Z)) underlying138 ix mM eC mX rfl (by simp only [List.length_nil,gB];omega) (by simp only [List.length_nil,gB];omega) (fun j hj=>rfl) rfl rfl (ZS _) (fun p2=>?_))
    refine Xu 0 (aM 1 1 eC fun p3=>?_)
    refine Sh 0 2 (jQ (dN) (l2:=[b]) rfl rfl rfl rfl O (fun _ _=>Z) (aI rfl (.inl rfl) jD) rfl (fun j hj=>by rcases j with _|j<;>first|exact Z|(exfalso;simp at hj<;>omega)) underlying138 ix mM eC mX rfl (by (simp;omega)) (by (simp;omega)) (bw rfl rfl) rfl rfl rfl (fun p4=>?_))
    refine Kp dP ?_
    first
     |(refine kQ (freeze 2 rfl) ?_;refine kQ (iG 46 (fun a _=>bc (((eT (s.tags.length+1) s.rows).getD s.tags.length []++[b]).getD a [])) rfl rfl (by simp) (fun a c ha hc=>by obtain rfl:c=0:=O;rw [Nat.zero_add,ZS,afx];exact Z)) ?_)
     |(refine kQ (freeze 3 rfl) ?_;refine kQ (iG 46 (fun a _=>bc (((eT (s.tags.length+1) s.rows).getD s.tags.length []++[b]).getD a [])) rfl rfl (by simp) (fun a c ha hc=>by obtain rfl:c=0:=O;rw [Nat.zero_add,ZS,afx];exact Z)) ?_)
    refine Sh 0 1 (Ge 1 (dL ((eT (s.tags.length+1) s.rows).set s.tags.length ((eT (s.tags.length+1) s.rows).getD s.tags.length []++[b]))) ?_ ?_)
    exact (fun j hj=>nc Z hj)
    refine YI ?_
    exact bG (.inr rfl) n (kW b s) 1 (br rfl) Z rfl rfl rfl (by exact Z) (by exact cO (by simp [kW])) (by exact Z) (by simp [kW]) (fun _ _=>by exact Z)
   ·refine Xu 0 (aM 1 1 eC fun p2=>?_)
    refine Sh 0 2 (jQ dN (l:=[]) (l2:=(eT (s.tags.length+1) s.rows).getD s.tags.length []) rfl rfl rfl rfl (aqx (aKx _)) (fun j hj=>absurd hj (by simp)) (cX rfl) rfl (fun j hj=>by (simp only [anx];exact Z)) underlying138 ix mM eC mX rfl (by simp only [List.length_nil,gB];omega) (by simp only [List.length_nil,gB];omega) (fun j hj=>rfl) rfl rfl (ZS _) (fun p3=>?_))
    refine Sh 0 2 (jQ (dN) (l2:=[b]) rfl rfl rfl rfl O (fun _ _=>Z) (aI rfl (.inl rfl) jD) rfl (fun j hj=>by rcases j with _|j<;>first|exact Z|(exfalso;simp at hj<;>omega)) underlying138 ix mM eC mX rfl (by (simp;omega)) (by (simp;omega)) (bw rfl rfl) rfl rfl rfl (fun p4=>?_))
    refine Kp dP ?_
    first
     |(refine kQ (freeze 2 rfl) ?_;refine kQ (iG 46 (fun a _=>bc (((eT (s.tags.length+1) s.rows).getD s.tags.length []++[b]).getD a [])) rfl rfl (by simp) (fun a c ha hc=>by obtain rfl:c=0:=O;rw [Nat.zero_add,ZS,afx];exact Z)) ?_)
     |(refine kQ (freeze 3 rfl) ?_;refine kQ (iG 46 (fun a _=>bc (((eT (s.tags.length+1) s.rows).getD s.tags.length []++[b]).getD a [])) rfl rfl (by simp) (fun a c ha hc=>by obtain rfl:c=0:=O;rw [Nat.zero_add,ZS,afx];exact Z)) ?_)
    refine Sh 0 1 (Ge 1 (dL ((eT (s.tags.length+1) s.rows).set s.tags.length ((eT (s.tags.length+1) s.rows).getD s.tags.length []++[b]))) ?_ ?_)
    exact (fun j hj=>nc Z hj)
    refine YI ?_
    exact bG (.inr rfl) n (kW b s) 1 (br rfl) Z rfl rfl rfl (by exact Z) (by exact cO (by simp [kW])) (by exact Z) (by simp [kW]) (fun _ _=>by exact Z)
  ·refine Xu 0 (aM 1 1 eC fun p1=>?_)
   refine Xu 0 (aM 0 1 eC fun p2=>?_)
   refine Sh 0 3 (jQ dN (l:=[]) (l2:=(eT (s.tags.length+1) s.rows).getD s.tags.length []) rfl rfl rfl rfl (aqx (aKx _)) (fun j hj=>absurd hj (by simp)) (cX rfl) rfl (fun j hj=>by (simp only [anx];exact Z)) underlying138 ix mM eC mX rfl (by simp only [List.length_nil,gB];omega) (by simp only [List.length_nil,gB];omega) (fun j hj=>rfl) rfl rfl (ZS _) (fun p3=>?_))
   refine Sh 0 3 (jQ (dN) (l2:=[b]) rfl rfl rfl rfl O (fun _ _=>Z) (aI rfl (.inl rfl) jD) rfl (fun j hj=>by rcases j with _|j<;>first|exact Z|(exfalso;simp at hj<;>omega)) underlying138 ix mM eC mX rfl (by (simp;omega)) (by (simp;omega)) (bw rfl rfl) rfl rfl rfl (fun p4=>?_))
   refine Kp dP ?_
   first
    |(refine kQ (freeze 2 rfl) ?_;refine kQ (iG 46 (fun a _=>bc (((eT (s.tags.length+1) s.rows).getD s.tags.length []++[b]).getD a [])) rfl rfl (by simp) (fun a c ha hc=>by obtain rfl:c=0:=O;rw [Nat.zero_add,ZS,afx];exact Z)) ?_)
    |(refine kQ (freeze 3 rfl) ?_;refine kQ (iG 46 (fun a _=>bc (((eT (s.tags.length+1) s.rows).getD s.tags.length []++[b]).getD a [])) rfl rfl (by simp) (fun a c ha hc=>by obtain rfl:c=0:=O;rw [Nat.zero_add,ZS,afx];exact Z)) ?_)
   refine Sh 0 1 (Ge 1 (dL ((eT (s.tags.length+1) s.rows).set s.tags.length ((eT (s.tags.length+1) s.rows).getD s.tags.length []++[b]))) ?_ ?_)
   exact (fun j hj=>nc Z hj)
   refine YI ?_
   exact bG (.inr rfl) n (kW b s) 1 (br rfl) Z rfl rfl rfl (by exact Z) (by exact cO (by simp [kW])) (by exact Z) (by simp [kW]) (fun _ _=>by exact Z)
structure vV (s:W8):Prop where
 n:s.fr.length≤16
 k:∀ x ∈ s.fr,x.2.length≤1000000∧cw x.2≤1000000
 d:s.d.length≤1000000
theorem Gr {zs:List Iq} {fr:List (Int×Zx)} (h:zs.map Prod.fst=fr):zs.length=fr.length:=by rw [← h];simp
theorem uj {x:Iq} {zr:List Iq} {m j:Nat} (hj:j<2) (hm:m=zr.length+1):gv 2 uc u6 (x::zr).reverse (0+(m-1) * 2+j)=uc x j:=by
 rw [Nat.zero_add,kh hj,hm]
 simp
theorem BC {x:Iq} {zr:List Iq} {j:Nat} (hj:j<zr.length * 2):gv 2 uc u6 (x::zr).reverse j=gv 2 uc u6 zr.reverse j:=by
 simp only [gv,bax,ZB]
 rw [ZF (by simp;omega)]
theorem qb {x x':Iq} {zr:List Iq} {m q n j:Nat} {g:Option Nat} (hm:m=zr.length+1) (hx:x'.1.1=x.1.1) (hg:x'.2=g) (hn:x'.1.2.length=n) (hj:j<m * 2):aa (fX (gv 2 uc u6 (x::zr).reverse) (0+(m-1) * 2+1) [.os q g 0 n 1] j) (gv 2 uc u6 (x'::zr).reverse j):=by
 rw [db]
 by_cases h1:j<zr.length * 2
 ·rw [Zy (by simp;omega),BC h1,BC h1]
  exact Z
 ·by_cases h2:j=0+(m-1) * 2+1
  ·rw [Zz (by simp;omega),h2,uj O hm,bAx]
   show aa (.os q g 0 n 1) (.os 0 x'.2 0 x'.1.2.length 1)
   rw [hg,hn]
   exact cO rfl
  ·obtain rfl:j=0+(m-1) * 2+0:=by omega
   rw [Zy (by simp;omega),uj O hm,uj O hm]
   show aa (.c (.int .i64 x.1.1)) (.c (.int .i64 x'.1.1))
   rw [hx]
   exact Z
theorem tI {gs:List Nat} (n:Nat) (s:W8) (e:Nat):AC gs prog 96 [iu n s] [.op 0 (some n) 0,.err e] (fun r H'=>r=.c (.tuple #[])∧H'=[iu n (bX e s)]):=by
 refine ae 13 func96 fun _ _ _ _=>?_;refine gY 0 rfl fun go gd zs hzs=>?_;refine U 55000005010004016 ?_;refine aaa (fun h38=>?_) fun h38=>?_
 ·refine U 10 ?_
  have hF:bX e s=s:=by unfold bX;rw [jK]
  rw [hF]
  exact bK (gd:=fun z:CH s.fr=>z.1.1) (E:=CD s) (.inr rfl) _ ⟨(n,go,gd,zs),hzs⟩ [0,1,2,3] jD rfl (br rfl) ⟨rfl,rfl⟩
 refine U 10004011200 ?_
 refine aw (bg 1 (G0 ⟨s.fr,s.d,e⟩ 1 2 go gd) ?_ ?_)
 exact sb
 refine U 5 ?_
 have hF:bX e s=⟨s.fr,s.d,e⟩:=by unfold bX;rw [jP]
 rw [hF]
 exact bK (gd:=fun z:CH s.fr=>z.1.1) (E:=CD ⟨s.fr,s.d,e⟩) (.inr rfl) _ ⟨(n,go,gd,zs),hzs⟩ [0,1,2,3] jD rfl (br rfl) ⟨rfl,rfl⟩
theorem Im {gs:List Nat} (n:Nat) (s:W8) (b:I) (hs:vV s) (hb:b.length≤100000000):AC gs prog 148 [iu n s] [.op 0 (some n) 0,bc b] (fun r H'=>r=.c (.tuple #[])∧H'=[iu n (cV b s)]):=by
 have hsd:=hs.d
 have hsn:=hs.n
 refine ae 42 func148 fun _ _ _ _=>?_;refine ia ?_
 (refine gY 0 rfl fun go gd zs hzs=>?_;have hzl:=Gr hzs)
 refine U 51350904016 ?_
 skip
 refine U 5216 ?_;refine aaa (fun h45=>?_) fun h45=>?_
 ·refine U 810 ?_
  have hf0:s.fr=[]:=Z5 O
  refine U 1501004011200 ?_
  refine aw (ay rfl rfl rfl (ZA _) (fun _ _=>Z) (cX rfl) rfl (fun j hj=>by simp only [anx];exact Z) underlying23 dV fR da jt rfl O (fun j hj=>rfl) rfl rfl (fun p1=>?_))
  refine U 10040 ?_
  refine aw (bg 1 (G0 (cV b s) 1 2 go p1) ?_ ?_)
  ·exact (fun j hj=>by rcases j with _|_|_|j<;>first|exact cO (by simp [cV,hf0])|exact aa.err (by simp [cV,hf0])|omega)
  refine U 5 ?_
  refine yq (H':=?H2) ?hh ?hb
  case hh=>intro _ _ _ _ _ hx;exact Cq n (cV b s) zs 0 1 2 3 (by simp [cV,hf0];rw [hf0] at hzs;simpa using hzs) rfl rfl rfl rfl jD (by exact cO rfl) (by exact cO rfl) (by exact Z) (by simp [cV,hf0]) (fun a ha=>by simp [cV,hf0] at ha) (by simp [cV,hf0]) (fun _ _=>by simp only [cV,hf0];exact Z) hx
  case hb=>exact bi (.inr rfl) _ [iu n (cV b s)] [0] jD rfl (br rfl) ⟨rfl,rfl⟩
 refine ia ?_
 obtain ⟨x,zr,rfl⟩:∃ x zr,zs=x::zr:=by
   cases zs with
   | nil=>simp at hzl;omega
   | cons x zr=>exact ⟨x,zr,rfl⟩
 have hfr:s.fr=x.1::zr.map Prod.fst:=by rw [← hzs];rfl
 have hxk:=hs.k x.1 (by rw [hfr];exact ZU)
 have hzl:s.fr.length=zr.length+1:=by rw [← hzl];rfl
 refine jE (bag_pop 3 rfl) ?_;refine lQ (.rd 0 (.rd 1 (.rd 2 (.rd 4 (.rd 5 (.rd 6 (.rd 7 (.rd 8 (.rd 9 (.rd 10 (.rd 11 (.rd 12 (.rd 13 (.rd 14 (.rd 15 (.two 3 (.one 16 (.one 17 (.one 18 (.rd 19 (.rd 20 (.one 21 .done)))))) 16 (.two 3 (.one 17 (.one 18 (.rd 19 (.rd 20 (.one 21 .done))))) 17 (.two 3 (.one 18 (.rd 19 (.rd 20 (.one 21 .done)))) 18 (.one 3 (.rd 19 (.rd 20 (.one 21 .done)))))))))))))))))))))) ?_;refine U 400000100000009000000400000 ?_;refine jy P3 ?_;refine U 40000050000000100000009000000400000 ?_;refine jy P3 ?_;refine jy (dP (i:=(s.fr.length-1)) (hz:=by omega)) ?_;refine U 60000000 ?_;refine Yy (gy (hv:=uj O hzl)) ?_;refine jy Lt ?_;refine D4 ?_ ?_
 ·refine Sa gy ?_;refine Tq (bj 26 (.os 4 x.2 0 x.1.2.length 1) (cO rfl)) ?_
  refine HP (ak (lD b O) ?_)
  refine HP (aM 1 1 eC fun p1=>?_)
  refine lP (aB (dN) (l2:=[b]) rfl rfl rfl rfl O (fun _ _=>Z) (aI rfl (.inl rfl) jD) rfl (fun j hj=>by rcases j with _|j<;>first|exact Z|(exfalso;simp at hj<;>omega)) underlying138 ix mM eC mX rfl (by (simp;omega)) (by (simp;omega)) (bw rfl rfl) rfl rfl rfl (fun p2=>?_))
  refine jy (dP (i:=(s.fr.length-1)) (hz:=by omega)) ?_;refine U 60000000 ?_
  refine lP (bg 1 (gv 2 uc u6 (((x.1.1,x.1.2++[b]),p2)::zr).reverse) ?_ ?_)
  exact (fun j hj=>qb hzl rfl rfl (by simp) hj)
  refine U 8700000 ?_;refine jE (cE 4 (x.1.2++[b]).length (nq (x.1.2++[b])) rfl (by simp) (fun _ _=>Z)) ?_;refine jE (bag_push 3 4 rfl rfl rfl) ?_;refine jE (pU n (cV b s) (((x.1.1,x.1.2++[b]),p2)::zr) 0 1 2 3 (by simp [cV,hfr]) rfl rfl rfl rfl jD (cO (by simp [cV,hfr])) (cO (by simp [cV,hfr])) (aa.err (by simp [cV,hfr])) (by simp [cV,hfr]) (fun _ _=>Z) (by simp [cV,hfr]) (fun _ _=>by simp only [cV,hfr];exact Z)) ?_;refine U 30007000 ?_
  exact bi (.inl rfl) _ [iu n (cV b s)] [0] jD rfl (br rfl) ⟨rfl,rfl⟩
 ·refine Tq (bj 26 (.os 4 x.2 0 x.1.2.length 1) (cO rfl)) ?_
  refine HP (ak (lD b O) ?_)
  refine D4 ?_ ?_
  ·refine Sa gy ?_
   refine HP (aM 1 1 eC fun p1=>?_)
   refine lP (aB (dN) (l2:=[b]) rfl rfl rfl rfl O (fun _ _=>Z) (aI rfl (.inl rfl) jD) rfl (fun j hj=>by rcases j with _|j<;>first|exact Z|(exfalso;simp at hj<;>omega)) underlying138 ix mM eC mX rfl (by (simp;omega)) (by (simp;omega)) (bw rfl rfl) rfl rfl rfl (fun p2=>?_))
   refine jy (dP (i:=(s.fr.length-1)) (hz:=by omega)) ?_;refine U 60000000 ?_
   refine lP (bg 1 (gv 2 uc u6 (((x.1.1,x.1.2++[b]),p2)::zr).reverse) ?_ ?_)
   exact (fun j hj=>qb hzl rfl rfl (by simp) hj)
   refine U 8700000 ?_;refine jE (cE 4 (x.1.2++[b]).length (nq (x.1.2++[b])) rfl (by simp) (fun _ _=>Z)) ?_;refine jE (bag_push 3 4 rfl rfl rfl) ?_;refine jE (pU n (cV b s) (((x.1.1,x.1.2++[b]),p2)::zr) 0 1 2 3 (by simp [cV,hfr]) rfl rfl rfl rfl jD (cO (by simp [cV,hfr])) (cO (by simp [cV,hfr])) (aa.err (by simp [cV,hfr])) (by simp [cV,hfr]) (fun _ _=>Z) (by simp [cV,hfr]) (fun _ _=>by simp only [cV,hfr];exact Z)) ?_;refine U 30007000 ?_
   exact bi (.inl rfl) _ [iu n (cV b s)] [0] jD rfl (br rfl) ⟨rfl,rfl⟩
  ·refine HP (aM 1 1 eC fun p1=>?_)
   refine D4 ?_ ?_
   ·refine Sa gy ?_
    refine lP (aB (dN) (l2:=[b]) rfl rfl rfl rfl O (fun _ _=>Z) (aI rfl (.inl rfl) jD) rfl (fun j hj=>by rcases j with _|j<;>first|exact Z|(exfalso;simp at hj<;>omega)) underlying138 ix mM eC mX rfl (by (simp;omega)) (by (simp;omega)) (bw rfl rfl) rfl rfl rfl (fun p2=>?_))
    refine jy (dP (i:=(s.fr.length-1)) (hz:=by omega)) ?_;refine U 60000000 ?_
    refine lP (bg 1 (gv 2 uc u6 (((x.1.1,x.1.2++[b]),p2)::zr).reverse) ?_ ?_)
    exact (fun j hj=>qb hzl rfl rfl (by simp) hj)
    refine U 8700000 ?_;refine jE (cE 4 (x.1.2++[b]).length (nq (x.1.2++[b])) rfl (by simp) (fun _ _=>Z)) ?_;refine jE (bag_push 3 4 rfl rfl rfl) ?_;refine jE (pU n (cV b s) (((x.1.1,x.1.2++[b]),p2)::zr) 0 1 2 3 (by simp [cV,hfr]) rfl rfl rfl rfl jD (cO (by simp [cV,hfr])) (cO (by simp [cV,hfr])) (aa.err (by simp [cV,hfr])) (by simp [cV,hfr]) (fun _ _=>Z) (by simp [cV,hfr]) (fun _ _=>by simp only [cV,hfr];exact Z)) ?_;refine U 30007000 ?_
    exact bi (.inl rfl) _ [iu n (cV b s)] [0] jD rfl (br rfl) ⟨rfl,rfl⟩
   ·refine lP (aB (dN) (l2:=[b]) rfl rfl rfl rfl O (fun _ _=>Z) (aI rfl (.inl rfl) jD) rfl (fun j hj=>by rcases j with _|j<;>first|exact Z|(exfalso;simp at hj<;>omega)) underlying138 ix mM eC mX rfl (by (simp;omega)) (by (simp;omega)) (bw rfl rfl) rfl rfl rfl (fun p2=>?_))
    refine Sa gy ?_;refine jy (dP (i:=(s.fr.length-1)) (hz:=by omega)) ?_;refine U 60000000 ?_
    refine lP (bg 1 (gv 2 uc u6 (((x.1.1,x.1.2++[b]),p2)::zr).reverse) ?_ ?_)
    exact (fun j hj=>qb hzl rfl rfl (by simp) hj)
    refine U 8700000 ?_;refine jE (cE 4 (x.1.2++[b]).length (nq (x.1.2++[b])) rfl (by simp) (fun _ _=>Z)) ?_;refine jE (bag_push 3 4 rfl rfl rfl) ?_;refine jE (pU n (cV b s) (((x.1.1,x.1.2++[b]),p2)::zr) 0 1 2 3 (by simp [cV,hfr]) rfl rfl rfl rfl jD (cO (by simp [cV,hfr])) (cO (by simp [cV,hfr])) (aa.err (by simp [cV,hfr])) (by simp [cV,hfr]) (fun _ _=>Z) (by simp [cV,hfr]) (fun _ _=>by simp only [cV,hfr];exact Z)) ?_;refine U 30007000 ?_
    exact bi (.inl rfl) _ [iu n (cV b s)] [0] jD rfl (br rfl) ⟨rfl,rfl⟩
theorem qu (n:Nat) (s:W8) (tag:Int) (body:I) (e:Nat) (hs:vV s) (hb:body.length≤1000000):AC gs prog 100 [iu n s] [.op 0 (some n) 0,.c (.int .i64 tag),bc body,.err e] (fun r H'=>r=.c (.tuple #[])∧H'=[iu n (fH tag body e s)]):=by
 have hpl:(bB tag body).length≤100000000:=by
  unfold bB
  have:=qB body.length
  simp only [List.length_cons,ZD]
  omega
 refine ae 32 func100 fun _ _ _ _=>?_;refine U 116 ?_
 refine aw (aN 0 (tI n s e) ?_)
 refine U 75 ?_;refine gY 0 rfl fun go gd zs hzs=>?_;refine U 55000005010004016 ?_;refine an (fun h55=>?_) fun h55=>?_
 ·refine U 30007000 ?_
  have hP:fH tag body e s=bX e s:=by unfold fH;rw [jP]
  rw [hP]
  exact bK (gd:=fun z:CH (bX e s).fr=>z.1.1) (E:=CD (bX e s)) (.inl rfl) _ ⟨(n,go,gd,zs),hzs⟩ [0,1,2,3] jD rfl (br rfl) ⟨rfl,rfl⟩
 refine U 810 ?_
 have hk0:(bX e s).k=0:=by omega
 have hF:bX e s=s:=by
  have ⟨fr,d,k⟩:=s
  unfold bX at hk0 ⊢
  split
  ·rename_i h
   rw [Zz h] at hk0
   have h:k=0:=h
   have hk0:e=0:=hk0
   rw [h,hk0]
  rfl
 refine jE (pU n (bX e s) zs 0 1 2 3 hzs rfl rfl rfl rfl jD (cO rfl) (cO rfl) Z (ZA _) (fun _ _=>Z) (ZA _) (fun _ _=>Z)) ?_
 rw [hF]
 have hsk:s.k=0:=by rw [← hF];exact hk0
 dsimp only [List.set_cons_zero,List.set_cons_succ,List.cons_append,List.nil_append,List.length_cons,List.length_nil,Nat.zero_add,Nat.reduceAdd]
 refine U 116 ?_;refine jq (au (n:=2) rfl gH ro rfl rfl) ?_
 refine aq (ak (Qz tag body hb) ?_)
 refine U 55000001675119009001 ?_;refine an (fun h59=>?_) fun h59=>?_
 ·refine U 116 ?_
  refine aw (aN 0 (tI n s (rT tag body)) ?_)
  refine U 300070005 ?_
  have hP:fH tag body e s=bX (rT tag body) s:=by unfold fH;rw [hF,jK,jP];unfold bX;rw [Zz hsk]
  rw [hP]
  exact bi (.inl rfl) _ [_] [0] jD rfl (br rfl) ⟨rfl,rfl⟩
 refine U 810 ?_
 have hP0:rT tag body=0:=by omega
 rw [Zz hP0]
 refine U 11200 ?_
 refine aw (aN 0 (Im n s _ hs hpl) ?_)
 refine U 5 ?_
 have hP:fH tag body e s=cV (bB tag body) s:=by unfold fH;rw [hF,jK,jK]
 rw [hP]
 exact bi (.inr rfl) _ [_] [0] jD rfl (br rfl) ⟨rfl,rfl⟩
end
end Am
end Go.Proofs.YtghminnpfnkbjaaGreatDoor
namespace Go.Proofs
open Go.Shelf
open Go.RowKit in
def lays156_ren:Go.Shelf.Ren:=⟨fun|156=>266|165=>278|166=>279|169=>280|240=>285|241=>286|276=>290|277=>291|n=>n,fun|31=>27|9=>9|3=>3|4=>4|0=>0|20=>20|72=>330|76=>181|70=>328|37=>23|75=>37|127=>333|164=>334|5=>5|80=>231|n=>n,fun|n=>n⟩
theorem lays156:Go.Proofs.Lays.n156 prog lays156_ren:={
 mixed:=by kernel_rfl
 f156:=func266.trans (ZV some (by kernel_rfl))
 f165:=func278.trans (ZV some (by kernel_rfl))
 f166:=func279.trans (ZV some (by kernel_rfl))
 f169:=func280.trans (ZV some (by kernel_rfl))
 f240:=func285.trans (ZV some (by kernel_rfl))
 f241:=func286.trans (ZV some (by kernel_rfl))
 f276:=func290.trans (ZV some (by kernel_rfl))
 f277:=func291.trans (ZV some (by kernel_rfl))
 t0:=underlying0
 a0:=isAgg0
 z0:=sizeOf0
 v0:=zeroValue0
 t3:=underlying3
 a3:=isAgg3
 z3:=sizeOf3
 v3:=zeroValue3
 t4:=underlying4
 a4:=isAgg4
 z4:=sizeOf4
 v4:=zeroValue4
 t9:=underlying9
 a9:=isAgg9
 z9:=sizeOf9
 v9:=zeroValue9
 t20:=underlying20
 a20:=isAgg20
 z20:=sizeOf20
 v20:=zeroValue20
 t31:=underlying27
 a31:=isAgg27
 z31:=sizeOf27
 v31:=zeroValue27
 t37:=underlying23
 a37:=isAgg23
 z37:=sizeOf23
 v37:=zeroValue23
 t70:=underlying328
 a70:=isAgg328
 z70:=sizeOf328
 v70:=zeroValue328
 t72:=underlying330
 a72:=isAgg330
 z72:=sizeOf330
 v72:=zeroValue330
 t75:=underlying37
 a75:=isAgg37
 z75:=sizeOf37
 v75:=zeroValue37
 t76:=underlying181
 a76:=isAgg181
 z76:=sizeOf181
 v76:=zeroValue181
 t127:=underlying333
 a127:=isAgg333
 z127:=sizeOf333
 v127:=zeroValue333
 t164:=underlying334
 a164:=isAgg334
 z164:=sizeOf334
 v164:=zeroValue334 }
theorem Tryz.Builder_Extra_156:Builder.Extra prog lays156_ren:={
 sizeBuilder:=by kernel_rfl
 liesBuilder:=by kernel_rfl
 t5:=underlying5
 a5:=isAgg5
 z5:=sizeOf5
 v5:=zeroValue5
 infoByte:=by kernel_rfl
 cellsByte:=by kernel_rfl
 sizeByte:=by kernel_rfl
 neB5:=by decide }
open Go.RowKit in
theorem strings_Join_none (a:Option Addr) (c:Nat) (sep:ByteArray) (w:World) :
  Calls prog 266 #[.slice a 0 c,.string sep] w fun e w'=>e=.returned (.string ⟨#[]⟩)∧w'=w:=Any.strings_Join_none lays156 Tryz.Builder_Extra_156 a c sep w
open Go.RowKit in
theorem strings_Join (bk o c:Nat) (xs:List ByteArray) (sep:ByteArray) (w:World) (hcells:∀ (j:Nat) x,xs[j]?=some x→w.cell? ⟨bk,o+j,none⟩=some (.string x)) (hbk:bk<w.heap.size) (hN:xs.length≤140737488355328) (hcap:xs.length≤c) (hlen:(Lib.join (xs.map (·.data.toList)) sep.data.toList).length≤140737488355328) :
  Calls prog 266 #[.slice (some ⟨bk,o,none⟩) xs.length c,.string sep] w fun e w'=>e=.returned (.string ⟨(Lib.join (xs.map (·.data.toList)) sep.data.toList).toArray⟩)∧Below w.heap.size w w':=Any.strings_Join lays156 Tryz.Builder_Extra_156 bk o c xs sep w hcells hbk hN hcap hlen
def lays137_ren:Go.Shelf.Ren:=⟨fun|137=>93|217=>154|266=>194|n=>n,fun|9=>9|5=>5|3=>3|n=>n,fun|n=>n⟩
theorem lays137:Go.Proofs.Lays.n137 prog lays137_ren:={
 mixed:=by kernel_rfl
 f137:=func93.trans (ZV some (by kernel_rfl))
 f217:=func154.trans (ZV some (by kernel_rfl))
 f266:=func194.trans (ZV some (by kernel_rfl))
 t3:=underlying3
 a3:=isAgg3
 z3:=sizeOf3
 v3:=zeroValue3
 t5:=underlying5
 a5:=isAgg5
 z5:=sizeOf5
 v5:=zeroValue5
 t9:=underlying9
 a9:=isAgg9
 z9:=sizeOf9
 v9:=zeroValue9 }
open Go.RowKit in
theorem strings_IndexByte (s:ByteArray) (c:Int) (w:World) :
  Calls prog 93 #[.string s,.int .u8 c] w fun e w'=>e=.returned (.int .i64 (Lib.indexByte s.data.toList c.toNat.toUInt8))∧w'=w:=Any.strings_IndexByte lays137 s c w
open Go.RowKit Go.Lib in
def lays143_ren:Go.Shelf.Ren:=⟨fun|143=>271|219=>283|217=>154|225=>287|224=>288|267=>289|266=>194|314=>292|n=>n,fun|9=>9|3=>3|4=>4|5=>5|46=>35|146=>336|51=>257|n=>n,fun|1=>28|n=>n⟩
theorem lays143:Go.Proofs.Lays.n143 prog lays143_ren:={
 mixed:=by kernel_rfl
 f143:=func271.trans (ZV some (by kernel_rfl))
 f217:=func154.trans (ZV some (by kernel_rfl))
 f219:=func283.trans (ZV some (by kernel_rfl))
 f224:=func288.trans (ZV some (by kernel_rfl))
 f225:=func287.trans (ZV some (by kernel_rfl))
 f266:=func194.trans (ZV some (by kernel_rfl))
 f267:=func289.trans (ZV some (by kernel_rfl))
 f314:=func292.trans (ZV some (by kernel_rfl))
 t3:=underlying3
 a3:=isAgg3
 z3:=sizeOf3
 v3:=zeroValue3
 t4:=underlying4
 a4:=isAgg4
 z4:=sizeOf4
 v4:=zeroValue4
 t5:=underlying5
 a5:=isAgg5
 z5:=sizeOf5
 v5:=zeroValue5
 t9:=underlying9
 a9:=isAgg9
 z9:=sizeOf9
 v9:=zeroValue9
 t46:=underlying35
 a46:=isAgg35
 z46:=sizeOf35
 v46:=zeroValue35
 t51:=underlying257
 a51:=isAgg257
 z51:=sizeOf257
 v51:=zeroValue257
 t146:=underlying336
 a146:=isAgg336
 z146:=sizeOf336
 v146:=zeroValue336
 g1:=by kernel_rfl }
open Go.RowKit Go.Lib in
theorem strings_Index_one (s:ByteArray) (c:UInt8) (w:World) :
  Calls prog 271 #[.string s,.string ⟨#[c]⟩] w fun e w'=>e=.returned (.int .i64 (Lib.indexByte s.data.toList c))∧w'=w:=Any.strings_Index_one lays143 s c w
open Go.RowKit Go.Lib in
def lays99_ren:Go.Shelf.Ren:=⟨fun|99=>165|206=>206|n=>n,fun|9=>9|4=>4|3=>3|n=>n,fun|n=>n⟩
theorem lays99:Go.Proofs.Lays.n99 prog lays99_ren:={
 mixed:=by kernel_rfl
 f99:=func165.trans (ZV some (by kernel_rfl))
 f206:=func206.trans (ZV some (by kernel_rfl))
 t3:=underlying3
 a3:=isAgg3
 z3:=sizeOf3
 v3:=zeroValue3
 t4:=underlying4
 a4:=isAgg4
 z4:=sizeOf4
 v4:=zeroValue4
 t9:=underlying9
 a9:=isAgg9
 z9:=sizeOf9
 v9:=zeroValue9 }
open Go.RowKit Go.Lib in
theorem strings_HasPrefix (s p:ByteArray) (w:World) :
  Calls prog 165 #[.string s,.string p] w fun e w'=>e=.returned (.bool (Lib.hasPrefix s.data.toList p.data.toList))∧w'=w:=Any.strings_HasPrefix lays99 s p w
open Go.RowKit Go.Lib in
def lays100_ren:Go.Shelf.Ren:=⟨fun|100=>166|207=>207|n=>n,fun|9=>9|4=>4|3=>3|n=>n,fun|n=>n⟩
theorem lays100:Go.Proofs.Lays.n100 prog lays100_ren:={
 mixed:=by kernel_rfl
 f100:=func166.trans (ZV some (by kernel_rfl))
 f207:=func207.trans (ZV some (by kernel_rfl))
 t3:=underlying3
 a3:=isAgg3
 z3:=sizeOf3
 v3:=zeroValue3
 t4:=underlying4
 a4:=isAgg4
 z4:=sizeOf4
 v4:=zeroValue4
 t9:=underlying9
 a9:=isAgg9
 z9:=sizeOf9
 v9:=zeroValue9 }
open Go.RowKit Go.Lib in
theorem strings_HasSuffix (s p:ByteArray) (w:World) (hs:s.size≤9223372036854775807) :
  Calls prog 166 #[.string s,.string p] w fun e w'=>e=.returned (.bool (Lib.hasSuffix s.data.toList p.data.toList))∧w'=w:=Any.strings_HasSuffix lays100 s p w hs
end Go.Proofs
namespace Go.Proofs
open Go.Shelf
def sortB_ren:Go.Shelf.Ren:=⟨fun|6=>203|15=>159|14=>239|28=>199|29=>200|20=>253|21=>254|22=>255|23=>256|24=>257|25=>258|26=>259|27=>260|46=>273|47=>274|48=>275|49=>276|50=>277|57=>284|n=>n,fun|22=>138|24=>23|25=>261|3=>3|39=>35|0=>0|53=>257|55=>259|4=>4|46=>306|45=>305|50=>267|5=>5|9=>9|66=>322|70=>326|76=>331|77=>188|n=>n,fun|n=>n⟩
theorem sortB:Go.Proofs.SlLaysF.n6 prog sortB_ren:={
 mixed:=by kernel_rfl
 f6:=⟨f203.name,by decide,func203.trans (ZV some (by kernel_rfl))⟩
 f14:=⟨f239.name,by decide,func239.trans (ZV some (by kernel_rfl))⟩
 f15:=func159.trans (ZV some (by kernel_rfl))
 f20:=⟨f253.name,by decide,func253.trans (ZV some (by kernel_rfl))⟩
 f21:=⟨f254.name,by decide,func254.trans (ZV some (by kernel_rfl))⟩
 f22:=⟨f255.name,by decide,func255.trans (ZV some (by kernel_rfl))⟩
 f23:=⟨f256.name,by decide,func256.trans (ZV some (by kernel_rfl))⟩
 f24:=⟨f257.name,by decide,func257.trans (ZV some (by kernel_rfl))⟩
 f25:=⟨f258.name,by decide,func258.trans (ZV some (by kernel_rfl))⟩
 f26:=⟨Tryz.f259.name,by decide,func259.trans (ZV some (by kernel_rfl))⟩
 f27:=⟨f260.name,by decide,func260.trans (ZV some (by kernel_rfl))⟩
 f28:=func199.trans (ZV some (by kernel_rfl))
 f29:=func200.trans (ZV some (by kernel_rfl))
 f46:=⟨f273.name,by decide,func273.trans (ZV some (by kernel_rfl))⟩
 f47:=func274.trans (ZV some (by kernel_rfl))
 f48:=func275.trans (ZV some (by kernel_rfl))
 f49:=⟨Tryz.f276.name,by decide,func276.trans (ZV some (by kernel_rfl))⟩
 f50:=⟨Tryz.f277.name,by decide,func277.trans (ZV some (by kernel_rfl))⟩
 f57:=⟨f284.name,by decide,func284.trans (ZV some (by kernel_rfl))⟩
 t0:=underlying0
 a0:=isAgg0
 z0:=sizeOf0
 v0:=zeroValue0
 t3:=underlying3
 a3:=isAgg3
 z3:=sizeOf3
 v3:=zeroValue3
 t4:=underlying4
 a4:=isAgg4
 z4:=sizeOf4
 v4:=zeroValue4
 t5:=underlying5
 a5:=isAgg5
 z5:=sizeOf5
 v5:=zeroValue5
 t9:=underlying9
 a9:=isAgg9
 z9:=sizeOf9
 v9:=zeroValue9
 t22:=underlying138
 a22:=isAgg138
 z22:=sizeOf138
 v22:=zeroValue138
 a24:=isAgg23
 z24:=sizeOf23
 t25:=underlying261
 a25:=isAgg261
 z25:=sizeOf261
 v25:=zeroValue261
 t39:=underlying35
 a39:=isAgg35
 z39:=sizeOf35
 v39:=zeroValue35
 t45:=underlying305
 a45:=isAgg305
 z45:=sizeOf305
 v45:=zeroValue305
 t46:=underlying306
 a46:=isAgg306
 z46:=sizeOf306
 v46:=zeroValue306
 t50:=underlying267
 a50:=isAgg267
 z50:=sizeOf267
 v50:=zeroValue267
 t53:=underlying257
 a53:=isAgg257
 z53:=sizeOf257
 v53:=zeroValue257
 t55:=underlying259
 a55:=isAgg259
 z55:=sizeOf259
 v55:=zeroValue259
 t66:=underlying322
 a66:=isAgg322
 z66:=sizeOf322
 v66:=zeroValue322
 t70:=underlying326
 a70:=isAgg326
 z70:=sizeOf326
 v70:=zeroValue326
 t76:=underlying331
 a76:=isAgg331
 z76:=sizeOf331
 v76:=zeroValue331
 t77:=underlying188
 a77:=isAgg188
 z77:=sizeOf188
 v77:=zeroValue188 }
end Go.Proofs
namespace Go.Proofs.YtghminnpfnkbjaaGreatDoor
namespace Am
open Go.RowKit
theorem Ml (g:Option Nat) (ls:Zx) (hl:ls.length≤1000000000):AC gs prog 203 [(g,.blk ls.length (nq ls))] [.os 0 g 0 ls.length 1,.c (.func (.func 204) #[] #[])] (fun r H'=>r=.c (.tuple #[])∧H'=[(g,.blk ls.length (nq (gz ls)))]) :=
 Mk (fun p cap fv w=>AnyF.slices_SortFunc_none (P:=prog) (ρ:=sortB_ren) { sortB with } p cap fv w)
  (fun m enc h1 cf hO blk cap d w hc hH hb hs=>Any.slices_SortFunc (P:=prog) (ρ:=sortB_ren) sortB enc h1 cf hO 204 #[] blk 0 cap d w (fun args W=>qk (by kernel_rfl) args W) hc hH hb hs)
  (fun w v1 v2 l r h1 h2=>Cp h1 h2) g ls hl
theorem II (ls:Zx):cw (gz ls)=cw ls:=((jJ ls).map List.length).sum_nat
theorem Us (ls:Zx) (hl:ls.length≤1000000) (hs:cw ls≤10000000000):cd gs prog 163 [we ls] (bc (gz ls).flatten):=by
 have hsl:=nM ls
 refine ae 10 func163 fun _ _ _ _=>?_;refine U 16516 ?_
 refine aq (yd (K9 ls hl) (fun p1=>?_))
 refine U 1651 ?_
 refine aw (aN 0 (Ml p1 ls O) ?_)
 refine U 5 ?_;refine jE (freeze 0 rfl) ?_;refine jE (iG 3 (fun b _=>bc ((gz ls).getD b [])) rfl rfl O (fun a b ha hb=>B5 a b O hb)) ?_;refine jE (bj 3 (we (gz ls)) (aa.rs hsl.symm fun i j _ _=>Z)) ?_;refine U 16 ?_
 refine aq (ak (oB (gz ls) (by rw [II];exact hs) O) ?_)
 refine U 51 ?_
 refine jR (eN (hv:=Z))
theorem Cc (a b:I):(!(Op.bytesLess a b || a == b))=decide (0<eS a b):=by
 rw [← qT]
 have hs:=ec a b
 rcases cGx (eS a b) 0 with h|h|h
 ·simp [h];omega
 ·have:=qS h
  subst this
  simp [h]
 ·have hne:¬ a=b:=fun e=>by subst e;rw [A5] at h;omega
  simp [hne,show ¬ eS a b<0 by omega,h]
theorem HJ {X:Zx} {k j:Nat} (h:j<k):bc (X.getD (0+j / 1) [])=nq (X.take k) j:=by
 unfold nq
 simp [List.getD,h]
theorem HL {X:Zx} {k j:Nat}:bc (X.getD (k+j / 1) [])=nq (X.drop k) j:=by
 unfold nq
 simp [List.getD]
theorem rt {X l:Zx} {x:I} {k:Nat} (hX:X=gz l) (hk:k≤X.length) (hlo:k=0∨uN (X.getD (k-1) []) x=true) (hhi:∀ j,k≤j→j<X.length→uN x (X.getD j [])=true):X.take k++[x]++X.drop k=gz (l++[x]):=by
 have hs:X.Pairwise fun a b=>uN a b=true:=hX ▸ sJ l
 have hp:X.Perm l:=hX ▸ jJ l
 refine C4 ?_ ?_
 ·have h1:(X.take k++[x]++X.drop k).Perm (X.take k++X.drop k++[x]):=by
   rw [Z8,Z8]
   exact List.Perm.append_left _ List.perm_append_comm
  rw [amx] at h1
  exact h1.trans (hp.append_right [x])
 ·have hlow:∀ a ∈ X.take k,uN a x=true:=fun a ha=>by
   obtain ⟨i,hi,rfl⟩:=a6x.1 ha
   rw [ZK] at hi
   rw [List.getElem_take]
   rcases hlo with h0|h0
   omega
   ·by_cases e:i=k-1
    ·have:X.getD (k-1) []=X[i]'O:=by subst e;simp [List.getD,show k-1<X.length by omega]
     rwa [this] at h0
    ·refine uL _ _ _ ?_ h0
     have:=cAx.1 hs i (k-1) O O O
     rwa [show X.getD (k-1) []=X[k-1]'O by simp [List.getD,show k-1<X.length by omega]]
  have hhigh:∀ a ∈ X.drop k,uN x a=true:=fun a ha=>by
   obtain ⟨i,hi,rfl⟩:=a6x.1 ha
   rw [ZI] at hi
   rw [List.getElem_drop]
   have:=hhi (k+i) O O
   rwa [show X.getD (k+i) []=X[k+i]'O by simp [List.getD,show k+i<X.length by omega]] at this
  rw [c2x,c2x]
  refine ⟨⟨hs.take,cyx.2 ⟨fun _ h=>by simp at h,.nil⟩,fun a ha b hb=>?_⟩,hs.drop,fun a ha b hb=>?_⟩
  ·rw [agx.1 hb];exact hlow a ha
  ·rcases bcx.1 ha with ha|ha
   exact uL _ _ _ (hlow a ha) (hhigh b hb)
   ·rw [agx.1 ha];exact hhigh b hb
theorem BB (ls:Zx) (hl:ls.length≤1000000):cd gs prog 134 [we ls] (we (gz ls)):=by
 refine ae 48 func134 fun _ _ _ _=>?_;refine U 6516 ?_
 refine aq (aM 0 1 eC fun p1=>?_)
 refine U 2051316751 ?_;refine ar (α:=Nat×Zx×Option Nat) [3,5,6,7,11,12,13,14,15,16,17,18,19,20,21,22,23,24,25,26,27,28,29,30,31,32,33,34,35,36,37,38,39,40,41,42,43,44,45,46] (fun (i,X,g)=>[(11,.c (.int .i64 (i:Nat))),(3,.os 0 g 0 X.length 1)]) (fun (i,X,g)=>[(g,.blk X.length (nq X))]) (fun (i,X,g)=>i≤ls.length∧X=gz (ls.take i)) (fun (i,X,g)=>ls.length-i) ((0,[],p1)) ?_ (fun _=>rfl) ?_ ?_ ?_
 exact ⟨ZL _,by simp [gz]⟩
 exact .cons Z (.cons Z .nil)
 exact .blk rfl (fun j hj=>absurd hj (ZO j)) .nil
 ·rintro ⟨i,X,g⟩ ⟨(hi:i≤ls.length),hX⟩
  have hXl:X.length=i:=by rw [hX,nM,ZK];omega
  obtain ⟨x,hx⟩:∃ x,x=ls.getD i []:=⟨_,rfl⟩
  refine U 7526 ?_;refine aaa (fun h115=>?_) fun h115=>?_
  ·refine U 511684000200020006000 ?_
   have hiL:i=ls.length:=by omega
   rw [hiL,ZW] at hX
   refine jE (freeze 0 rfl) ?_;refine jE (iG 2 (fun b _=>bc (X.getD b [])) rfl rfl O (fun a b ha hb=>B5 a b ha hb)) ?_;refine U 80007000 ?_
   rw [← hX];exact Z
  refine U 51607006207810 ?_;refine jE (freeze 0 rfl) ?_;refine jE (iG 3 (fun b _=>bc (X.getD b [])) rfl rfl O (fun a b ha hb=>B5 a b ha hb)) ?_;refine jE (ce (H':=[]) [] jD rfl) ?_;refine U 20751316 ?_;refine jE (bj 5 (bc x) (aa.bs hx.symm)) ?_;refine ar (α:=Nat) [6,17,18,19,20,21,22,23,24,25,26,27,28,29,30,31] (fun k=>[(6,.c (.int .i64 (k:Nat)))]) (fun _=>[]) (fun k=>k≤X.length∧∀ j,k≤j→j<X.length→uN x (X.getD j [])=true) (fun k=>k) (X.length) ?_ (fun _=>rfl) ?_ ?_ ?_
  exact ⟨ZA _,fun j h1 h2=>by omega⟩
  ·(repeat (first|exact bh.nil|refine bh.cons Z ?_))
  ·(repeat (exact aD.nil))
  ·rintro k ⟨hk,hgt⟩
   refine U 77 ?_;refine dQ (.rd 0 (.rd 1 (.rd 2 (.rd 3 (.rd 4 (.rd 5 (.rd 6 (.rd 7 (.rd 8 (.rd 9 (.rd 10 (.rd 11 (.rd 12 .done))))))))))))) ?_;refine U 7080070 ?_;refine ze 19 (fun g117=>?_) fun g117=>?_
   rotate_left
   ·refine U 84000200020006000300880300000600600600600600600600600600 ?_
    have hlo:k=0∨uN (X.getD (k-1) []) x=true:=by
     first
      |(left;omega)
      |(right;have hh:=h117;rw [Cc,aGx] at hh;have:=ec (X.getD (k-1) []) x;rw [B3];omega)
    refine eA ?_
    refine aq (aM 0 1 eC fun p2=>?_)
    refine U 11 ?_;refine jq (D7 (hl:=(bv _ _)) (hu:=(ci rfl (show _=((k:Nat):Int) by omega)))) ?_
    refine aw (aB dN (l:=[]) (l2:=X.take k) rfl rfl rfl rfl (aqx (aKx _)) (fun j hj=>absurd hj (by simp)) (cX rfl) (by rw [ZK];omega) (fun j hj=>aa.of_eq (HJ (by rw [ZK] at hj;omega))) underlying138 ix mM eC mX rfl (by simp;omega) (by simp;omega) (fun j hj=>rfl) rfl rfl (ZS _) (fun p3=>?_))
    refine U 11651 ?_
    refine aq (aM 1 1 eC fun p4=>?_)
    refine aw (aB dN (l:=[]++X.take k) (l2:=[x]) rfl rfl (by simp) rfl (by simp) (fun j hj=>Z) (aI rfl (.inl rfl) jD) rfl (fun j hj=>by obtain rfl:j=0:=(by simp at hj;omega);exact Z) underlying138 ix mM eC mX rfl (by simp;omega) (by simp;omega) (fun j hj=>by obtain rfl:j=0:=O;rfl) rfl rfl (ZS _) (fun p5=>?_))
    refine U 11120051 ?_;refine jq (D7 (hl:=(ci rfl (show _=((k:Nat):Int) by omega))) (hu:=(bv _ _))) ?_
    refine aw (aB dN (l:=[]++X.take k++[x]) (l2:=X.drop k) rfl rfl (by simp) rfl (by simp) (fun j hj=>Z) (cX rfl) (by rw [ZI]) (fun j hj=>aa.of_eq HL) underlying138 ix mM eC mX rfl (by simp;omega) (by simp;omega) (fun j hj=>rfl) rfl rfl (ZS _) (fun p6=>?_))
    refine U 8519200840051 ?_
    refine am ((i+1,X.take k++[x]++X.drop k,p6)) ?_ ?_ (h5:=?_) (h7:=?_)
    ·exact ⟨by omega,by
      have e:ls.take (i+1)=ls.take i++[x]:=by rw [hx,ZH O];simp [List.getD,show i<ls.length by omega]
      rw [e]
      exact rt hX hk hlo (fun j h1 h2=>hgt j h1 h2)⟩
    show ls.length-(i+1)<ls.length-i;omega
    exact .cons (cI O) (.cons Z .nil)
    exact .same .nil
   refine U 300007070 ?_;refine aJ (dP (i:=(k-1)) (hz:=by omega)) ?_;refine U 30000000703000000070000 ?_;refine aJ zh ?_;refine U 8803000000 ?_;refine an (fun h117=>?_) fun h117=>?_
   ·refine U 8400519120020810 ?_
    refine am (k-1) ?_ ?_ (h5:=?_)
    ·exact ⟨by omega,fun j h1 h2=>by
      by_cases e:j=k-1
      ·subst e
       have:=h117
       rw [Cc,ZJ] at this
       rw [B3];omega
      exact hgt j O h2⟩
    show k-1<k;omega
    exact .cons (cI O) .nil
   refine U 84000200020006000 ?_
   have hlo:k=0∨uN (X.getD (k-1) []) x=true:=by
    first
     |(left;omega)
     |(right;have hh:=h117;rw [Cc,aGx] at hh;have:=ec (X.getD (k-1) []) x;rw [B3];omega)
   refine eA ?_
   refine aq (aM 0 1 eC fun p2=>?_)
   refine U 11 ?_;refine jq (D7 (hl:=(bv _ _)) (hu:=(ci rfl (show _=((k:Nat):Int) by omega)))) ?_
   refine aw (aB dN (l:=[]) (l2:=X.take k) rfl rfl rfl rfl (aqx (aKx _)) (fun j hj=>absurd hj (by simp)) (cX rfl) (by rw [ZK];omega) (fun j hj=>aa.of_eq (HJ (by rw [ZK] at hj;omega))) underlying138 ix mM eC mX rfl (by simp;omega) (by simp;omega) (fun j hj=>rfl) rfl rfl (ZS _) (fun p3=>?_))
   refine U 11651 ?_
   refine aq (aM 1 1 eC fun p4=>?_)
   refine aw (aB dN (l:=[]++X.take k) (l2:=[x]) rfl rfl (by simp) rfl (by simp) (fun j hj=>Z) (aI rfl (.inl rfl) jD) rfl (fun j hj=>by obtain rfl:j=0:=(by simp at hj;omega);exact Z) underlying138 ix mM eC mX rfl (by simp;omega) (by simp;omega) (fun j hj=>by obtain rfl:j=0:=O;rfl) rfl rfl (ZS _) (fun p5=>?_))
   refine U 11120051 ?_;refine jq (D7 (hl:=(ci rfl (show _=((k:Nat):Int) by omega))) (hu:=(bv _ _))) ?_
   refine aw (aB dN (l:=[]++X.take k++[x]) (l2:=X.drop k) rfl rfl (by simp) rfl (by simp) (fun j hj=>Z) (cX rfl) (by rw [ZI]) (fun j hj=>aa.of_eq HL) underlying138 ix mM eC mX rfl (by simp;omega) (by simp;omega) (fun j hj=>rfl) rfl rfl (ZS _) (fun p6=>?_))
   refine U 8519200840051 ?_
   refine am ((i+1,X.take k++[x]++X.drop k,p6)) ?_ ?_ (h5:=?_) (h7:=?_)
   ·exact ⟨by omega,by
     have e:ls.take (i+1)=ls.take i++[x]:=by rw [hx,ZH O];simp [List.getD,show i<ls.length by omega]
     rw [e]
     exact rt hX hk hlo (fun j h1 h2=>hgt j h1 h2)⟩
   show ls.length-(i+1)<ls.length-i;omega
   exact .cons (cI O) (.cons Z .nil)
   exact .same .nil
section
variable {gs:List Nat} [ib gs]
theorem W5:aa (.c (.slice none 0 0)) (.os 0 none 0 0 1):=fun al St w v h=>⟨rfl,h⟩
theorem R6 {G:Gh} {s:AS} (d:Nat) {i off n k:Nat} (hl:look s.env s.b d=.os i none off n k):∀ a w,wm G s a w→n=0:=fun a w ⟨St,hr⟩=>by
 have:=iY hr (x:=.tmp d) hl
 exact this.1
theorem K8 {gs:List Nat} (l:I) (g:Option Nat) (hl:l.length≤100000000):AC gs prog 105 [(g,.blk l.length (aV l))] [.os 0 g 0 l.length 1] (fun r H'=>r=bc l∧H'=[(g,.blk l.length (aV l))]):=by
 refine ae 8 func105 fun _ _ _ _=>?_;refine U 167516 ?_;refine jq (Ho rfl rfl rfl underlying23) ?_;refine U 5 ?_;refine an (fun h357=>?_) fun h357=>?_
 ·obtain rfl:g=none:=by cases g<;>simp at h357 ⊢
  refine cL (R6 0 rfl) fun hn=>?_;refine U 30007000516 ?_
  exact bL (.inl rfl) [0] jD rfl (aK rfl (ai rfl)) (aa.nilS' hn) ⟨rfl,rfl⟩
 refine U 6810 ?_
 refine aq (aM 0 1 da fun p1=>?_)
 refine U 1 ?_
 refine aw (ay (l:=[]) rfl rfl rfl (ZL _) (fun j hj=>absurd hj (ZO j)) (aI rfl (.inl rfl) O) rfl (fun j hj=>by rw [Nat.zero_add];exact Z) underlying23 dV fR da jt rfl (by (simp;omega)) (fun j hj=>rfl) rfl rfl (fun p2=>?_))
 refine U 51 ?_;refine jE (freeze 1 rfl) ?_;refine jE (er 2 ([]++l) rfl rfl (by rfl) rfl) ?_;refine U 7000 ?_
 exact bL (.inl rfl) [0] jD rfl (aK rfl (ai rfl)) (aa.bs (List.nil_append l)) ⟨rfl,rfl⟩
theorem Lh {gs:List Nat} (tag:Int) (ls:Zx) (hl:ls.length≤1000000) (hs:cw ls≤10000000000):cd gs prog 104 [.agg 2 (fl [.c (.int .i64 tag),we ls])] (bc (lX (tag,ls))):=by
 refine ae 12 func104 fun _ _ _ _=>?_;refine eA ?_
 refine aq (ee 2 fun p1=>?_)
 refine U 5250906751 ?_;refine an (fun h23=>?_) fun h23=>?_
 ·refine U 501006 ?_
  refine aq (ak (Us ls hl hs) ?_)
  refine U 51 ?_
  refine jR (l9 (eN (hv:=aa.bs (by unfold lX;rw [Zz h23]))))
 refine U 501006810 ?_
 refine aq (ak (oB ls hs hl) ?_)
 refine U 51 ?_
 refine jR (eN (hv:=aa.bs (by unfold lX;rw [Zy h23])))
theorem pA (n:Nat) (s:W8) (tag:Int) (hs:vV s):AC gs prog 40 [iu n s] [.op 0 (some n) 0,.c (.int .i64 tag)] (fun r H'=>r=.c (.tuple #[])∧H'=[iu n (cW tag s)]):=by
 have hsn:=hs.n
 refine ae 40 func40 fun _ _ _ _=>?_;refine U 20 ?_;refine gY 0 rfl fun go gd zs hzs=>?_
 have hzl:=Gr hzs
 refine U 515000005010004016 ?_;refine an (fun h69=>?_) fun h69=>?_
 ·refine U 40010 ?_
  have hP:cW tag s=s:=by unfold cW;rw [jP]
  rw [hP]
  exact bK (gd:=fun z:CH s.fr=>z.1.1) (E:=CD s) (.inr rfl) _ ⟨(n,go,gd,zs),hzs⟩ [0,1,2,3] jD rfl (br rfl) ⟨rfl,rfl⟩
 refine U 16 ?_
 refine aq (ak (wA tag) ?_)
 refine U 5130 ?_;refine an (fun h70=>?_) fun h70=>?_
 ·refine U 1200 ?_;refine jq (cK 4) ?_;refine U 100040 ?_
  refine aw (bg 1 (G0 ⟨s.fr,s.d,5⟩ 1 2 go gd) ?_ ?_)
  exact sb
  refine U 4005 ?_
  have hP:cW tag s=⟨s.fr,s.d,5⟩:=by unfold cW;rw [jK,Zz (by simp [bO] at h70 ⊢;omega)]
  rw [hP]
  exact bK (gd:=fun z:CH s.fr=>z.1.1) (E:=CD ⟨s.fr,s.d,5⟩) (.inr rfl) _ ⟨(n,go,gd,zs),hzs⟩ [0,1,2,3] jD rfl (br rfl) ⟨rfl,rfl⟩
 refine U 512350904016 ?_;refine an (fun h72=>?_) fun h72=>?_
 ·refine U 1200 ?_;refine jq (cK 5) ?_;refine U 100040 ?_
  refine aw (bg 1 (G0 ⟨s.fr,s.d,6⟩ 1 2 go gd) ?_ ?_)
  exact sb
  refine U 4005 ?_
  have hP:cW tag s=⟨s.fr,s.d,6⟩:=by unfold cW;rw [jK,Zy (by simp [bO] at h70 ⊢;omega),jP]
  rw [hP]
  exact bK (gd:=fun z:CH s.fr=>z.1.1) (E:=CD ⟨s.fr,s.d,6⟩) (.inr rfl) _ ⟨(n,go,gd,zs),hzs⟩ [0,1,2,3] jD rfl (br rfl) ⟨rfl,rfl⟩
 refine jE (f8 (nq [])) ?_;refine jE (bag_push 3 4 rfl rfl rfl) ?_
 dsimp only [List.set_cons_zero,List.set_cons_succ,List.cons_append,List.nil_append,List.length_cons,List.length_nil,Nat.zero_add,Nat.reduceAdd]
 refine U 150904011200 ?_;refine jq (au (n:=2) rfl GT WZ rfl rfl) ?_
 refine aq (aM 2 2 GT fun p1=>?_)
 refine aA (cE 5 2 (gv 2 uc u6 [((tag,[]),none)]) rfl (ZA _) (fun j hj=>by rcases j with _|_|j<;>first|exact Z|exact W5|omega)) ?_
 refine aw (aB (gO 2 uc u6) (l:=zs.reverse) (l2:=[((tag,[]),none)]) rfl rfl (by simp [hzl]) rfl (by simp [hzl]) (fun _ _=>Z) (aI rfl (.inl rfl) jD) rfl (fun j hj=>by rw [Nat.zero_add];exact Z) underlying81 Yu WE GT XK rfl (by simp;omega) (by simp;omega) (fun j hj=>by rcases j with _|_|j<;>first|rfl|omega) rfl rfl rfl (fun p2=>?_))
 refine U 9040 ?_
 refine aw (bg 1 (G0 ⟨(tag,[])::s.fr,s.d,s.k⟩ 1 2 p2 gd) ?_ ?_)
 ·exact (fun j hj=>by rcases j with _|_|_|j<;>first|exact cO (by simp [hzl])|exact Z)
 refine U 4005 ?_
 have hP:cW tag s=⟨(tag,[])::s.fr,s.d,s.k⟩:=by unfold cW;rw [jK,Zy (by simp [bO] at h70 ⊢;omega),jK]
 rw [hP]
 refine yq (H':=?H2) ?hh ?hb
 case hh=>intro _ _ _ _ _ hx;exact Cq n ⟨(tag,[])::s.fr,s.d,s.k⟩ (((tag,[]),none)::zs) 0 1 2 3 (by simp [hzs]) rfl rfl rfl rfl jD (by exact cO rfl) (by exact cO rfl) (by exact Z) (by simp [hzl]) (fun a _=>by rw [bax];exact Z) (ZA _) (fun _ _=>Z) hx
 case hb=>exact bi (.inr rfl) _ [_] [0] jD rfl (br rfl) ⟨rfl,rfl⟩
theorem CZ {a b:Zx} (h:a.Perm b):cw a=cw b:=by
 unfold cw
 exact (h.map List.length).sum_nat
theorem A9 (x:Int×Zx):(lX x).length=cw x.2:=by
 unfold lX
 split
 ·rw [gW];exact CZ (jJ _)
 ·rw [gW]
theorem vV.tail {x:Int×Zx} {r:List (Int×Zx)} {s:W8} (h:vV s) (hf:s.fr=x::r):vV ⟨r,s.d,s.k⟩:=⟨by have:=h.n;rw [hf] at this;simp at this ⊢;omega,fun y hy=>h.k y (by rw [hf];exact Z2 _ hy),h.d⟩
theorem nD (n:Nat) (s:W8) (hs:vV s):AC gs prog 48 [iu n s] [.op 0 (some n) 0] (fun r H'=>r=.c (.tuple #[])∧H'=[iu n (dS s)]):=by
 have hsn:=hs.n
 refine ae 45 func48 fun _ _ _ _=>?_;refine gY 0 rfl fun go gd zs hzs=>?_
 have hzl:=Gr hzs
 refine U 51500000501000401620519350904016 ?_;refine an (fun h83=>?_) fun h83=>?_
 ·refine U 40010 ?_
  have hP:dS s=s:=by unfold dS;rw [jP]
  rw [hP]
  exact bK (gd:=fun z:CH s.fr=>z.1.1) (E:=CD s) (.inr rfl) _ ⟨(n,go,gd,zs),hzs⟩ [0,1,2,3] jD rfl (br rfl) ⟨rfl,rfl⟩
 refine U 51216 ?_;refine an (fun h84=>?_) fun h84=>?_
 ·refine U 1200 ?_;refine jq (cK 23) ?_;refine U 100040 ?_
  refine aw (bg 1 (G0 ⟨s.fr,s.d,24⟩ 1 2 go gd) ?_ ?_)
  exact sb
  refine U 4005 ?_
  have hf0:s.fr=[]:=Z5 O
  have hP:dS s=⟨s.fr,s.d,24⟩:=by unfold dS;rw [jK,hf0]
  rw [hP]
  exact bK (gd:=fun z:CH s.fr=>z.1.1) (E:=CD ⟨s.fr,s.d,24⟩) (.inr rfl) _ ⟨(n,go,gd,zs),hzs⟩ [0,1,2,3] jD rfl (br rfl) ⟨rfl,rfl⟩
 obtain ⟨x,zr,rfl⟩:∃ x zr,zs=x::zr:=by
   cases zs with
   | nil=>simp at hzl;omega
   | cons x zr=>exact ⟨x,zr,rfl⟩
 have hfr:s.fr=x.1::zr.map Prod.fst:=by rw [← hzs];rfl
 have hxk:=hs.k x.1 (by rw [hfr];exact ZU)
 have hzl:s.fr.length=zr.length+1:=by rw [← hzl];rfl
 refine jE (bag_pop 3 rfl) ?_;refine U 150904016 ?_;refine jq (dP (i:=(s.fr.length-1)) (hz:=by omega)) ?_;refine kj (bD 2) ?_;refine aA (freeze 4 rfl) ?_;refine aA (WB 16 4 (fun a _=>bc (x.1.2.getD a [])) (.c (.int .i64 x.1.1)) rfl rfl (by show aa (gv 2 uc u6 (x::zr).reverse (0+(s.fr.length-1) * 2+0)) _;rw [uj O hzl];exact Z) (by show aa (gv 2 uc u6 (x::zr).reverse (0+(s.fr.length-1) * 2+1)) _;rw [uj O hzl];exact Z) (by simp) (fun a b ha hb=>by obtain rfl:b=0:=O;rw [Nat.zero_add,ZS,afx];exact Z)) ?_
 refine aq (dh (n:=2) GT rfl fun p1=>?_)
 refine aw (bn 2 ?_)
 refine U 15090401165 ?_;refine jq Gb ?_;refine U 9040 ?_;refine aA (cE 1 ((s.fr.length-1) * 2) (gv 2 uc u6 zr.reverse) rfl O (fun j hj=>by rw [BC O];exact Z)) ?_
 refine aw (bg 1 (G0 ⟨zr.map Prod.fst,s.d,s.k⟩ 1 2 go gd) ?_ ?_)
 ·exact (fun j hj=>by rcases j with _|_|_|j<;>first|exact cO (by simp;omega)|exact Z)
 refine U 5 ?_;refine jE (pU n ⟨zr.map Prod.fst,s.d,s.k⟩ zr 0 1 2 3 rfl rfl rfl rfl rfl jD (cO rfl) (cO rfl) Z (by simp;omega) (fun _ _=>Z) (ZA _) (fun _ _=>Z)) ?_
 dsimp only [List.set_cons_zero,List.set_cons_succ,List.cons_append,List.nil_append,List.length_cons,List.length_nil,Nat.zero_add,Nat.reduceAdd]
 refine jE (freeze 5 rfl) ?_;refine jE (lH 3 (m:=2) rfl rfl jD) ?_
 have hto:=hs.tail hfr
 refine mT 5 (.rd 0 (.rd 1 (.rd 2 (.rd 3 (.one 4 .done))))) ?_;refine U 7000090000070 ?_;refine aJ (pJ 2) ?_
 refine gp (ak (Lh x.1.1 x.1.2 hxk.1 O) ?_)
 refine Az ?_
 show cQ _ _ _ _ _ _
 refine aw (aN 0 (qu n ⟨zr.map Prod.fst,s.d,s.k⟩ x.1.1 (lX x.1) 0 hto (by rw [A9];exact hxk.2)) ?_)
 refine U 4005 ?_
 have hP:dS s=fH x.1.1 (lX x.1) 0 ⟨zr.map Prod.fst,s.d,s.k⟩:=by unfold dS;rw [jK,hfr]
 rw [hP]
 exact bi (.inr rfl) _ [_] [0] jD rfl (br rfl) ⟨rfl,rfl⟩
end
end Am
end Go.Proofs.YtghminnpfnkbjaaGreatDoor
