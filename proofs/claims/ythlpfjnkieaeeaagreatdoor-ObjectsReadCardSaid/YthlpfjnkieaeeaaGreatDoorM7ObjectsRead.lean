/- What the law leans on, part 7: W03r, W03s, W07s, W07t, W07u, W08j, W04r, W08u, W08k, Shelf, ShelfS, W07v -/
import Derived.Test.YthlpfjnkieaeeaaGreatDoorM6ObjectsRead
import Derived.Shelf.SlSortCmp.Kit1
import Derived.Shelf.Strings.Builder1
import Derived.Shelf.Strings.Builder2
import Derived.Shelf.Strings.OnBuilder
import Derived.Shelf.Small.Bits
import Derived.Shelf.Small.Strs
import Derived.Shelf.Strconv.Itoa0
import Derived.Shelf.Strings.Search1
import Derived.Shelf.Strings.Search2
import Derived.Shelf.Strings.Search3
import Derived.Shelf.LaysM
import Derived.Shelf.Strings.Shaped
import Derived.Shelf.Strings.Prefix
import Derived.Shelf.Unicode.Decode
import Derived.Shelf.Unicode.DecodeSlow
import Derived.Shelf.Unicode.DecodeAny
import Derived.Test.YthlpfjnkieaeeaaGreatDoorProg
import Derived.Shelf.SlSortCmp.NoneTotal
import Derived.Ground.SlsfProg

set_option maxRecDepth 100000
namespace Go.Proofs.YthlpfjnkieaeeaaGreatDoor
set_option linter.unusedVariables false
namespace Am
open Go.RowKit
section
theorem Ie {b:List UInt8} {k:Nat} (h:ah b=⟨k,0,[],[]⟩) (hk:k≠0):ab (.tup 4 (fl [.c (.int .i64 0),.c (.int .i64 0),.c (.int .i64 0),.c (.int .i64 (k:Nat))])) (.tup 4 (fl [.c (.int .i64 (ah b).tag),.c (.int .i64 (nu b)),.c (.int .i64 (yi b)),.c (.int .i64 (ah b).e)])):=by
 unfold nu yi
 rw [h,if_neg hk,if_neg hk]
 exact cZ
theorem QI {b body rest:List UInt8} {t:Nat} {x y z:Int} (h:ah b=⟨0,t,body,rest⟩) (hx:x=(t:Nat)) (hy:y=((b.length-rest.length-body.length:Nat):Int)) (hz:z=((b.length-rest.length:Nat):Int)):ab (.tup 4 (fl [.c (.int .i64 x),.c (.int .i64 y),.c (.int .i64 z),.c (.int .i64 0)])) (.tup 4 (fl [.c (.int .i64 (ah b).tag),.c (.int .i64 (nu b)),.c (.int .i64 (yi b)),.c (.int .i64 (ah b).e)])):=by
 unfold nu yi
 rw [h,if_pos rfl,if_pos rfl,hx,hy,hz]
 exact cZ
theorem uD {gs:List Nat} (b:List UInt8) (hb:b.length≤10000000):bM gs Tryz.prog 59 [bu b] (.tup 4 (fl [.c (.int .i64 (ah b).tag),.c (.int .i64 (nu b)),.c (.int .i64 (yi b)),.c (.int .i64 (ah b).e)])):=by
 refine ai 81 Tryz.func59 fun al w0 F0 St0=>?_;refine jU 523167511116 ?_;refine aq (fun h43=>?_) fun h43=>?_
 ·refine jU 511116 ?_
  refine jR (ii (cX (hv:=Ie (k:=2) (by unfold ah;rw [jP]) jD)))
 refine jU 70000000602000000167810 ?_
 refine ak (ap (EW _) ?_)
 refine jU 530 ?_;refine aq (fun h46=>?_) fun h46=>?_
 ·refine jU 511116 ?_
  refine jR (ii (cX (hv:=Ie (k:=5) (by unfold ah;rw [jK,if_pos (by simpa using h46)]) jD)))
 refine jU 7810 ?_
 obtain ⟨t,ht⟩:∃ t,t=(b.getD 0 0).toNat:=⟨_,rfl⟩
 have hk:bP (t:Nat)=true:=by rw [ht];simpa using h46
 have hN:=AH jO ht hk rfl
 refine jU 52316 ?_;refine aq (fun h49=>?_) fun h49=>?_
 ·refine jU 800030007000511116 ?_
  have hm:cd (b.drop 1)=⟨2,0,[]⟩:=by unfold cd;rw [if_pos (by rw [List.length_drop];omega)]
  exact Ie (k:=2) (by rw [hN,hm];rfl) jD
 refine jU 16810 ?_;refine jq (fb (i:=1)) ?_;refine jU 75117000000060 ?_
 obtain ⟨c,hc⟩:∃ c,c=(b.getD 1 0).toNat:=⟨_,rfl⟩
 have c8:c<256:=by rw [hc];exact (b.getD 1 0).toNat_lt
 refine jE (bF 6 (.c (.int .i64 (c:Nat))) (cI (by rw [hc]))) ?_;refine jU 5216 ?_;refine aq (fun h53=>?_) fun h53=>?_
 rotate_left
 ·refine jU 7810 ?_
  first
   | have hM2:=vb (b:=b) jO jO
   |(rw [jK,jK,if_pos (Classical.not_not.1 h66)] at hM;have hM2:=hM)
  rw [hM2] at hN
  dsimp only at hN
  rw [if_neg jD] at hN
  refine jU 5216 ?_;refine aq (fun h70=>?_) fun h70=>?_
  ·refine jU 511116 ?_
   refine jR (ii (cX (hv:=Ie (k:=3) (by rw [hN,jP]) jD)))
  refine jU 529131167810 ?_;refine aq (fun h73=>?_) fun h73=>?_
  ·refine jU 511116 ?_
   refine jR (ii (cX (hv:=Ie (k:=2) (by rw [hN,jK,if_pos (by rw [List.length_drop];omega)]) jD)))
  refine jU 5111191117000000060200000016810 ?_
  refine jR (cX (hv:=QI (by rw [hN,jK,if_neg (by rw [List.length_drop];omega)]) (by rw [ht]) (by simp only [List.length_drop,List.length_take];omega) (by simp only [List.length_drop];omega)))
 refine jU 751916 ?_
 obtain ⟨k,hk8⟩:∃ k,c=128+k:=⟨c-128,by omega⟩
 have hM:=FD (b:=b) (k:=k) jO jO
 refine jE (bF 8 (.c (.int .i64 (k:Nat))) (cI jO)) ?_;refine jU 1216 ?_;refine ay 32 (fun g55=>?_) fun g55=>?_
 ·refine jU 80003000300070005111169000510000000044 ?_
  rw [jP] at hM
  exact Ie (k:=4) (by rw [hN,hM];rfl) jD
 refine jU 550021 ?_;refine aq (fun h55=>?_) fun h55=>?_
 ·refine jU 8000300030007000511116 ?_
  rw [jP] at hM
  exact Ie (k:=4) (by rw [hN,hM];rfl) jD
 refine jU 52193167810 ?_;refine aq (fun h58=>?_) fun h58=>?_
 ·refine jU 8000300030007000511116 ?_
  rw [jK,jP] at hM
  exact Ie (k:=2) (by rw [hN,hM];rfl) jD
 refine jU 810 ?_
 have hk4:1≤k∧k≤4:=by omega
 have htl:((b.drop 2).take k).length=k:=by simp;omega
 refine jU 205167516 ?_;refine aF (α:=Nat) [6,9,41,42,43,44,45,46,47,48,49,50,51,52,53,54] (fun i=>[(6,.c (.int .i64 (lO (((b.drop 2).take k).take i):Nat))),(9,.c (.int .i64 (i:Nat)))]) (fun _=>[]) (fun i=>i≤k) (fun i=>k-i) (0) ?_ (fun _=>rfl) ?_ ?_ ?_
 ·exact Nat.zero_le _
 ·(repeat (first|exact bZ.nil|refine bZ.cons cZ ?_))
 ·(repeat (exact aS.nil))
 ·rintro i (hi:i≤k)
  refine jU 521167 ?_;refine aq (fun h62=>?_) fun h62=>?_
  ·refine jU 207810 ?_
   have hbn:=De (((b.drop 2).take k).take i)
   have hbl:(((b.drop 2).take k).take i).length=i:=by simp;omega
   have hb3:lO (((b.drop 2).take k).take i)<16777216:=by
    rw [hbl] at hbn
    have:i≤3:=by omega
    have:=Nat.pow_le_pow_right (n:=256) jD this
    omega
   have hc8:=(b.getD (2+i) 0).toNat_lt
   refine jU 91191200 ?_;refine jq (fb (i:=(2+i)) (hz:=by omega)) ?_;refine jU 8519120084005197000000060 ?_
   refine aw (i+1) ?_ ?_ (h5:=?_)
   ·show i+1≤k;omega
   ·omega
   ·exact .cons (cI (by rw [BD jO,IZ jO];omega)) (.cons cZ .nil)
  refine jU 84000200020006000 ?_
  obtain rfl:k=i:=by omega
  have hb4:lO ((b.drop 2).take k)<4294967296:=by
   have h:=De ((b.drop 2).take k)
   rw [htl] at h
   have:=Nat.pow_le_pow_right (n:=256) jD hk4.2
   omega
  refine jE (bF 6 (.c (.int .i64 (lO ((b.drop 2).take k):Nat))) (cI (by rw [List.take_take,Nat.min_self]))) ?_;refine jU 751916 ?_;refine ff (.rd 0 (.rd 3 (.rd 4 (.rd 5 (.rd 6 (.one 1 (.rd 2 (.rd 7 .done)))))))) ?_;refine jU 707070 ?_;refine bV (IF (hz1:=(show (1:Int)=((1:Nat):Int) from rfl))) ?_;refine bV CO ?_
  refine kO (ap (DE (lO ((b.drop 2).take k)) jO) ?_ (ho:=rfl) (he:=(.cons (se rfl (cI jO)) .nil)))
  refine bV CO ?_;refine bV CN ?_;refine jU 880 ?_;refine aq (fun h66=>?_) fun h66=>?_
  ·refine jU 800030007000511116 ?_
   rw [jK,jK,if_neg h66] at hM
   exact Ie (k:=4) (by rw [hN,hM];rfl) jD
  refine jU 7810 ?_
  first
   | have hM2:=vb (b:=b) jO jO
   |(rw [jK,jK,if_pos (Classical.not_not.1 h66)] at hM;have hM2:=hM)
  rw [hM2] at hN
  dsimp only at hN
  rw [if_neg jD] at hN
  refine jU 5216 ?_;refine aq (fun h70=>?_) fun h70=>?_
  ·refine jU 511116 ?_
   refine jR (ii (cX (hv:=Ie (k:=3) (by rw [hN,jP]) jD)))
  refine jU 529131167810 ?_;refine aq (fun h73=>?_) fun h73=>?_
  ·refine jU 511116 ?_
   refine jR (ii (cX (hv:=Ie (k:=2) (by rw [hN,jK,if_pos (by rw [List.length_drop];omega)]) jD)))
  refine jU 5111191117000000060200000016810 ?_
  refine jR (cX (hv:=QI (by rw [hN,jK,if_neg (by rw [List.length_drop];omega)]) (by rw [ht]) (by simp only [List.length_drop,List.length_take];omega) (by simp only [List.length_drop];omega)))
end
section
theorem xw {rec:Nat→List UInt8→Nat×Nat} {set:Bool} {lv:Nat}:∀ {fuel:Nat} {b last:List UInt8} {dp:Nat},(fI rec set lv fuel b last dp).2≠0→(fI rec set lv fuel b last dp).1=0
 | 0,b,last,dp,h=>by simp [fI] at h
 | fuel+1,b,last,dp,h=>by
  unfold fI at h ⊢
  split
  ·rename_i h1;rw [if_pos h1] at h;exact absurd rfl h
  ·rename_i h1;rw [if_neg h1] at h
   split
   ·rfl
   ·rename_i h2;rw [if_neg h2] at h
    split
    ·rfl
    ·rename_i h3;rw [if_neg h3] at h
     split
     ·rfl
     ·rename_i h4;rw [if_neg h4] at h
      split
      ·rfl
      ·rename_i h5;rw [if_neg h5] at h
       exact xw h
theorem xu {rec:Nat→List UInt8→Nat×Nat} {set:Bool} {lv:Nat}:∀ {fuel:Nat} {b last:List UInt8} {dp:Nat},1≤dp→(fI rec set lv fuel b last dp).2=0→1≤(fI rec set lv fuel b last dp).1
 | 0,b,last,dp,hd,h=>hd
 | fuel+1,b,last,dp,hd,h=>by
  have hn:=ew b
  unfold fI at h ⊢
  split
  ·exact hd
  ·rename_i h1;rw [if_neg h1] at h
   split
   ·rename_i h2;rw [if_pos h2] at h;exact absurd h h2
   ·rename_i h2;rw [if_neg h2] at h
    split
    ·rename_i h3;rw [if_pos h3] at h;exact absurd h jD
    ·rename_i h3;rw [if_neg h3] at h
     split
     ·rename_i h4;rw [if_pos h4] at h;exact absurd h h4
     ·rename_i h4;rw [if_neg h4] at h
      split
      ·rename_i h5;rw [if_pos h5] at h;exact absurd h jD
      ·rename_i h5;rw [if_neg h5] at h
       exact xu jO h
theorem pK {lv tag:Nat} {body:List UInt8} (h:(bm lv tag body).2=0):1≤(bm lv tag body).1:=by
 match lv with
 | 0=>simp [bm]
 | lv+1 =>
  unfold bm at h ⊢
  split
  ·simp
  ·rename_i h1;rw [if_neg h1] at h
   exact xu (Nat.le_refl _) h
def wC (lv:Nat) (set:Bool) (body:List UInt8):Nat×Nat:=fI (bm lv) set (lv+1) body.length body [] 1
theorem kF {b:List UInt8} (h:(ah b).e=0):yi b=b.length-(ah b).rest.length:=by unfold yi;rw [if_pos h]
theorem xq {b:List UInt8} (h:(ah b).e=0):(ah b).body=(b.take (yi b)).drop (nu b)∧(ah b).rest=b.drop (yi b)∧nu b≤yi b∧yi b≤b.length:=by
 obtain ⟨n,k,hk,hr,hn,hkl,hb⟩:∃ n k,k≤b.length∧(ah b).rest=(b.drop k).drop n∧n≤b.length-k∧k≤b.length∧(ah b).body=(b.drop k).take n:=by
  have hm:∀ c:List UInt8,(cd c).e=0→∃ k,k≤c.length∧(cd c).rest=c.drop k:=by
   intro c
   unfold cd
   split
   ·intro h;exact absurd h jD
   ·dsimp only
    split
    ·exact fun _=>⟨1,by omega,rfl⟩
    ·split
     ·intro h;exact absurd h jD
     ·split
      ·intro h;exact absurd h jD
      ·split
       ·intro h;exact absurd h jD
       ·rename_i h1 h2 h3 h4 h5
        rw [List.length_drop] at h4
        exact fun _=>⟨1+((c.getD 0 0).toNat-128),by omega,by dsimp only;rw [List.drop_drop]⟩
  unfold ah at h ⊢
  split
  ·rename_i h1;rw [if_pos h1] at h;exact absurd h jD
  ·rename_i h1;rw [if_neg h1] at h
   split
   ·rename_i h2;rw [if_pos h2] at h;exact absurd h jD
   ·rename_i h2;rw [if_neg h2] at h
    dsimp only at h ⊢
    split
    ·rename_i h3;rw [if_pos h3] at h;exact absurd h h3
    ·rename_i h3;rw [if_neg h3] at h
     split
     ·rename_i h4;rw [if_pos h4] at h;exact absurd h jD
     ·rename_i h4;rw [if_neg h4] at h
      split
      ·rename_i h5;rw [if_pos h5] at h;exact absurd h jD
      ·rename_i h5
       obtain ⟨k,hk,hr⟩:=hm (b.drop 1) jO
       rw [List.length_drop] at hk
       rw [hr,List.length_drop,List.length_drop] at h5
       exact ⟨(cd (b.drop 1)).n,1+k,by omega,by rw [hr,List.drop_drop],by omega,by omega,by rw [hr,List.drop_drop]⟩
 have e1:yi b=k+n:=by
  rw [kF h,hr,List.length_drop,List.length_drop]
  omega
 have e2:nu b=k:=by
  unfold nu
  rw [if_pos h,hb,hr,List.length_take,List.length_drop,List.length_drop]
  omega
 rw [e1,e2,hb,hr]
 refine ⟨?_,by rw [List.drop_drop],by omega,by omega⟩
 rw [List.drop_take]
 congr 1
 omega

theorem pL {lv tag:Nat} {body:List UInt8} (h:bG tag=false):bm lv tag body=(1,0):=by
 match lv with
 | 0=>rfl
 | lv+1=>unfold bm;rw [if_pos h]
theorem EJ {gs:List Nat}:∀ (lv:Nat) (set:Bool) (body:List UInt8),lv≤16→body.length≤1000000→bM gs Tryz.prog 60 [bu body,.c (.int .i64 (lv:Nat)),.c (.bool set)] (.tup 2 (fl [.c (.int .i64 ((wC lv set body).1-1:Nat)),.c (.int .i64 (wC lv set body).2)])):=by
 intro lv
 induction lv using Nat.strongRecOn with
 | _ lv ih =>
 intro set body hlv hbody
 have ih':1≤lv→∀ (tag:Nat) (body:List UInt8),bG tag=true→body.length≤1000000→bM gs Tryz.prog 60 [bu body,.c (.int .i64 ((lv:Int)-1)),.c (.bool (decide (tag=49)))] (.tup 2 (fl [.c (.int .i64 ((bm lv tag body).1-1:Nat)),.c (.int .i64 (bm lv tag body).2)])):=fun h tag body hm hb=>by
  have:=ih (lv-1) jO (decide (tag=49)) body jO hb
  have e:bm lv tag body=wC (lv-1) (decide (tag=49)) body:=by
   obtain ⟨m,rfl⟩:∃ m,lv=m+1:=⟨lv-1,by omega⟩
   unfold bm wC
   rw [if_neg (by rw [hm];exact Bool.noConfusion)]
   rfl
  rw [e,show (lv:Int)-1=((lv-1:Nat):Int) by omega]
  exact this
 have hR:∀ t b,(bm lv t b).1≤lv+1∧(bm lv t b).2≤7:=fun t b=>oG lv t b
 refine ai 73 Tryz.func60 fun al w0 F0 St0=>?_;refine jU 65165116 ?_
 refine ak (aU 0 1 f7 fun p1=>?_)
 refine jU 20751 ?_;refine jE (freeze 0 rfl) ?_;refine jE (eP 9 (fun i _=>ft [] i) rfl rfl jO (fun a b ha hb=>absurd ha (Nat.not_lt_zero a))) ?_;refine jE (dB (H':=[]) [] jD rfl) ?_;refine aF (α:=WS) [0,6,7,8,9,10,11,12,13,14,15,16,18,19,20,21,22,23,24,25,26,27,28,29,30,31,32,33,34,35,36,37,38,39,40,41,42,43,44,45,46,47,48,49,50,51,52,53,54,55,56,57,58,59,60,61,62,63,64,65,66,67,68,69,70,71] (fun x=>[(0,bu x.b),(8,.c (.int .i64 ((x.dp-1:Nat):Int))),(9,bu x.last)]) (fun _=>[]) (fun x=>1≤x.dp∧x.b.length≤x.f∧x.b.length≤1000000∧x.dp≤lv+2∧fI (bm lv) set (lv+1) x.f x.b x.last x.dp=wC lv set body) (fun x=>x.f) (⟨body.length,body,[],1⟩) ?_ (fun _=>rfl) ?_ ?_ ?_
 ·exact ⟨Nat.le_refl _,Nat.le_refl _,hbody,by show 1≤lv+2;omega,rfl⟩
 ·(repeat (first|exact bZ.nil|refine bZ.cons cZ ?_))
 ·(repeat (exact aS.nil))
 ·rintro x ⟨hd1,hxf,hxb',hdp,hw⟩
  have hxb:x.b.length≤10000000:=by omega
  have hnb:=ew x.b
  refine jU 523167 ?_;refine aq (fun h97=>?_) fun h97=>?_
  rotate_left
  ·refine jU 800070005111684000200020006000 ?_
   obtain hnil:x.b=[]:=List.eq_nil_of_length_eq_zero jO
   rw [hnil,pf] at hw
   rw [← hw]
   exact cZ
  refine jU 1620810 ?_
  refine ak (ap (uD x.b hxb) ?_)
  refine jU 52167511119009009009001 ?_;refine aq (fun h99=>?_) fun h99=>?_
  ·refine jU 800030005000300050003000700051116 ?_
   rw [← hw,bS _ _ _ _ _ _ _ jO hxf,jP]
   exact cZ
  refine jU 7810 ?_
  have he:¬(ah x.b).e≠0:=by omega
  have hcut:=xq (b:=x.b) jO
  have htm:=kF (b:=x.b) jO
  refine jU 5216 ?_;refine aq (fun h102=>?_) fun h102=>?_
  ·refine jU 80003000500030005000300070005116 ?_
   rw [← hw,bS _ _ _ _ _ _ _ jO hxf,if_neg he,jP]
   exact cZ
  refine jU 810 ?_
  have hW:=hR (ah x.b).tag (ah x.b).body
  refine jU 167516 ?_
  refine ak (ap (qB _) ?_)
  refine jU 5 ?_;refine aq (fun h106=>?_) fun h106=>?_
  rotate_left
  ·refine jU 77810 ?_
   have hw0:¬(bm lv (ah x.b).tag (ah x.b).body).2≠0:=by (rw [pL (decide_eq_false h106)];decide)
   have hw1:=pK (Classical.not_not.1 hw0)
   refine jE (bF 14 (.c (.int .i64 ((bm lv (ah x.b).tag (ah x.b).body).1:Nat))) (cI (by (rw [pL (decide_eq_false h106)];rfl)))) ?_;refine ff (.rd 0 (.rd 1 (.rd 2 (.rd 3 (.rd 4 (.rd 5 (.rd 6 (.rd 7 (.rd 8 (.rd 9 .done)))))))))) ?_;refine jU 7070 ?_;refine gG 53 (fun g113=>?_) fun g113=>?_
   rotate_left
   ·refine jU 7810300880300000600600600600600600600 ?_
    have hset:¬(set=true∧Op.bytesLess (x.b.take (x.b.length-(ah x.b).rest.length)) x.last=true):=by
     rintro ⟨h1,h2⟩
     rw [← htm] at h2
     (rw [h1] at g113;exact absurd g113 jD)
    refine jU 52116 ?_;refine aq (fun h116=>?_) fun h116=>?_
    rotate_left
    ·refine jU 112005190000000116810 ?_;refine jq nF ?_;refine jU 840051 ?_
     refine aw (⟨x.f-1,(ah x.b).rest,x.b.take (x.b.length-(ah x.b).rest.length),max x.dp ((bm lv (ah x.b).tag (ah x.b).body).1+1)⟩) ?_ ?_ (h5:=?_)
     ·exact ⟨by dsimp only;omega,by dsimp only;omega,by dsimp only;omega,by dsimp only;omega,by
       dsimp only
       rw [← hw,bS _ _ _ _ _ _ _ jO hxf,if_neg he,jK,if_neg hw0,if_neg hset]⟩
     ·dsimp only
      omega
     ·exact .cons (ab.bs hcut.2.1.symm) (.cons (cI (by dsimp only;omega)) (.cons (ab.bs (by rw [htm])) .nil))
    refine jU 1120051900000001168511200 ?_;refine jq nF ?_;refine jU 840051 ?_
    refine aw (⟨x.f-1,(ah x.b).rest,x.b.take (x.b.length-(ah x.b).rest.length),max x.dp ((bm lv (ah x.b).tag (ah x.b).body).1+1)⟩) ?_ ?_ (h5:=?_)
    ·exact ⟨by dsimp only;omega,by dsimp only;omega,by dsimp only;omega,by dsimp only;omega,by
      dsimp only
      rw [← hw,bS _ _ _ _ _ _ _ jO hxf,if_neg he,jK,if_neg hw0,if_neg hset]⟩
    ·dsimp only
     omega
    ·exact .cons (ab.bs hcut.2.1.symm) (.cons (cI (by dsimp only;omega)) (.cons (ab.bs (by rw [htm])) .nil))
   refine jU 7070 ?_;refine bV tH ?_;refine jU 300000007030000000 ?_;refine bV CN ?_;refine jU 8803000000 ?_;refine aq (fun h113=>?_) fun h113=>?_
   ·refine jU 80003000500030005000300070005116 ?_
    rw [← hw,bS _ _ _ _ _ _ _ jO hxf,if_neg he,jK,if_neg hw0,if_pos ⟨by assumption,by rw [← htm];simpa using h113⟩]
    exact cZ
   refine jU 7810 ?_
   have hset:¬(set=true∧Op.bytesLess (x.b.take (x.b.length-(ah x.b).rest.length)) x.last=true):=by
    rintro ⟨h1,h2⟩
    rw [← htm] at h2
    (rw [h2] at h113;exact absurd h113 jD)
   refine jU 52116 ?_;refine aq (fun h116=>?_) fun h116=>?_
   rotate_left
   ·refine jU 112005190000000116810 ?_;refine jq nF ?_;refine jU 840051 ?_
    refine aw (⟨x.f-1,(ah x.b).rest,x.b.take (x.b.length-(ah x.b).rest.length),max x.dp ((bm lv (ah x.b).tag (ah x.b).body).1+1)⟩) ?_ ?_ (h5:=?_)
    ·exact ⟨by dsimp only;omega,by dsimp only;omega,by dsimp only;omega,by dsimp only;omega,by
      dsimp only
      rw [← hw,bS _ _ _ _ _ _ _ jO hxf,if_neg he,jK,if_neg hw0,if_neg hset]⟩
    ·dsimp only
     omega
    ·exact .cons (ab.bs hcut.2.1.symm) (.cons (cI (by dsimp only;omega)) (.cons (ab.bs (by rw [htm])) .nil))
   refine jU 1120051900000001168511200 ?_;refine jq nF ?_;refine jU 840051 ?_
   refine aw (⟨x.f-1,(ah x.b).rest,x.b.take (x.b.length-(ah x.b).rest.length),max x.dp ((bm lv (ah x.b).tag (ah x.b).body).1+1)⟩) ?_ ?_ (h5:=?_)
   ·exact ⟨by dsimp only;omega,by dsimp only;omega,by dsimp only;omega,by dsimp only;omega,by
     dsimp only
     rw [← hw,bS _ _ _ _ _ _ _ jO hxf,if_neg he,jK,if_neg hw0,if_neg hset]⟩
   ·dsimp only
    omega
   ·exact .cons (ab.bs hcut.2.1.symm) (.cons (cI (by dsimp only;omega)) (.cons (ab.bs (by rw [htm])) .nil))
  refine jU 1116 ?_;refine jq IF ?_;refine jU 2191 ?_
  refine ak (ap (ih' jO (ah x.b).tag (ah x.b).body (decide_eq_true h106) jO) ?_ (ho:=rfl) (he:=(.cons (se rfl (ab.bs hcut.1.symm)) (.cons (se rfl cZ) (.cons (se rfl (cB (decide_eq_decide.2 jO))) .nil)))))
  refine jU 521675119009001 ?_;refine aq (fun h108=>?_) fun h108=>?_
  ·refine jU 8000300050003000500030003000700051116 ?_
   rw [← hw,bS _ _ _ _ _ _ _ jO hxf,if_neg he,jK,jP]
   exact cZ
  refine jU 7785191200810 ?_
  have hw0:¬(bm lv (ah x.b).tag (ah x.b).body).2≠0:=by omega
  have hw1:=pK (Classical.not_not.1 hw0)
  refine jE (bF 14 (.c (.int .i64 ((bm lv (ah x.b).tag (ah x.b).body).1:Nat))) (cI jO)) ?_;refine ff (.rd 0 (.rd 1 (.rd 2 (.rd 3 (.rd 4 (.rd 5 (.rd 6 (.rd 7 (.rd 8 (.rd 9 .done)))))))))) ?_;refine jU 7070 ?_;refine gG 53 (fun g113=>?_) fun g113=>?_
  rotate_left
  ·refine jU 7810300880300000600600600600600600600 ?_
   have hset:¬(set=true∧Op.bytesLess (x.b.take (x.b.length-(ah x.b).rest.length)) x.last=true):=by
    rintro ⟨h1,h2⟩
    rw [← htm] at h2
    (rw [h1] at g113;exact absurd g113 jD)
   refine jU 52116 ?_;refine aq (fun h116=>?_) fun h116=>?_
   rotate_left
   ·refine jU 112005190000000116810 ?_;refine jq nF ?_;refine jU 840051 ?_
    refine aw (⟨x.f-1,(ah x.b).rest,x.b.take (x.b.length-(ah x.b).rest.length),max x.dp ((bm lv (ah x.b).tag (ah x.b).body).1+1)⟩) ?_ ?_ (h5:=?_)
    ·exact ⟨by dsimp only;omega,by dsimp only;omega,by dsimp only;omega,by dsimp only;omega,by
      dsimp only
      rw [← hw,bS _ _ _ _ _ _ _ jO hxf,if_neg he,jK,if_neg hw0,if_neg hset]⟩
    ·dsimp only
     omega
    ·exact .cons (ab.bs hcut.2.1.symm) (.cons (cI (by dsimp only;omega)) (.cons (ab.bs (by rw [htm])) .nil))
   refine jU 1120051900000001168511200 ?_;refine jq nF ?_;refine jU 840051 ?_
   refine aw (⟨x.f-1,(ah x.b).rest,x.b.take (x.b.length-(ah x.b).rest.length),max x.dp ((bm lv (ah x.b).tag (ah x.b).body).1+1)⟩) ?_ ?_ (h5:=?_)
   ·exact ⟨by dsimp only;omega,by dsimp only;omega,by dsimp only;omega,by dsimp only;omega,by
     dsimp only
     rw [← hw,bS _ _ _ _ _ _ _ jO hxf,if_neg he,jK,if_neg hw0,if_neg hset]⟩
   ·dsimp only
    omega
   ·exact .cons (ab.bs hcut.2.1.symm) (.cons (cI (by dsimp only;omega)) (.cons (ab.bs (by rw [htm])) .nil))
  refine jU 7070 ?_;refine bV tH ?_;refine jU 300000007030000000 ?_;refine bV CN ?_;refine jU 8803000000 ?_;refine aq (fun h113=>?_) fun h113=>?_
  ·refine jU 80003000500030005000300070005116 ?_
   rw [← hw,bS _ _ _ _ _ _ _ jO hxf,if_neg he,jK,if_neg hw0,if_pos ⟨by assumption,by rw [← htm];simpa using h113⟩]
   exact cZ
  refine jU 7810 ?_
  have hset:¬(set=true∧Op.bytesLess (x.b.take (x.b.length-(ah x.b).rest.length)) x.last=true):=by
   rintro ⟨h1,h2⟩
   rw [← htm] at h2
   (rw [h2] at h113;exact absurd h113 jD)
  refine jU 52116 ?_;refine aq (fun h116=>?_) fun h116=>?_
  rotate_left
  ·refine jU 112005190000000116810 ?_;refine jq nF ?_;refine jU 840051 ?_
   refine aw (⟨x.f-1,(ah x.b).rest,x.b.take (x.b.length-(ah x.b).rest.length),max x.dp ((bm lv (ah x.b).tag (ah x.b).body).1+1)⟩) ?_ ?_ (h5:=?_)
   ·exact ⟨by dsimp only;omega,by dsimp only;omega,by dsimp only;omega,by dsimp only;omega,by
     dsimp only
     rw [← hw,bS _ _ _ _ _ _ _ jO hxf,if_neg he,jK,if_neg hw0,if_neg hset]⟩
   ·dsimp only
    omega
   ·exact .cons (ab.bs hcut.2.1.symm) (.cons (cI (by dsimp only;omega)) (.cons (ab.bs (by rw [htm])) .nil))
  refine jU 1120051900000001168511200 ?_;refine jq nF ?_;refine jU 840051 ?_
  refine aw (⟨x.f-1,(ah x.b).rest,x.b.take (x.b.length-(ah x.b).rest.length),max x.dp ((bm lv (ah x.b).tag (ah x.b).body).1+1)⟩) ?_ ?_ (h5:=?_)
  ·exact ⟨by dsimp only;omega,by dsimp only;omega,by dsimp only;omega,by dsimp only;omega,by
    dsimp only
    rw [← hw,bS _ _ _ _ _ _ _ jO hxf,if_neg he,jK,if_neg hw0,if_neg hset]⟩
  ·dsimp only
   omega
  ·exact .cons (ab.bs hcut.2.1.symm) (.cons (cI (by dsimp only;omega)) (.cons (ab.bs (by rw [htm])) .nil))
theorem Kb {b:List UInt8} (h:(ah b).e=0) (hr:(ah b).rest=[]):((wC 16 false b).1-1,(wC 16 false b).2)=bm 16 (ah b).tag (ah b).body:=by
 have hb:b≠[]:=by rintro rfl;exact absurd h jD
 have hl:0<b.length:=List.length_pos_iff.2 hb
 unfold wC
 rw [bS _ _ _ _ _ _ _ hl (Nat.le_refl _),jK,if_neg jD]
 by_cases hw:(bm 16 (ah b).tag (ah b).body).2=0
 ·have:=pK hw
  rw [jK,if_neg (by simp),hr,pf]
  refine Prod.ext ?_ hw.symm
  show max 1 _-1=_
  omega
 ·rw [if_pos hw]
  refine Prod.ext ?_ rfl
  show 0-1=_
  have:(bm 16 (ah b).tag (ah b).body).1=0:=by
   unfold bm at hw ⊢
   split
   ·rename_i h1;rw [if_pos h1] at hw;exact absurd rfl hw
   ·rename_i h1;rw [if_neg h1] at hw;exact xw hw
  omega
theorem w8 {gs:List Nat} (b:List UInt8) (hb:b.length≤1000000):bM gs Tryz.prog 11 [bu b] (.tup 2 (fl [.c (.int .i64 (af b).1),.c (.int .i64 (af b).2)])):=by
 have hnb:=ew b
 refine ai 29 Tryz.func11 fun al w0 F0 St0=>?_;refine jU 5231675116 ?_;refine aq (fun h127=>?_) fun h127=>?_
 ·refine jU 8000300070005116 ?_
  unfold af
  rw [jP]
  exact cZ
 refine jU 16810 ?_
 refine ak (ap (uD b jO) ?_)
 refine jU 52167511119009009009001 ?_;refine aq (fun h131=>?_) fun h131=>?_
 ·refine jU 80003000700051116 ?_
  unfold af
  rw [jK,jP]
  exact cZ
 refine jU 5231167810 ?_;refine aq (fun h134=>?_) fun h134=>?_
 ·refine jU 8000300070005116 ?_
  have htm:=kF (b:=b) jO
  unfold af
  rw [jK,jK,jP]
  exact cZ
 refine jU 16810 ?_
 refine ak (ap (EJ 16 false b jO hb) ?_)
 refine jU 80007000511900900 ?_
 have htm:=kF (b:=b) jO
 have hr:(ah b).rest=[]:=List.eq_nil_of_length_eq_zero jO
 have:=Kb (b:=b) jO hr
 have hd:af b=((wC 16 false b).1-1,(wC 16 false b).2):=by
  unfold af
  rw [jK,jK,jK,this]
 rw [hd]
 exact cZ
end
section
theorem qc (x:Int) (w:World):Calls Tryz.prog 276 #[.int .u8 x] w fun e w'=>e=.returned (.bool false)∧w'=w:=by
 go_enter Tryz.func276,Tryz.ntmps276
 go_wp2
 go_ret
 exact ⟨rfl,rfl⟩
set_option maxHeartbeats 1000000 in
theorem By (a b:UInt8) (w:World):Calls Tryz.prog 264 #[.int .u8 (a.toNat:Nat),.int .u8 (b.toNat:Nat)] w fun e w'=>e=.returned (.int .i64 (f5 a b))∧w'=w:=by
 rcases Nat.lt_trichotomy a.toNat b.toNat with h|h|h
 ·have HF:Hid (f5 a b=-1):=by unfold f5;rw [if_pos h];rfl
  have h1:decide (((a.toNat:Nat):Int)<(b.toNat:Nat))=true:=by simp;omega
  go_enter Tryz.func264,Tryz.ntmps264
  go_wp2_with (go_at_call 276;refine (qc _ _).mono ?_;rintro e w' ⟨rfl,rfl⟩)
  go_ret
  exact ⟨by rw [HF.out];rfl,rfl⟩
 ·have HF:Hid (f5 a b=0):=by unfold f5;rw [jK,jK];rfl
  have h1:decide (((a.toNat:Nat):Int)<(b.toNat:Nat))=false:=by simp;omega
  have h2:decide (((b.toNat:Nat):Int)<(a.toNat:Nat))=false:=by simp;omega
  go_enter Tryz.func264,Tryz.ntmps264
  go_wp2_with (go_at_call 276;refine (qc _ _).mono ?_;rintro e w' ⟨rfl,rfl⟩)
  go_ret
  exact ⟨by rw [HF.out];rfl,rfl⟩
 ·have HF:Hid (f5 a b=1):=by unfold f5;rw [jK,if_pos h];rfl
  have h1:decide (((a.toNat:Nat):Int)<(b.toNat:Nat))=false:=by simp;omega
  have h2:decide (((b.toNat:Nat):Int)<(a.toNat:Nat))=true:=by simp;omega
  go_enter Tryz.func264,Tryz.ntmps264
  go_wp2_with (go_at_call 276;refine (qc _ _).mono ?_;rintro e w' ⟨rfl,rfl⟩)
  go_ret
  exact ⟨by rw [HF.out];rfl,rfl⟩
theorem Ej {w:World} {ao:Option Addr} {n cap:Nat} {l:List UInt8} (h:Bs w (.slice ao n cap) l) {k:Nat} (hk:k<l.length):∃ b o,ao=some ⟨b,o,none⟩∧w.cell? ⟨b,o+k,none⟩=some (.int .u8 (l.getD k 0).toNat):=by
 obtain ⟨b,o,cap',e,h1,h2,h3⟩:=h.cons jO
 injection e with e1 e2 e3
 exact ⟨b,o,e1,h3 k hk⟩
set_option maxHeartbeats 2000000 in
theorem zi {w:World} {v1 v2:Value} {l r:List UInt8} (h1:Bs w v1 l) (h2:Bs w v2 r):Calls Tryz.prog 238 #[v1,v2] w fun e w'=>e=.returned (.int .i64 (eo l r))∧w'=w:=by
 obtain ⟨ao1,cap1,rfl,a1,a2,-,-⟩:=id h1
 obtain ⟨ao2,cap2,rfl,b1,b2,-,-⟩:=id h2
 have H1:=Lib.hid h1
 have H2:=Lib.hid h2
 clear h1 h2
 have L1:(l.length:Int)≤9223372036854775807:=by omega
 have A1:=Lib.hid a1;have A2:=Lib.hid a2;have B1:=Lib.hid b1;have B2:=Lib.hid b2
 clear a1 a2 b1 b2
 go_enter Tryz.func238,Tryz.ntmps238
 go_wp2
 go_loopw [11] (fun i wr=>∃ k:Nat,Hid (k≤l.length∧k≤r.length∧eo (l.drop k) (r.drop k)=eo l r)∧i=.int .i64 k∧wr=w) (fun i _=>l.length-(intOf i).toNat)
 case atStart=>exact ⟨0,⟨Nat.zero_le _,Nat.zero_le _,rfl⟩,rfl,rfl⟩
 case round =>
  obtain ⟨k,HK,rfl,rfl⟩:=hrel
  by_cases hk:k<l.length
  ·have q1:decide ((k:Int)<(l.length:Int))=true:=by simp;omega
   obtain ⟨p1,o1,rfl,c1⟩:=Ej H1.out hk
   by_cases hr:k<r.length
   ·have q2:decide ((r.length:Int)≤(k:Int))=false:=by simp;omega
    obtain ⟨p2,o2,rfl,c2⟩:=Ej H2.out hr
    have HS:=Lib.hid (sK (l:=l) (r:=r) (i:=k) hk hr)
    have i1:(0:Int)≤(k:Int):=by omega
    have i2:(k:Int)<(l.length:Int):=by omega
    have i3:(k:Int)<(r.length:Int):=by omega
    generalize l.getD k 0=x at c1 HS
    generalize r.getD k 0=y at c2 HS
    by_cases hz:f5 x y=0
    ·have HZ:=Lib.hid hz
     have q3:(f5 x y != 0)=false:=by rw [hz];rfl
     clear hz
     go_wp2_with (go_at_call 264;refine (By _ _ _).mono ?_;rintro e w' ⟨rfl,rfl⟩)
     case roundEnd=>exact ⟨⟨k+1,⟨by omega,by omega,by rw [← HK.out.2.2,HS.out,if_neg (fun e=>e HZ.out)]⟩,by simp,trivial⟩,by simp [intOf];omega⟩
    ·have HF:Hid (eo l r=f5 x y):=by show _=_;rw [← HK.out.2.2,HS.out,if_pos hz]
     have q3:(f5 x y != 0)=true:=by simp [hz]
     clear hz
     go_wp2_with (go_at_call 264;refine (By _ _ _).mono ?_;rintro e w' ⟨rfl,rfl⟩)
     all_goals (go_ret;exact ⟨by rw [HF.out];rfl,rfl⟩)
   ·have HF:Hid (eo l r=1):=by
     show _=_
     rw [← HK.out.2.2,List.drop_eq_nil_of_le (by omega:r.length≤k),List.drop_eq_getElem_cons hk];rfl
    have q2:decide ((r.length:Int)≤(k:Int))=true:=by simp;omega
    have i1:(0:Int)≤(k:Int):=by omega
    have i2:(k:Int)<(l.length:Int):=by omega
    go_wp2
    all_goals (go_ret;exact ⟨by rw [HF.out];rfl,rfl⟩)
  ·have q1:decide ((k:Int)<(l.length:Int))=false:=by simp;omega
   have hkl:k=l.length:=by have:=HK.out.1;omega
   by_cases hr:l.length<r.length
   ·have HF:Hid (eo l r=-1):=by
     show _=_
     rw [← HK.out.2.2,hkl,List.drop_length,List.drop_eq_getElem_cons hr];rfl
    have q2:decide ((l.length:Int)<(r.length:Int))=true:=by simp;omega
    go_wp2
    all_goals (go_ret;exact ⟨by rw [HF.out];rfl,rfl⟩)
   ·have HF:Hid (eo l r=0):=by
     show _=_
     have e:r.length=l.length:=by have:=HK.out.2.1;omega
     rw [← HK.out.2.2,hkl,List.drop_length,← e,List.drop_length];rfl
    have q2:decide ((l.length:Int)<(r.length:Int))=false:=by simp;omega
    go_wp2
    all_goals (go_ret;exact ⟨by rw [HF.out];rfl,rfl⟩)
end
section
open Go.Sort (SWO PermIn SortedIn putCells putRow mapBlock ahead grow onCells)
def lM (ls:List (List UInt8)) (j:Nat):CV:=bu (ls.getD j [])
section
variable {α:Type} [Inhabited α] {enc:α→Value} {w:World} {g n:Nat} {d:Array α} {os:Array Obj}
theorem nO {b:Nat} (hb:b<w.heap.size) (hn:b≠g):(sortWorld enc w g 0 n d os).heap[b]?=w.heap[b]?:=by
 show ((w.heap.modify g (onCells (putCells enc 0 d)))++os)[b]?=_
 rw [Array.getElem?_append_left (by simpa using hb),Array.getElem?_modify,if_neg (fun e=>hn e.symm)]
theorem G3 {cur:Array Value} {t:TypeId} {z:Nat×Nat} (h:w.heap[g]?=some (.cells cur t z)):(sortWorld enc w g 0 n d os).heap[g]?=some (.cells (putCells enc 0 d cur) t z):=by
 have hb:g<w.heap.size:=(Array.getElem?_eq_some_iff.1 h).1
 show ((w.heap.modify g (onCells (putCells enc 0 d)))++os)[g]?=_
 rw [Array.getElem?_append_left (by simpa using hb),Array.getElem?_modify,if_pos rfl,h]
 rfl
theorem BX:w.heap.size≤(sortWorld enc w g 0 n d os).heap.size:=by
 show _≤((w.heap.modify g (onCells (putCells enc 0 d)))++os).size
 rw [Array.size_append,Array.size_modify]
 omega
end
theorem KV {cs:Array Value} {m:Nat} {enc:Fin (m+1)→Value} {d:Array (Fin (m+1))} {i:Nat} (hi:i<d.size) (hc:d.size≤cs.size):(putCells enc 0 d cs).getD i undef=enc d[i]! := by
 have h2:i<(putCells enc 0 d cs).size:=by simp [putCells];omega
 rw [Array.getD_eq_getD_getElem?,Array.getElem?_eq_getElem h2]
 simp [putCells,hi]
theorem G4 {gs:List Nat} {P:Program} {fs fc:FuncId}
  (hnone:∀ (p:Option Addr) (cap:Nat) (fv:Value) (w:World),Calls P fs #[.slice p 0 cap,fv] w fun e w'=>e=.returned (.tuple #[])∧w'=w)
  (hsort:∀ (m:Nat) (enc:Fin (m+1)→Value) (h1:OneCell enc) (cf:Fin (m+1)→Fin (m+1)→Int) (hO:SWO (ltOf cf)) (blk cap:Nat) (d:Array (Fin (m+1))) (w:World),CmpLays1 P fc #[] enc cf blk 0 d.size w→Go.Sort.Holds enc w blk 0 d→blk<w.heap.size→d.size<4611686018427387904 →
   Calls P fs #[.slice (some ⟨blk,0,none⟩) d.size cap,.func (.func fc) #[] #[]] w fun e w'=>e=.returned (.tuple #[])∧∃ d' n os,PermIn 0 d.size d d'∧SortedIn (ltOf cf) 0 d.size d'∧w'=sortWorld enc w blk 0 n d' os)
  (hcmp:∀ (w:World) (v1 v2:Value) (l r:List UInt8),Bs w v1 l→Bs w v2 r→Calls P fc #[v1,v2] w fun e w'=>e=.returned (.int .i64 (eo l r))∧w'=w)
  (g:Option Nat) (ls:List (List UInt8)) (hl:ls.length≤1000000000):AC gs P fs [(g,.blk ls.length (lM ls))] [.os 0 g 0 ls.length 1,.c (.func (.func fc) #[] #[])] (fun r H'=>r=.c (.tuple #[])∧H'=[(g,.blk ls.length (lM (fQ ls)))]):=by
 intro al w St F0 vals he hs hv
 obtain ⟨fp,hp⟩:=he.hp
 have v0:=hv 0
 have v1:vals.getD 1 undef=.func (.func fc) #[] #[]:=hv 1
 have hnil:ls.length=0→fQ ls=ls:=fun h=>by
  have:ls=[]:=List.eq_nil_of_length_eq_zero h
  subst this;simp [fQ]
 have same:ls.length=0→cH al St w w.heap.size F0 [(g,.blk ls.length (lM (fQ ls)))]:=fun h=>⟨fp,by rw [hnil h];exact hp⟩
 rw [ui hs,v1]
 by_cases hz:ls.length=0
 ·have hx:∃ p cap,vals.getD 0 undef=.slice p 0 cap:=by
   cases g with
   | none=>exact ⟨none,0,v0.2⟩
   | some b=>obtain ⟨cap,h1,_⟩:=v0;exact ⟨_,cap,by rw [h1,hz]⟩
  obtain ⟨p,cap,hx⟩:=hx
  rw [hx]
  refine (hnone p cap _ w).mono ?_
  rintro e w' ⟨rfl,rfl⟩
  exact ⟨_,_,_,St,rfl,⟨rfl,rfl⟩,rfl,iI.refl _ _,fun _ h=>h,fun _ h=>.inl h,he.s3,same hz⟩
 ·cases g with
  | none=>exact absurd v0.1 hz
  | some b =>
   obtain ⟨cap,h1,h2,h3,cur0,t0,z0,h4,h5⟩:=v0
   obtain ⟨hF,cur,t,k1,k2,k3⟩:=hp.rep 0 (some b) _ rfl
   have hF0:F0 b:=by
    rcases (hp.own 0 b ((hF b).2 rfl)).2.2 with h|h
    ·have:=(hp.own 0 b ((hF b).2 rfl)).1;omega
    ·exact h
   have hSt:∀ x,St x→x≠b:=fun x hx e=>(hp.own 0 b ((hF b).2 rfl)).2.1 (e ▸ hx)
   have hb:b<w.heap.size:=(Array.getElem?_eq_some_iff.1 k1).1
   obtain ⟨m,hm⟩:∃ m,ls.length=m+1:=⟨ls.length-1,by omega⟩
   let enc:Fin (m+1)→Value:=fun i=>cur.getD i.val undef
   let d:Array (Fin (m+1)):=Array.ofFn id
   have hd:d.size=ls.length:=by simp [d,hm]
   have hrep:∀ i:Fin (m+1),bv al St w (bu (ls.getD i.val [])) (enc i):=fun i=>k3 i.val jO
   have hbs:∀ (w':World),gK St w w'→∀ i:Fin (m+1),Bs w' (enc i) (ls.getD i.val []):=fun w' hk i=>pt (nU (hrep i) hk)
   have hone:OneCell enc:=fun i=>by
    obtain ⟨ao,cap,e,_⟩:=hbs w (gK.refl _ _) i
    rw [e];rfl
   have hkeep:∀ (n:Nat) (d':Array (Fin (m+1))) (os:Array Obj),gK St w (sortWorld enc w b 0 n d' os):=fun n d' os x hx=>nO (he.s3 x hx) (hSt x hx)
   have hO:=JL (fun i:Fin (m+1)=>ls.getD i.val [])
   have hH:Go.Sort.Holds enc w b 0 d:=fun j hj=>by
    have hj2:j<cur.size:=by omega
    have e1:d[j]! = ⟨j,by omega⟩:=by simp [d,show j<m+1 by omega]
    refine ⟨?_,?_⟩
    ·simp only [World.cell?,k1,Nat.zero_add]
     rw [if_neg (by simp),e1]
     simp [enc,hj2]
    ·simp [World.frozen?,k1]
   have key:=hsort m enc hone (fun x y=>eo (ls.getD x.val []) (ls.getD y.val [])) hO b cap d w (fun n os dk hdk x y=>(hcmp _ _ _ _ _ (hbs _ (hkeep n dk os) x) (hbs _ (hkeep n dk os) y)).mono (by rintro e w' ⟨rfl,rfl⟩;exact ⟨rfl,0,#[],by simp [World.drewN]⟩)) hH hb jO
   rw [h1,← hd]
   refine key.mono ?_
   rintro e w' ⟨rfl,d',n,os,hP,hS,rfl⟩
   have hd':d'.size=ls.length:=hP.1.trans hd
   have hms:(d'.toList.map fun i=>ls.getD i.val [])=fQ ls:=by
    refine zV ?_ ?_
    ·have h6:=hP.2.2
     have e1:(d'.extract 0 d.size).toList=d'.toList:=by rw [← hP.1];simp
     have e2:(d.extract 0 d.size).toList=d.toList:=by simp
     rw [e1,e2] at h6
     refine (h6.map _).trans ?_
     have e3:d.toList.map (fun i:Fin (m+1)=>ls.getD i.val [])=ls:=by
      apply List.ext_getElem
      ·simp [d,hm]
      ·intro i h7 h8
       rw [List.getElem_map,Array.getElem_toList]
       have e4:d[i]'(by rw [hd];exact h8)=⟨i,by omega⟩:=by simp only [d,Array.getElem_ofFn];rfl
       rw [e4];simp only [List.getD,List.getElem?_eq_getElem h8,Option.getD_some]
     rw [e3]
    ·rw [List.pairwise_map,List.pairwise_iff_getElem]
     intro i j hi hj hij
     have h7:=hS i j (Nat.zero_le _) hij (by rw [← hP.1];simpa using hj)
     have hi2:i<d'.size:=by simpa using hi
     have hj2:j<d'.size:=by simpa using hj
     rw [getElem!_pos d' i hi2,getElem!_pos d' j hj2] at h7
     unfold ltOf at h7
     simp only [decide_eq_false_iff_not,Int.not_lt] at h7
     have h8:=dW (ls.getD (d'[j]).val []) (ls.getD (d'[i]).val [])
     unfold sl
     rw [decide_eq_true_eq]
     simp only [Array.getElem_toList]
     omega
   have hw:=G3 (enc:=enc) (n:=n) (d:=d') (os:=os) k1
   have hsz:=BX (enc:=enc) (w:=w) (g:=b) (n:=n) (d:=d') (os:=os)
   have hput:(putCells enc 0 d' cur).size=cur.size:=by simp [putCells]
   refine ⟨_,_,_,St,rfl,⟨rfl,rfl⟩,rfl,⟨rfl,rfl,rfl,hsz,fun x hx hn=>nO hx (fun e=>hn (e ▸ hF0)),fun x cx tx zx hx=>?_⟩,fun _ h=>h,fun _ h=>.inl h,fun x hx=>Nat.lt_of_lt_of_le (he.s3 x hx) hsz,fp,fun i g' r hi=>?_,hp.dis,fun i x hx=>?_,hp.out⟩
   ·by_cases e:x=b
    ·subst e
     rw [k1] at hx
     cases hx
     exact ⟨_,_,hw,hput⟩
    ·exact ⟨cx,zx,(nO (Array.getElem?_eq_some_iff.1 hx).1 e).trans hx,rfl⟩
   ·cases i with
    | zero =>
     cases hi
     refine ⟨hF,_,t,hw,by rw [hput];omega,fun i hi=>?_⟩
     have hi':i<d'.size:=by omega
     rw [KV hi' jO]
     have e:lM (fQ ls) i=bu (ls.getD (d'[i]!).val []):=by
      unfold lM
      rw [← hms]
      simp [List.getD,hi']
     rw [e]
     exact nU (hrep _) (hkeep n d' os)
    | succ i=>simp at hi
   ·exact ⟨Nat.lt_of_lt_of_le (hp.own i x hx).1 hsz,(hp.own i x hx).2⟩
end
section
theorem bW:Dj 1 lM:=fun l l2 j hj=>by
 simp only [lM,List.getD_eq_getElem?_getD]
 split
 ·rw [List.getElem?_append_left jO]
 ·rw [List.getElem?_append_right jO,Nat.mul_one]
theorem yV {ls:List (List UInt8)}:∀ a b,a<ls.length→b<1→ab (lM ls (0+(a * 1+b))) (bu (ls.getD a [])):=fun a b ha hb=>ab.of_eq (by rw [show 0+(a * 1+b)=a by omega];rfl)
theorem Gq {gs:List Nat} (l:List (List UInt8)) (hl:l.length≤1000000):AC gs Tryz.prog 240 [] [BN l] (we l.length 1 l.length (lM l)):=by
 refine ai 8 Tryz.func240 fun al w0 F0 St0=>?_;refine jU 167516 ?_;refine wS (bq rfl) rfl rfl rfl Tryz.underlying186 rfl rfl (fun h357=>?_) ?_
 ·refine jU 51690005 ?_;refine jE (tQ 2 1 (lM l) rfl) ?_;refine jU 30007000 ?_
  exact vK 0 (.inl rfl) (aA rfl (aP rfl)) rfl jO jO (fun _=>by omega) (fun j hj=>by omega)
 ·refine jU 68103005 ?_
  refine ak (aU 0 1 cJ fun p1=>?_)
  refine jU 1 ?_
  refine ar (av (l:=[]) ( bW) rfl rfl rfl rfl (Nat.le_of_eq (Nat.zero_mul _)) (fun j hj=>absurd hj (by simp)) (dj rfl) rfl (fun j hj=>by (simp only [Nat.div_one];exact cZ)) Tryz.underlying186 dY gQ cJ gW rfl (by (simp;omega)) (by (simp;omega)) (fun j hj=>rfl) rfl rfl rfl (fun p2=>?_))
  refine jU 700051 ?_
  exact vK 0 (.inl rfl) (aA rfl (aP rfl)) rfl (by simp) (by simp) (fun _=>by simp) (fun j hj=>cZ)
theorem yT {a b:List UInt8}:sl a b=true↔0≤eo b a:=by
 have:=dW a b
 unfold sl
 rw [decide_eq_true_eq]
 omega
end
section
abbrev Em:=(Int×List (List UInt8))×Option Nat
def sy:Em:=((0,[]),none)
def rH (x:Em):Nat→CV:=fl [.c (.int .i64 x.1.1),.os 0 x.2 0 x.1.2.length 1]
def LR (x:Em):Option Nat×bp:=(x.2,.blk x.1.2.length (lM x.1.2))
abbrev BP (fr:List (Int×List (List UInt8))):={ z:Nat×Option Nat×Option Nat×List Em // z.2.2.2.map Prod.fst=fr }
def Dm (s:W8) (io jd:Nat) (go gd:Option Nat):Nat→CV:=fl [.os io go 0 s.fr.length 2,.os jd gd 0 s.d.length 1,.err s.k]
def BK (s:W8) (z:BP s.fr):List (Option Nat×bp):=[(some z.1.1,.blk 3 (Dm s 1 2 z.1.2.1 z.1.2.2.1)),(z.1.2.1,.blk (s.fr.length * 2) (eK 2 rH sy z.1.2.2.2.reverse)),(z.1.2.2.1,.blk s.d.length (ft s.d)),nG (z.1.2.2.2.map LR)]
def iO (n:Nat) (s:W8):Option Nat×bp:=lZ n (fun z:BP s.fr=>z.1.1) (BK s)
section
variable {P:Program} {G:Gh} {c:Code} {R:Exit→AS→Prop} {n:Nat} {s:W8} {env:List (Nat×CV)} {b0:Nat→CV} {H:List (Option Nat×bp)}
theorem jf (i:Nat) (hi:H[i]?=some (iO n s)) (h:∀ go gd (zs:List Em),zs.map Prod.fst=s.fr→bj P G c ⟨env,b0,H.set i (some n,.blk 3 (Dm s H.length (H.length+1) go gd))++[(go,.blk (s.fr.length * 2) (eK 2 rH sy zs.reverse)),(gd,.blk s.d.length (ft s.d)),nG (zs.map LR)]⟩ R):bj P G c ⟨env,b0,H⟩ R:=by
 have hlt:=(List.getElem?_eq_some_iff.1 hi).1
 refine oz i hi fun z hz=>?_
 obtain ⟨⟨n',go,gd,zs⟩,hzs⟩:=z
 obtain rfl:n'=n:=hz
 refine jE (nl i 3 (Dm s H.length (H.length+1) go gd) (n:=3) (g:=some n') (f:=Dm s 1 2 go gd) ?_ (Nat.le_refl _) fun j hj=>?_) ?_
 ·show (H.set i _++_)[i]?=_
  rw [List.getElem?_append_left (by simpa using hlt)]
  simp [hlt]
 ·rcases j with _|_|_|j
  ·exact cO rfl
  ·exact cO rfl
  ·exact cZ
  ·omega
 ·have:=h go gd zs hzs
  rw [← List.set_set (a:=(some n',bp.blk 3 (Dm s 1 2 go gd))),← List.set_append_left _ _ (by simpa using hlt)] at this
  exact this
theorem zj (n:Nat) (s:W8) (zs:List Em) (i jo jd jb:Nat) (hzs:zs.map Prod.fst=s.fr) {go gd:Option Nat} {No Nd:Nat} {f Fo Fd:Nat→CV} (hi:H[i]?=some (some n,.blk 3 f)) (ho:H[jo]?=some (go,.blk No Fo)) (hd:H[jd]?=some (gd,.blk Nd Fd)) (hb:H[jb]?=some (nG (zs.map LR))) (hij:[i,jo,jd,jb].Nodup)
  (h0:ab (f 0) (.os 1 go 0 s.fr.length 2)) (h1:ab (f 1) (.os 1 gd 0 s.d.length 1)) (h2:ab (f 2) (.err s.k)) (hNo:s.fr.length * 2≤No) (hFo:∀ a,a<s.fr.length * 2→ab (Fo a) (eK 2 rH sy zs.reverse a)) (hNd:s.d.length≤Nd) (hFd:∀ a,a<s.d.length→ab (Fd a) (ft s.d a)) :
  ∀ {al:List Addr} {St:Nat→Prop} {w:World} {base:Nat} {F0:Nat→Prop},cH al St w base F0 H→cH al St w base F0 ((((H.set i (iO n s)).set jo (none,.dead)).set jd (none,.dead)).set jb (none,.dead)):=by
 intro al St w base F0 h
 simp only [List.nodup_cons,List.mem_cons,List.not_mem_nil,or_false,not_or,not_false_iff,List.nodup_nil,and_true] at hij
 obtain ⟨⟨e1,e2,e3⟩,⟨e4,e5⟩,e6⟩:=hij
 have hil:=(List.getElem?_eq_some_iff.1 hi).1
 have hol:=(List.getElem?_eq_some_iff.1 ho).1
 have hdl:=(List.getElem?_eq_some_iff.1 hd).1
 have hbl:=(List.getElem?_eq_some_iff.1 hb).1
 have k1:=h.weak (F:=Dm s 1 2 go gd) hi (Nat.le_refl _) fun a ha=>by
  rcases a with _|_|_|a
  ·exact h0.trans (cO rfl)
  ·exact h1.trans (cO rfl)
  ·exact h2
  ·omega
 have k2:=k1.weak (i:=jo) (F:=eK 2 rH sy zs.reverse) (by rw [List.getElem?_set_ne e1];exact ho) hNo hFo
 have k3:=k2.weak (i:=jd) (F:=ft s.d) (by rw [List.getElem?_set_ne e4,List.getElem?_set_ne e2];exact hd) hNd hFd
 have k4:=k3.closeN (gd:=fun z:BP s.fr=>z.1.1) (E:=BK s) ⟨(n,go,gd,zs),hzs⟩ i [jo,jd,jb] (by simp [e1,e2,e3,e4,e5,e6]) (by simp [hil,hol,hdl,hbl]) (by
  have g1:∀ {x},((H.set i x).set jo (go,bp.blk (s.fr.length * 2) (eK 2 rH sy zs.reverse))).set jd (gd,bp.blk s.d.length (ft s.d))=((H.set i x).set jo (go,bp.blk (s.fr.length * 2) (eK 2 rH sy zs.reverse))).set jd (gd,bp.blk s.d.length (ft s.d)):=rfl
  simp only [gZ,List.map_cons,List.map_nil,List.getD_eq_getElem?_getD]
  rw [List.getElem?_set_ne (Ne.symm e2),List.getElem?_set_ne (Ne.symm e1),List.getElem?_set_ne (Ne.symm e4),List.getElem?_set_ne e6,List.getElem?_set_ne e5,List.getElem?_set_ne e3,hb]
  simp [hil,hol,hdl,BK])
 have e:qR ((((H.set i (some n,bp.blk 3 (Dm s 1 2 go gd))).set jo (go,bp.blk (s.fr.length * 2) (eK 2 rH sy zs.reverse))).set jd (gd,bp.blk s.d.length (ft s.d))).set i (lZ n (fun z:BP s.fr=>z.1.1) (BK s))) [jo,jd,jb]=(((H.set i (iO n s)).set jo (none,.dead)).set jd (none,.dead)).set jb (none,.dead):=by
  show ((((((H.set i _).set jo _).set jd _).set i _).set jo _).set jd _).set jb _=_
  rw [List.set_comm _ _ (Ne.symm e2),List.set_comm _ _ (Ne.symm e1),List.set_set,List.set_comm _ _ (Ne.symm e4),List.set_set,List.set_set]
  rfl
 rw [← e]
 exact k4
theorem qh (n:Nat) (s:W8) (zs:List Em) (i jo jd jb:Nat) (hzs:zs.map Prod.fst=s.fr) {go gd:Option Nat} {No Nd:Nat} {f Fo Fd:Nat→CV} (hi:H[i]?=some (some n,.blk 3 f)) (ho:H[jo]?=some (go,.blk No Fo)) (hd:H[jd]?=some (gd,.blk Nd Fd)) (hb:H[jb]?=some (nG (zs.map LR))) (hij:[i,jo,jd,jb].Nodup)
  (h0:ab (f 0) (.os 1 go 0 s.fr.length 2)) (h1:ab (f 1) (.os 1 gd 0 s.d.length 1)) (h2:ab (f 2) (.err s.k)) (hNo:s.fr.length * 2≤No) (hFo:∀ a,a<s.fr.length * 2→ab (Fo a) (eK 2 rH sy zs.reverse a)) (hNd:s.d.length≤Nd) (hFd:∀ a,a<s.d.length→ab (Fd a) (ft s.d a)) :
  cU G ⟨env,b0,H⟩ ⟨env,b0,(((H.set i (iO n s)).set jo (none,.dead)).set jd (none,.dead)).set jb (none,.dead)⟩:=cU.hrel (zj n s zs i jo jd jb hzs hi ho hd hb hij h0 h1 h2 hNo hFo hNd hFd)
end
end
section
variable {gs:List Nat} [fZ gs]

theorem GR (n:Int) (i:Nat) (h:i<8):IntKind.u8.wrap ((n % 18446744073709551616).fdiv (2 ^ (min (8 * (i:Int)).toNat IntKind.u64.bits)))=((lf (sh i n)).toNat:Nat):=by
 rw [IntKind.wrap_u8,el]
 have hf:∀ d:Int,0≤d→(n % 18446744073709551616).fdiv d=n % 18446744073709551616 / d:=fun d hd=>Int.fdiv_eq_ediv_of_nonneg _ hd
 rcases i with _|_|_|_|_|_|_|_|i
 ·show (n % 18446744073709551616).fdiv 1 % 256=_;rw [hf _ jD];simp only [sh];omega
 ·show (n % 18446744073709551616).fdiv 256 % 256=_;rw [hf _ jD];simp only [sh];omega
 ·show (n % 18446744073709551616).fdiv 65536 % 256=_;rw [hf _ jD];simp only [sh];omega
 ·show (n % 18446744073709551616).fdiv 16777216 % 256=_;rw [hf _ jD];simp only [sh];omega
 ·show (n % 18446744073709551616).fdiv 4294967296 % 256=_;rw [hf _ jD];simp only [sh];omega
 ·show (n % 18446744073709551616).fdiv 1099511627776 % 256=_;rw [hf _ jD];simp only [sh];omega
 ·show (n % 18446744073709551616).fdiv 281474976710656 % 256=_;rw [hf _ jD];simp only [sh];omega
 ·show (n % 18446744073709551616).fdiv 72057594037927936 % 256=_;rw [hf _ jD];simp only [sh];omega
 ·omega
theorem sH {n:Int} {j:Nat} (h:j<8):(dm 8 n).reverse.take j++[lf (sh (7-j) n)]=(dm 8 n).reverse.take (j+1):=by
 have hl:j<(dm 8 n).reverse.length:=by rw [List.length_reverse,bR];exact h
 rw [List.take_succ_eq_append_getElem hl,← rt n 8 j h]
 simp [List.getD,show j<(dm 8 n).length by rw [bR];exact h]
theorem sI (n:Int) (m:Nat):(dm (m+1+1) n).reverse.drop 1=(dm (m+1) n).reverse:=by
 rw [je (m+1)];simp
set_option maxHeartbeats 1000000 in
theorem wV {gs:List Nat} (n:Int) (h1:-9223372036854775808≤n) (h2:n≤9223372036854775807):bM gs Tryz.prog 211 [.c (.int .i64 n)] (bu (fa n)):=by
 have h7:=rQ n h1 h2
 have hd8:(dm 8 n).reverse.length=8:=by rw [List.length_reverse,bR]
 refine ai 52 Tryz.func211 fun al w0 F0 St0=>?_;refine jU 6516 ?_
 refine ak (aU 0 1 f7 fun p1=>?_)
 refine jU 1651 ?_;refine jq (fH rfl rfl Tryz.underlying3 Tryz.underlying291 ((n % 18446744073709551616)) ((by rw [IntKind.wrap_u64]))) ?_;refine jU 20516751 ?_;refine aF (α:=Nat×Option Nat) [3,5,9,10,11,12,13,14,15,16,17,18,19,20,21] (fun (j,g)=>[(5,.c (.int .i64 (7-(j:Int)))),(3,.os 0 g 0 ((dm 8 n).reverse.take j).length 1)]) (fun (j,g)=>[(g,.blk ((dm 8 n).reverse.take j).length (ft ((dm 8 n).reverse.take j)))]) (fun (j,g)=>j≤8) (fun (j,g)=>8-j) ((0,p1)) ?_ (fun _=>rfl) ?_ ?_ ?_
 ·exact Nat.zero_le _
 ·exact .cons (cI jO) (.cons cZ .nil)
 ·exact .blk rfl (fun j hj=>absurd hj (Nat.not_lt_zero j)) .nil
 ·rintro ⟨j,g⟩ (hj:j≤8)
  have htl:((dm 8 n).reverse.take j).length=j:=by rw [List.length_take];omega
  refine jU 52167 ?_;refine aq (fun h10=>?_) fun h10=>?_
  ·refine jU 207810 ?_
   obtain ⟨q,hqj,hq8⟩:∃ q:Nat,7-j=q∧(7:Int)-(j:Int)=(q:Int):=⟨7-j,rfl,by omega⟩
   refine jE (bF 5 (.c (.int .i64 (q:Nat))) (cI hq8)) ?_;refine jU 9111200 ?_;refine jq (GA .i64 .u64) ?_;refine jq (uU rfl rfl rfl (by (omega)) _ rfl) ?_;refine jq (fH rfl rfl Tryz.underlying291 Tryz.underlying5 ((((lf (sh q n)).toNat:Nat):Int)) (GR n q jO)) ?_
   refine ak (aU 1 1 f7 fun p2=>?_)
   refine ar (bC (l2:=[lf (sh q n)]) rfl rfl rfl (Nat.le_refl _) (fun _ _=>cZ) (aY rfl (.inl rfl) jD) rfl (dt (.cons (cI (rfl)) .nil)) Tryz.underlying22 iM qi f7 rB rfl (by (simp;omega)) (eM rfl rfl) rfl rfl (fun p3=>?_))
   refine jU 85191200840051 ?_
   refine aw ((j+1,p3)) ?_ ?_ (h5:=?_) (h7:=?_)
   ·show j+1≤8;omega
   ·show 8-(j+1)<8-j;omega
   ·exact .cons (cI jO) (.cons (cO (by rw [← sH jO,hqj])) .nil)
   ·exact .blk (by rw [← sH jO,hqj]) (fun i hi=>ab.of_eq (by rw [← sH jO,hqj])) .nil
  refine jU 20784000200020006000 ?_
  have hj8:j=8:=by omega
  refine jE (freeze 0 rfl) ?_;refine jE (kE 3 ((dm 8 n).reverse.take j) rfl rfl (by rfl) rfl) ?_;refine jE (bF 3 (bu (dm (7+1) n).reverse) (ab.bs (by rw [hj8,List.take_of_length_le jO]))) ?_;refine jE (dB (H':=[]) [] jD rfl) ?_;refine aF (α:=Nat) [3,22,23,24,25,26,27,28,29,30,31,32,33,34,35,36,37,38,39,40,41,42,43,44,45,46,47,48,49,50] (fun k=>[(3,bu (dm (k+1) n).reverse)]) (fun _=>[]) (fun k=>k≤7∧nM k n=true) (fun k=>k) (7) ?_ (fun _=>rfl) ?_ ?_ ?_
  ·exact ⟨Nat.le_refl _,h7⟩
  ·(repeat (first|exact bZ.nil|refine bZ.cons cZ ?_))
  ·(repeat (exact aS.nil))
  ·rintro k ⟨hk,hst⟩
   have hkl:(dm (k+1) n).reverse.length=k+1:=by rw [List.length_reverse,bR]
   have hid:=fun h=>y9 (l:=(dm (k+1) n).reverse) h
   refine jU 123167 ?_;refine ay 25 (fun g13=>?_) fun g13=>?_
   rotate_left
   ·refine jU 8400020002000600030055004444444444444444444444 ?_
    have hno:∀ j,j<k→nM j n=false:=fun j hj=>by
     cases e:nM j n with
     | false=>rfl
     | true =>
      exfalso
      obtain ⟨m,rfl⟩:∃ m,k=m+1:=⟨k-1,by omega⟩
      have h3:=kv n j m jO e
      rw [← fM n m hst,hid jO] at h3
      omega
    refine jU 5116 ?_
    refine jR (cX (hv:=ab.bs (mH h1 h2 ⟨hk,hst,hno⟩)))
   refine jU 126020000001 ?_;refine ay 30 (fun g13_2=>?_) fun g13_2=>?_
   rotate_left
   ·refine jU 12602000000115004444 ?_;refine ay 41 (fun g13_3=>?_) fun g13_3=>?_
    rotate_left
    ·refine jU 8400020002000600030051000000005005004444 ?_
     have hno:∀ j,j<k→nM j n=false:=fun j hj=>by
      cases e:nM j n with
      | false=>rfl
      | true =>
       exfalso
       obtain ⟨m,rfl⟩:∃ m,k=m+1:=⟨k-1,by omega⟩
       have h3:=kv n j m jO e
       rw [← fM n m hst,hid jO] at h3
       omega
     refine jU 5116 ?_
     refine jR (cX (hv:=ab.bs (mH h1 h2 ⟨hk,hst,hno⟩)))
    refine jU 1 ?_;refine jq (fb (i:=1)) ?_;refine jU 5100000000500100000000260 ?_;refine aq (fun h13=>?_) fun h13=>?_
    rotate_left
    ·refine jU 84000200020006000 ?_
     have hno:∀ j,j<k→nM j n=false:=fun j hj=>by
      cases e:nM j n with
      | false=>rfl
      | true =>
       exfalso
       obtain ⟨m,rfl⟩:∃ m,k=m+1:=⟨k-1,by omega⟩
       have h3:=kv n j m jO e
       rw [← fM n m hst,hid jO] at h3
       omega
     refine jU 5116 ?_
     refine jR (cX (hv:=ab.bs (mH h1 h2 ⟨hk,hst,hno⟩)))
    refine jU 20810 ?_
    have hi:mW (dm (k+1) n).reverse=true:=(hid jO).2 jO
    have hdr:(dm (k+1) n).reverse.drop 1=(dm (k-1+1) n).reverse:=by
     obtain ⟨m,rfl⟩:∃ m,k=m+1:=⟨k-1,by omega⟩
     exact sI n m
    have hnx:k-1≤7∧nM (k-1) n=true:=by
     obtain ⟨m,rfl⟩:∃ m,k=m+1:=⟨k-1,by omega⟩
     rw [fM n m hst] at hi
     exact ⟨by omega,hi⟩
    have hk1:0<k:=by omega
    refine jU 1200 ?_;refine jq (nF (hz1:=(show (1:Int)=((1:Nat):Int) from rfl))) ?_;refine jU 840051 ?_
    refine aw (k-1) ?_ ?_ (h5:=?_)
    ·exact hnx
    ·show k-1<k;omega
    ·exact .cons (ab.bs hdr) .nil
   refine jU 1 ?_;refine jq (fb (i:=1)) ?_;refine jU 1100000000260 ?_;refine ay 36 (fun g13_3=>?_) fun g13_3=>?_
   ·refine jU 20810900051000000001000000004444444444 ?_
    have hi:mW (dm (k+1) n).reverse=true:=(hid jO).2 jO
    have hdr:(dm (k+1) n).reverse.drop 1=(dm (k-1+1) n).reverse:=by
     obtain ⟨m,rfl⟩:∃ m,k=m+1:=⟨k-1,by omega⟩
     exact sI n m
    have hnx:k-1≤7∧nM (k-1) n=true:=by
     obtain ⟨m,rfl⟩:∃ m,k=m+1:=⟨k-1,by omega⟩
     rw [fM n m hst] at hi
     exact ⟨by omega,hi⟩
    have hk1:0<k:=by omega
    refine jU 1200 ?_;refine jq (nF (hz1:=(show (1:Int)=((1:Nat):Int) from rfl))) ?_;refine jU 840051 ?_
    refine aw (k-1) ?_ ?_ (h5:=?_)
    ·exact hnx
    ·show k-1<k;omega
    ·exact .cons (ab.bs hdr) .nil
   refine jU 126020000001 ?_;refine ay 41 (fun g13_4=>?_) fun g13_4=>?_
   rotate_left
   ·refine jU 8400020002000600030051000000005005004444 ?_
    have hno:∀ j,j<k→nM j n=false:=fun j hj=>by
     cases e:nM j n with
     | false=>rfl
     | true =>
      exfalso
      obtain ⟨m,rfl⟩:∃ m,k=m+1:=⟨k-1,by omega⟩
      have h3:=kv n j m jO e
      rw [← fM n m hst,hid jO] at h3
      omega
    refine jU 5116 ?_
    refine jR (cX (hv:=ab.bs (mH h1 h2 ⟨hk,hst,hno⟩)))
   refine jU 1 ?_;refine jq (fb (i:=1)) ?_;refine jU 5100000000500100000000260 ?_;refine aq (fun h13=>?_) fun h13=>?_
   rotate_left
   ·refine jU 84000200020006000 ?_
    have hno:∀ j,j<k→nM j n=false:=fun j hj=>by
     cases e:nM j n with
     | false=>rfl
     | true =>
      exfalso
      obtain ⟨m,rfl⟩:∃ m,k=m+1:=⟨k-1,by omega⟩
      have h3:=kv n j m jO e
      rw [← fM n m hst,hid jO] at h3
      omega
    refine jU 5116 ?_
    refine jR (cX (hv:=ab.bs (mH h1 h2 ⟨hk,hst,hno⟩)))
   refine jU 20810 ?_
   have hi:mW (dm (k+1) n).reverse=true:=(hid jO).2 jO
   have hdr:(dm (k+1) n).reverse.drop 1=(dm (k-1+1) n).reverse:=by
    obtain ⟨m,rfl⟩:∃ m,k=m+1:=⟨k-1,by omega⟩
    exact sI n m
   have hnx:k-1≤7∧nM (k-1) n=true:=by
    obtain ⟨m,rfl⟩:∃ m,k=m+1:=⟨k-1,by omega⟩
    rw [fM n m hst] at hi
    exact ⟨by omega,hi⟩
   have hk1:0<k:=by omega
   refine jU 1200 ?_;refine jq (nF (hz1:=(show (1:Int)=((1:Nat):Int) from rfl))) ?_;refine jU 840051 ?_
   refine aw (k-1) ?_ ?_ (h5:=?_)
   ·exact hnx
   ·show k-1<k;omega
   ·exact .cons (ab.bs hdr) .nil
set_option maxHeartbeats 1000000 in
theorem wZ {gs:List Nat} (l:List UInt8):bM gs Tryz.prog 205 [bu l] (.tup 2 (fl [.c (.int .i64 (bT l).1),.c (.int .i64 ((bT l).2:Nat))])):=by
 refine kg 0 rfl fun hlen=>?_
 have hid:=fun h=>y9 (l:=l) h
 refine ai 58 Tryz.func205 fun al w0 F0 St0=>?_;refine jU 5231675116 ?_;refine aq (fun h21=>?_) fun h21=>?_
 ·refine jU 8000300070005116 ?_
  have hb:bT l=(0,2):=by unfold bT;rw [jP]
  rw [hb];exact cZ
 refine jU 810 ?_;refine eW (α:=Unit) [2,3,10,11,12,13,14,15,16,17,18,19,20,21,22,23,24,25,26,27,28,29,30,31,32,33,34,35,36] (fun _=>[]) (fun _=>[]) (fun _=>l.length≠0∧¬ mW l=true) (fun _=>rfl) ?_ ?_
 ·refine jU 12316 ?_;refine ay 13 (fun g24=>?_) fun g24=>?_
  rotate_left
  ·refine jU 81030055004444444444444444444444 ?_
   refine dh (()) ?_ (h5:=?_) (h7:=?_)
   ·refine ⟨by omega,?_⟩
    by_cases h1:1<l.length
    ·rw [hid h1];omega
    ·rw [cF l jO];exact Bool.noConfusion
   ·exact .nil
   ·exact .nil
  refine jU 126020000001 ?_;refine ay 18 (fun g24_2=>?_) fun g24_2=>?_
  rotate_left
  ·refine jU 12602000000115004444 ?_;refine ay 29 (fun g24_3=>?_) fun g24_3=>?_
   rotate_left
   ·refine jU 81030051000000005005004444 ?_
    refine dh (()) ?_ (h5:=?_) (h7:=?_)
    ·refine ⟨by omega,?_⟩
     by_cases h1:1<l.length
     ·rw [hid h1];omega
     ·rw [cF l jO];exact Bool.noConfusion
    ·exact .nil
    ·exact .nil
   refine jU 1 ?_;refine jq (fb (i:=1)) ?_;refine jU 5100000000500100000000260 ?_;refine aq (fun h24=>?_) fun h24=>?_
   ·refine jU 8000300070005116 ?_
    have hb:bT l=(0,4):=by unfold bT;rw [jK,if_pos ((hid jO).2 jO)]
    rw [hb];exact cZ
   refine jU 810 ?_
   refine dh (()) ?_ (h5:=?_) (h7:=?_)
   ·refine ⟨by omega,?_⟩
    by_cases h1:1<l.length
    ·rw [hid h1];omega
    ·rw [cF l jO];exact Bool.noConfusion
   ·exact .nil
   ·exact .nil
  refine jU 1 ?_;refine jq (fb (i:=1)) ?_;refine jU 1100000000260 ?_;refine ay 24 (fun g24_3=>?_) fun g24_3=>?_
  ·refine jU 8000300070005116900051000000001000000004444444444 ?_
   have hb:bT l=(0,4):=by unfold bT;rw [jK,if_pos ((hid jO).2 jO)]
   rw [hb];exact cZ
  refine jU 126020000001 ?_;refine ay 29 (fun g24_4=>?_) fun g24_4=>?_
  rotate_left
  ·refine jU 81030051000000005005004444 ?_
   refine dh (()) ?_ (h5:=?_) (h7:=?_)
   ·refine ⟨by omega,?_⟩
    by_cases h1:1<l.length
    ·rw [hid h1];omega
    ·rw [cF l jO];exact Bool.noConfusion
   ·exact .nil
   ·exact .nil
  refine jU 1 ?_;refine jq (fb (i:=1)) ?_;refine jU 5100000000500100000000260 ?_;refine aq (fun h24=>?_) fun h24=>?_
  ·refine jU 8000300070005116 ?_
   have hb:bT l=(0,4):=by unfold bT;rw [jK,if_pos ((hid jO).2 jO)]
   rw [hb];exact cZ
  refine jU 810 ?_
  refine dh (()) ?_ (h5:=?_) (h7:=?_)
  ·refine ⟨by omega,?_⟩
   by_cases h1:1<l.length
   ·rw [hid h1];omega
   ·rw [cF l jO];exact Bool.noConfusion
  ·exact .nil
  ·exact .nil
 ·rintro u ⟨hl0,hni⟩
  refine jU 523167 ?_;refine aq (fun h27=>?_) fun h27=>?_
  ·refine jU 8000300070005116 ?_
   have hb:bT l=(0,1):=by unfold bT;rw [jK,if_neg hni,jP]
   rw [hb];exact cZ
  refine jU 516810 ?_;refine eW (α:=Unit) [4,40,41,42,43] (fun _=>[(4,.c (.int .u64 (vk l 0 % 18446744073709551616)))]) (fun _=>[]) (fun _=>True) (fun _=>rfl) ?_ ?_
  ·refine jU 5260200000016 ?_;refine aq (fun h31=>?_) fun h31=>?_
   rotate_left
   ·refine jU 810 ?_
    refine dh (()) ?_ (h5:=?_) (h7:=?_)
    ·trivial
    ·exact .cons (cI (by unfold vk;rw [if_pos rfl];split <;> omega)) .nil
    ·exact .nil
   refine jU 851200 ?_
   refine dh (()) ?_ (h5:=?_) (h7:=?_)
   ·trivial
   ·exact .cons (cI (by unfold vk;rw [if_pos rfl];split <;> omega)) .nil
   ·exact .nil
  ·rintro u _
   refine jU 20513167 ?_;refine aF (α:=Nat) [4,6,46,47,48,49,50,51,52,53,54,55] (fun i=>[(46,.c (.int .i64 (i:Nat))),(4,.c (.int .u64 (vk l i % 18446744073709551616)))]) (fun _=>[]) (fun i=>i≤l.length) (fun i=>l.length-i) (0) ?_ (fun _=>rfl) ?_ ?_ ?_
   ·exact Nat.zero_le _
   ·exact .cons cZ (.cons cZ .nil)
   ·(repeat (exact aS.nil))
   ·rintro i (hi:i≤l.length)
    refine jU 7526 ?_;refine aq (fun h34=>?_) fun h34=>?_
    rotate_left
    ·refine jU 84000200020006000 ?_
     have hil:i=l.length:=by omega
     have hvb:=zI l jO
     have hvk:vk l l.length=eO l:=by unfold vk;rw [jK,List.take_length]
     have hb:bT l=(eO l,0):=by unfold bT;rw [jK,if_neg hni,jK]
     refine jU 16 ?_;refine jq (fH rfl rfl Tryz.underlying291 Tryz.underlying3 ((eO l)) ((by rw [hil,hvk,IntKind.wrap_i64];omega))) ?_;refine jU 80007000511 ?_
     rw [hb];exact cZ
    refine jU 120051607006207810 ?_;refine jq (La rfl rfl rfl ((IntKind.u64.wrap (vk l i % 18446744073709551616 * 256))) (rfl)) ?_;refine jU 1 ?_;refine jq (fH rfl rfl Tryz.underlying5 Tryz.underlying291 ((((l.getD i 0).toNat:Nat):Int)) (gx (k:=.u64) (by have:=(l.getD i 0).toNat_lt;show _∧_;omega))) ?_;refine jq (DJ rfl rfl rfl ((vk l (i+1) % 18446744073709551616)) ((by rw [KA l i jO];exact GQ _ _))) ?_;refine jU 8519200840051 ?_
    refine aw (i+1) ?_ ?_ (h5:=?_)
    ·show i+1≤l.length;omega
    ·show l.length-(i+1)<l.length-i;omega
    ·exact .cons (cI jO) (.cons cZ .nil)
end
section
variable {gs:List Nat} [fZ gs]

def dv (r:List (List (List UInt8))) (j:Nat):CV:=BN (r.getD j [])
def nP (s:R8) (jr:Nat) (gr:Option Nat):Nat→CV:=fl [wl s.tags,.os jr gr 0 s.rows.length 1,.c (.int .i64 (s.e:Nat))]
def P0 (s:R8) (z:Nat×Option Nat):List (Option Nat×bp):=[(some z.1,.blk 3 (nP s 1 z.2)),(z.2,.blk s.rows.length (dv s.rows))]
def tD (n:Nat) (s:R8):Option Nat×bp:=lZ n (fun z:Nat×Option Nat=>z.1) (P0 s)
section
variable {P:Program} {G:Gh} {c:Code} {R:Exit→AS→Prop} {n:Nat} {s:R8} {env:List (Nat×CV)} {b0:Nat→CV} {H:List (Option Nat×bp)}
theorem jM (i:Nat) (hi:H[i]?=some (tD n s)) (h:∀ gr,bj P G c ⟨env,b0,H.set i (some n,.blk 3 (nP s H.length gr))++[(gr,.blk s.rows.length (dv s.rows))]⟩ R):bj P G c ⟨env,b0,H⟩ R:=by
 have hlt:=(List.getElem?_eq_some_iff.1 hi).1
 refine oz i hi fun z hz=>?_
 obtain ⟨n',gr⟩:=z
 obtain rfl:n'=n:=hz
 refine jE (nl i 3 (nP s H.length gr) (n:=3) (g:=some n') (f:=nP s 1 gr) ?_ (Nat.le_refl _) fun j hj=>?_) ?_
 ·show (H.set i _++_)[i]?=_
  rw [List.getElem?_append_left (by simpa using hlt)]
  simp [hlt]
 ·rcases j with _|_|_|j
  ·exact cZ
  ·exact cO rfl
  ·exact cZ
  ·omega
 ·have:=h gr
  rw [← List.set_set (a:=(some n',bp.blk 3 (nP s 1 gr))),← List.set_append_left _ _ (by simpa using hlt)] at this
  exact this
theorem Bz (n:Nat) (s:R8) (i j:Nat) {gr:Option Nat} {N:Nat} {f F:Nat→CV} (hi:H[i]?=some (some n,.blk 3 f)) (hj:H[j]?=some (gr,.blk N F)) (hij:Nat.beq i j=false) (h0:ab (f 0) (wl s.tags)) (h1:ab (f 1) (.os 1 gr 0 s.rows.length 1)) (h2:ab (f 2) (.c (.int .i64 (s.e:Nat)))) (hN:s.rows.length≤N) (hF:∀ a,a<s.rows.length→ab (F a) (dv s.rows a)) :
  ∀ {al:List Addr} {St:Nat→Prop} {w:World} {base:Nat} {F0:Nat→Prop},cH al St w base F0 H→cH al St w base F0 ((H.set i (tD n s)).set j (none,.dead)):=by
 intro al St w base F0 h
 have hij:=Nat.ne_of_beq_eq_false hij
 have hil:=(List.getElem?_eq_some_iff.1 hi).1
 have hjl:=(List.getElem?_eq_some_iff.1 hj).1
 have k1:=h.weak (F:=nP s 1 gr) hi (Nat.le_refl _) fun a ha=>by
  rcases a with _|_|_|a
  ·exact h0
  ·exact h1
  ·exact h2
  ·omega
 have k2:=k1.weak (i:=j) (F:=dv s.rows) (by rw [List.getElem?_set_ne hij];exact hj) hN hF
 have k4:=k2.closeN (gd:=fun z:Nat×Option Nat=>z.1) (E:=P0 s) (n,gr) i [j] (by simp [hij]) (by simp [hil,hjl]) (by
  simp only [gZ,List.map_cons,List.map_nil,List.getD_eq_getElem?_getD]
  rw [List.getElem?_set_ne (Ne.symm hij)]
  simp [hil,hjl,P0])
 have e:qR (((H.set i (some n,bp.blk 3 (nP s 1 gr))).set j (gr,bp.blk s.rows.length (dv s.rows))).set i (lZ n (fun z:Nat×Option Nat=>z.1) (P0 s))) [j]=(H.set i (tD n s)).set j (none,.dead):=by
  show ((((H.set i _).set j _).set i _).set j _)=_
  rw [List.set_comm _ _ (Ne.symm hij),List.set_set,List.set_set]
  rfl
 rw [← e]
 exact k4
theorem pp (n:Nat) (s:R8) (i j:Nat) {gr:Option Nat} {N:Nat} {f F:Nat→CV} (hi:H[i]?=some (some n,.blk 3 f)) (hj:H[j]?=some (gr,.blk N F)) (hij:Nat.beq i j=false) (h0:ab (f 0) (wl s.tags)) (h1:ab (f 1) (.os 1 gr 0 s.rows.length 1)) (h2:ab (f 2) (.c (.int .i64 (s.e:Nat)))) (hN:s.rows.length≤N) (hF:∀ a,a<s.rows.length→ab (F a) (dv s.rows a)) :
  cU G ⟨env,b0,H⟩ ⟨env,b0,(H.set i (tD n s)).set j (none,.dead)⟩:=cU.hrel (Bz n s i j hi hj hij h0 h1 h2 hN hF)
end
theorem bI {P:Program} {G:Gh} {fn:Func} {e:Exit} {v m:CV} {env:List (Nat×CV)} {b0:Nat→CV} {H:List (Option Nat×bp)} (he:e=.ret∨e=.normal) (n:Nat) (s:R8) (j:Nat) {gr:Option Nat} {N:Nat} {f F:Nat→CV} (hres:kt P G fn ⟨env,b0,(H.set 0 (tD n s)).set j (none,.dead)⟩ v) (hv:ab v m) (hi:H[0]?=some (some n,.blk 3 f)) (hj:H[j]?=some (gr,.blk N F)) (hij:Nat.beq 0 j=false) (h0:ab (f 0) (wl s.tags)) (h1:ab (f 1) (.os 1 gr 0 s.rows.length 1)) (h2:ab (f 2) (.c (.int .i64 (s.e:Nat)))) (hN:s.rows.length≤N) (hF:∀ a,a<s.rows.length→ab (F a) (dv s.rows a)) :
  k7 P G fn (fun r H'=>r=m∧H'=[tD n s]) e ⟨env,b0,H⟩:=by
 refine C2 (Bz n s 0 j hi hj hij h0 h1 h2 hN hF) (ba he ?_ hres hv)
 have hlt:=(List.getElem?_eq_some_iff.1 hi).1
 show (List.set _ _ _)[0]?=_
 rw [List.getElem?_set_ne (Ne.symm (Nat.ne_of_beq_eq_false hij))]
 simp [hlt]
theorem wX:Dj 1 dv:=fun l l2 j hj=>by
 simp only [dv,List.getD_eq_getElem?_getD]
 split
 ·rw [List.getElem?_append_left jO]
 ·rw [List.getElem?_append_right jO,Nat.mul_one]
theorem lU {l:List (List (List UInt8))} {i:Nat} {x:List (List UInt8)} {j:Nat} {c:CV} (hc:ab c (BN x)) (hj:j<l.length):ab (mo (dv l) i [c] j) (dv (l.set i x) j):=by
 rw [kD]
 by_cases h:j=i
 ·subst h
  rw [if_pos (by simp)]
  have e:dv (l.set j x) j=BN x:=by simp [dv,List.getD_eq_getElem?_getD,hj]
  rw [e,Nat.sub_self]
  exact hc
 ·rw [if_neg (by simp;omega)]
  refine ab.of_eq ?_
  simp [dv,List.getD_eq_getElem?_getD,List.getElem?_set_ne (Ne.symm h)]
structure PU (s:R8):Prop where
 n:s.tags.length≤100000
 r:s.rows.length≤100000
 k:∀ x ∈ s.rows,x.length≤1000000
theorem Ct {s:R8} (h:PU s) (j:Nat):(s.rows.getD j []).length≤1000000:=by
 rw [List.getD_eq_getElem?_getD]
 cases e:s.rows[j]? with
 | none=>simp
 | some x=>simpa using h.k x (List.mem_of_getElem? e)
def eJ (s:R8) (i:Nat):R8:=⟨s.tags,s.rows++List.replicate i [],s.e⟩
theorem qN (s:R8) (i m:Nat) (h:i=m-s.rows.length):eJ s i=⟨s.tags,eu m s.rows,s.e⟩:=by subst h;rfl
theorem pd (s:R8) (i:Nat):(eJ s i).rows++[[]]=(eJ s (i+1)).rows:=by simp [eJ,List.replicate_succ',List.append_assoc]
theorem xa {gs:List Nat} (n:Nat) (s:R8) (b:List UInt8) (hs:PU s):AC gs Tryz.prog 156 [tD n s] [.op 0 (some n) 0,bu b] (fun r H'=>r=.c (.tuple #[])∧H'=[tD n (ki b s)]):=by
 have hsn:=hs.n
 have hsr:=hs.r
 refine ai 48 Tryz.func156 fun al w0 F0 St0=>?_;refine jU 207 ?_;refine jM 0 rfl fun gr=>?_;refine aF (α:=Nat×Option Nat) [5,6,7,8,9,10,11,12,13,14,15,16,17,18,19,20,21,22,23,24] (fun i=>[]) (fun (i,g)=>[(some n,.blk 3 (nP (eJ s i) 1 g)),(g,.blk (eJ s i).rows.length (dv (eJ s i).rows))]) (fun i=>i.1≤s.tags.length+1-s.rows.length) (fun i=>s.tags.length+1-s.rows.length-i.1) ((0,gr)) ?_ (fun _=>rfl) ?_ ?_ ?_
 ·exact Nat.zero_le _
 ·(repeat (exact bZ.nil))
 ·(show aS _ [(some n,bp.blk 3 (nP (eJ s 0) 1 gr)),(gr,bp.blk (eJ s 0).rows.length (dv (eJ s 0).rows))];rw [show eJ s 0=s by unfold eJ;simp];exact aS.refl _)
 ·rintro ⟨i,g⟩ (hi:i≤s.tags.length+1-s.rows.length)
  have hml:(eJ s i).rows.length=s.rows.length+i:=by simp [eJ]
  have hmt:(eJ s i).tags.length=s.tags.length:=rfl
  refine jU 77 ?_;refine ff (.rd 0 (.rd 1 (.rd 2 (.rd 3 (.rd 4 (.rd 5 (.rd 6 (.rd 7 (.rd 8 (.rd 9 (.rd 10 .done))))))))))) ?_;refine jU 88080020000100009000005000070200001000080000005000070 ?_;refine aq (fun h72=>?_) fun h72=>?_
  ·refine jU 50100401120020810 ?_
   refine ak (aU 1 1 Dl fun p1=>?_)
   refine bg (nl 2 1 (dv [[]]) rfl (Nat.le_refl _) (fun j hj=>by rcases j with _|j <;> first|exact ab.nilS _ _|omega)) ?_
   refine ar (av wX (l2:=[[]]) rfl rfl rfl rfl (Nat.le_of_eq (Nat.mul_one _)) (fun _ _=>cZ) (aY rfl (.inl rfl) jD) rfl (fun j hj=>by rw [Nat.zero_add];exact cZ) Tryz.underlying138 MR MM Dl M5 rfl (by simp;omega) (by simp;omega) (fun j hj=>rfl) rfl rfl (Nat.mul_one _) (fun p2=>?_))
   refine jU 10040 ?_
   refine ar (bh 1 (nP (eJ s (i+1)) 1 p2) ?_ ?_)
   ·exact (fun j hj=>by rcases j with _|_|_|j <;> first|exact cZ|exact cO (by rw [pd]))
   refine jU 84005 ?_
   refine aw ((i+1,p2)) ?_ ?_ (h7:=?_)
   ·(show i+1≤_;omega)
   ·(show _-(i+1)<_-i;omega)
   ·simp only [pd];exact aS.refl _
  refine jU 5135090401684000200020006000 ?_
  have hiE:i=s.tags.length+1-s.rows.length:=by omega
  have hk:=Ct hs s.tags.length
  have hpl:=mJ (s.tags.length+1) s.rows
  dsimp only
  rw [qN s i _ hiE]
  rw [qN s i _ hiE] at hml
  have hk2:((eu (s.tags.length+1) s.rows)[s.tags.length]?.getD []).length≤1000000:=by rw [← List.getD_eq_getElem?_getD,fW];exact hk
  refine Qu n (.rd 0 (.rd 1 (.rd 2 (.rd 3 (.rd 4 (.rd 6 (.rd 7 (.rd 8 (.rd 9 (.rd 10 (.rd 11 (.rd 12 (.rd 14 (.two 5 (.two 13 (.one 15 (.one 16 (.rd 17 (.one 18 .done)))) 15 (.one 13 (.one 16 (.rd 17 (.one 18 .done))))) 15 (.one 5 (.one 13 (.one 16 (.rd 17 (.one 18 .done))))))))))))))))))) ?_;refine FQ IH ?_;refine FQ IG ?_;refine FQ (da 1 1 false) ?_;refine QO PB ?_;refine FQ IH ?_;refine FQ IH ?_;refine FQ IG ?_;refine FQ (da 1 1 false) ?_;refine QO PB ?_;refine FQ IH ?_;refine FQ fb ?_;refine Q7 mS ?_;refine FQ IH ?_;refine M0 ?_ ?_
  ·refine PG 0 (aU 0 1 cJ fun p1=>?_)
   refine M0 ?_ ?_
   ·refine LX 0 2 (i4 bW (l:=[]) (l2:=(eu (s.tags.length+1) s.rows).getD s.tags.length []) rfl rfl rfl rfl (Nat.le_of_eq (Nat.zero_mul _)) (fun j hj=>absurd hj (by simp)) (dj rfl) rfl (fun j hj=>by (simp only [Nat.div_one];exact cZ)) Tryz.underlying186 dY gQ cJ gW rfl (by simp only [List.length_nil,fW];omega) (by simp only [List.length_nil,fW];omega) (fun j hj=>rfl) rfl rfl (Nat.mul_one _) (fun p2=>?_))
    refine PG 0 (aU 1 1 cJ fun p3=>?_)
    refine LX 0 2 (i4 (bW) (l2:=[b]) rfl rfl rfl rfl jO (fun _ _=>cZ) (aY rfl (.inl rfl) jD) rfl (fun j hj=>by rcases j with _|j <;> first|exact cZ|(exfalso;simp at hj <;> omega)) Tryz.underlying186 dY gQ cJ gW rfl (by (simp;omega)) (by (simp;omega)) (bi rfl rfl) rfl rfl rfl (fun p4=>?_))
    refine FQ fb ?_
    first
     |(refine jW (freeze 2 rfl) ?_;refine jW (eP 46 (fun a _=>bu (((eu (s.tags.length+1) s.rows).getD s.tags.length []++[b]).getD a [])) rfl rfl (by simp) (fun a c ha hc=>by obtain rfl:c=0:=jO;rw [Nat.zero_add,Nat.mul_one,Nat.add_zero];exact cZ)) ?_)
     |(refine jW (freeze 3 rfl) ?_;refine jW (eP 46 (fun a _=>bu (((eu (s.tags.length+1) s.rows).getD s.tags.length []++[b]).getD a [])) rfl rfl (by simp) (fun a c ha hc=>by obtain rfl:c=0:=jO;rw [Nat.zero_add,Nat.mul_one,Nat.add_zero];exact cZ)) ?_)
    refine LX 0 1 (CP 1 (dv ((eu (s.tags.length+1) s.rows).set s.tags.length ((eu (s.tags.length+1) s.rows).getD s.tags.length []++[b]))) ?_ ?_)
    ·exact (fun j hj=>lU cZ hj)
    refine Qw ?_
    exact bI (.inr rfl) n (ki b s) 1 (bN rfl) cZ rfl rfl rfl (by exact cZ) (by exact cO (by simp [ki])) (by exact cZ) (by simp [ki]) (fun _ _=>by exact cZ)
   ·refine PG 0 (aU 1 1 cJ fun p2=>?_)
    refine LX 0 2 (i4 bW (l:=[]) (l2:=(eu (s.tags.length+1) s.rows).getD s.tags.length []) rfl rfl rfl rfl (Nat.le_of_eq (Nat.zero_mul _)) (fun j hj=>absurd hj (by simp)) (dj rfl) rfl (fun j hj=>by (simp only [Nat.div_one];exact cZ)) Tryz.underlying186 dY gQ cJ gW rfl (by simp only [List.length_nil,fW];omega) (by simp only [List.length_nil,fW];omega) (fun j hj=>rfl) rfl rfl (Nat.mul_one _) (fun p3=>?_))
    refine LX 0 2 (i4 (bW) (l2:=[b]) rfl rfl rfl rfl jO (fun _ _=>cZ) (aY rfl (.inl rfl) jD) rfl (fun j hj=>by rcases j with _|j <;> first|exact cZ|(exfalso;simp at hj <;> omega)) Tryz.underlying186 dY gQ cJ gW rfl (by (simp;omega)) (by (simp;omega)) (bi rfl rfl) rfl rfl rfl (fun p4=>?_))
    refine FQ fb ?_
    first
     |(refine jW (freeze 2 rfl) ?_;refine jW (eP 46 (fun a _=>bu (((eu (s.tags.length+1) s.rows).getD s.tags.length []++[b]).getD a [])) rfl rfl (by simp) (fun a c ha hc=>by obtain rfl:c=0:=jO;rw [Nat.zero_add,Nat.mul_one,Nat.add_zero];exact cZ)) ?_)
     |(refine jW (freeze 3 rfl) ?_;refine jW (eP 46 (fun a _=>bu (((eu (s.tags.length+1) s.rows).getD s.tags.length []++[b]).getD a [])) rfl rfl (by simp) (fun a c ha hc=>by obtain rfl:c=0:=jO;rw [Nat.zero_add,Nat.mul_one,Nat.add_zero];exact cZ)) ?_)
    refine LX 0 1 (CP 1 (dv ((eu (s.tags.length+1) s.rows).set s.tags.length ((eu (s.tags.length+1) s.rows).getD s.tags.length []++[b]))) ?_ ?_)
    ·exact (fun j hj=>lU cZ hj)
    refine Qw ?_
    exact bI (.inr rfl) n (ki b s) 1 (bN rfl) cZ rfl rfl rfl (by exact cZ) (by exact cO (by simp [ki])) (by exact cZ) (by simp [ki]) (fun _ _=>by exact cZ)
  ·refine PG 0 (aU 1 1 cJ fun p1=>?_)
   refine PG 0 (aU 0 1 cJ fun p2=>?_)
   refine LX 0 3 (i4 bW (l:=[]) (l2:=(eu (s.tags.length+1) s.rows).getD s.tags.length []) rfl rfl rfl rfl (Nat.le_of_eq (Nat.zero_mul _)) (fun j hj=>absurd hj (by simp)) (dj rfl) rfl (fun j hj=>by (simp only [Nat.div_one];exact cZ)) Tryz.underlying186 dY gQ cJ gW rfl (by simp only [List.length_nil,fW];omega) (by simp only [List.length_nil,fW];omega) (fun j hj=>rfl) rfl rfl (Nat.mul_one _) (fun p3=>?_))
   refine LX 0 3 (i4 (bW) (l2:=[b]) rfl rfl rfl rfl jO (fun _ _=>cZ) (aY rfl (.inl rfl) jD) rfl (fun j hj=>by rcases j with _|j <;> first|exact cZ|(exfalso;simp at hj <;> omega)) Tryz.underlying186 dY gQ cJ gW rfl (by (simp;omega)) (by (simp;omega)) (bi rfl rfl) rfl rfl rfl (fun p4=>?_))
   refine FQ fb ?_
   first
    |(refine jW (freeze 2 rfl) ?_;refine jW (eP 46 (fun a _=>bu (((eu (s.tags.length+1) s.rows).getD s.tags.length []++[b]).getD a [])) rfl rfl (by simp) (fun a c ha hc=>by obtain rfl:c=0:=jO;rw [Nat.zero_add,Nat.mul_one,Nat.add_zero];exact cZ)) ?_)
    |(refine jW (freeze 3 rfl) ?_;refine jW (eP 46 (fun a _=>bu (((eu (s.tags.length+1) s.rows).getD s.tags.length []++[b]).getD a [])) rfl rfl (by simp) (fun a c ha hc=>by obtain rfl:c=0:=jO;rw [Nat.zero_add,Nat.mul_one,Nat.add_zero];exact cZ)) ?_)
   refine LX 0 1 (CP 1 (dv ((eu (s.tags.length+1) s.rows).set s.tags.length ((eu (s.tags.length+1) s.rows).getD s.tags.length []++[b]))) ?_ ?_)
   ·exact (fun j hj=>lU cZ hj)
   refine Qw ?_
   exact bI (.inr rfl) n (ki b s) 1 (bN rfl) cZ rfl rfl rfl (by exact cZ) (by exact cO (by simp [ki])) (by exact cZ) (by simp [ki]) (fun _ _=>by exact cZ)
end
section
variable {gs:List Nat} [fZ gs]

structure wi (s:W8):Prop where
 n:s.fr.length≤16
 k:∀ x ∈ s.fr,x.2.length≤1000000∧cm x.2≤1000000
 d:s.d.length≤1000000
theorem CY {zs:List Em} {fr:List (Int×List (List UInt8))} (h:zs.map Prod.fst=fr):zs.length=fr.length:=by rw [← h];simp
theorem rL {x:Em} {zr:List Em} {m j:Nat} (hj:j<2) (hm:m=zr.length+1):eK 2 rH sy (x::zr).reverse (0+(m-1) * 2+j)=rH x j:=by
 rw [Nat.zero_add,gL hj,hm]
 simp [List.getD_eq_getElem?_getD]
theorem yx {x:Em} {zr:List Em} {j:Nat} (hj:j<zr.length * 2):eK 2 rH sy (x::zr).reverse j=eK 2 rH sy zr.reverse j:=by
 simp only [eK,List.reverse_cons,List.getD_eq_getElem?_getD]
 rw [List.getElem?_append_left (by simp;omega)]
theorem oJ {x x':Em} {zr:List Em} {m q n j:Nat} {g:Option Nat} (hm:m=zr.length+1) (hx:x'.1.1=x.1.1) (hg:x'.2=g) (hn:x'.1.2.length=n) (hj:j<m * 2):ab (mo (eK 2 rH sy (x::zr).reverse) (0+(m-1) * 2+1) [.os q g 0 n 1] j) (eK 2 rH sy (x'::zr).reverse j):=by
 rw [kD]
 by_cases h1:j<zr.length * 2
 ·rw [if_neg (by simp;omega),yx h1,yx h1]
  exact cZ
 ·by_cases h2:j=0+(m-1) * 2+1
  ·rw [if_pos (by simp;omega),h2,rL jO hm,Nat.sub_self]
   show ab (.os q g 0 n 1) (.os 0 x'.2 0 x'.1.2.length 1)
   rw [hg,hn]
   exact cO rfl
  ·obtain rfl:j=0+(m-1) * 2+0:=by omega
   rw [if_neg (by simp;omega),rL jO hm,rL jO hm]
   show ab (.c (.int .i64 x.1.1)) (.c (.int .i64 x'.1.1))
   rw [hx]
   exact cZ
theorem vG {gs:List Nat} (n:Nat) (s:W8) (e:Nat):AC gs Tryz.prog 127 [iO n s] [.op 0 (some n) 0,.err e] (fun r H'=>r=.c (.tuple #[])∧H'=[iO n (cj e s)]):=by
 refine ai 13 Tryz.func127 fun al w0 F0 St0=>?_;refine jf 0 rfl fun go gd zs hzs=>?_;refine jU 55000005010004016 ?_;refine aq (fun h38=>?_) fun h38=>?_
 rotate_left
 ·refine jU 10 ?_
  have hF:cj e s=s:=by unfold cj;rw [jK]
  rw [hF]
  exact dE (gd:=fun z:BP s.fr=>z.1.1) (E:=BK s) (.inr rfl) _ ⟨(n,go,gd,zs),hzs⟩ [0,1,2,3] jD rfl (bN rfl) ⟨rfl,rfl⟩
 refine jU 10004011200 ?_
 refine ar (bh 1 (Dm ⟨s.fr,s.d,e⟩ 1 2 go gd) ?_ ?_)
 ·exact (fun j hj=>by rcases j with _|_|_|j <;> exact cZ)
 refine jU 5 ?_
 have hF:cj e s=⟨s.fr,s.d,e⟩:=by unfold cj;rw [jP]
 rw [hF]
 exact dE (gd:=fun z:BP s.fr=>z.1.1) (E:=BK ⟨s.fr,s.d,e⟩) (.inr rfl) _ ⟨(n,go,gd,zs),hzs⟩ [0,1,2,3] jD rfl (bN rfl) ⟨rfl,rfl⟩
set_option maxHeartbeats 1000000 in
theorem MC {gs:List Nat} (n:Nat) (s:W8) (b:List UInt8) (hs:wi s) (hb:b.length≤100000000):AC gs Tryz.prog 128 [iO n s] [.op 0 (some n) 0,bu b] (fun r H'=>r=.c (.tuple #[])∧H'=[iO n (cG b s)]):=by
 have hsd:=hs.d
 have hsn:=hs.n
 refine ai 42 Tryz.func128 fun al w0 F0 St0=>?_;refine iy ?_
 (refine jf 0 rfl fun go gd zs hzs=>?_;have hzl:=CY hzs)
 refine jU 51350904016 ?_
 skip
 refine jU 5216 ?_;refine aq (fun h45=>?_) fun h45=>?_
 rotate_left
 ·refine jU 810 ?_
  have hf0:s.fr=[]:=List.eq_nil_of_length_eq_zero jO
  refine jU 1501004011200 ?_
  refine ar (bC rfl rfl rfl (Nat.le_refl _) (fun _ _=>cZ) (dj rfl) rfl (fun j hj=>by simp only [Nat.div_one];exact cZ) Tryz.underlying22 iM qi f7 rB rfl jO (fun j hj=>rfl) rfl rfl (fun p1=>?_))
  refine jU 10040 ?_
  refine ar (bh 1 (Dm (cG b s) 1 2 go p1) ?_ ?_)
  ·exact (fun j hj=>by rcases j with _|_|_|j <;> first|exact cO (by simp [cG,hf0])|exact ab.err (by simp [cG,hf0])|omega)
  refine jU 5 ?_
  refine C2 (H':=?H2) ?hh ?hb
  case hh=>intro _ _ _ _ _ hx;exact zj n (cG b s) zs 0 1 2 3 (by simp [cG,hf0];rw [hf0] at hzs;simpa using hzs) rfl rfl rfl rfl jD (by exact cO rfl) (by exact cO rfl) (by exact cZ) (by simp [cG,hf0]) (fun a ha=>by simp [cG,hf0] at ha) (by simp [cG,hf0]) (fun _ _=>by simp only [cG,hf0];exact cZ) hx
  case hb=>exact bQ (.inr rfl) _ [iO n (cG b s)] [0] jD rfl (bN rfl) ⟨rfl,rfl⟩
 refine iy ?_
 obtain ⟨x,zr,rfl⟩:∃ x zr,zs=x::zr:=by
   cases zs with
   | nil=>simp at hzl;omega
   | cons x zr=>exact ⟨x,zr,rfl⟩
 have hfr:s.fr=x.1::zr.map Prod.fst:=by rw [← hzs];rfl
 have hxk:=hs.k x.1 (by rw [hfr];exact List.mem_cons_self)
 have hzl:s.fr.length=zr.length+1:=by rw [← hzl];rfl
 refine jE (bag_pop 3 rfl) ?_;refine jI (.rd 0 (.rd 1 (.rd 2 (.rd 4 (.rd 5 (.rd 6 (.rd 7 (.rd 8 (.rd 9 (.rd 10 (.rd 11 (.rd 12 (.rd 13 (.rd 14 (.rd 15 (.two 3 (.one 16 (.one 17 (.one 18 (.rd 19 (.rd 20 (.one 21 .done)))))) 16 (.two 3 (.one 17 (.one 18 (.rd 19 (.rd 20 (.one 21 .done))))) 17 (.two 3 (.one 18 (.rd 19 (.rd 20 (.one 21 .done)))) 18 (.one 3 (.rd 19 (.rd 20 (.one 21 .done)))))))))))))))))))))) ?_;refine jU 400000100000009000000400000 ?_;refine ig IJ ?_;refine jU 40000050000000100000009000000400000 ?_;refine ig IJ ?_;refine ig (fb (i:=(s.fr.length-1)) (hz:=by omega)) ?_;refine jU 60000000 ?_;refine MS (mS (hv:=rL jO hzl)) ?_;refine ig IH ?_;refine vj ?_ ?_
 ·refine LT mS ?_;refine zE (bF 26 (.os 4 x.2 0 x.1.2.length 1) (cO rfl)) ?_
  refine yW (ap (ml b jO) ?_)
  refine yW (aU 1 1 cJ fun p1=>?_)
  refine iL (av (bW) (l2:=[b]) rfl rfl rfl rfl jO (fun _ _=>cZ) (aY rfl (.inl rfl) jD) rfl (fun j hj=>by rcases j with _|j <;> first|exact cZ|(exfalso;simp at hj <;> omega)) Tryz.underlying186 dY gQ cJ gW rfl (by (simp;omega)) (by (simp;omega)) (bi rfl rfl) rfl rfl rfl (fun p2=>?_))
  refine ig (fb (i:=(s.fr.length-1)) (hz:=by omega)) ?_;refine jU 60000000 ?_
  refine iL (bh 1 (eK 2 rH sy (((x.1.1,x.1.2++[b]),p2)::zr).reverse) ?_ ?_)
  ·exact (fun j hj=>oJ hzl rfl rfl (by simp) hj)
  refine jU 8700000 ?_;refine jE (nl 4 (x.1.2++[b]).length (lM (x.1.2++[b])) rfl (by simp) (fun _ _=>cZ)) ?_;refine jE (bag_push 3 4 rfl rfl rfl) ?_;refine jE (qh n (cG b s) (((x.1.1,x.1.2++[b]),p2)::zr) 0 1 2 3 (by simp [cG,hfr]) rfl rfl rfl rfl jD (cO (by simp [cG,hfr])) (cO (by simp [cG,hfr])) (ab.err (by simp [cG,hfr])) (by simp [cG,hfr]) (fun _ _=>cZ) (by simp [cG,hfr]) (fun _ _=>by simp only [cG,hfr];exact cZ)) ?_;refine jU 30007000 ?_
  exact bQ (.inl rfl) _ [iO n (cG b s)] [0] jD rfl (bN rfl) ⟨rfl,rfl⟩
 ·refine zE (bF 26 (.os 4 x.2 0 x.1.2.length 1) (cO rfl)) ?_
  refine yW (ap (ml b jO) ?_)
  refine vj ?_ ?_
  ·refine LT mS ?_
   refine yW (aU 1 1 cJ fun p1=>?_)
   refine iL (av (bW) (l2:=[b]) rfl rfl rfl rfl jO (fun _ _=>cZ) (aY rfl (.inl rfl) jD) rfl (fun j hj=>by rcases j with _|j <;> first|exact cZ|(exfalso;simp at hj <;> omega)) Tryz.underlying186 dY gQ cJ gW rfl (by (simp;omega)) (by (simp;omega)) (bi rfl rfl) rfl rfl rfl (fun p2=>?_))
   refine ig (fb (i:=(s.fr.length-1)) (hz:=by omega)) ?_;refine jU 60000000 ?_
   refine iL (bh 1 (eK 2 rH sy (((x.1.1,x.1.2++[b]),p2)::zr).reverse) ?_ ?_)
   ·exact (fun j hj=>oJ hzl rfl rfl (by simp) hj)
   refine jU 8700000 ?_;refine jE (nl 4 (x.1.2++[b]).length (lM (x.1.2++[b])) rfl (by simp) (fun _ _=>cZ)) ?_;refine jE (bag_push 3 4 rfl rfl rfl) ?_;refine jE (qh n (cG b s) (((x.1.1,x.1.2++[b]),p2)::zr) 0 1 2 3 (by simp [cG,hfr]) rfl rfl rfl rfl jD (cO (by simp [cG,hfr])) (cO (by simp [cG,hfr])) (ab.err (by simp [cG,hfr])) (by simp [cG,hfr]) (fun _ _=>cZ) (by simp [cG,hfr]) (fun _ _=>by simp only [cG,hfr];exact cZ)) ?_;refine jU 30007000 ?_
   exact bQ (.inl rfl) _ [iO n (cG b s)] [0] jD rfl (bN rfl) ⟨rfl,rfl⟩
  ·refine yW (aU 1 1 cJ fun p1=>?_)
   refine vj ?_ ?_
   ·refine LT mS ?_
    refine iL (av (bW) (l2:=[b]) rfl rfl rfl rfl jO (fun _ _=>cZ) (aY rfl (.inl rfl) jD) rfl (fun j hj=>by rcases j with _|j <;> first|exact cZ|(exfalso;simp at hj <;> omega)) Tryz.underlying186 dY gQ cJ gW rfl (by (simp;omega)) (by (simp;omega)) (bi rfl rfl) rfl rfl rfl (fun p2=>?_))
    refine ig (fb (i:=(s.fr.length-1)) (hz:=by omega)) ?_;refine jU 60000000 ?_
    refine iL (bh 1 (eK 2 rH sy (((x.1.1,x.1.2++[b]),p2)::zr).reverse) ?_ ?_)
    ·exact (fun j hj=>oJ hzl rfl rfl (by simp) hj)
    refine jU 8700000 ?_;refine jE (nl 4 (x.1.2++[b]).length (lM (x.1.2++[b])) rfl (by simp) (fun _ _=>cZ)) ?_;refine jE (bag_push 3 4 rfl rfl rfl) ?_;refine jE (qh n (cG b s) (((x.1.1,x.1.2++[b]),p2)::zr) 0 1 2 3 (by simp [cG,hfr]) rfl rfl rfl rfl jD (cO (by simp [cG,hfr])) (cO (by simp [cG,hfr])) (ab.err (by simp [cG,hfr])) (by simp [cG,hfr]) (fun _ _=>cZ) (by simp [cG,hfr]) (fun _ _=>by simp only [cG,hfr];exact cZ)) ?_;refine jU 30007000 ?_
    exact bQ (.inl rfl) _ [iO n (cG b s)] [0] jD rfl (bN rfl) ⟨rfl,rfl⟩
   ·refine iL (av (bW) (l2:=[b]) rfl rfl rfl rfl jO (fun _ _=>cZ) (aY rfl (.inl rfl) jD) rfl (fun j hj=>by rcases j with _|j <;> first|exact cZ|(exfalso;simp at hj <;> omega)) Tryz.underlying186 dY gQ cJ gW rfl (by (simp;omega)) (by (simp;omega)) (bi rfl rfl) rfl rfl rfl (fun p2=>?_))
    refine LT mS ?_;refine ig (fb (i:=(s.fr.length-1)) (hz:=by omega)) ?_;refine jU 60000000 ?_
    refine iL (bh 1 (eK 2 rH sy (((x.1.1,x.1.2++[b]),p2)::zr).reverse) ?_ ?_)
    ·exact (fun j hj=>oJ hzl rfl rfl (by simp) hj)
    refine jU 8700000 ?_;refine jE (nl 4 (x.1.2++[b]).length (lM (x.1.2++[b])) rfl (by simp) (fun _ _=>cZ)) ?_;refine jE (bag_push 3 4 rfl rfl rfl) ?_;refine jE (qh n (cG b s) (((x.1.1,x.1.2++[b]),p2)::zr) 0 1 2 3 (by simp [cG,hfr]) rfl rfl rfl rfl jD (cO (by simp [cG,hfr])) (cO (by simp [cG,hfr])) (ab.err (by simp [cG,hfr])) (by simp [cG,hfr]) (fun _ _=>cZ) (by simp [cG,hfr]) (fun _ _=>by simp only [cG,hfr];exact cZ)) ?_;refine jU 30007000 ?_
    exact bQ (.inl rfl) _ [iO n (cG b s)] [0] jD rfl (bN rfl) ⟨rfl,rfl⟩
theorem o8 (n:Nat) (s:W8) (tag:Int) (body:List UInt8) (e:Nat) (hs:wi s) (hb:body.length≤1000000):AC gs Tryz.prog 129 [iO n s] [.op 0 (some n) 0,.c (.int .i64 tag),bu body,.err e] (fun r H'=>r=.c (.tuple #[])∧H'=[iO n (eZ tag body e s)]):=by
 have hpl:(dl tag body).length≤100000000:=by
  unfold dl
  have:=tU body.length
  simp only [List.length_cons,List.length_append]
  omega
 refine ai 32 Tryz.func129 fun al w0 F0 St0=>?_;refine jU 116 ?_
 refine ar (aJ 0 (vG n s e) ?_)
 refine jU 75 ?_;refine jf 0 rfl fun go gd zs hzs=>?_;refine jU 55000005010004016 ?_;refine aq (fun h55=>?_) fun h55=>?_
 ·refine jU 30007000 ?_
  have hP:eZ tag body e s=cj e s:=by unfold eZ;rw [jP]
  rw [hP]
  exact dE (gd:=fun z:BP (cj e s).fr=>z.1.1) (E:=BK (cj e s)) (.inl rfl) _ ⟨(n,go,gd,zs),hzs⟩ [0,1,2,3] jD rfl (bN rfl) ⟨rfl,rfl⟩
 refine jU 810 ?_
 have hk0:(cj e s).k=0:=by omega
 have hF:cj e s=s:=by
  obtain ⟨fr,d,k⟩:=s
  unfold cj at hk0 ⊢
  split
  ·rename_i h
   rw [if_pos h] at hk0
   have h:k=0:=h
   have hk0:e=0:=hk0
   rw [h,hk0]
  ·rfl
 refine jE (qh n (cj e s) zs 0 1 2 3 hzs rfl rfl rfl rfl jD (cO rfl) (cO rfl) cZ (Nat.le_refl _) (fun _ _=>cZ) (Nat.le_refl _) (fun _ _=>cZ)) ?_
 rw [hF]
 have hsk:s.k=0:=by rw [← hF];exact hk0
 dsimp only [List.set_cons_zero,List.set_cons_succ,List.cons_append,List.nil_append,List.length_cons,List.length_nil,Nat.zero_add,Nat.reduceAdd]
 refine jU 116 ?_;refine jq (ae (n:=2) rfl gC pD rfl rfl) ?_
 refine ak (ap (KF tag body hb) ?_)
 refine jU 55000001675119009001 ?_;refine aq (fun h59=>?_) fun h59=>?_
 ·refine jU 116 ?_
  refine ar (aJ 0 (vG n s (pT tag body)) ?_)
  refine jU 300070005 ?_
  have hP:eZ tag body e s=cj (pT tag body) s:=by unfold eZ;rw [hF,jK,jP];unfold cj;rw [if_pos hsk]
  rw [hP]
  exact bQ (.inl rfl) _ [_] [0] jD rfl (bN rfl) ⟨rfl,rfl⟩
 refine jU 810 ?_
 have hP0:pT tag body=0:=by omega
 rw [if_pos hP0]
 refine jU 11200 ?_
 refine ar (aJ 0 (MC n s _ hs hpl) ?_)
 refine jU 5 ?_
 have hP:eZ tag body e s=cG (dl tag body) s:=by unfold eZ;rw [hF,jK,jK]
 rw [hP]
 exact bQ (.inr rfl) _ [_] [0] jD rfl (bN rfl) ⟨rfl,rfl⟩
end
end Am
end Go.Proofs.YthlpfjnkieaeeaaGreatDoor
namespace Go.Proofs
open Go.Shelf
open Go.RowKit in
def Tryz.lays156_ren:Go.Shelf.Ren:=⟨fun|156=>293|165=>304|166=>305|169=>306|240=>310|241=>311|276=>315|277=>316|n=>n,fun|31=>82|9=>9|3=>3|4=>4|0=>0|20=>20|72=>348|76=>184|70=>346|37=>22|75=>25|127=>351|164=>352|5=>5|80=>280|n=>n,fun|n=>n⟩
theorem Tryz.lays156:Go.Proofs.Lays.n156 Tryz.prog Tryz.lays156_ren:={
 mixed:=by kernel_rfl
 f156:=Tryz.func293.trans (congrArg some (by kernel_rfl))
 f165:=Tryz.func304.trans (congrArg some (by kernel_rfl))
 f166:=Tryz.func305.trans (congrArg some (by kernel_rfl))
 f169:=Tryz.func306.trans (congrArg some (by kernel_rfl))
 f240:=Tryz.func310.trans (congrArg some (by kernel_rfl))
 f241:=Tryz.func311.trans (congrArg some (by kernel_rfl))
 f276:=Tryz.func315.trans (congrArg some (by kernel_rfl))
 f277:=Tryz.func316.trans (congrArg some (by kernel_rfl))
 t0:=Tryz.underlying0
 a0:=Tryz.isAgg0
 z0:=Tryz.sizeOf0
 v0:=Tryz.zeroValue0
 t3:=Tryz.underlying3
 a3:=Tryz.isAgg3
 z3:=Tryz.sizeOf3
 v3:=Tryz.zeroValue3
 t4:=Tryz.underlying4
 a4:=Tryz.isAgg4
 z4:=Tryz.sizeOf4
 v4:=Tryz.zeroValue4
 t9:=Tryz.underlying9
 a9:=Tryz.isAgg9
 z9:=Tryz.sizeOf9
 v9:=Tryz.zeroValue9
 t20:=Tryz.underlying20
 a20:=Tryz.isAgg20
 z20:=Tryz.sizeOf20
 v20:=Tryz.zeroValue20
 t31:=Tryz.underlying82
 a31:=Tryz.isAgg82
 z31:=Tryz.sizeOf82
 v31:=Tryz.zeroValue82
 t37:=Tryz.underlying22
 a37:=Tryz.isAgg22
 z37:=Tryz.sizeOf22
 v37:=Tryz.zeroValue22
 t70:=Tryz.underlying346
 a70:=Tryz.isAgg346
 z70:=Tryz.sizeOf346
 v70:=Tryz.zeroValue346
 t72:=Tryz.underlying348
 a72:=Tryz.isAgg348
 z72:=Tryz.sizeOf348
 v72:=Tryz.zeroValue348
 t75:=Tryz.underlying25
 a75:=Tryz.isAgg25
 z75:=Tryz.sizeOf25
 v75:=Tryz.zeroValue25
 t76:=Tryz.underlying184
 a76:=Tryz.isAgg184
 z76:=Tryz.sizeOf184
 v76:=Tryz.zeroValue184
 t127:=Tryz.underlying351
 a127:=Tryz.isAgg351
 z127:=Tryz.sizeOf351
 v127:=Tryz.zeroValue351
 t164:=Tryz.underlying352
 a164:=Tryz.isAgg352
 z164:=Tryz.sizeOf352
 v164:=Tryz.zeroValue352 }
theorem Tryz.Builder_Extra_156:Builder.Extra Tryz.prog Tryz.lays156_ren:={
 sizeBuilder:=by kernel_rfl
 liesBuilder:=by kernel_rfl
 t5:=Tryz.underlying5
 a5:=Tryz.isAgg5
 z5:=Tryz.sizeOf5
 v5:=Tryz.zeroValue5
 infoByte:=by kernel_rfl
 cellsByte:=by kernel_rfl
 sizeByte:=by kernel_rfl
 neB5:=by decide }
open Go.RowKit in
theorem Tryz.strings_Join_none (a:Option Addr) (c:Nat) (sep:ByteArray) (w:World) :
  Calls Tryz.prog 293 #[.slice a 0 c,.string sep] w fun e w'=>e=.returned (.string ⟨#[]⟩)∧w'=w:=Any.strings_Join_none Tryz.lays156 Tryz.Builder_Extra_156 a c sep w
open Go.RowKit in
theorem Tryz.strings_Join (bk o c:Nat) (xs:List ByteArray) (sep:ByteArray) (w:World) (hcells:∀ (j:Nat) x,xs[j]?=some x→w.cell? ⟨bk,o+j,none⟩=some (.string x)) (hbk:bk<w.heap.size) (hN:xs.length≤140737488355328) (hcap:xs.length≤c) (hlen:(Lib.join (xs.map (·.data.toList)) sep.data.toList).length≤140737488355328) :
  Calls Tryz.prog 293 #[.slice (some ⟨bk,o,none⟩) xs.length c,.string sep] w fun e w'=>e=.returned (.string ⟨(Lib.join (xs.map (·.data.toList)) sep.data.toList).toArray⟩)∧Below w.heap.size w w':=Any.strings_Join Tryz.lays156 Tryz.Builder_Extra_156 bk o c xs sep w hcells hbk hN hcap hlen
def Tryz.lays137_ren:Go.Shelf.Ren:=⟨fun|137=>179|217=>228|266=>259|n=>n,fun|9=>9|5=>5|3=>3|n=>n,fun|n=>n⟩
theorem Tryz.lays137:Go.Proofs.Lays.n137 Tryz.prog Tryz.lays137_ren:={
 mixed:=by kernel_rfl
 f137:=Tryz.func179.trans (congrArg some (by kernel_rfl))
 f217:=Tryz.func228.trans (congrArg some (by kernel_rfl))
 f266:=Tryz.func259.trans (congrArg some (by kernel_rfl))
 t3:=Tryz.underlying3
 a3:=Tryz.isAgg3
 z3:=Tryz.sizeOf3
 v3:=Tryz.zeroValue3
 t5:=Tryz.underlying5
 a5:=Tryz.isAgg5
 z5:=Tryz.sizeOf5
 v5:=Tryz.zeroValue5
 t9:=Tryz.underlying9
 a9:=Tryz.isAgg9
 z9:=Tryz.sizeOf9
 v9:=Tryz.zeroValue9 }
open Go.RowKit in
theorem Tryz.strings_IndexByte (s:ByteArray) (c:Int) (w:World) :
  Calls Tryz.prog 179 #[.string s,.int .u8 c] w fun e w'=>e=.returned (.int .i64 (Lib.indexByte s.data.toList c.toNat.toUInt8))∧w'=w:=Any.strings_IndexByte Tryz.lays137 s c w
open Go.RowKit Go.Lib in
def Tryz.lays143_ren:Go.Shelf.Ren:=⟨fun|143=>302|219=>309|217=>228|225=>312|224=>313|267=>314|266=>259|314=>317|n=>n,fun|9=>9|3=>3|4=>4|5=>5|46=>267|146=>354|51=>301|n=>n,fun|1=>28|n=>n⟩
theorem Tryz.lays143:Go.Proofs.Lays.n143 Tryz.prog Tryz.lays143_ren:={
 mixed:=by kernel_rfl
 f143:=Tryz.func302.trans (congrArg some (by kernel_rfl))
 f217:=Tryz.func228.trans (congrArg some (by kernel_rfl))
 f219:=Tryz.func309.trans (congrArg some (by kernel_rfl))
 f224:=Tryz.func313.trans (congrArg some (by kernel_rfl))
 f225:=Tryz.func312.trans (congrArg some (by kernel_rfl))
 f266:=Tryz.func259.trans (congrArg some (by kernel_rfl))
 f267:=Tryz.func314.trans (congrArg some (by kernel_rfl))
 f314:=Tryz.func317.trans (congrArg some (by kernel_rfl))
 t3:=Tryz.underlying3
 a3:=Tryz.isAgg3
 z3:=Tryz.sizeOf3
 v3:=Tryz.zeroValue3
 t4:=Tryz.underlying4
 a4:=Tryz.isAgg4
 z4:=Tryz.sizeOf4
 v4:=Tryz.zeroValue4
 t5:=Tryz.underlying5
 a5:=Tryz.isAgg5
 z5:=Tryz.sizeOf5
 v5:=Tryz.zeroValue5
 t9:=Tryz.underlying9
 a9:=Tryz.isAgg9
 z9:=Tryz.sizeOf9
 v9:=Tryz.zeroValue9
 t46:=Tryz.underlying267
 a46:=Tryz.isAgg267
 z46:=Tryz.sizeOf267
 v46:=Tryz.zeroValue267
 t51:=Tryz.underlying301
 a51:=Tryz.isAgg301
 z51:=Tryz.sizeOf301
 v51:=Tryz.zeroValue301
 t146:=Tryz.underlying354
 a146:=Tryz.isAgg354
 z146:=Tryz.sizeOf354
 v146:=Tryz.zeroValue354
 g1:=by kernel_rfl }
open Go.RowKit Go.Lib in
theorem Tryz.strings_Index_one (s:ByteArray) (c:UInt8) (w:World) :
  Calls Tryz.prog 302 #[.string s,.string ⟨#[c]⟩] w fun e w'=>e=.returned (.int .i64 (Lib.indexByte s.data.toList c))∧w'=w:=Any.strings_Index_one Tryz.lays143 s c w
open Go.RowKit Go.Lib in
def Tryz.lays99_ren:Go.Shelf.Ren:=⟨fun|99=>177|206=>226|n=>n,fun|9=>9|4=>4|3=>3|n=>n,fun|n=>n⟩
theorem Tryz.lays99:Go.Proofs.Lays.n99 Tryz.prog Tryz.lays99_ren:={
 mixed:=by kernel_rfl
 f99:=Tryz.func177.trans (congrArg some (by kernel_rfl))
 f206:=Tryz.func226.trans (congrArg some (by kernel_rfl))
 t3:=Tryz.underlying3
 a3:=Tryz.isAgg3
 z3:=Tryz.sizeOf3
 v3:=Tryz.zeroValue3
 t4:=Tryz.underlying4
 a4:=Tryz.isAgg4
 z4:=Tryz.sizeOf4
 v4:=Tryz.zeroValue4
 t9:=Tryz.underlying9
 a9:=Tryz.isAgg9
 z9:=Tryz.sizeOf9
 v9:=Tryz.zeroValue9 }
open Go.RowKit Go.Lib in
theorem Tryz.strings_HasPrefix (s p:ByteArray) (w:World) :
  Calls Tryz.prog 177 #[.string s,.string p] w fun e w'=>e=.returned (.bool (Lib.hasPrefix s.data.toList p.data.toList))∧w'=w:=Any.strings_HasPrefix Tryz.lays99 s p w
open Go.RowKit Go.Lib in
def Tryz.lays100_ren:Go.Shelf.Ren:=⟨fun|100=>178|207=>227|n=>n,fun|9=>9|4=>4|3=>3|n=>n,fun|n=>n⟩
theorem Tryz.lays100:Go.Proofs.Lays.n100 Tryz.prog Tryz.lays100_ren:={
 mixed:=by kernel_rfl
 f100:=Tryz.func178.trans (congrArg some (by kernel_rfl))
 f207:=Tryz.func227.trans (congrArg some (by kernel_rfl))
 t3:=Tryz.underlying3
 a3:=Tryz.isAgg3
 z3:=Tryz.sizeOf3
 v3:=Tryz.zeroValue3
 t4:=Tryz.underlying4
 a4:=Tryz.isAgg4
 z4:=Tryz.sizeOf4
 v4:=Tryz.zeroValue4
 t9:=Tryz.underlying9
 a9:=Tryz.isAgg9
 z9:=Tryz.sizeOf9
 v9:=Tryz.zeroValue9 }
open Go.RowKit Go.Lib in
theorem Tryz.strings_HasSuffix (s p:ByteArray) (w:World) (hs:s.size≤9223372036854775807) :
  Calls Tryz.prog 178 #[.string s,.string p] w fun e w'=>e=.returned (.bool (Lib.hasSuffix s.data.toList p.data.toList))∧w'=w:=Any.strings_HasSuffix Tryz.lays100 s p w hs
end Go.Proofs
namespace Go.Proofs
open Go.Shelf
def Tryz.sortB_ren:Go.Shelf.Ren:=⟨fun|6=>241|15=>224|14=>265|28=>256|29=>257|20=>277|21=>278|22=>279|23=>280|24=>281|25=>282|26=>283|27=>284|46=>295|47=>296|48=>297|49=>298|50=>299|57=>307|n=>n,fun|22=>186|24=>22|25=>288|3=>3|39=>267|0=>0|53=>301|55=>291|4=>4|46=>322|45=>321|50=>296|5=>5|9=>9|66=>336|70=>340|76=>349|77=>28|n=>n,fun|n=>n⟩
theorem Tryz.sortB:Go.Proofs.SlLaysF.n6 Tryz.prog Tryz.sortB_ren:={
 mixed:=by kernel_rfl
 f6:=⟨Tryz.f241.name,by decide,Tryz.func241.trans (congrArg some (by kernel_rfl))⟩
 f14:=⟨Tryz.f265.name,by decide,Tryz.func265.trans (congrArg some (by kernel_rfl))⟩
 f15:=Tryz.func224.trans (congrArg some (by kernel_rfl))
 f20:=⟨Tryz.f277.name,by decide,Tryz.func277.trans (congrArg some (by kernel_rfl))⟩
 f21:=⟨Tryz.f278.name,by decide,Tryz.func278.trans (congrArg some (by kernel_rfl))⟩
 f22:=⟨Tryz.f279.name,by decide,Tryz.func279.trans (congrArg some (by kernel_rfl))⟩
 f23:=⟨Tryz.f280.name,by decide,Tryz.func280.trans (congrArg some (by kernel_rfl))⟩
 f24:=⟨Tryz.f281.name,by decide,Tryz.func281.trans (congrArg some (by kernel_rfl))⟩
 f25:=⟨Tryz.f282.name,by decide,Tryz.func282.trans (congrArg some (by kernel_rfl))⟩
 f26:=⟨Tryz.f283.name,by decide,Tryz.func283.trans (congrArg some (by kernel_rfl))⟩
 f27:=⟨Tryz.f284.name,by decide,Tryz.func284.trans (congrArg some (by kernel_rfl))⟩
 f28:=Tryz.func256.trans (congrArg some (by kernel_rfl))
 f29:=Tryz.func257.trans (congrArg some (by kernel_rfl))
 f46:=⟨Tryz.f295.name,by decide,Tryz.func295.trans (congrArg some (by kernel_rfl))⟩
 f47:=Tryz.func296.trans (congrArg some (by kernel_rfl))
 f48:=Tryz.func297.trans (congrArg some (by kernel_rfl))
 f49:=⟨Tryz.f298.name,by decide,Tryz.func298.trans (congrArg some (by kernel_rfl))⟩
 f50:=⟨Tryz.f299.name,by decide,Tryz.func299.trans (congrArg some (by kernel_rfl))⟩
 f57:=⟨Tryz.f307.name,by decide,Tryz.func307.trans (congrArg some (by kernel_rfl))⟩
 t0:=Tryz.underlying0
 a0:=Tryz.isAgg0
 z0:=Tryz.sizeOf0
 v0:=Tryz.zeroValue0
 t3:=Tryz.underlying3
 a3:=Tryz.isAgg3
 z3:=Tryz.sizeOf3
 v3:=Tryz.zeroValue3
 t4:=Tryz.underlying4
 a4:=Tryz.isAgg4
 z4:=Tryz.sizeOf4
 v4:=Tryz.zeroValue4
 t5:=Tryz.underlying5
 a5:=Tryz.isAgg5
 z5:=Tryz.sizeOf5
 v5:=Tryz.zeroValue5
 t9:=Tryz.underlying9
 a9:=Tryz.isAgg9
 z9:=Tryz.sizeOf9
 v9:=Tryz.zeroValue9
 t22:=Tryz.underlying186
 a22:=Tryz.isAgg186
 z22:=Tryz.sizeOf186
 v22:=Tryz.zeroValue186
 a24:=Tryz.isAgg22
 z24:=Tryz.sizeOf22
 t25:=Tryz.underlying288
 a25:=Tryz.isAgg288
 z25:=Tryz.sizeOf288
 v25:=Tryz.zeroValue288
 t39:=Tryz.underlying267
 a39:=Tryz.isAgg267
 z39:=Tryz.sizeOf267
 v39:=Tryz.zeroValue267
 t45:=Tryz.underlying321
 a45:=Tryz.isAgg321
 z45:=Tryz.sizeOf321
 v45:=Tryz.zeroValue321
 t46:=Tryz.underlying322
 a46:=Tryz.isAgg322
 z46:=Tryz.sizeOf322
 v46:=Tryz.zeroValue322
 t50:=Tryz.underlying296
 a50:=Tryz.isAgg296
 z50:=Tryz.sizeOf296
 v50:=Tryz.zeroValue296
 t53:=Tryz.underlying301
 a53:=Tryz.isAgg301
 z53:=Tryz.sizeOf301
 v53:=Tryz.zeroValue301
 t55:=Tryz.underlying291
 a55:=Tryz.isAgg291
 z55:=Tryz.sizeOf291
 v55:=Tryz.zeroValue291
 t66:=Tryz.underlying336
 a66:=Tryz.isAgg336
 z66:=Tryz.sizeOf336
 v66:=Tryz.zeroValue336
 t70:=Tryz.underlying340
 a70:=Tryz.isAgg340
 z70:=Tryz.sizeOf340
 v70:=Tryz.zeroValue340
 t76:=Tryz.underlying349
 a76:=Tryz.isAgg349
 z76:=Tryz.sizeOf349
 v76:=Tryz.zeroValue349
 t77:=Tryz.underlying28
 a77:=Tryz.isAgg28
 z77:=Tryz.sizeOf28
 v77:=Tryz.zeroValue28 }
end Go.Proofs
namespace Go.Proofs.YthlpfjnkieaeeaaGreatDoor
set_option linter.unusedVariables false
namespace Am
open Go.RowKit
section
theorem G5 {gs:List Nat} (g:Option Nat) (ls:List (List UInt8)) (hl:ls.length≤1000000000):AC gs Tryz.prog 241 [(g,.blk ls.length (lM ls))] [.os 0 g 0 ls.length 1,.c (.func (.func 238) #[] #[])] (fun r H'=>r=.c (.tuple #[])∧H'=[(g,.blk ls.length (lM (fQ ls)))]) :=
 G4 (fun p cap fv w=>AnyF.slices_SortFunc_none (P:=Tryz.prog) (ρ:=Tryz.sortB_ren) { Tryz.sortB with } p cap fv w)
  (fun m enc h1 cf hO blk cap d w hc hH hb hs=>Any.slices_SortFunc (P:=Tryz.prog) (ρ:=Tryz.sortB_ren) Tryz.sortB enc h1 cf hO 238 #[] blk 0 cap d w (fun args W=>oS (by kernel_rfl) args W) hc hH hb hs)
  (fun w v1 v2 l r h1 h2=>zi h1 h2) g ls hl
theorem EA (ls:List (List UInt8)):cm (fQ ls)=cm ls:=((iW ls).map List.length).sum_nat
theorem Nu {gs:List Nat} (ls:List (List UInt8)) (hl:ls.length≤1000000) (hs:cm ls≤10000000000):bM gs Tryz.prog 200 [BN ls] (bu (fQ ls).flatten):=by
 have hsl:=mw ls
 refine ai 10 Tryz.func200 fun al w0 F0 St0=>?_;refine jU 16516 ?_
 refine ak (FP (Gq ls hl) (fun p1=>?_))
 refine jU 1651 ?_
 refine ar (aJ 0 (G5 p1 ls jO) ?_)
 refine jU 5 ?_;refine jE (freeze 0 rfl) ?_;refine jE (eP 3 (fun b _=>bu ((fQ ls).getD b [])) rfl rfl jO (fun a b ha hb=>yV a b jO hb)) ?_;refine jE (bF 3 (BN (fQ ls)) (ab.rs hsl.symm fun i j _ _=>cZ)) ?_;refine jU 16 ?_
 refine ak (ap (m8 (fQ ls) (by rw [EA];exact hs) jO) ?_)
 refine jU 51 ?_
 refine jR (cX (hv:=cZ))
theorem CT (a b:List UInt8):(!(Op.bytesLess a b || a == b))=decide (0<eo a b):=by
 rw [← ry]
 have hs:=dW a b
 rcases Int.lt_trichotomy (eo a b) 0 with h|h|h
 ·simp [h];omega
 ·have:=pn h
  subst this
  simp [h]
 ·have hne:¬ a=b:=fun e=>by subst e;rw [xX] at h;omega
  simp [hne,show ¬ eo a b<0 by omega,h]
theorem DW {X:List (List UInt8)} {k j:Nat} (h:j<k):bu (X.getD (0+j / 1) [])=lM (X.take k) j:=by
 unfold lM
 simp [List.getD,h]
theorem DX {X:List (List UInt8)} {k j:Nat}:bu (X.getD (k+j / 1) [])=lM (X.drop k) j:=by
 unfold lM
 simp [List.getD,List.getElem?_drop]
theorem pF {X l:List (List UInt8)} {x:List UInt8} {k:Nat} (hX:X=fQ l) (hk:k≤X.length) (hlo:k=0∨sl (X.getD (k-1) []) x=true) (hhi:∀ j,k≤j→j<X.length→sl x (X.getD j [])=true):X.take k++[x]++X.drop k=fQ (l++[x]):=by
 have hs:X.Pairwise fun a b=>sl a b=true:=hX ▸ qw l
 have hp:X.Perm l:=hX ▸ iW l
 refine zV ?_ ?_
 ·have h1:(X.take k++[x]++X.drop k).Perm (X.take k++X.drop k++[x]):=by
   rw [List.append_assoc,List.append_assoc]
   exact List.Perm.append_left _ List.perm_append_comm
  rw [List.take_append_drop] at h1
  exact h1.trans (hp.append_right [x])
 ·have hlow:∀ a ∈ X.take k,sl a x=true:=fun a ha=>by
   obtain ⟨i,hi,rfl⟩:=List.mem_iff_getElem.1 ha
   rw [List.length_take] at hi
   rw [List.getElem_take]
   rcases hlo with h0|h0
   ·omega
   ·by_cases e:i=k-1
    ·have:X.getD (k-1) []=X[i]'jO:=by subst e;simp [List.getD,show k-1<X.length by omega]
     rwa [this] at h0
    ·refine sk _ _ _ ?_ h0
     have:=List.pairwise_iff_getElem.1 hs i (k-1) jO jO jO
     rwa [show X.getD (k-1) []=X[k-1]'jO by simp [List.getD,show k-1<X.length by omega]]
  have hhigh:∀ a ∈ X.drop k,sl x a=true:=fun a ha=>by
   obtain ⟨i,hi,rfl⟩:=List.mem_iff_getElem.1 ha
   rw [List.length_drop] at hi
   rw [List.getElem_drop]
   have:=hhi (k+i) jO jO
   rwa [show X.getD (k+i) []=X[k+i]'jO by simp [List.getD,show k+i<X.length by omega]] at this
  rw [List.pairwise_append,List.pairwise_append]
  refine ⟨⟨hs.take,List.pairwise_cons.2 ⟨fun _ h=>by simp at h,.nil⟩,fun a ha b hb=>?_⟩,hs.drop,fun a ha b hb=>?_⟩
  ·rw [List.mem_singleton.1 hb];exact hlow a ha
  ·rcases List.mem_append.1 ha with ha|ha
   ·exact sk _ _ _ (hlow a ha) (hhigh b hb)
   ·rw [List.mem_singleton.1 ha];exact hhigh b hb
set_option maxHeartbeats 1000000 in
theorem yv {gs:List Nat} (ls:List (List UInt8)) (hl:ls.length≤1000000):bM gs Tryz.prog 154 [BN ls] (BN (fQ ls)):=by
 refine ai 48 Tryz.func154 fun al w0 F0 St0=>?_;refine jU 6516 ?_
 refine ak (aU 0 1 cJ fun p1=>?_)
 refine jU 2051316751 ?_;refine aF (α:=Nat×List (List UInt8)×Option Nat) [3,5,6,7,11,12,13,14,15,16,17,18,19,20,21,22,23,24,25,26,27,28,29,30,31,32,33,34,35,36,37,38,39,40,41,42,43,44,45,46] (fun (i,X,g)=>[(11,.c (.int .i64 (i:Nat))),(3,.os 0 g 0 X.length 1)]) (fun (i,X,g)=>[(g,.blk X.length (lM X))]) (fun (i,X,g)=>i≤ls.length∧X=fQ (ls.take i)) (fun (i,X,g)=>ls.length-i) ((0,[],p1)) ?_ (fun _=>rfl) ?_ ?_ ?_
 ·exact ⟨Nat.zero_le _,by simp [fQ]⟩
 ·exact .cons cZ (.cons cZ .nil)
 ·exact .blk rfl (fun j hj=>absurd hj (Nat.not_lt_zero j)) .nil
 ·rintro ⟨i,X,g⟩ ⟨(hi:i≤ls.length),hX⟩
  have hXl:X.length=i:=by rw [hX,mw,List.length_take];omega
  obtain ⟨x,hx⟩:∃ x,x=ls.getD i []:=⟨_,rfl⟩
  refine jU 7526 ?_;refine aq (fun h115=>?_) fun h115=>?_
  rotate_left
  ·refine jU 511684000200020006000 ?_
   have hiL:i=ls.length:=by omega
   rw [hiL,List.take_length] at hX
   refine jE (freeze 0 rfl) ?_;refine jE (eP 2 (fun b _=>bu (X.getD b [])) rfl rfl jO (fun a b ha hb=>yV a b ha hb)) ?_;refine jU 80007000 ?_
   rw [← hX];exact cZ
  refine jU 51607006207810 ?_;refine jE (freeze 0 rfl) ?_;refine jE (eP 3 (fun b _=>bu (X.getD b [])) rfl rfl jO (fun a b ha hb=>yV a b ha hb)) ?_;refine jE (dB (H':=[]) [] jD rfl) ?_;refine jU 20751316 ?_;refine jE (bF 5 (bu x) (ab.bs hx.symm)) ?_;refine aF (α:=Nat) [6,17,18,19,20,21,22,23,24,25,26,27,28,29,30,31] (fun k=>[(6,.c (.int .i64 (k:Nat)))]) (fun _=>[]) (fun k=>k≤X.length∧∀ j,k≤j→j<X.length→sl x (X.getD j [])=true) (fun k=>k) (X.length) ?_ (fun _=>rfl) ?_ ?_ ?_
  ·exact ⟨Nat.le_refl _,fun j h1 h2=>by omega⟩
  ·(repeat (first|exact bZ.nil|refine bZ.cons cZ ?_))
  ·(repeat (exact aS.nil))
  ·rintro k ⟨hk,hgt⟩
   refine jU 77 ?_;refine ff (.rd 0 (.rd 1 (.rd 2 (.rd 3 (.rd 4 (.rd 5 (.rd 6 (.rd 7 (.rd 8 (.rd 9 (.rd 10 (.rd 11 (.rd 12 .done))))))))))))) ?_;refine jU 7080070 ?_;refine gG 19 (fun g117=>?_) fun g117=>?_
   rotate_left
   ·refine jU 84000200020006000300880300000600600600600600600600600600 ?_
    have hlo:k=0∨sl (X.getD (k-1) []) x=true:=by
     first
      |(left;omega)
      |(right;have hh:=h117;rw [CT,decide_eq_false_iff_not] at hh;have:=dW (X.getD (k-1) []) x;rw [yT];omega)
    refine cy ?_
    refine ak (aU 0 1 cJ fun p2=>?_)
    refine jU 11 ?_;refine jq (ss (hl:=(dc _ _)) (hu:=(bY rfl (show _=((k:Nat):Int) by omega)))) ?_
    refine ar (av bW (l:=[]) (l2:=X.take k) rfl rfl rfl rfl (Nat.le_of_eq (Nat.zero_mul _)) (fun j hj=>absurd hj (by simp)) (dj rfl) (by rw [List.length_take];omega) (fun j hj=>ab.of_eq (DW (by rw [List.length_take] at hj;omega))) Tryz.underlying186 dY gQ cJ gW rfl (by simp;omega) (by simp;omega) (fun j hj=>rfl) rfl rfl (Nat.mul_one _) (fun p3=>?_))
    refine jU 11651 ?_
    refine ak (aU 1 1 cJ fun p4=>?_)
    refine ar (av bW (l:=[]++X.take k) (l2:=[x]) rfl rfl (by simp) rfl (by simp) (fun j hj=>cZ) (aY rfl (.inl rfl) jD) rfl (fun j hj=>by obtain rfl:j=0:=(by simp at hj;omega);exact cZ) Tryz.underlying186 dY gQ cJ gW rfl (by simp;omega) (by simp;omega) (fun j hj=>by obtain rfl:j=0:=jO;rfl) rfl rfl (Nat.mul_one _) (fun p5=>?_))
    refine jU 11120051 ?_;refine jq (ss (hl:=(bY rfl (show _=((k:Nat):Int) by omega))) (hu:=(dc _ _))) ?_
    refine ar (av bW (l:=[]++X.take k++[x]) (l2:=X.drop k) rfl rfl (by simp) rfl (by simp) (fun j hj=>cZ) (dj rfl) (by rw [List.length_drop]) (fun j hj=>ab.of_eq DX) Tryz.underlying186 dY gQ cJ gW rfl (by simp;omega) (by simp;omega) (fun j hj=>rfl) rfl rfl (Nat.mul_one _) (fun p6=>?_))
    refine jU 8519200840051 ?_
    refine aw ((i+1,X.take k++[x]++X.drop k,p6)) ?_ ?_ (h5:=?_) (h7:=?_)
    ·exact ⟨by omega,by
      have e:ls.take (i+1)=ls.take i++[x]:=by rw [hx,List.take_succ_eq_append_getElem jO];simp [List.getD,show i<ls.length by omega]
      rw [e]
      exact pF hX hk hlo (fun j h1 h2=>hgt j h1 h2)⟩
    ·show ls.length-(i+1)<ls.length-i;omega
    ·exact .cons (cI jO) (.cons cZ .nil)
    ·exact .same .nil
   refine jU 300007070 ?_;refine bV (fb (i:=(k-1)) (hz:=by omega)) ?_;refine jU 30000000703000000070000 ?_;refine bV CN ?_;refine jU 8803000000 ?_;refine aq (fun h117=>?_) fun h117=>?_
   ·refine jU 8400519120020810 ?_
    refine aw (k-1) ?_ ?_ (h5:=?_)
    ·exact ⟨by omega,fun j h1 h2=>by
      by_cases e:j=k-1
      ·subst e
       have:=h117
       rw [CT,decide_eq_true_eq] at this
       rw [yT];omega
      ·exact hgt j jO h2⟩
    ·show k-1<k;omega
    ·exact .cons (cI jO) .nil
   refine jU 84000200020006000 ?_
   have hlo:k=0∨sl (X.getD (k-1) []) x=true:=by
    first
     |(left;omega)
     |(right;have hh:=h117;rw [CT,decide_eq_false_iff_not] at hh;have:=dW (X.getD (k-1) []) x;rw [yT];omega)
   refine cy ?_
   refine ak (aU 0 1 cJ fun p2=>?_)
   refine jU 11 ?_;refine jq (ss (hl:=(dc _ _)) (hu:=(bY rfl (show _=((k:Nat):Int) by omega)))) ?_
   refine ar (av bW (l:=[]) (l2:=X.take k) rfl rfl rfl rfl (Nat.le_of_eq (Nat.zero_mul _)) (fun j hj=>absurd hj (by simp)) (dj rfl) (by rw [List.length_take];omega) (fun j hj=>ab.of_eq (DW (by rw [List.length_take] at hj;omega))) Tryz.underlying186 dY gQ cJ gW rfl (by simp;omega) (by simp;omega) (fun j hj=>rfl) rfl rfl (Nat.mul_one _) (fun p3=>?_))
   refine jU 11651 ?_
   refine ak (aU 1 1 cJ fun p4=>?_)
   refine ar (av bW (l:=[]++X.take k) (l2:=[x]) rfl rfl (by simp) rfl (by simp) (fun j hj=>cZ) (aY rfl (.inl rfl) jD) rfl (fun j hj=>by obtain rfl:j=0:=(by simp at hj;omega);exact cZ) Tryz.underlying186 dY gQ cJ gW rfl (by simp;omega) (by simp;omega) (fun j hj=>by obtain rfl:j=0:=jO;rfl) rfl rfl (Nat.mul_one _) (fun p5=>?_))
   refine jU 11120051 ?_;refine jq (ss (hl:=(bY rfl (show _=((k:Nat):Int) by omega))) (hu:=(dc _ _))) ?_
   refine ar (av bW (l:=[]++X.take k++[x]) (l2:=X.drop k) rfl rfl (by simp) rfl (by simp) (fun j hj=>cZ) (dj rfl) (by rw [List.length_drop]) (fun j hj=>ab.of_eq DX) Tryz.underlying186 dY gQ cJ gW rfl (by simp;omega) (by simp;omega) (fun j hj=>rfl) rfl rfl (Nat.mul_one _) (fun p6=>?_))
   refine jU 8519200840051 ?_
   refine aw ((i+1,X.take k++[x]++X.drop k,p6)) ?_ ?_ (h5:=?_) (h7:=?_)
   ·exact ⟨by omega,by
     have e:ls.take (i+1)=ls.take i++[x]:=by rw [hx,List.take_succ_eq_append_getElem jO];simp [List.getD,show i<ls.length by omega]
     rw [e]
     exact pF hX hk hlo (fun j h1 h2=>hgt j h1 h2)⟩
   ·show ls.length-(i+1)<ls.length-i;omega
   ·exact .cons (cI jO) (.cons cZ .nil)
   ·exact .same .nil
end
end Am
end Go.Proofs.YthlpfjnkieaeeaaGreatDoor
