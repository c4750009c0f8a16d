/- What the law leans on, part 9: P09s, ErrN, W08y, AmN, W09s, W09t, P19, Hx, P11, P13, P11b, W02b, AmO, AmQ, W02c, W11a, W11r, P13b, W13a, P01, P01b, P02m, P02f, AmS, P10, P13t, AmT, AmU -/
import Derived.Test.YtnijncmifjnifaaGreatDoorM8BundleRead
import Derived.MapKept
import Derived.WideKeyRuns

set_option maxRecDepth 100000
namespace Go.Proofs.YtnijncmifjnifaaGreatDoor
set_option linter.unusedVariables false
namespace Am
open Go.RowKit
section
open Go.RowKit Cal
def v8 (t:List UInt8):VV:=⟨8,0,false,[],t⟩
def v7 (t:List UInt8) (most:Int):VV:=⟨7,most,false,[],t⟩
def w1 (tag:Int):VV:=⟨1,tag,false,[],[]⟩
def w2:VV:=⟨2,0,false,[],[]⟩
def pv (p:P2):List VV:=[w1 48,v8 p.1,v7 p.2 64,w2]
def namesV (s:S3):List VV:=w1 48::((partsS s).flatMap pv++[w2])
def putS (s:S3) (w:W8):W8:=if rightS s=true then doAll (namesV s) w else failW 9 w
def rputS9 (s:S3) (r:R8):R8:=if rightS s=true then rdoAll (namesV s) r else ⟨r.tags,r.rows,if r.e=0 then 9 else r.e⟩
theorem do_w1 (tag:Int) (s:W8):doW (w1 tag) s=openW tag s:=by grind [doW,w1]
theorem do_w2 (s:W8):doW w2 s=closeV s:=by unfold doW;rw [if_neg (show ¬ w2.kind=1 by decide),if_pos (show w2.kind=2 from rfl)]
theorem do_v8 (t:List UInt8) (s:W8):doW (v8 t) s=putW 6 (putM t) (parseM t).2 s:=by
 unfold doW
 rw [if_neg (show ¬ (v8 t).kind=1 by show ¬ (8:Int)=1;decide),if_neg (show ¬ (v8 t).kind=2 by show ¬ (8:Int)=2;decide),if_neg (show ¬ (v8 t).kind=11 by show ¬ (8:Int)=11;decide)]
 rfl
theorem do_v7 (t:List UInt8) (m:Int) (s:W8):doW (v7 t m) s=putW 12 (if askedM t m=0 then t else []) (askedM t m) s:=by
 unfold doW
 rw [if_neg (show ¬ (v7 t m).kind=1 by show ¬ (7:Int)=1;decide),if_neg (show ¬ (v7 t m).kind=2 by show ¬ (7:Int)=2;decide),if_neg (show ¬ (v7 t m).kind=11 by show ¬ (7:Int)=11;decide)]
 rfl
theorem lab_ascii {l:List UInt8} (h:labM l=true):(∀ c ∈ l,32≤c.toNat∧c.toNat<127)∧l≠[]∧l.length≤24:=by
 grind [labM,lch]
theorem plain_ascii:∀ {l:List UInt8},(∀ c ∈ l,32≤c.toNat∧c.toNat<127)→plainM l=true
 | [],_=>rfl
 | c::l,h=>by
  have hc:=h c List.mem_cons_self
  have e:bt (c::l) 0=c.toNat:=rfl
  rw [ref_ascii (by simp) (by rw [e];omega),e,if_neg (by omega)]
  exact plain_ascii fun d hd=>h d (List.mem_cons_of_mem _ hd)
theorem asked_ascii {l:List UInt8} {m:Int} (h:∀ c ∈ l,32≤c.toNat∧c.toNat<127) (h0:l≠[]) (hm:(l.length:Int)≤m):askedM l m=0:=by
 grind [askedM,plain_ascii]
theorem asked_len {l:List UInt8} {m:Int} (h:askedM l m=0):(l.length:Int)≤m:=by
 grind [askedM]
def GoodP (p:P2):Prop:=(parseM p.1).2=0∧askedM p.2 64=0
def innerX (p:P2):List (Int×List UInt8):=[(6,putM p.1),(12,p.2)]
def partX (p:P2):Int×List UInt8:=(48,((innerX p).map elB).flatten)
def partB (p:P2):List UInt8:=elB (partX p)
def subX (s:S3):Int×List UInt8:=(48,(((partsS s).map partX).map elB).flatten)
def subB (s:S3):List UInt8:=elB (subX s)
theorem oids_good:(parseM oidK).2=0∧(parseM oidS).2=0∧(parseM oidN).2=0:=by decide +kernel
theorem word_ascii {k:Int} (h1:1≤k) (h5:k≤5):(∀ c ∈ wordM k,32≤c.toNat∧c.toNat<127)∧wordM k≠[]∧(wordM k).length≤8:=by
 obtain rfl|rfl|rfl|rfl|rfl:=kinds h1 h5 <;> decide
theorem good_parts {s:S3} (h:rightS s=true):(∀ p ∈ partsS s,GoodP p∧p.1.length=12∧p.2.length≤24)∧(partsS s).length≤3:=by
 obtain ⟨h1,h5,hn,h2,hs⟩:=(right_iff s).1 h
 have hw:=word_ascii h1 h5
 have hn':=lab_ascii hn
 have gk:GoodP (oidK,wordM s.1)∧(oidK,wordM s.1).1.length=12∧(oidK,wordM s.1).2.length≤24:=⟨⟨oids_good.1,asked_ascii hw.1 hw.2.1 (by grind)⟩,rfl,by grind⟩
 have gn:GoodP (oidN,s.2.2)∧(oidN,s.2.2).1.length=12∧(oidN,s.2.2).2.length≤24:=⟨⟨oids_good.2.2,asked_ascii hn'.1 hn'.2.1 (by grind)⟩,rfl,hn'.2.2⟩
 rw [parts_ref h]
 by_cases hk:s.1=2
 ·have hsp:=lab_ascii (h2 hk)
  have gs:GoodP (oidS,s.2.1)∧(oidS,s.2.1).1.length=12∧(oidS,s.2.1).2.length≤24:=⟨⟨oids_good.2.1,asked_ascii hsp.1 hsp.2.1 (by grind)⟩,rfl,hsp.2.2⟩
  simp_all
 simp_all
theorem part9_len {p:P2} (h:GoodP p) (h1:p.1.length≤300):(((innerX p).map elB).flatten).length≤1000∧(putM p.1).length≤600∧p.2.length≤64:=by
 have h2:=put_len p.1
 have h3:=asked_len h.2
 grind [putL_len,innerX,elB]
theorem addW_in (b:List UInt8) {t:Int} {ls:List (List UInt8)} {fr:List (Int×List (List UInt8))} {d:List UInt8}:addW b ⟨(t,ls)::fr,d,0⟩=⟨(t,ls++[b])::fr,d,0⟩:=rfl
theorem do_part {p:P2} (h:GoodP p) (h1:p.1.length≤300) {s:W8} (hk:s.k=0) (hf:s.fr.length<16):doAll (pv p) s=addW (partB p) s:=by
 obtain ⟨l1,l2,l3⟩:=part9_len h h1
 obtain ⟨fr,d,k⟩:=s
 simp only at hk hf
 subst hk
 show doW w2 (doW (v7 p.2 64) (doW (v8 p.1) (doW (w1 48) ⟨fr,d,0⟩)))=_
 rw [do_w1,open_ok rfl (by decide) hf,do_v8,h.1,put_ok rfl (by decide) (by omega),addW_in,do_v7,h.2,if_pos rfl,put_ok rfl (by decide) (by omega),addW_in,do_w2]
 have e:([]++[putL 6 (putM p.1)]++[putL 12 p.2]:List (List UInt8)).flatten=((innerX p).map elB).flatten:=rfl
 rw [close_ok (by decide) (by decide) (by rw [e];omega),e]
 rfl
theorem do_parts:∀ (ps:List P2) {ls:List (List UInt8)} {fr:List (Int×List (List UInt8))} {d:List UInt8},(∀ p ∈ ps,GoodP p∧p.1.length≤300)→fr.length<15→doAll (ps.flatMap pv) ⟨(48,ls)::fr,d,0⟩=⟨(48,ls++ps.map partB)::fr,d,0⟩
 | [],ls,fr,d,_,_=>by simp [doAll]
 | p::ps,ls,fr,d,h,hf=>by
  rw [List.flatMap_cons,doAll_app,do_part (h p List.mem_cons_self).1 (h p List.mem_cons_self).2 rfl (by simp only [List.length_cons];omega),addW_in,do_parts ps (fun q hq=>h q (List.mem_cons_of_mem _ hq)) hf]
  simp
theorem sub_len {s:S3} (h:rightS s=true):(((partsS s).map partX).map elB).flatten.length≤4000∧(subB s).length≤4100:=by
 obtain ⟨h1,h2⟩:=good_parts h
 have key:∀ ps:List P2,(∀ p ∈ ps,GoodP p∧p.1.length=12∧p.2.length≤24)→((ps.map partX).map elB).flatten.length≤1010 * ps.length:=fun ps=>by
  induction ps with
  | nil=>intro _;simp
  | cons p ps ih =>
   intro h
   have h3:=ih fun q hq=>h q (List.mem_cons_of_mem _ hq)
   grind [part9_len,putL_len,elB,partX]
 have h3:=key _ h1
 have h4:=putL_len 48 (((partsS s).map partX).map elB).flatten
 have h5:(subB s).length=(putL 48 (((partsS s).map partX).map elB).flatten).length:=rfl
 omega
theorem putS_ok {s:S3} (h:rightS s=true) {w:W8} (hk:w.k=0) (hf:w.fr.length<15):putS s w=addW (subB s) w:=by
 obtain ⟨h1,h2⟩:=good_parts h
 obtain ⟨l1,l2⟩:=sub_len h
 obtain ⟨fr,d,k⟩:=w
 simp only at hk hf
 subst hk
 unfold putS
 rw [if_pos h]
 show doAll ((partsS s).flatMap pv++[w2]) (doW (w1 48) ⟨fr,d,0⟩)=_
 rw [do_w1,open_ok rfl (by decide) (by dsimp only;omega),doAll_app,do_parts _ (fun p hp=>⟨(h1 p hp).1,by grind⟩) hf]
 rw [show ∀ X,doAll [w2] X=doW w2 X from fun _=>rfl,do_w2]
 have e:([]++(partsS s).map partB:List (List UInt8)).flatten=(((partsS s).map partX).map elB).flatten:=by rw [List.nil_append,List.map_map];rfl
 rw [close_ok (by decide) (by decide) (by rw [e];omega),e]
 rfl
def w00:W8:=⟨[],[],0⟩
theorem small_w1 {t:Int} (h:-9223372036854775808≤t∧t≤9223372036854775807):SmallV (w1 t):=⟨h,by simp [w1],by simp [w1]⟩
theorem small_w2:SmallV w2:=⟨by simp [w2],by simp [w2],by simp [w2]⟩
theorem small_v8 {t:List UInt8} (h:t.length≤300):SmallV (v8 t):=⟨by simp [v8],by simp [v8],h⟩
theorem small_v7 {t:List UInt8} (h:t.length≤300):SmallV (v7 t 64):=⟨by simp [v7],by simp [v7],h⟩
theorem small_pv {p:P2} (h1:p.1.length≤300) (h2:p.2.length≤300):∀ v ∈ pv p,SmallV v:=fun v hv=>by
 grind [pv,small_w1,small_v8,small_v7,small_w2]
theorem pvs_len:∀ ps:List P2,(ps.flatMap pv).length=4 * ps.length
 | []=>rfl
 | p::ps=>by
  rw [List.flatMap_cons,List.length_append,pvs_len ps,List.length_cons]
  show 4+_=_
  omega
theorem inv_putS {i:Nat} {r:R8} {w:W8} (hI:Inv8 i r w) (s:S3):Inv8 (i+14) (rputS9 s r) (putS s w):=by
 unfold rputS9 putS
 by_cases h:rightS s=true
 ·rw [if_pos h,if_pos h]
  obtain ⟨h1,h2⟩:=good_parts h
  have hl:(namesV s).length≤14:=by
   unfold namesV
   rw [List.length_cons,List.length_append,pvs_len]
   simp only [List.length_singleton]
   omega
  refine inv_mono (inv_all (namesV s) hI fun v hv=>?_) (by omega)
  unfold namesV at hv
  rcases List.mem_cons.1 hv with rfl|hv
  ·exact small_w1 (by decide)
  ·rcases List.mem_append.1 hv with hv|hv
   ·obtain ⟨p,hp,hv⟩:=List.mem_flatMap.1 hv
    grind [small_pv]
   ·rw [List.mem_singleton.1 hv];exact small_w2
 grind [inv_mono,inv_fail]
def aL:AA:=⟨1,48,0,0⟩
def aO:AA:=⟨8,0,0,0⟩
def aT:AA:=⟨7,0,0,64⟩
def aE:AA:=⟨2,0,0,0⟩
def partSp:StepR P2:=fun l k =>
 let r1:=readR aL l k
 let r2:=readR aO r1.l r1.k
 let r3:=readR aT r2.l r2.k
 let r4:=readR aE r3.l r3.k
 ((r4.l,r4.k),(r2.v.t,r3.v.t))
theorem said_O (b:List UInt8):saidM aO b=(vT (ogetM b).1,(ogetM b).2):=rfl
theorem said_T (b:List UInt8):saidM aT b=(vT (if askedM b 64=0 then b else []),askedM b 64):=rfl
theorem part_ok:StepOk partSp:=by
 have key:∀ l k,0<l.length→moreM l k=true→muS (partSp l k).1.1 (partSp l k).1.2<muS l k∧((partSp l k).1.2=0→(partSp l k).1.1.length=l.length)∧l.length≤(partSp l k).1.1.length∧(partSp l k).1.1.length≤l.length+16:=by
  intro l k hl hm
  have hk:=(more_pos hm).1
  obtain ⟨a1,a2,a3,a4,a5,a6,a7⟩:=read_mu aL (l:=l) (k:=k) hl
  have a3':=a3 hk (by decide)
  obtain ⟨a41,a42⟩:=a4 rfl
  have p1:l.length≤(readR aL l k).l.length∧(readR aL l k).l.length≤l.length+1:=by
   by_cases h:(readR aL l k).k=0
   ·have:=a41 h;omega
   ·have:=a42 h;omega
  obtain ⟨b1,b2,b3,b4,b5,b6,b7⟩:=read_mu aO (l:=(readR aL l k).l) (k:=(readR aL l k).k) (by omega)
  have b6':=b6 (by decide) (by decide)
  obtain ⟨c1,c2,c3,c4,c5,c6,c7⟩:=read_mu aT (l:=(readR aO (readR aL l k).l (readR aL l k).k).l) (k:=(readR aO (readR aL l k).l (readR aL l k).k).k) (by omega)
  have c6':=c6 (by decide) (by decide)
  obtain ⟨d1,d2,d3,d4,d5,d6,d7⟩:=read_mu aE (l:=(readR aT (readR aO (readR aL l k).l (readR aL l k).k).l (readR aO (readR aL l k).l (readR aL l k).k).k).l) (k:=(readR aT (readR aO (readR aL l k).l (readR aL l k).k).l (readR aO (readR aL l k).l (readR aL l k).k).k).k) (by omega)
  obtain ⟨d51,d52⟩:=d5 rfl
  show muS (readR aE _ _).l (readR aE _ _).k<_∧((readR aE _ _).k=0→(readR aE _ _).l.length=_)∧_≤(readR aE _ _).l.length∧(readR aE _ _).l.length≤_
  refine ⟨by omega,fun h=>?_,?_,?_⟩
  ·grind
  ·grind
  ·omega
 exact ⟨fun l k h1 h2=>(key l k h1 h2).1,fun l k h1 h2=>(key l k h1 h2).2.1,fun l k h1 h2=>(key l k h1 h2).2.2⟩
theorem part_body (p:P2):((innerX p).map elB).flatten=putL 6 (putM p.1)++(putL 12 p.2++[]):=by simp [innerX,elB]
def GoodR (p:P2):Prop:=GoodP p∧(putM p.1).length≤65530∧(((innerX p).map elB).flatten).length≤65530
theorem part_fb:StepFB partSp partB GoodR:=by
 refine ⟨fun ls p r h=>?_,fun ls x k h=>?_,fun p _=>elB_pos _⟩
 ·obtain ⟨⟨h1,h2⟩,h3,h4⟩:=h
  have h5:=asked_len h2
  obtain ⟨e1,e2,_⟩:=enter_fwd ls (t:=48) (b:=((innerX p).map elB).flatten) r (by decide) h4
  obtain ⟨f1,f2⟩:=read_enter aL rfl (ls++[partB p++r]) 0
  have g1:(readR aL (ls++[partB p++r]) 0).l=ls++[r]++[putL 6 (putM p.1)++(putL 12 p.2++[])]:=by rw [f1,← part_body];exact e1
  have g2:(readR aL (ls++[partB p++r]) 0).k=0:=f2.trans e2
  have hpm:putM p.1=putA (parseM p.1).1:=by unfold putM;rw [if_pos h1]
  have hO:saidM aO (putM p.1)=(vT p.1,0):=by rw [said_O,hpm,get_of_put h1]
  have hT:saidM aT p.2=(vT p.2,0):=by rw [said_T,h2,if_pos rfl]
  have g3:=read_fwd aO (ls++[r]) (b:=putM p.1) (putL 12 p.2++[]) (by decide) h3 (by rw [hO])
  have g4:=read_fwd aT (ls++[r]) (b:=p.2) [] (by decide) (by omega) (by rw [hT])
  have g5:=leave_fwd (ls:=ls++[r]) (by simp)
  obtain ⟨g6,g7⟩:=read_leave aE rfl (ls++[r]++[[]]) 0
  have tO:tagA aO=6:=rfl
  have tT:tagA aT=12:=rfl
  rw [tO] at g3
  rw [tT] at g4
  unfold partSp
  dsimp only
  rw [g1,g2,g3]
  dsimp only
  rw [g4]
  dsimp only
  rw [g6,g7,g5.1,g5.2,hO,hT]
  rfl
 ·have hk4:(readR aE (readR aT (readR aO (readR aL (ls++[x]) k).l (readR aL (ls++[x]) k).k).l (readR aO (readR aL (ls++[x]) k).l (readR aL (ls++[x]) k).k).k).l (readR aT (readR aO (readR aL (ls++[x]) k).l (readR aL (ls++[x]) k).k).l (readR aO (readR aL (ls++[x]) k).l (readR aL (ls++[x]) k).k).k).k).k=0:=h
  have len1:0<(readR aL (ls++[x]) k).l.length:=by
   obtain ⟨a1,a2,a3,a4,_⟩:=read_mu aL (l:=ls++[x]) (k:=k) (by simp)
   obtain ⟨a41,a42⟩:=a4 rfl
   by_cases h:(readR aL (ls++[x]) k).k=0
   ·rw [a41 h];omega
   ·rw [a42 h];simp
  obtain ⟨_,_,_,_,_,b6,b7⟩:=read_mu aO (l:=(readR aL (ls++[x]) k).l) (k:=(readR aL (ls++[x]) k).k) len1
  have b6':=b6 (by decide) (by decide)
  obtain ⟨_,_,_,_,_,c6,c7⟩:=read_mu aT (l:=(readR aO (readR aL (ls++[x]) k).l (readR aL (ls++[x]) k).k).l) (k:=(readR aO (readR aL (ls++[x]) k).l (readR aL (ls++[x]) k).k).k) (by omega)
  have c6':=c6 (by decide) (by decide)
  obtain ⟨_,_,_,_,_,_,d7⟩:=read_mu aE (l:=(readR aT (readR aO (readR aL (ls++[x]) k).l (readR aL (ls++[x]) k).k).l (readR aO (readR aL (ls++[x]) k).l (readR aL (ls++[x]) k).k).k).l) (k:=(readR aT (readR aO (readR aL (ls++[x]) k).l (readR aL (ls++[x]) k).k).l (readR aO (readR aL (ls++[x]) k).l (readR aL (ls++[x]) k).k).k).k) (by omega)
  have hk3:=d7 hk4
  have hk2:=c7 hk3
  have hk1:=b7 hk2
  obtain ⟨f1,f2⟩:=read_enter aL rfl (ls++[x]) k
  obtain ⟨hk0,b,r,e1,e2,e3,e4⟩:=enter_back (t:=48) (by decide) (show (enterR 48 (ls++[x]) k).k=0 from f2.symm.trans hk1)
  have g1:(readR aL (ls++[x]) k).l=ls++[r]++[b]:=f1.trans e3
  rw [g1,hk1] at hk2 hk3 hk4
  obtain ⟨_,o,r2,o1,o2,o3,o4⟩:=read_back (a:=aO) (by decide) hk2
  rw [o4] at hk3 hk4
  obtain ⟨_,t,r3,t1,t2,t3,t4⟩:=read_back (a:=aT) (by decide) hk3
  rw [t4] at hk4
  obtain ⟨f3,f4⟩:=read_leave aE rfl (ls++[r]++[r3]) 0
  dsimp only at hk4
  rw [f4] at hk4
  obtain ⟨_,u1,u2,u3⟩:=leave_back hk4
  subst u1
  have o3':(ogetM o).2=0:=o3
  have t3':askedM t 64=0:=t3
  obtain ⟨q1,q2⟩:=oget_canon o3'
  have hO:(saidM aO o).1.t=(ogetM o).1:=rfl
  have hT:(saidM aT t).1.t=t:=by rw [said_T];show (if askedM t 64=0 then t else [])=t;rw [if_pos t3']
  have hb:b=((innerX ((ogetM o).1,t)).map elB).flatten:=by
   rw [part_body,o1,t1]
   show putL 6 o++(putL 12 t++[])=putL 6 (putM (ogetM o).1)++_
   rw [q1]
  refine ⟨hk0,((ogetM o).1,t),r,⟨⟨q2,t3'⟩,by rw [q1];exact o2,by rw [← hb];exact e2⟩,?_,?_⟩
  ·rw [e1,hb];rfl
  grind [partSp]
def endP (l:List (List UInt8)) (k:Nat):List (List UInt8)×Nat:=endG partSp (enterL 48 l k) (enterR 48 l k).k 8
def listP (l:List (List UInt8)) (k:Nat):List P2:=(stG partSp (enterL 48 l k) (enterR 48 l k).k (jG partSp (enterL 48 l k) (enterR 48 l k).k 8)).2
def getS (l:List (List UInt8)) (k:Nat):(List (List UInt8)×Nat)×S3 :=
 if (endP l k).2≠0 then (endP l k,zeroS) else (((endP l k).1,(ofP (listP l k)).2),(ofP (listP l k)).1)
def readS (b:List UInt8):S3×Nat :=
 let g:=getS [b] (depthM b).2
 if endK g.1.1 g.1.2≠0 then (zeroS,endK g.1.1 g.1.2) else (g.2,0)
theorem parts_enc (s:S3):((partsS s).map partB).flatten=(((partsS s).map partX).map elB).flatten:=by rw [List.map_map];rfl
theorem good_R {p:P2} (h:GoodP p) (h1:p.1.length≤300):GoodR p:=by
 obtain ⟨l1,l2,l3⟩:=part9_len h h1
 exact ⟨h,by omega,by omega⟩
theorem getS_fwd {s:S3} (h:rightS s=true) (ls:List (List UInt8)) (r:List UInt8):getS (ls++[subB s++r]) 0=((ls++[r],0),s):=by
 obtain ⟨h1,h2⟩:=good_parts h
 obtain ⟨l1,l2⟩:=sub_len h
 have e:subB s=putL 48 ((partsS s).map partB).flatten:=by rw [parts_enc];rfl
 obtain ⟨r1,r2⟩:=row_fwd part_ok part_fb (tag:=48) (most:=8) ls (xs:=partsS s) r (by decide) (fun p hp=>good_R (h1 p hp).1 (by grind)) (by omega) (by rw [parts_enc];omega)
 rw [← e] at r1 r2
 have hE:endP (ls++[subB s++r]) 0=(ls++[r],0):=r1
 have hL:listP (ls++[subB s++r]) 0=partsS s:=r2
 have ho:ofP (partsS s)=(s,0):=(ofP_iff _ _).2 ⟨h,rfl⟩
 grind [getS]
theorem getS_back {ls:List (List UInt8)} {x:List UInt8} {k:Nat} (h:(getS (ls++[x]) k).1.2=0):k=0∧∃ s r,rightS s=true∧x=subB s++r∧getS (ls++[x]) k=((ls++[r],0),s):=by
 unfold getS at h ⊢
 by_cases h0:(endP (ls++[x]) k).2≠0
 ·simp_all
 ·rw [if_neg h0] at h ⊢
  obtain ⟨hk,xs,r,g1,g2,g3,g4,g5,g6⟩:=row_back part_ok part_fb (tag:=48) (most:=8) (k:=k) ls x (by decide) (by exact Classical.not_not.1 h0)
  have hE:endP (ls++[x]) k=(ls++[r],0):=g5
  have hL:listP (ls++[x]) k=xs:=g6
  rw [hE,hL] at h ⊢
  dsimp only at h ⊢
  have ho:ofP xs=((ofP xs).1,0):=Prod.ext rfl h
  obtain ⟨hr,hp⟩:=(ofP_iff _ _).1 ho
  refine ⟨hk,(ofP xs).1,r,hr,?_,by rw [h]⟩
  have hsb:subB (ofP xs).1=putL 48 (xs.map partB).flatten:=by
   show putL 48 (((partsS (ofP xs).1).map partX).map elB).flatten=_
   rw [← parts_enc,hp]
  rw [g4,hsb]
end
section
variable {gs:List Nat} [OkG gs]
end
section
variable {gs:List Nat} [Ok9 gs]
open Go.RowKit Cal

def valF (v:VV):Nat→CV:=fl [.c (.int .i64 v.kind),.c (.int .i64 v.n),.c (.bool v.is),bsC v.b,strC v.t]
def vsC (vs:List VV):CV:=.rs 5 vs.length fun i j=>valF (vs.getD i VV.none) j
def bigV (v:VV):Bool:=decide (300<v.b.length) || decide (300<v.t.length)
def longM (vs:List VV):Bool:=decide (60<vs.length) || vs.any bigV
def r0W:R8:=⟨[],[],0⟩
theorem newRW {G:Gh} {env:List (Nat×CV)} {b0:Nat→CV} {H:List (Option Nat×Res)} (n i:Nat) {f:Nat→CV} (hi:H[i]?=some (some n,.blk 3 f)) (h0:CEnt (f 0) (.c (.slice none 0 0))) (h1:CEnt (f 1) (.c (.slice none 0 0))) (h2:CEnt (f 2) (.c (.int .i64 0))):EntS G ⟨env,b0,H⟩ ⟨env,b0,H.set i (rwO n r0W)⟩:=by
 have hil:=(List.getElem?_eq_some_iff.1 hi).1
 have os0:∀ {j k:Nat},CEnt (.c (.slice none 0 0)) (.os j none 0 0 k):=fun al St w v h=>⟨rfl,h⟩
 intro St a w hr
 obtain ⟨S1,s1,r1⟩:=ent_none (G:=G) (s:=⟨env,b0,H⟩) (rowsF []) St a w hr
 obtain ⟨S4,s4,r4⟩:=closeRW (G:=G) (env:=env) (b0:=b0) (H:=H++[(none,.blk 0 (rowsF []))]) n r0W i H.length (gr:=none) (N:=0) (f:=f) (F:=rowsF [])
  (by rw [List.getElem?_append_left hil];exact hi) (by simp) (by cases e:Nat.beq i H.length with|false=>rfl|true=>have:=Nat.eq_of_beq_eq_true e;omega) (h0.trans (CEnt.nilS _ _)) (h1.trans os0) h2 (Nat.le_refl _) (fun a h=>absurd h (Nat.not_lt_zero a)) S1 a w r1
 obtain ⟨S5,s5,r5⟩:=pick_ent (G:=G) (H':=H.set i (rwO n r0W)) (List.range H.length) (range_nodup _) (by
  rw [pickL_range _ _ (by simp)]
  rw [take_set_out _ _ _ _ (by omega),List.take_set,List.take_left]) S4 a w r4
 exact ⟨S5,fun b hb=>s5 b (s4 b (s1 b hb)),r5⟩
end
section
section
variable {P:Program} {G:Gh} {o:Oper} {env:List (Nat×CV)} {b0:Nat→CV} {H:List (Option Nat×Res)} {K:AS→Prop}
theorem m_callHV1 {f:FuncId} {v:Operand} {n d:Nat} {fv:Nat→CV} {xs:Array Operand} {ats:Array TypeId} {args:List CV} {Q:CV→List (Option Nat×Res)→Prop} {i:Nat} {x0:Option Nat×Res} (ho:o.op=.call ⟨.value v,xs,ats⟩) (hv:(⟨env,b0,H⟩:AS).eval v=.fn f n fv) (hc:calleeB P f=true) (hi:H[i]?=some x0) (hA:AC G.gs P f [x0] args Q)
  (he:EntL (xs.toList.map (⟨env,b0,H⟩:AS).eval++(List.range n).map fv) args) (hd:o.dst=some d) (hN:Nat.blt d G.N=true)
  (hK:∀ r H',Q r H'→∃ x,H'=[x]∧K ⟨(d,r)::env,b0,H.set i x⟩):AMd P G o ⟨env,b0,H⟩ K :=
 m_callHV ho hv hc hi hA he (dst_s hd hN) (fun r H' hq=>by grind [with_some])
end
end
section
variable {gs:List Nat} [OkG gs] [OkT gs]
open Go.RowKit Cal

def partV (p:P2):CV:=.agg 2 (partE p)
def r00:R8:=⟨[],[],0⟩
theorem inv_00:Inv8 0 r00 w00:=inv_zero
end
section
variable {gs:List Nat} [OkG gs] [OkT gs]
open Go.RowKit Cal

theorem textR_ac {gs:List Nat} [Ok9 gs] [OkT gs] (n:Nat) (l:List (List UInt8)) (k:Nat) (hl:0<l.length∧l.length≤1000000) (hb:(nowL l).length≤10000000):AC gs Tryz.prog 46 [rdO n l k] [.op 0 (some n) 0,.c (.int .i64 64)] (fun r H'=>r=strC (readR aT l k).v.t∧H'=[rdO n (readR aT l k).l (readR aT l k).k]):=by
 have h:=text08_ac (gs:=gs) n l k 64 hl hb
 rw [readR_g vT [] rfl (t:=12) (f:=fun b=>(if askedM b 64=0 then b else [],askedM b 64)) (by decide) (by decide) (by decide) (by funext b;rfl) rfl]
 exact h
theorem mu_sum {l:List (List UInt8)} {k B:Nat} (h:muS l k≤B):sumL l≤B:=by unfold muS at h;omega
theorem read_bd (a:AA) {l:List (List UInt8)} {k m B:Nat} (hl:0<l.length∧l.length≤m) (hb:muS l k≤B) (h2:a.kind≠2):(0<(readR a l k).l.length∧(readR a l k).l.length≤m+1)∧muS (readR a l k).l (readR a l k).k≤B:=by
 obtain ⟨a1,a2,a3,a4,a5,a6,a7⟩:=read_mu a (l:=l) (k:=k) hl.1
 refine ⟨?_,by omega⟩
 by_cases h1:a.kind=1
 ·obtain ⟨a41,a42⟩:=a4 h1
  by_cases h:(readR a l k).k=0
  ·have:=a41 h;omega
  ·have:=a42 h;omega
 ·have:=a6 h1 h2;omega
theorem now_le {l:List (List UInt8)} {k B:Nat} (h:muS l k≤B):(nowL l).length≤B:=Nat.le_trans (now_sum l) (mu_sum h)
theorem getS_len (l:List (List UInt8)) (k:Nat) (hl:0<l.length):0<(getS l k).1.1.length∧(getS l k).1.1.length≤l.length+17:=by
 have hE:(getS l k).1.1=(endP l k).1:=by unfold getS;split <;> rfl
 have he:0<(enterL 48 l k).length∧(enterL 48 l k).length≤l.length+1:=by
  obtain ⟨_,_,_,e4,e5,_⟩:=enter_mu (t:=48) (l:=l) (k:=k) hl
  by_cases h0:(enterR 48 l k).k=0
  ·rw [e4 h0];omega
  ·rw [e5 h0];omega
 have hs:=jG_stop (sp:=partSp) (l0:=enterL 48 l k) (k0:=(enterR 48 l k).k) (most:=8) part_ok he.1
 have hb:=stG_bd (sp:=partSp) (l0:=enterL 48 l k) (k0:=(enterR 48 l k).k) (most:=8) part_ok he.1 _ hs.1
 have lv:∀ (l':List (List UInt8)) (k':Nat),0<l'.length→0<(leaveL l' k').length∧(leaveL l' k').length≤l'.length:=fun l' k' h=>by
  obtain ⟨_,_,f3,f4⟩:=leave_mu (l:=l') (k:=k') h
  by_cases h0:leaveK l' k'=0
  ·have:=f3 h0;omega
  ·rw [f4 h0];omega
 rw [hE]
 unfold endP endG
 dsimp only
 split
 ·have:=lv (stG partSp (enterL 48 l k) (enterR 48 l k).k (jG partSp (enterL 48 l k) (enterR 48 l k).k 8)).1.1 3 (by omega)
  dsimp only
  omega
 ·have:=lv (stG partSp (enterL 48 l k) (enterR 48 l k).k (jG partSp (enterL 48 l k) (enterR 48 l k).k 8)).1.1 (stG partSp (enterL 48 l k) (enterR 48 l k).k (jG partSp (enterL 48 l k) (enterR 48 l k).k 8)).1.2 (by omega)
  dsimp only
  omega
end
section
open Go.RowKit Cal
structure Fd where
 call:Int
 least:Int
 most:Int
structure V4 where
 n:Int
 t:List UInt8
 b:List UInt8
 who:S3
def V4.z:V4:=⟨0,[],[],zeroS⟩
def OkF (f:Fd):Prop:=f.call=0∨((f.call=3∨f.call=4)∧-9223372036854775808≤f.least∧f.most≤9223372036854775807)∨(f.call=6∧0≤f.least∧f.most≤4096)∨(f.call=7∧f.most=24)∨f.call=9
def GoodF (f:Fd) (v:V4):Prop:=(f.call=0∧v=⟨0,[],[],v.who⟩∧rightS v.who=true)∨((f.call=3∨f.call=4)∧v=⟨v.n,[],[],zeroS⟩∧f.least≤v.n∧v.n≤f.most) ∨
 (f.call=6∧v=⟨0,[],v.b,zeroS⟩∧f.least≤(v.b.length:Nat)∧(v.b.length:Nat)≤f.most)∨(f.call=7∧v=⟨0,v.t,[],zeroS⟩∧askedM v.t 24=0)∨(f.call=9∧v=⟨v.n,[],[],zeroS⟩∧inT v.n)
def fdV (f:Fd) (v:V4):VV:=if f.call=7 then ⟨7,24,false,[],v.t⟩ else ⟨f.call,v.n,false,v.b,[]⟩
def fdX (f:Fd) (v:V4):Int×List UInt8:=if f.call=0 then subX v.who else ((bodyV (fdV f v)).1,(bodyV (fdV f v)).2.1)
def encF (f:Fd) (v:V4):List UInt8:=elB (fdX f v)
def putFd (f:Fd) (v:V4) (w:W8):W8:=if f.call=0 then putS v.who w else doW (fdV f v) w
def rputFd (f:Fd) (v:V4) (r:R8):R8:=if f.call=0 then rputS9 v.who r else rdoS (fdV f v) r
def fdA (f:Fd):AA:=⟨f.call,0,f.least,f.most⟩
def readF (f:Fd):StepR V4:=fun l k=>if f.call=0 then ((getS l k).1,⟨0,[],[],(getS l k).2⟩) else (((readR (fdA f) l k).l,(readR (fdA f) l k).k),⟨(readR (fdA f) l k).v.n,(readR (fdA f) l k).v.t,(readR (fdA f) l k).v.b,zeroS⟩)
theorem fd_body {f:Fd} {v:V4} (ho:OkF f) (h:GoodF f v) (h0:f.call≠0):(3≤f.call∧f.call≤10)∧(fdV f v).kind=f.call∧(bodyV (fdV f v)).1=tagA (fdA f)∧(bodyV (fdV f v)).2.2=0∧(bodyV (fdV f v)).2.1.length≤4096∧saidM (fdA f) (bodyV (fdV f v)).2.1=(⟨0,v.n,false,v.b,v.t⟩,0) ∧
  (-9223372036854775808≤(fdV f v).n∧(fdV f v).n≤9223372036854775807)∧(fdV f v).t.length≤300∧(fdV f v).b.length≤4096∧v.who=zeroS:=by
 obtain ⟨c,least,most⟩:=f
 obtain ⟨n,t,b,who⟩:=v
 unfold OkF GoodF at *
 dsimp only at ho h h0
 rcases h with h|⟨hc,hv,h1,h2⟩|⟨hc,hv,h1,h2⟩|⟨hc,hv,h1⟩|⟨hc,hv,h1⟩
 ·exact absurd h.1 h0
 ·obtain ⟨_,rfl,rfl,rfl⟩:=(V4.mk.injEq _ _ _ _ _ _ _ _).mp hv
  have hb:-9223372036854775808≤n∧n≤9223372036854775807:=by omega
  have hg:=putN_get hb.1 hb.2
  have hl:=(putN_len n hb.1 hb.2).2
  have hr:rangeM (putN n) least most=(n,0):=by
   unfold rangeM
   rw [hg,if_neg (by simp),if_neg (by dsimp only;omega)]
  rcases hc with rfl|rfl
  ·have e:bodyV (fdV ⟨3,least,most⟩ ⟨n,[],[],zeroS⟩)=(2,putN n,0):=rfl
   refine ⟨by simp_all,rfl,rfl,rfl,by grind,?_,hb,by simp [fdV],by simp [fdV],rfl⟩
   rw [e]
   show (vN (rangeM (putN n) least most).1,(rangeM (putN n) least most).2)=_
   rw [hr];rfl
  ·have e:bodyV (fdV ⟨4,least,most⟩ ⟨n,[],[],zeroS⟩)=(10,putN n,0):=rfl
   refine ⟨by simp_all,rfl,rfl,rfl,by grind,?_,hb,by simp [fdV],by simp [fdV],rfl⟩
   rw [e]
   show (vN (rangeM (putN n) least most).1,(rangeM (putN n) least most).2)=_
   rw [hr];rfl
 ·obtain ⟨rfl,rfl,_,rfl⟩:=(V4.mk.injEq _ _ _ _ _ _ _ _).mp hv
  subst hc
  have e:bodyV (fdV ⟨6,least,most⟩ ⟨0,[],b,zeroS⟩)=(4,b,0):=rfl
  have hl:b.length≤4096:=by omega
  refine ⟨by simp_all,rfl,rfl,rfl,by rw [e];exact hl,?_,by show (-9223372036854775808:Int)≤0∧(0:Int)≤9223372036854775807;decide,by simp [fdV],hl,rfl⟩
  rw [e]
  show (vB (octM least most b).1,(octM least most b).2)=_
  unfold octM
  rw [if_neg (by omega),if_neg (by omega)]
  rfl
 ·obtain ⟨rfl,_,rfl,rfl⟩:=(V4.mk.injEq _ _ _ _ _ _ _ _).mp hv
  subst hc
  have hm:most=24:=by omega
  subst hm
  have hl:=asked_len h1
  have e:bodyV (fdV ⟨7,least,24⟩ ⟨0,t,[],zeroS⟩)=(12,t,0):=by
   show ((12:Int),(if askedM t 24=0 then t else []),askedM t 24)=_
   rw [h1,if_pos rfl]
  refine ⟨by simp_all,rfl,by rw [e];rfl,by rw [e],by grind,?_,by show (-9223372036854775808:Int)≤24∧(24:Int)≤9223372036854775807;decide,by show t.length≤300;omega,by simp [fdV],rfl⟩
  rw [e]
  show (vT (if askedM t 24=0 then t else []),askedM t 24)=_
  rw [h1,if_pos rfl];rfl
 ·obtain ⟨_,rfl,rfl,rfl⟩:=(V4.mk.injEq _ _ _ _ _ _ _ _).mp hv
  subst hc
  have ho6:ofM n=ofR6 n:=by unfold ofM;rw [if_pos h1]
  have hq:=ofR_right h1
  have e:bodyV (fdV ⟨9,least,most⟩ ⟨n,[],[],zeroS⟩)=(24,bodyL (ofM n),0):=by
   show ((24:Int),(if inT n then bodyL (ofM n) else []),ofE n)=_
   unfold ofE
   rw [if_pos h1,if_pos h1]
  refine ⟨by simp_all,rfl,by rw [e];rfl,by rw [e],by rw [e];exact Nat.le_of_ble_eq_true rfl,?_,by have h1':=h1;unfold inT at h1';show _≤n∧n≤_;omega,by simp [fdV],by simp [fdV],rfl⟩
  rw [e]
  show (vN (getV (bodyL (ofM n))),getE (bodyL (ofM n)))=_
  rw [ho6,(get_body hq.1).1,(get_body hq.1).2,hq.2];rfl
theorem encF_tag {f:Fd} {v:V4} (ho:OkF f) (h:GoodF f v) (h0:f.call≠0):encF f v=putL (tagA (fdA f)) (bodyV (fdV f v)).2.1:=by
 simp_all [encF,fdX,elB,fd_body]
theorem encF_sub {f:Fd} {v:V4} (h0:f.call=0):encF f v=subB v.who:=by
 unfold encF fdX
 rw [if_pos h0];rfl
theorem good_sub {f:Fd} {v:V4} (h:GoodF f v) (h0:f.call=0):v=⟨0,[],[],v.who⟩∧rightS v.who=true:=by
 grind [GoodF]
theorem field_fwd {f:Fd} {v:V4} (ho:OkF f) (h:GoodF f v) (ls:List (List UInt8)) (r:List UInt8):readF f (ls++[encF f v++r]) 0=((ls++[r],0),v):=by
 unfold readF
 by_cases h0:f.call=0
 ·grind [good_sub,encF_sub,getS_fwd]
 ·obtain ⟨b1,b2,b3,b4,b5,b6,b7,b8,b9,b10⟩:=fd_body ho h h0
  have hr:=read_fwd (fdA f) ls (b:=(bodyV (fdV f v)).2.1) r b1 (by omega) (by rw [b6])
  rw [if_neg h0,encF_tag ho h h0,hr,b6]
  obtain ⟨n,t,b,who⟩:=v
  simp_all
theorem field_back {f:Fd} (ho:OkF f) {ls:List (List UInt8)} {x:List UInt8} {k:Nat} (h:(readF f (ls++[x]) k).1.2=0):k=0∧∃ v r,GoodF f v∧x=encF f v++r∧readF f (ls++[x]) k=((ls++[r],0),v):=by
 unfold readF at h ⊢
 by_cases h0:f.call=0
 ·rw [if_pos h0] at h ⊢
  obtain ⟨h1,s,r,h2,h3,h4⟩:=getS_back h
  refine ⟨h1,⟨0,[],[],s⟩,r,.inl ⟨h0,rfl,h2⟩,by rw [h3,encF_sub h0],by rw [h4]⟩
 ·rw [if_neg h0] at h ⊢
  dsimp only at h
  have ha:3≤(fdA f).kind∧(fdA f).kind≤10:=by unfold OkF at ho;show 3≤f.call∧f.call≤10;omega
  obtain ⟨h1,b,r,h2,h3,h4,h5⟩:=read_back ha h
  have key:∀ v:V4,GoodF f v→(bodyV (fdV f v)).2.1=b→(saidM (fdA f) b).1.n=v.n→(saidM (fdA f) b).1.t=v.t→(saidM (fdA f) b).1.b=v.b→v.who=zeroS→k=0∧∃ v r,GoodF f v∧x=encF f v++r∧(((readR (fdA f) (ls++[x]) k).l,(readR (fdA f) (ls++[x]) k).k),V4.mk (readR (fdA f) (ls++[x]) k).v.n (readR (fdA f) (ls++[x]) k).v.t (readR (fdA f) (ls++[x]) k).v.b zeroS)=((ls++[r],0),v):=fun v hg hb hn ht hbb hw=>by
   refine ⟨h1,v,r,hg,by rw [h2,encF_tag ho hg h0,hb],?_⟩
   rw [h5]
   dsimp only
   rw [hn,ht,hbb,← hw]
  obtain ⟨c,least,most⟩:=f
  unfold OkF at ho
  dsimp only at ho h0
  rcases ho with ho|⟨ho,ho1,ho2⟩|⟨ho,ho1,ho2⟩|⟨ho,ho1⟩|ho
  ·exact absurd ho h0
  ·rcases ho with rfl|rfl
   ·obtain ⟨c1,c2,c3,c4,c5⟩:=range_canon (b:=b) (x:=least) (y:=most) h4
    exact key ⟨(rangeM b least most).1,[],[],zeroS⟩ (.inr (.inl ⟨.inl rfl,rfl,by simp_all,by simp_all⟩)) c1 rfl rfl rfl rfl
   ·obtain ⟨c1,c2,c3,c4,c5⟩:=range_canon (b:=b) (x:=least) (y:=most) h4
    exact key ⟨(rangeM b least most).1,[],[],zeroS⟩ (.inr (.inl ⟨.inr rfl,rfl,by simp_all,by simp_all⟩)) c1 rfl rfl rfl rfl
  ·subst ho
   have h4':(octM least most b).2=0:=h4
   have hm:(saidM ⟨6,0,least,most⟩ b).1=vB (octM least most b).1:=rfl
   unfold octM at h4' hm
   by_cases e1:(b.length:Int)<least
   ·simp_all
   ·by_cases e2:most<(b.length:Int)
    ·simp_all
    ·rw [if_neg e1,if_neg e2] at hm
     refine key ⟨0,[],b,zeroS⟩ (.inr (.inr (.inl ⟨rfl,rfl,by simp_all,by simp_all⟩))) rfl ?_ ?_ ?_ rfl <;> (show _=_;rw [show (fdA ⟨6,least,most⟩)=⟨6,0,least,most⟩ from rfl,hm];rfl)
  ·subst ho
   subst ho1
   have h4':askedM b 24=0:=h4
   have hm:(saidM ⟨7,0,least,24⟩ b).1=vT b:=by show vT (if askedM b 24=0 then b else [])=_;rw [if_pos h4']
   refine key ⟨0,b,[],zeroS⟩ (.inr (.inr (.inr (.inl ⟨rfl,rfl,h4'⟩)))) ?_ ?_ ?_ ?_ rfl
   ·show (if askedM b 24=0 then b else [])=b;rw [if_pos h4']
   all_goals (rw [show (fdA ⟨7,least,24⟩)=⟨7,0,least,24⟩ from rfl,hm];rfl)
  ·subst ho
   have h4':getE b=0:=h4
   obtain ⟨c1,c2⟩:=moment_canon h4'
   refine key ⟨getV b,[],[],zeroS⟩ (.inr (.inr (.inr (.inr ⟨rfl,rfl,c2⟩)))) ?_ rfl rfl rfl rfl
   show (if inT (getV b) then bodyL (ofM (getV b)) else [])=b
   rw [if_pos c2,c1]
theorem field_len (f:Fd) (ho:OkF f) {l:List (List UInt8)} {k:Nat} (hl:0<l.length):(0<(readF f l k).1.1.length∧(readF f l k).1.1.length≤l.length+17)∧((readF f l k).1.2=0→k=0):=by
 obtain ⟨ls,x,rfl⟩:∃ ls x,l=ls++[x]:=⟨l.dropLast,l.getLast (List.length_pos_iff.1 hl),(List.dropLast_concat_getLast _).symm⟩
 grind [field_back,readF,getS_len,read_mu]
def readFs:List Fd→StepR (List V4)
 | [],l,k=>((l,k),[])
 | f::fs,l,k=>((readFs fs (readF f l k).1.1 (readF f l k).1.2).1,(readF f l k).2::(readFs fs (readF f l k).1.1 (readF f l k).1.2).2)
def encFs:List Fd→List V4→List UInt8
 | f::fs,v::vs=>encF f v++encFs fs vs
 | _,_=>[]
def GoodFs:List Fd→List V4→Prop
 | [],[]=>True
 | f::fs,v::vs=>GoodF f v∧GoodFs fs vs
 | _,_=>False
def putFds:List Fd→List V4→W8→W8
 | f::fs,v::vs,w=>putFds fs vs (putFd f v w)
 | _,_,w=>w
def rputFds:List Fd→List V4→R8→R8
 | f::fs,v::vs,r=>rputFds fs vs (rputFd f v r)
 | _,_,r=>r
theorem fields_fwd:∀ {fs:List Fd} {vs:List V4},(∀ f ∈ fs,OkF f)→GoodFs fs vs→∀ (ls:List (List UInt8)) (r:List UInt8),readFs fs (ls++[encFs fs vs++r]) 0=((ls++[r],0),vs)
 | [],[],_,_,ls,r=>rfl
 | f::fs,v::vs,ho,h,ls,r=>by
  have h1:=field_fwd (ho f List.mem_cons_self) h.1 ls (encFs fs vs++r)
  have h2:=fields_fwd (fun g hg=>ho g (List.mem_cons_of_mem _ hg)) h.2 ls r
  unfold readFs encFs
  rw [List.append_assoc,h1]
  dsimp only
  rw [h2]
 | [],v::vs,_,h,_,_=>h.elim
 | f::fs,[],_,h,_,_=>h.elim
theorem fields_k:∀ (fs:List Fd) {l:List (List UInt8)} {k:Nat},(∀ f ∈ fs,OkF f)→0<l.length→((readFs fs l k).1.2=0→k=0)∧(0<(readFs fs l k).1.1.length∧(readFs fs l k).1.1.length≤l.length+17 * fs.length)
 | [],l,k,_,hl=>⟨fun h=>h,hl,Nat.le_refl _⟩
 | f::fs,l,k,ho,hl=>by
  obtain ⟨h1,h2⟩:=field_len f (ho f List.mem_cons_self) (k:=k) hl
  obtain ⟨h3,h4⟩:=fields_k fs (k:=(readF f l k).1.2) (fun g hg=>ho g (List.mem_cons_of_mem _ hg)) h1.1
  refine ⟨fun h=>h2 (h3 h),h4.1,?_⟩
  have:=h4.2
  rw [List.length_cons]
  show (readFs fs (readF f l k).1.1 (readF f l k).1.2).1.1.length≤_
  omega
theorem fields_back:∀ {fs:List Fd} {ls:List (List UInt8)} {x:List UInt8} {k:Nat},(∀ f ∈ fs,OkF f)→(readFs fs (ls++[x]) k).1.2=0→k=0∧∃ vs r,GoodFs fs vs∧x=encFs fs vs++r∧readFs fs (ls++[x]) k=((ls++[r],0),vs)
 | [],ls,x,k,_,h=>⟨h,[],x,trivial,rfl,by have h:k=0:=h;subst h;rfl⟩
 | f::fs,ls,x,k,ho,h=>by
  have hl:=field_len f (ho f List.mem_cons_self) (l:=ls++[x]) (k:=k) (by simp)
  have h':(readFs fs (readF f (ls++[x]) k).1.1 (readF f (ls++[x]) k).1.2).1.2=0:=h
  have h1:=(fields_k fs (fun g hg=>ho g (List.mem_cons_of_mem _ hg)) hl.1.1).1 h'
  obtain ⟨hk,v,r,g1,g2,g3⟩:=field_back (ho f List.mem_cons_self) h1
  rw [g3] at h'
  obtain ⟨_,vs,r2,g4,g5,g6⟩:=fields_back (fun g hg=>ho g (List.mem_cons_of_mem _ hg)) h'
  refine ⟨hk,v::vs,r2,⟨g1,g4⟩,?_,?_⟩
  ·rw [g2,g5]
   show _=(encF f v++encFs fs vs)++r2
   rw [List.append_assoc]
  ·unfold readFs
   rw [g3]
   dsimp only
   rw [g6]
theorem putFd_ok {f:Fd} {v:V4} (ho:OkF f) (h:GoodF f v) {w:W8} (hk:w.k=0) (hf:w.fr.length<15):putFd f v w=addW (encF f v) w:=by
 grind [putFd,encF_sub,putS_ok,good_sub,fd_body,tagV,fdV,encF_tag,doW_put,put_ok]
theorem inv_putFd {f:Fd} {v:V4} (ho:OkF f) (h:GoodF f v) {i:Nat} {r:R8} {w:W8} (hI:Inv8 i r w):Inv8 (i+14) (rputFd f v r) (putFd f v w):=by
 unfold rputFd putFd
 by_cases h0:f.call=0
 ·grind [inv_putS]
 ·obtain ⟨b1,b2,b3,b4,b5,b6,b7,b8,b9,b10⟩:=fd_body ho h h0
  grind [inv_doU]
end
section
def hexL:List UInt8:=[48,49,50,51,52,53,54,55,56,57,97,98,99,100,101,102]
def hexOk (l:List UInt8):Bool:=decide (l.length=32) && l.all fun c=>decide (0≤Lib.indexByte hexL c)
theorem hex_bad {l:List UInt8} {i:Nat} (hi:i<l.length) (h:Lib.indexByte hexL (l.getD i 0)<0):hexOk l=false:=by
 grind [hexOk]
theorem hexB_bd (c:UInt8):Lib.indexByte hexL c<16:=by
 unfold Lib.indexByte hexL
 simp only [Lib.indexByte]
 repeat (first|omega|split)
def shl4 (c:UInt8):Int:=IntKind.u8.wrap (((c.toNat:Nat):Int) * 2 ^ (4:Int).toNat)
def orB (a b:Int):Int:=IntKind.u8.wrap (BitVec.ofInt (IntKind.bits .u8) a ||| BitVec.ofInt (IntKind.bits .u8) b).toNat
def mixB (c:UInt8) (n:Int):UInt8:=UInt8.ofNat (orB (shl4 c) n).toNat
theorem mixB_int (c:UInt8) (n:Int):orB (shl4 c) n=((mixB c n).toNat:Nat):=by
 grind [orB,IntKind.wrap_u8,mixB,UInt8.toNat_ofNat']
theorem zero_cell (j:Nat):(Value.int .u8 0).cells[j % (Value.int .u8 0).cells.size]! = .int .u8 0:=by
 have:j % (Value.int .u8 0).cells.size=0:=Nat.mod_one j
 rw [this];rfl
theorem zero16 (j:Nat):CEnt (.c (.int .u8 0)) (byF (List.replicate 16 0) j):=CEnt.of_eq (by
 have:(List.replicate 16 (0:UInt8)).getD j 0=0:=by rw [List.getD_eq_getElem?_getD,List.getElem?_replicate];split <;> rfl
 unfold byF
 rw [this];rfl)
theorem upd_byte {X:List UInt8} {o:Nat} {c:UInt8} {z:Int} (hz:z=(c.toNat:Nat)) (ho:o<X.length) (j:Nat):CEnt (updF (byF X) o (List.map CV.c (Value.int .u8 z).cells.toList) j) (byF (X.set o c) j):=by
 rw [updF_get,show (List.map CV.c (Value.int .u8 z).cells.toList).length=1 from rfl]
 by_cases e:j=o
 ·subst e
  rw [if_pos (by omega),Nat.sub_self]
  have:(X.set j c).getD j 0=c:=by simp [List.getD,ho]
  unfold byF
  rw [this,← hz]
  exact cZ
 ·rw [if_neg (by omega)]
  refine CEnt.of_eq ?_
  grind [byF]
def hx (n:Nat):UInt8:=if n<10 then UInt8.ofNat (48+n) else UInt8.ofNat (87+n)
def hv (c:UInt8):Nat:=(Lib.indexByte hexL c).toNat
def isHx (c:UInt8):Bool:=decide (0≤Lib.indexByte hexL c)
theorem hx_all:∀ n:Fin 16,(isHx (hx n.val)=true∧hv (hx n.val)=n.val):=by decide +kernel
theorem hx_hv {n:Nat} (h:n<16):isHx (hx n)=true∧hv (hx n)=n:=hx_all ⟨n,h⟩
theorem hv_all:∀ n:Fin 256,isHx (UInt8.ofNat n.val)=true→hv (UInt8.ofNat n.val)<16∧hx (hv (UInt8.ofNat n.val))=UInt8.ofNat n.val:=by decide +kernel
theorem hv_hx {c:UInt8} (h:isHx c=true):hv c<16∧hx (hv c)=c:=by
 have h2:=hv_all ⟨c.toNat,c.toNat_lt⟩
 simp_all
def hx2 (c:UInt8):List UInt8:=[hx (c.toNat / 16),hx (c.toNat % 16)]
def flatX (b:List UInt8):List UInt8:=(b.map hx2).flatten
def hexE (b:List UInt8):List UInt8:=if b=[] then [46] else flatX b
theorem flatX_len (b:List UInt8):(flatX b).length=2 * b.length:=by
 induction b with
 | nil=>rfl
 | cons c b ih=>grind [hx2,flatX]
theorem flatX_snoc (b:List UInt8) (c:UInt8):flatX (b++[c])=flatX b++[hx (c.toNat / 16),hx (c.toNat % 16)]:=by
 simp [flatX,hx2]
def bx (a b:UInt8):UInt8:=UInt8.ofNat (16 * hv a+hv b)
def hexB:List UInt8→List UInt8
 | a::b::r=>bx a b::hexB r
 | _=>[]
theorem hexB_len:∀ s:List UInt8,(hexB s).length=s.length / 2
 | []=>rfl
 | [_]=>by simp [hexB]
 | a::b::r=>by
  show (hexB r).length+1=_
  rw [hexB_len r]
  simp only [List.length_cons]
  omega
theorem hexB_get:∀ (s:List UInt8) (j:Nat),j<s.length / 2→(hexB s).getD j 0=bx (s.getD (2 * j) 0) (s.getD (2 * j+1) 0)
 | [],j,h=>absurd h (Nat.not_lt_zero j)
 | [_],j,h=>by simp at h
 | a::b::r,0,h=>rfl
 | a::b::r,j+1,h=>by
  show (hexB r).getD j 0=_
  rw [hexB_get r j (by simp only [List.length_cons] at h;omega)]
  have e1:2 * (j+1)=2 * j+1+1:=by omega
  rw [e1]
  rfl
theorem hexB_flat:∀ b:List UInt8,hexB (flatX b)=b
 | []=>rfl
 | c::b=>by
  show bx (hx (c.toNat / 16)) (hx (c.toNat % 16))::hexB (flatX b)=_
  have:=c.toNat_lt
  rw [hexB_flat b]
  unfold bx
  rw [(hx_hv (show c.toNat / 16<16 by omega)).2,(hx_hv (show c.toNat % 16<16 by omega)).2,show 16 * (c.toNat / 16)+c.toNat % 16=c.toNat by omega,UInt8.ofNat_toNat]
theorem flat_hexB:∀ s:List UInt8,s.length % 2=0→s.all isHx=true→flatX (hexB s)=s
 | [],_,_=>rfl
 | [_],h,_=>by simp at h
 | a::b::r,h,h2=>by
  simp only [List.all_cons,Bool.and_eq_true] at h2
  obtain ⟨ha,hb,hr⟩:=h2
  obtain ⟨a1,a2⟩:=hv_hx ha
  obtain ⟨b1,b2⟩:=hv_hx hb
  show hx2 (bx a b)++flatX (hexB r)=_
  rw [flat_hexB r (by simp only [List.length_cons] at h;omega) hr]
  unfold hx2 bx
  rw [UInt8.toNat_ofNat',show (16 * hv a+hv b) % 2 ^ 8 / 16=hv a by omega,show (16 * hv a+hv b) % 2 ^ 8 % 16=hv b by omega,a2,b2]
  rfl
theorem set_at {X:List UInt8} {k:Nat} {v:UInt8} (j:Nat) (hk:k<X.length):(X.set k v).getD j 0=if j=k then v else X.getD j 0:=by
 grind
theorem rep_at (n j:Nat):(List.replicate n (0:UInt8)).getD j 0=0:=by
 grind
theorem mix_all:∀ a n:Fin 16,mixB (UInt8.ofNat a.val) (n.val:Int)=UInt8.ofNat (16 * a.val+n.val):=by decide +kernel
theorem mix_at {a n:Nat} (ha:a<16) (hn:n<16):mixB (UInt8.ofNat a) (n:Int)=UInt8.ofNat (16 * a+n):=mix_all ⟨a,ha⟩ ⟨n,hn⟩
theorem hv_int {c:UInt8} (h:0≤Lib.indexByte hexL c):Lib.indexByte hexL c=((hv c:Nat):Int)∧hv c<16:=by
 have:=hexB_bd c
 unfold hv
 omega
def HexS (l X:List UInt8) (i:Nat):Prop :=
 X.length=l.length / 2∧(∀ j,j<i / 2→X.getD j 0=bx (l.getD (2 * j) 0) (l.getD (2 * j+1) 0))∧(i % 2=1→X.getD (i / 2) 0=UInt8.ofNat (hv (l.getD (i-1) 0)))∧∀ j,(i+1) / 2≤j→X.getD j 0=0
theorem HexS.start (l:List UInt8):HexS l (List.replicate (l.length / 2) 0) 0 :=
 ⟨List.length_replicate,fun j hj=>absurd hj (Nat.not_lt_zero j),fun h=>by omega,fun j _=>rep_at _ j⟩
theorem HexS.step {l X:List UInt8} {i:Nat} (h:HexS l X i) (hi:i<l.length) (he:l.length % 2=0) (hx:∀ j,j≤i→0≤Lib.indexByte hexL (l.getD j 0)):HexS l (X.set (i / 2) (mixB (X.getD (i / 2) 0) (Lib.indexByte hexL (l.getD i 0)))) (i+1):=by
 obtain ⟨h1,h2,h3,h4⟩:=h
 obtain ⟨n1,n2⟩:=hv_int (hx i (Nat.le_refl _))
 have hk:i / 2<X.length:=by omega
 rw [n1]
 refine ⟨by grind,fun j hj=>?_,fun ho=>?_,fun j hj=>?_⟩
 ·rw [set_at j hk]
  by_cases e:j=i / 2
  ·rw [if_pos e]
   have ho:i % 2=1:=by omega
   obtain ⟨m1,m2⟩:=hv_int (hx (i-1) (by omega))
   rw [h3 ho,mix_at m2 n2,show 2 * j=i-1 by omega,show i-1+1=i by omega]
   rfl
  grind
 ·rw [set_at _ hk,if_pos (by omega),h4 (i / 2) (by omega)]
  have:=mix_at (a:=0) (by omega) n2
  simp_all
 grind [set_at]
theorem HexS.done {l X:List UInt8} {i:Nat} (h:HexS l X i) (hi:i=l.length) (he:l.length % 2=0):X=hexB l:=by
 obtain ⟨h1,h2,h3,h4⟩:=h
 have hl:=hexB_len l
 refine List.ext_getElem (by omega) fun j a b=>?_
 have e1:=h2 j (by omega)
 have e2:=hexB_get l j (by omega)
 grind
theorem dig_all:∀ c:Fin 256,Lib.indexByte hexL (UInt8.ofNat c.val)=if 48≤c.val∧c.val≤57 then (c.val:Int)-48 else if 97≤c.val∧c.val≤102 then (c.val:Int)-97+10 else -1:=by decide +kernel
theorem dig_at (c:UInt8):Lib.indexByte hexL c=if 48≤c.toNat∧c.toNat≤57 then (c.toNat:Int)-48 else if 97≤c.toNat∧c.toNat≤102 then (c.toNat:Int)-97+10 else -1:=by
 have h:=dig_all ⟨c.toNat,c.toNat_lt⟩
 simp_all
def fg2 (c:UInt8) (q:Nat):List UInt8:=[hx (c.toNat / 16),hx (c.toNat % 16)].take q
def hb2 (c:UInt8) (q:Nat):Nat:=([UInt8.ofNat (c.toNat / 16),UInt8.ofNat (c.toNat % 16)].getD q 0).toNat
theorem hb2_lt (c:UInt8) (q:Nat):hb2 c q<16:=by
 have:=c.toNat_lt
 unfold hb2
 rcases q with _|_|q
 ·show (UInt8.ofNat _).toNat<16;rw [UInt8.toNat_ofNat'];omega
 ·show (UInt8.ofNat _).toNat<16;rw [UInt8.toNat_ofNat'];omega
 ·show (0:UInt8).toNat<16;decide
theorem fg2_next (c:UInt8) {q:Nat} (h:q<2):fg2 c q++[hx (hb2 c q)]=fg2 c (q+1):=by
 have:=c.toNat_lt
 unfold fg2 hb2
 rcases q with _|_|q
 ·show [hx (UInt8.ofNat _).toNat]=[_];rw [UInt8.toNat_ofNat',Nat.mod_eq_of_lt (by omega)]
 ·show [_,hx (UInt8.ofNat _).toNat]=[_,_];rw [UInt8.toNat_ofNat',Nat.mod_eq_of_lt (by omega)]
 ·omega
theorem hx_lo {n:Nat} (h:n<10):(48+(n:Int))=((hx n).toNat:Int):=by unfold hx;rw [if_pos h,UInt8.toNat_ofNat'];omega
theorem hx_hi {n:Nat} (h:10≤n) (h2:n<16):(97+(n:Int)-10)=((hx n).toNat:Int):=by unfold hx;rw [if_neg (by omega),UInt8.toNat_ofNat'];omega
end
section
open Go.RowKit Cal
structure C11 where
 se:Int
 iss:List UInt8
 ge:Int
 who:S3
 nb:Int
 na:Int
 ky:List UInt8
 us:Int
 al:List (List UInt8)
def okA (l:List (List UInt8)) (j:Nat):Bool:=labM (l.getD j []) && (decide (j=0) || Op.bytesLess (l.getD (j-1) []) (l.getD j []))
def risesTo (l:List (List UInt8)):Nat→Bool
 | 0=>true
 | i+1=>risesTo l i && okA l i
def altsM (l:List (List UInt8)):Bool:=decide (l.length≤8) && risesTo l l.length
def inB (x n y:Int):Bool:=decide (x≤n) && decide (n≤y)
def rightC (c:C11):Bool:=altsM c.al && (inB 0 c.nb 253402300799 && inB c.nb c.na 253402300799) && inB 1 c.se 1099511627776 && inB 1 c.ge 1048576 && inB 1 c.us 15 && hexOk c.iss && hexOk c.ky && rightS c.who
def vN4 (n:Int):V4:=⟨n,[],[],zeroS⟩
def vB4 (b:List UInt8):V4:=⟨0,[],b,zeroS⟩
def vS4 (s:S3):V4:=⟨0,[],[],s⟩
def fSe:Fd:=⟨3,1,1099511627776⟩
def fId:Fd:=⟨6,16,16⟩
def fGe:Fd:=⟨3,1,1048576⟩
def fWho:Fd:=⟨0,0,0⟩
def fMo:Fd:=⟨9,0,0⟩
def vFl (n:Int):VV:=⟨10,n,false,[],[]⟩
def vTx (t:List UInt8):VV:=⟨7,64,false,[],t⟩
def aFl:AA:=⟨10,0,0,0⟩
def aTx:AA:=⟨7,0,0,64⟩
theorem ok_Se:OkF fSe:=by unfold OkF fSe;decide
theorem ok_Id:OkF fId:=by unfold OkF fId;decide
theorem ok_Ge:OkF fGe:=by unfold OkF fGe;decide
theorem ok_Mo:OkF fMo:=by unfold OkF fMo;decide
structure Good11 (c:C11):Prop where
 se:GoodF fSe (vN4 c.se)
 iss:GoodF fId (vB4 (hexB c.iss))
 ge:GoodF fGe (vN4 c.ge)
 who:GoodF fWho (vS4 c.who)
 nb:GoodF fMo (vN4 c.nb)
 na:GoodF fMo (vN4 c.na)
 ky:GoodF fId (vB4 (hexB c.ky))
 us:1≤c.us∧c.us≤15
 n8:c.al.length≤8
 al:∀ t ∈ c.al,askedM t 64=0
 hi:c.iss.length=32∧c.iss.all isHx=true
 hk:c.ky.length=32∧c.ky.all isHx=true
theorem hexOk_two {l:List UInt8} (h:hexOk l=true):l.length=32∧l.all isHx=true:=by
 unfold hexOk at h
 rw [Bool.and_eq_true,decide_eq_true_eq] at h
 exact h
def encT (t:List UInt8):List UInt8:=putL 12 t
def bE (c:C11):List UInt8:=encF fId (vB4 (hexB c.ky))
def bF (c:C11):List UInt8:=putL 3 (flagsL c.us.toNat)
def bM (c:C11):List UInt8:=encF fMo (vN4 c.nb)++encF fMo (vN4 c.na)
def bT (c:C11):List UInt8:=(c.al.map encT).flatten
def r7 (c:C11):List UInt8:=putL 48 (bT c)++[]
def r6 (c:C11):List UInt8:=bF c++r7 c
def r5 (c:C11):List UInt8:=bE c++r6 c
def r4 (c:C11):List UInt8:=putL 48 (bM c)++r5 c
def r3 (c:C11):List UInt8:=encF fWho (vS4 c.who)++r4 c
def r2 (c:C11):List UInt8:=encF fGe (vN4 c.ge)++r3 c
def r1 (c:C11):List UInt8:=encF fId (vB4 (hexB c.iss))++r2 c
def r0 (c:C11):List UInt8:=encF fSe (vN4 c.se)++r1 c
def certB (c:C11):List UInt8:=putL 48 (r0 c)
section
variable {c:C11}
theorem encT_len {t:List UInt8} (h:askedM t 64=0):(encT t).length≤80∧0<(encT t).length:=by
 have h1:=asked_len h
 have h2:=putL_len 12 t
 have h3:=elB_pos (12,t)
 refine ⟨?_,h3⟩
 unfold encT
 omega
end
def tW (ws:W8) (l:List (List UInt8)):Nat→W8
 | 0=>openW 48 ws
 | i+1=>doW (vTx (l.getD i [])) (tW ws l i)
def mW (ws:W8) (l:List Int):Nat→W8
 | 0=>openW 48 ws
 | i+1=>putFd fMo (vN4 (l.getD i 0)) (mW ws l i)
def cW1 (c:C11):W8:=putFd fSe (vN4 c.se) (openW 48 w00)
def cW2 (c:C11):W8:=putFd fId (vB4 (hexB c.iss)) (cW1 c)
def cW3 (c:C11):W8:=putFd fGe (vN4 c.ge) (cW2 c)
def cW4 (c:C11):W8:=putFd fWho (vS4 c.who) (cW3 c)
def cW5 (c:C11):W8:=closeV (mW (cW4 c) [c.nb,c.na] 2)
def cW6 (c:C11):W8:=putFd fId (vB4 (hexB c.ky)) (cW5 c)
def cW7 (c:C11):W8:=doW (vFl c.us) (cW6 c)
def cW8 (c:C11):W8:=closeV (tW (cW7 c) c.al c.al.length)
def cW9 (c:C11):W8:=closeV (cW8 c)
section
variable {c:C11}
theorem put_mid {f:Fd} {v:V4} (ho:OkF f) (h:GoodF f v) {t:Int} {ls:List (List UInt8)} {fr:List (Int×List (List UInt8))} {d:List UInt8} (hl:fr.length<14):putFd f v ⟨(t,ls)::fr,d,0⟩=⟨(t,ls++[encF f v])::fr,d,0⟩:=by
 grind [putFd_ok,addW_in]
theorem open_mid {t:Int} {ls:List (List UInt8)} {fr:List (Int×List (List UInt8))} {d:List UInt8} (hl:fr.length<14):openW 48 ⟨(t,ls)::fr,d,0⟩=⟨(48,[])::(t,ls)::fr,d,0⟩:=by
 unfold openW
 rw [if_neg (by simp),if_neg (by decide),if_neg (by grind)]
theorem tx_mid {x:List UInt8} (h:askedM x 64=0) {t:Int} {ls:List (List UInt8)} {fr:List (Int×List (List UInt8))} {d:List UInt8}:doW (vTx x) ⟨(t,ls)::fr,d,0⟩=⟨(t,ls++[encT x])::fr,d,0⟩:=by
 rw [doW_put (v:=vTx x) (by show (3:Int)≤7∧(7:Int)≤10;decide)]
 have e:bodyV (vTx x)=(12,x,0):=by
  show ((12:Int),(if askedM x 64=0 then x else []),askedM x 64)=_
  rw [h,if_pos rfl]
 have hl:=asked_len h
 rw [e,put_ok rfl (show knownM 12=true by decide) (by dsimp only;omega),addW_in]
 rfl
end
end
section
open Go.RowKit Cal
abbrev N4:=Int×List UInt8×Int×Int
abbrev B3:=Int×List UInt8×List N4
def a00:N4:=(0,[],0,0)
def b00:B3:=(0,[],[])
def rightN (a:N4):Bool:=hexOk a.2.1 && inB 1 a.1 1048576 && (inB 0 a.2.2.1 253402300799 && inB a.2.2.1 a.2.2.2 253402300799)
def behA (l:List N4) (i:Nat):Bool:=(List.range i).all fun k=>decide ((l.getD k a00).1<(l.getD i a00).1) && decide ((l.getD k a00).2.1≠(l.getD i a00).2.1)
def okN (l:List N4) (i:Nat):Bool:=rightN (l.getD i a00) && behA l i
def goesTo (l:List N4):Nat→Bool
 | 0=>true
 | i+1=>goesTo l i && okN l i
def rightB (b:B3):Bool:=inB 1 b.1 1099511627776 && labM b.2.1 && decide (1≤b.2.2.length) && decide (b.2.2.length≤8) && goesTo b.2.2 b.2.2.length
theorem beh_iff {l:List N4} {i:Nat}:behA l i=true↔∀ k,k<i→(l.getD k a00).1<(l.getD i a00).1∧(l.getD k a00).2.1≠(l.getD i a00).2.1:=by
 grind [behA]
theorem goes_all {l:List N4}:∀ {i:Nat},goesTo l i=true→∀ j,j<i→okN l j=true
 | 0,_,j,hj=>absurd hj (Nat.not_lt_zero j)
 | i+1,h,j,hj=>by
  unfold goesTo at h
  rw [Bool.and_eq_true] at h
  by_cases e:j=i
  ·rw [e];exact h.2
  ·exact goes_all h.1 j (by omega)
theorem goes_no {l:List N4} {j:Nat} (hj:okN l j=false):∀ {i:Nat},j<i→goesTo l i=false
 | 0,h=>absurd h (Nat.not_lt_zero j)
 | i+1,h=>by
  unfold goesTo
  by_cases e:j=i
  ·rw [← e,hj,Bool.and_false]
  ·rw [goes_no hj (show j<i by omega),Bool.false_and]
theorem beh_prev {l:List N4} {i:Nat} (h:goesTo l i=true) (hk:∀ k,k<i→(l.getD k a00).2.1≠(l.getD i a00).2.1) (hp:i=0∨(l.getD (i-1) a00).1<(l.getD i a00).1):behA l i=true:=by
 rw [beh_iff]
 intro k hki
 refine ⟨?_,hk k hki⟩
 rcases hp with hp|hp
 ·omega
 ·by_cases e:k=i-1
  ·rw [e];exact hp
  ·have ho:=goes_all h (i-1) (by omega)
   grind [okN,beh_iff]

def posA (g:Int) (o:List N4):Nat→Nat
 | 0=>0
 | k+1=>if g<(o.getD k a00).1 then posA g o k else k+1
def insA (o:List N4) (a:N4):List N4:=o.take (posA a.1 o o.length)++a::o.drop (posA a.1 o o.length)
def sortA (l:List N4):List N4:=l.foldl insA []
theorem pos_le (g:Int) (o:List N4):∀ k,posA g o k≤k
 | 0=>Nat.le_refl _
 | k+1=>by
  unfold posA
  split
  ·exact Nat.le_succ_of_le (pos_le g o k)
  ·exact Nat.le_refl _
theorem pos_hi (g:Int) (o:List N4):∀ k j,posA g o k≤j→j<k→g<(o.getD j a00).1
 | 0,j,_,h=>absurd h (Nat.not_lt_zero j)
 | k+1,j,h1,h2=>by
  unfold posA at h1
  split at h1
  ·rename_i hg
   by_cases e:j=k
   ·rw [e];exact hg
   ·exact pos_hi g o k j h1 (by omega)
  ·omega
theorem pos_lo (g:Int) (o:List N4):∀ k,0<posA g o k→(o.getD (posA g o k-1) a00).1≤g
 | 0,h=>absurd h (Nat.lt_irrefl 0)
 | k+1,h=>by
  unfold posA at h ⊢
  split
  ·rename_i hg
   rw [if_pos hg] at h
   exact pos_lo g o k h
  simp_all
theorem pos_at {g:Int} {o:List N4}:∀ {k j:Nat},j≤k→(∀ i,j≤i→i<k→g<(o.getD i a00).1)→(j=0∨(o.getD (j-1) a00).1≤g)→posA g o k=j
 | 0,j,hj,_,_=>by unfold posA;omega
 | k+1,j,hj,h1,h2=>by
  unfold posA
  by_cases e:j=k+1
  ·subst e
   rw [Nat.add_sub_cancel] at h2
   rw [if_neg (by omega)]
  ·rw [if_pos (h1 k (by omega) (by omega)),pos_at (by omega) (fun i a b=>h1 i a (by omega)) h2]
theorem insA_perm (o:List N4) (a:N4):(insA o a).Perm (o++[a]):=by
 grind [insA,List.take_append_drop]
def ByGen (l:List N4):Prop:=l.Pairwise fun a b=>a.1≤b.1
theorem bygen_get {l:List N4} (h:ByGen l) {i j:Nat} (hij:i<j) (hj:j<l.length):(l.getD i a00).1≤(l.getD j a00).1:=by
 have:=List.pairwise_iff_getElem.1 h i j (by omega) hj hij
 grind
theorem insA_sorted {o:List N4} (h:ByGen o) (a:N4):ByGen (insA o a):=by
 have hp:=pos_le a.1 o o.length
 have hh:=pos_hi a.1 o o.length
 have hl:=pos_lo a.1 o o.length
 have ht:∀ x ∈ o.take (posA a.1 o o.length),x.1≤a.1:=fun x hx=>by
  obtain ⟨j,hj,rfl⟩:=List.getElem_of_mem hx
  rw [List.length_take] at hj
  rw [List.getElem_take]
  have h0:=hl (by omega)
  by_cases e:j=posA a.1 o o.length-1
  ·grind
  ·have:=bygen_get h (i:=j) (j:=posA a.1 o o.length-1) (by omega) (by omega)
   grind
 have hd:∀ x ∈ o.drop (posA a.1 o o.length),a.1≤x.1:=fun x hx=>by
  obtain ⟨j,hj,rfl⟩:=List.getElem_of_mem hx
  rw [List.length_drop] at hj
  rw [List.getElem_drop]
  have:=hh (posA a.1 o o.length+j) (by omega) (by omega)
  grind
 grind [ByGen,insA,List.pairwise_cons]
theorem sortA_snoc (l:List N4) (a:N4):sortA (l++[a])=insA (sortA l) a:=by unfold sortA;simp_all
theorem foldA (l:List N4):∀ o,ByGen o→ByGen (l.foldl insA o)∧(l.foldl insA o).Perm (o++l):=by
 induction l with
 | nil=>simp_all
 | cons a l ih =>
  intro o h
  obtain ⟨h1,h2⟩:=ih (insA o a) (insA_sorted h a)
  grind [insA_perm]
theorem sortA_perm (l:List N4):(sortA l).Perm l:=(foldA l [] List.Pairwise.nil).2
theorem sortA_len (l:List N4):(sortA l).length=l.length:=(sortA_perm l).length_eq
def Rises (l:List N4):Prop:=l.Pairwise fun a b=>a.1<b.1
theorem goes_rises {l:List N4} (h:goesTo l l.length=true):Rises l:=by
 refine List.pairwise_iff_getElem.2 fun i j hi hj hij=>?_
 have ho:=goes_all h j hj
 grind [okN,beh_iff]
end
section
open Go.RowKit Cal
def rtW (ws:R8) (l:List (List UInt8)):Nat→R8
 | 0=>rdoS (w1 48) ws
 | i+1=>rdoS (vTx (l.getD i [])) (rtW ws l i)
def rmW (ws:R8) (l:List Int):Nat→R8
 | 0=>rdoS (w1 48) ws
 | i+1=>rputFd fMo (vN4 (l.getD i 0)) (rmW ws l i)
def rW0:R8:=rdoS (w1 48) r00
def rW1 (c:C11):R8:=rputFd fSe (vN4 c.se) rW0
def rW2 (c:C11):R8:=rputFd fId (vB4 (hexB c.iss)) (rW1 c)
def rW3 (c:C11):R8:=rputFd fGe (vN4 c.ge) (rW2 c)
def rW4 (c:C11):R8:=rputFd fWho (vS4 c.who) (rW3 c)
def rW5 (c:C11):R8:=rdoS w2 (rmW (rW4 c) [c.nb,c.na] 2)
def rW6 (c:C11):R8:=rputFd fId (vB4 (hexB c.ky)) (rW5 c)
def rW7 (c:C11):R8:=rdoS (vFl c.us) (rW6 c)
def rW8 (c:C11):R8:=rdoS w2 (rtW (rW7 c) c.al c.al.length)
def rW9 (c:C11):R8:=rdoS w2 (rW8 c)
section
variable {c:C11}
theorem small_tx {x:List UInt8} (h:askedM x 64=0):SmallV (vTx x):=⟨by simp [vTx],by simp [vTx],by have:=asked_len h;show x.length≤300;omega⟩
theorem inv_0:Inv8 1 rW0 (openW 48 w00):=by
 have:=inv_do inv_00 (small_w1 (t:=48) (by decide))
 rw [do_w1] at this
 exact this
def cX (c:C11):List (Int×List UInt8):=[fdX fSe (vN4 c.se),fdX fId (vB4 (hexB c.iss)),fdX fGe (vN4 c.ge),fdX fWho (vS4 c.who),(48,bM c),fdX fId (vB4 (hexB c.ky)),(3,flagsL c.us.toNat),(48,bT c)]
def s0 (c:C11):List (List UInt8):=[[]]++[r0 c]
def s1 (c:C11):List (List UInt8):=[[]]++[r1 c]
def s2 (c:C11):List (List UInt8):=[[]]++[r2 c]
def s3 (c:C11):List (List UInt8):=[[]]++[r3 c]
def s4 (c:C11):List (List UInt8):=[[]]++[r4 c]
def m0 (c:C11):List (List UInt8):=[[]]++[r5 c]++[bM c]
def m1 (c:C11):List (List UInt8):=[[]]++[r5 c]++[encF fMo (vN4 c.na)++[]]
def m2 (c:C11):List (List UInt8):=[[]]++[r5 c]++[[]]
def s5 (c:C11):List (List UInt8):=[[]]++[r5 c]
def s6 (c:C11):List (List UInt8):=[[]]++[r6 c]
def s7 (c:C11):List (List UInt8):=[[]]++[r7 c]
def s8:List (List UInt8):=[[]]++[[]]
def s9:List (List UInt8):=[[]]
def txSp:StepR (List UInt8):=fun l k=>(((readR aTx l k).l,(readR aTx l k).k),(readR aTx l k).v.t)
end
end
section
theorem hexOk_all {l:List UInt8} (hl:l.length=32) (h:∀ j,j<l.length→0≤Lib.indexByte hexL (l.getD j 0)):hexOk l=true:=by
 simp only [hexOk,Bool.and_eq_true,List.all_eq_true,decide_eq_true_eq]
 refine ⟨hl,fun c hc=>?_⟩
 obtain ⟨j,hj,rfl⟩:=List.getElem_of_mem hc
 have:=h j hj
 simpa [List.getD,hj] using this
theorem hexOk_len {l:List UInt8} (h:l.length≠32):hexOk l=false:=by unfold hexOk;rw [decide_eq_false h];rfl
theorem hexOk_is {l:List UInt8} (h:hexOk l=true):l.length=32∧l.all isHx=true:=by
 unfold hexOk at h
 rw [Bool.and_eq_true,decide_eq_true_eq] at h
 exact h
set_option maxHeartbeats 1000000 in
theorem mnum_ac {gs:List Nat} [Ok9 gs] (l:List UInt8):ACp gs Tryz.prog 99 [strC l] (.tup 2 (fl [bsC (if hexOk l=true then hexB l else []),.err (if hexOk l=true then 0 else 4)])):=by
 refine jF5 52400001675116 39 Tryz.func99 fun al w0 F0 St0=>?_;refine jF3 0 6810 (fun h99=>?_) fun h99=>?_
 ·refine jcs ?_;refine jcd (oN 0 3) ?_;refine jU 80003000700088070704000000 ?_
  have hb:hexOk l=false:=hexOk_len (by omega)
  rw [hb]
  exact cT (CEnt.nilS' rfl) (CEnt.errN rfl)
 refine jqe (e_make (F:=byF (List.replicate 16 0)) rfl rfl rfl (show (16:Int)=((16:Nat):Int) from rfl) (show (16:Int)=((16:Nat):Int) from rfl) (by (omega)) Tryz.underlying58 sz5 zr5 by5 (by (omega)) (by (omega)) (fun j hj=>by rw [zero_cell j];exact zero16 j) rfl rfl (fun p1=>?_))
 refine jU 20514000016751 ?_
 have h32:l.length=32:=by omega
 refine jlp (α:=Nat×List UInt8) [2,3,5,6,14,37] (fun (i,X)=>[(14,.c (.int .i64 (i:Nat)))]) (fun (i,X)=>[(p1,.blk 16 (byF X))]) (fun (i,X)=>i≤l.length∧HexS l X i∧∀ j,j<i→0≤Lib.indexByte hexL (l.getD j 0)) (fun (i,X)=>l.length-i) (0,List.replicate 16 0) (h0:=⟨Nat.zero_le _,(by have:=HexS.start l;rw [show l.length / 2=16 by omega] at this;exact this),fun j hj=>absurd hj (Nat.not_lt_zero j)⟩) (hH:=.same .nil) (hr:=?_)
 rintro ⟨i,X⟩ ⟨(hi:i≤l.length),(hS:HexS l X i),he⟩
 have hhx:=hexB_bd (l.getD i 0)
 have hXl:X.length=16:=by rw [hS.1];omega
 refine jU 7526 ?_;refine jF3 800000001165116207810 84000200020006000 (fun h103=>?_) fun h103=>?_
 rotate_left
 ·have hil:i=l.length:=by omega
  have hXe:=hS.done hil (by omega)
  refine jE (freeze 0 rfl) ?_;refine jE (thaw 4 (fun k=>fun _=>byF X k) rfl rfl (by omega) (fun a b ha hb=>CEnt.of_eq (by rw [Nat.zero_add];congr 1;omega))) ?_;refine jU 8000700051116 ?_
  have hall:=hexOk_all h32 (fun j hj=>he j (by omega))
  rw [if_pos hall,if_pos hall]
  exact cT (CEnt.rs (by rw [hexB_len];omega) fun i j hi hj=>CEnt.of_eq (by rw [hXe])) (CEnt.nilE rfl)
 refine jF1 5216751 (idxB_ac hexL (l.getD i 0)) ?_;refine jF3 0 6000001160000011200810 (fun h105=>?_) fun h105=>?_
 ·refine jcs ?_;refine jcd (oN 0 3) ?_;refine jU 8000300050003000300050003000700088070704000000 ?_
  have hb:hexOk l=false:=hex_bad (i:=i) (by omega) (by omega)
  rw [hb]
  exact cT (CEnt.nilS' rfl) (CEnt.errN rfl)
 refine jq (jri (i:=(i / 2)) (hz:=by omega)) ?_;refine jU 50 ?_;refine jq (rd_shl rfl rfl rfl (by (omega)) ((shl4 (X.getD (i / 2) 0))) (rfl)) ?_;refine jU 8000001 ?_;refine jq (rd_or rfl rfl rfl ((orB (shl4 (X.getD (i / 2) 0)) (Lib.indexByte hexL (l.getD i 0)))) (rfl)) ?_;refine jq (jri (i:=(i / 2)) (hz:=by omega)) ?_
 refine jqm (jmstF 1 (byF (X.set (i / 2) (mixB (X.getD (i / 2) 0) (Lib.indexByte hexL (l.getD i 0))))) ?_ ?_)
 ·exact (fun j hj=>upd_byte (mixB_int _ _) (by omega) j)
 refine jU 851920084005 ?_
 refine jlend (i+1,X.set (i / 2) (mixB (X.getD (i / 2) 0) (Lib.indexByte hexL (l.getD i 0)))) (h1:=?_) (h7:=by exact .same .nil)
 ·have hx:∀ j,j≤i→0≤Lib.indexByte hexL (l.getD j 0):=fun j hj=>by
   by_cases e:j=i
   ·subst e;omega
   ·exact he j (by omega)
  exact ⟨by omega,hS.step (by omega) (by omega) hx,fun j hj=>hx j (by omega)⟩
def OutS (l X:List UInt8) (i:Nat):Prop :=
 X.length=(i+1) / 2∧(∀ j,j<i / 2→X.getD j 0=bx (l.getD (2 * j) 0) (l.getD (2 * j+1) 0))∧(i % 2=1→X.getD (i / 2) 0=UInt8.ofNat (16 * hv (l.getD (i-1) 0)))
theorem OutS.push {l X:List UInt8} {i:Nat} (h:OutS l X i) (he:i % 2=0):OutS l (X++[UInt8.ofNat (16 * hv (l.getD i 0))]) (i+1):=by
 obtain ⟨h1,h2,h3⟩:=h
 refine ⟨by rw [List.length_append,h1,List.length_singleton];omega,fun j hj=>?_,fun _=>?_⟩
 ·rw [← h2 j (by omega)]
  simp [List.getD,List.getElem?_append_left (show j<X.length by omega)]
 ·rw [show (i+1) / 2=X.length by omega,show i+1-1=i by omega]
  simp [List.getD]
theorem OutS.put {l X:List UInt8} {i:Nat} (h:OutS l X i) (he:i % 2=1):OutS l (X.set (i / 2) (bx (l.getD (i-1) 0) (l.getD i 0))) (i+1):=by
 obtain ⟨h1,h2,h3⟩:=h
 refine ⟨by rw [List.length_set,h1];omega,fun j hj=>?_,fun h=>by omega⟩
 rw [set_at j (by omega)]
 by_cases e:j=i / 2
 ·rw [if_pos e,show 2 * j=i-1 by omega,show i-1+1=i by omega]
 ·rw [if_neg e];exact h2 j (by omega)
theorem OutS.done {l X:List UInt8} (h:OutS l X l.length) (he:l.length=32):X=hexB l:=by
 obtain ⟨h1,h2,_⟩:=h
 have hl:=hexB_len l
 refine List.ext_getElem (by omega) fun j a b=>?_
 have e1:=h2 j (by omega)
 have e2:=hexB_get l j (by omega)
 rw [← e2] at e1
 simpa [List.getD,a,b] using e1
theorem hv_dig (c:UInt8):(48≤c.toNat∧c.toNat≤57→((hv c:Nat):Int)=(c.toNat:Int)-48∧0≤Lib.indexByte hexL c)∧(97≤c.toNat∧c.toNat≤102→((hv c:Nat):Int)=(c.toNat:Int)-97+10∧0≤Lib.indexByte hexL c)∧(¬ (48≤c.toNat∧c.toNat≤57)→¬ (97≤c.toNat∧c.toNat≤102)→Lib.indexByte hexL c<0):=by
 have hd:=dig_at c
 unfold hv
 refine ⟨fun h=>?_,fun h=>?_,fun h1 h2=>?_⟩
 ·rw [if_pos h] at hd;omega
 ·rw [if_neg (by omega),if_pos h] at hd;omega
 ·rw [if_neg h1,if_neg h2] at hd;omega
theorem hv_lt (c:UInt8):hv c<16:=by have:=hexB_bd c;unfold hv;omega
theorem nat_u8 {n:Nat} (h:n<256):((UInt8.ofNat n).toNat:Nat)=n:=by rw [UInt8.toNat_ofNat'];omega
set_option maxHeartbeats 2000000 in
theorem rnum_ac {gs:List Nat} (l:List UInt8) (hl:l.length≤1000000):ACp gs Tryz.prog 107 [strC l] (.tup 2 (fl [if hexOk l=true then bsC (hexB l) else .top,.c (.bool (hexOk l))])):=by
 refine jF5 65116 59 Tryz.func107 fun al w0 F0 St0=>?_;refine jF6 20516751 0 1 zr5 fun p1=>?_
 refine jlp (α:=Nat×List UInt8×Option Nat) [2,7,9,54] (fun (i,X,g)=>[(5,.c (.int .i64 (i:Nat))),(4,.os 0 g 0 X.length 1)]) (fun (i,X,g)=>[(g,.blk X.length (byF X))]) (fun (i,X,g)=>i≤l.length∧OutS l X i∧∀ j,j<i→0≤Lib.indexByte hexL (l.getD j 0)) (fun (i,X,g)=>l.length-i) (0,[],p1) (h0:=⟨Nat.zero_le _,⟨rfl,fun j hj=>absurd hj (Nat.not_lt_zero j),fun h=>absurd h (by decide)⟩,fun j hj=>absurd hj (Nat.not_lt_zero j)⟩) (hH:=.blk rfl (fun j hj=>absurd hj (Nat.not_lt_zero j)) .nil) (hr:=?_)
 rintro ⟨i,X,g⟩ ⟨(hi:i≤l.length),(hS:OutS l X i),he⟩
 have hd:=hv_dig (l.getD i 0)
 have hv16:=hv_lt (l.getD i 0)
 have hXl:X.length=(i+1) / 2:=hS.1
 have hv17:=hv_lt (l.getD (i-1) 0)
 have hXo:i % 2=1→(X.getD (i / 2) 0).toNat=16 * hv (l.getD (i-1) 0):=fun h=>by rw [hS.2.2 h];exact nat_u8 (by omega)
 refine jU 52400001167 ?_;refine jF3 810 84000200020006000 (fun h69=>?_) fun h69=>?_
 rotate_left
 ·have hil:i=l.length:=by omega
  refine jE (freeze 0 rfl) ?_;refine jE (thaw 4 (fun k=>fun _=>byF X k) rfl rfl (by omega) (fun a b ha hb=>CEnt.of_eq (by rw [Nat.zero_add];congr 1;omega))) ?_;refine jU 80007000511240000116 ?_
  have hall:hexOk l=decide (l.length=32):=by
   by_cases h32:l.length=32
   ·rw [hexOk_all h32 (fun j hj=>he j (by omega)),decide_eq_true h32]
   ·rw [hexOk_len h32,decide_eq_false h32]
  refine cT ?_ (cB (by rw [hall];exact decide_eq_decide.2 (by omega)))
  split
  ·rename_i ho
   have h32:=(hexOk_is ho).1
   subst hil
   have hX:=hS.done h32
   exact CEnt.rs (by rw [hX]) fun i j hi hj=>CEnt.of_eq (by rw [hX])
  ·exact CEnt.top _
 refine jjn (α:=List UInt8×Option Nat) [2,4,6,7,15,54] (fun (Y,g')=>[(4,.os 0 g' 0 Y.length 1)]) (fun (Y,g')=>[(g',.blk Y.length (byF Y))]) (fun (Y,g')=>OutS l Y (i+1)∧0≤Lib.indexByte hexL (l.getD i 0)) ?_ ?_
 ·refine jU 516518000000011620 ?_;refine jjn (α:=Unit) [2,3,7,7,18,36] (fun _=>[(7,.c (.int .i64 (hv (l.getD i 0):Nat)))]) (fun _=>[(g,.blk X.length (byF X))]) (fun _=>0≤Lib.indexByte hexL (l.getD i 0)) ?_ ?_
  ·refine jU 1216 ?_;refine jF4 510000000021 1216300550044 20 (fun g72=>?_) fun g72=>?_
   rotate_left
   ·refine jF4 510000000021 800030005000300030005000300070005116300550044 29 (fun g74=>?_) fun g74=>?_
    rotate_left
    ·have hb:hexOk l=false:=hex_bad (i:=i) (by omega) (hd.2.2 (by omega) (by omega))
     rw [hb,if_neg (by decide)]
     exact cT (CEnt.top _) cZ
    refine jF3 91200 800030005000300030005000300070005116 (fun h74=>?_) fun h74=>?_
    rotate_left
    ·have hb:hexOk l=false:=hex_bad (i:=i) (by omega) (hd.2.2 (by omega) (by omega))
     rw [hb,if_neg (by decide)]
     exact cT (CEnt.top _) cZ
    refine jq (jrv .u8 .i64) ?_;refine jU 8519 ?_
    refine jjend () (h1:=?_) (h5:=by exact .cons (cI (by exact (hd.2.1 (by omega)).1.symm)) .nil) (h7:=by exact .same .nil)
    ·exact (hd.1 (by omega)).2
   refine jF3 91200 1216 (fun h72=>?_) fun h72=>?_
   ·refine jq (jrv .u8 .i64) ?_;refine jU 851 ?_
    refine jjend () (h1:=?_) (h5:=by exact .cons (cI (by exact (hd.1 (by omega)).1.symm)) .nil) (h7:=by exact .same .nil)
    ·exact (hd.1 (by omega)).2
   refine jF4 510000000021 800030005000300030005000300070005116300550044 29 (fun g74=>?_) fun g74=>?_
   rotate_left
   ·have hb:hexOk l=false:=hex_bad (i:=i) (by omega) (hd.2.2 (by omega) (by omega))
    rw [hb,if_neg (by decide)]
    exact cT (CEnt.top _) cZ
   refine jF3 91200 800030005000300030005000300070005116 (fun h74=>?_) fun h74=>?_
   rotate_left
   ·have hb:hexOk l=false:=hex_bad (i:=i) (by omega) (hd.2.2 (by omega) (by omega))
    rw [hb,if_neg (by decide)]
    exact cT (CEnt.top _) cZ
   refine jq (jrv .u8 .i64) ?_;refine jU 8519 ?_
   refine jjend () (h1:=?_) (h5:=by exact .cons (cI (by exact (hd.2.1 (by omega)).1.symm)) .nil) (h7:=by exact .same .nil)
   ·exact (hd.2.1 (by omega)).2
  rintro u hx1
  refine jU 52100000016 ?_;refine jF3 800000911200 60000011200 (fun h79=>?_) fun h79=>?_
  ·refine jqe (jebl 1 1 zr5 fun p2=>?_)
   refine jqm (m_appendB (l2:=[UInt8.ofNat (16 * hv (l.getD i 0))]) rfl rfl rfl (Nat.le_refl _) (fun _ _=>cZ) (src_os rfl (.inl rfl) (by decide)) rfl (hh_bytes (.cons (cI ((by rw [nat_u8 (by omega)];omega))) .nil)) Tryz.underlying58 nu58 sz5 zr5 by5 rfl (by (simp;omega)) (leaf_fl rfl rfl) rfl rfl (fun p3=>?_))
   refine jU 840051 ?_
   refine jjend (X++[UInt8.ofNat (16 * hv (l.getD i 0))],p3) (h1:=?_) (h5:=by exact .cons (cO (by simp)) .nil) (h7:=?_)
   ·exact ⟨hS.push (by omega),hx1⟩
   ·exact .blk (by simp) (fun j hj=>cZ) .nil
  refine jq (jri (i:=(i / 2)) (hz:=by omega)) ?_;refine jU 9800000150 ?_;refine jq (jri (i:=(i / 2)) (hz:=by omega)) ?_
  refine jqm (jmstF 1 (byF (X.set (i / 2) (bx (l.getD (i-1) 0) (l.getD i 0)))) ?_ ?_)
  ·exact (fun j hj=>upd_byte (by unfold bx;rw [nat_u8 (by have:=hv_lt (l.getD (i-1) 0);omega),hS.2.2 (by omega),nat_u8 (by have:=hv_lt (l.getD (i-1) 0);omega)];omega) (by omega) j)
  refine jU 84005 ?_
  refine jjend (X.set (i / 2) (bx (l.getD (i-1) 0) (l.getD i 0)),g) (h1:=?_) (h5:=by exact .cons (cO (by simp)) .nil) (h7:=?_)
  ·exact ⟨hS.put (by omega),hx1⟩
  ·exact .blk (by simp) (fun j hj=>cZ) .nil
 rintro ⟨Y,g'⟩ ⟨hY,hx0⟩
 refine jU 85191200 ?_
 refine jlend (i+1,Y,g') (h1:=?_) (h7:=by exact .same .nil)
 ·exact ⟨by omega,hY,fun j hj=>by
   by_cases e:j=i
   ·subst e;exact hx0
   ·exact he j (by omega)⟩
end
section
section
variable {P:Program} {G:Gh} {o:Oper} {env:List (Nat×CV)} {b0:Nat→CV} {H:List (Option Nat×Res)} {K:AS→Prop}
theorem freeze_heap (w:World) (b k:Nat) {cur:Array Value} {ty:TypeId} (h:w.heap[b]?=some (.cells cur ty (0,0))):(w.freeze ⟨b,k,none⟩ 1).heap[b]?=some (.cells cur ty (k,k+1)):=by
 grind [World.freeze]
theorem freeze_other (w:World) (b k q:Nat) (hq:q≠b):(w.freeze ⟨b,k,none⟩ 1).heap[q]?=w.heap[q]?:=by
 grind [World.freeze]
theorem freeze_size (w:World) (b k:Nat):(w.freeze ⟨b,k,none⟩ 1).heap.size=w.heap.size∧(w.freeze ⟨b,k,none⟩ 1).os=w.os∧(w.freeze ⟨b,k,none⟩ 1).tape=w.tape∧(w.freeze ⟨b,k,none⟩ 1).output=w.output:=by
 grind [World.freeze]
theorem RelSt.mark {St:Nat→Prop} {s:AS} {a:Act} {w:World} (h:RelSt G St s a w) {i g n:Nat} {f:Nat→CV} (hH:s.H[i]?=some (some g,.blk n f)) {cur:Array Value} {ty:TypeId} (hc:w.heap[g]?=some (.cells cur ty (0,0))) (k:Nat) :
  (∀ b,St b→b≠g)∧RelSt G (fun b=>St b∨b=g) ⟨s.env,s.b,s.H.set i (some g,.frz n f)⟩ a (w.freeze ⟨g,k,none⟩ 1):=by
 obtain ⟨fp,hp⟩:=h.hp
 have hlt:i<s.H.length:=(List.getElem?_eq_some_iff.1 hH).1
 have hrep:=hp.rep i (some g) _ hH
 have hg:fp i g:=(hrep.1 g).2 rfl
 obtain ⟨hg1,hg2,hg3⟩:=hp.own i g hg
 have hnew:=freeze_heap w g k hc
 have hold:∀ b,b≠g→(w.freeze ⟨g,k,none⟩ 1).heap[b]?=w.heap[b]?:=fun b hb=>freeze_other w g k b hb
 obtain ⟨hsz,ho,ht,hu⟩:=freeze_size w g k
 have hs:∀ b,St b→St b∨b=g:=fun _ h=>.inl h
 have hne:∀ b,St b→b≠g:=fun b hb e=>hg2 (e ▸ hb)
 have he:Evo St w (w.freeze ⟨g,k,none⟩ 1):=⟨fun b cu ct cz hb hcu=>(hold b (hne b hb)).trans hcu,fun b cu t z hb=>by
  grind⟩
 refine ⟨hne,h.df.keep hs (fun b hb=>hold b (hne b hb)),h.sz,fun d=>RepC.evo he hs _ _ (h.env d),⟨ho.trans h.un.os,ht.trans h.un.tape,hu.trans h.un.output,by rw [hsz];exact h.un.size,fun k hk hF=>?_,fun b cu t z hb=>?_⟩,fun b hb=>.inl (h.s1 b hb),fun b hb=>?_,fun b hb=>?_,?_,?_,fun q hq=>.inl (h.sg.1 q hq),fun x hx=>.inl (h.sg.2 x hx)⟩
 ·refine (hold k (fun e=>?_)).trans (h.un.block k hk hF)
  grind
 ·obtain ⟨cur',z',h1,h2⟩:=h.un.sh b cu t z hb
  grind
 ·rcases hb with hb|rfl
  ·exact h.s2 b hb
  ·exact .inr hg3
 ·rw [hsz]
  rcases hb with hb|rfl
  ·exact h.s3 b hb
  ·exact hg1
 ·refine ⟨fun j b=>j≠i∧fp j b,fun j q r hj=>?_,fun j l b h1 h2=>hp.dis j l b h1.2 h2.2,fun j b h1=>?_,fun j hj b h1=>hp.out j (by simpa using hj) b h1.2⟩
  ·by_cases e:j=i
   ·subst e
    simp [hlt] at hj
    obtain ⟨rfl,rfl⟩:=hj
    obtain ⟨h0,cur',t',h1,h2,h3⟩:=hrep
    rw [hc] at h1
    cases h1
    exact ⟨fun b hb=>absurd rfl hb.1,.inr rfl,cur,ty,_,hnew,h2,fun m hm=>RepC.evo he hs _ _ (h3 m hm)⟩
   ·rw [List.getElem?_set_ne (Ne.symm e)] at hj
    have e2:(fun b=>j≠i∧fp j b)=fp j:=funext fun b=>propext ⟨fun h=>h.2,fun h=>⟨e,h⟩⟩
    show r.rep G.al _ _ (fun b=>j≠i∧fp j b) q
    rw [e2]
    exact Res.rep_evo he hs (fun b hF=>hold b (fun e3=>e (hp.dis j i b hF (e3 ▸ hg)))) (hp.rep j q r hj)
  ·obtain ⟨h2,h3,h4⟩:=hp.own j b h1.2
   exact ⟨by rw [hsz];exact h2,fun hb=>hb.elim h3 fun hb=>h1.1 (hp.dis j i b h1.2 (hb ▸ hg)),h4⟩
 ·exact SentL.keep h.sn (fun q hq=>hold q (hne q (h.sg.1 q hq))) (fun q hq=>hold _ (hne _ (h.sg.2 q hq)))
end
end
section
section
variable {P:Program} {G:Gh} {ops:Array Oper} {o:Oper} {s:AS} {K:AS→Prop} {t u:TypeId} {x y:Operand} {env:List (Nat×CV)} {b0:Nat→CV} {H:List (Option Nat×Res)}
theorem exec_copy {xs:Array Operand} {ats:Array TypeId} (ho:o.op=.call ⟨.builtin .copy,xs,ats⟩) {a:Act} {v:Value} {w w':World} (h:(Builtin.copy_ ats o.type (xs.map a.eval)).run P w=.ok v w'):(execOp a.eval o).run P w=.ok (.value v) w':=by
 simp [execOp,ho,resolve,invoke,builtin,h]
def cpyF (off c:Nat) (f h:Nat→CV) (j:Nat):CV:=if off≤j∧j<off+c then h (j-off) else f j
theorem m_copy {e:TypeId} {i off n m k N:Nat} {g:Option Nat} {f h:Nat→CV} (ho:o.op=.call ⟨.builtin .copy,#[x,y],#[t,u]⟩) (hx:s.eval x=.os i g off n k) (hH:s.H[i]?=some (g,.blk N f)) (hN:off+n * k≤N)
  (hsrc:ASrc P G s y k m h) (hmn:m≤n) (h1:P.underlying t=some (.slice e)) (h5:(P.info? e).map (·.size)=some k)
  (F:Nat→CV) (hF:∀ j,j<N→CEnt (cpyF off (m * k) f h j) (F j)) (hleaf:∀ j,j<m * k→leafC (h j)=true) (hd:dstOk G o=true)
  (hK:K (s.with o.dst (.c (.int .i64 (m:Nat))) (s.H.set i (g,.blk N F)))):AMd P G o s K:=fun St a w hr Q=>by
 obtain ⟨info,hi,hs⟩:=Option.map_eq_some_iff.1 h5
 obtain ⟨news,hnl,hnr,hrun⟩:=hsrc St a w hr
 have he:=evR hr hx
 have hargs:(#[x,y]:Array Operand).map a.eval=#[a.eval x,a.eval y]:=by simp
 have put:∀ {w':World} {v:Value} {c:CV} {H:List (Option Nat×Res)},RelSt G St ⟨s.env,s.b,H⟩ a w'→RepC G.al St w' c v→RelSt G St (s.with o.dst c H) (a.put o.dst v) w':=fun {w' v c H} h1 h2=>by
  have:=h1.put (dst:=o.dst) (dst_of hd) h2
  cases ho:o.dst with
  | none=>rw [ho] at this;exact this
  | some d=>rw [ho] at this;exact this
 have hmin:Nat.min m n=m:=Nat.min_eq_left hmn
 cases g with
 | none =>
  obtain ⟨hn0,ev⟩:=he
  subst hn0
  have hm0:m=0:=by omega
  subst hm0
  have hrun':(Builtin.copy_ #[t,u] o.type #[a.eval x,a.eval y]).run P w=.ok (.int .i64 ((0:Nat):Int)) w:=by
   rw [ev]
   simp [Builtin.copy_,underlying,h1,(hrun w rfl).1,sizeOf,typeInfo,hi,hs,(hrun w rfl).2]
   rfl
  unfold Oper.wp
  rw [exec_copy ho (by rw [hargs];exact hrun')]
  refine ⟨KeepS.refl _ _,St,fun _ h=>h,_,hK,?_⟩
  have hlt:=(List.getElem?_eq_some_iff.1 hH).1
  have hmv:RelSt G St ⟨s.env,s.b,s.H.set i (none,.blk N F)⟩ a w:=by
   refine ⟨hr.df,hr.sz,hr.env,hr.un,hr.s1,hr.s2,hr.s3,?_,hr.sn,hr.sg⟩
   obtain ⟨fp,hp⟩:=hr.hp
   refine ⟨fp,fun j q r hj=>?_,hp.dis,hp.own,fun j hj=>hp.out j (by simpa using hj)⟩
   by_cases hj2:j=i
   ·subst hj2
    simp [hlt] at hj
    obtain ⟨rfl,rfl⟩:=hj
    exact ⟨(hp.rep j none _ hH).1,(hp.rep j none _ hH).2⟩
   ·rw [List.getElem?_set_ne (Ne.symm hj2)] at hj
    exact hp.rep j q r hj
  exact put hmv rfl
 | some g =>
  obtain ⟨cap,ev,hle,hcap,hfit0⟩:=he
  obtain ⟨fp,hp⟩:=hr.hp
  obtain ⟨hb0,cur,ty,hh,hle2,hcell⟩:=hp.rep i (some g) _ hH
  have hmk:m * k≤n * k:=Nat.mul_le_mul_right _ hmn
  have hfit:off+news.length≤cur.size:=by omega
  have hone:∀ v ∈ news,v.oneCell'=true:=fun v hv=>by
   grind [List.mem_iff_getElem,leaf_one]
  have hst:=run_storeCells_at P g off ty news 0 cur w hh (by omega) hone
  simp only [Nat.add_zero] at hst
  have hrun':(Builtin.copy_ #[t,u] o.type #[a.eval x,a.eval y]).run P w=.ok (.int .i64 (m:Nat)) (w.setRow g (cur.toList.take off++news++cur.toList.drop (off+news.length)).toArray):=by
   rw [ev]
   simp [Builtin.copy_,underlying,h1,(hrun w rfl).1,hmin,sizeOf,typeInfo,hi,hs,(hrun w rfl).2,hst]
   rfl
  unfold Oper.wp
  rw [exec_copy ho (by rw [hargs];exact hrun')]
  refine ⟨fun q hq=>setRow_other w g q _ (fun e=>(hp.own i g ((hb0 g).2 rfl)).2.1 (e ▸ hq)),St,fun _ h=>h,_,hK,?_⟩
  have hw:=hr.write hH hh (cs:=(cur.toList.take off++news++cur.toList.drop (off+news.length)).toArray) (by simp;omega) (n':=N) (f':=F) (by simp;omega) (fun j hj=>by
   refine hF j hj _ _ _ _ ?_
   grind [row_at,cpyF])
  exact put hw rfl
end
section
variable {P:Program} {G:Gh} {o:Oper} {K:AS→Prop} {env:List (Nat×CV)} {b0:Nat→CV} {H:List (Option Nat×Res)}
theorem jmcpB {t u:TypeId} {x y:Operand} {i off n N d:Nat} {g:Option Nat} {f:Nat→CV} (L:List UInt8) (F:Nat→CV) (hF:∀ j,j<N→CEnt (cpyF off L.length f (byF L) j) (F j)) (hK:K ⟨(d,.c (.int .i64 (L.length:Nat)))::env,b0,H.set i (g,.blk N F)⟩)
  (hsrc:ASrc P G ⟨env,b0,H⟩ y 1 L.length (byF L)) (ho:o.op=.call ⟨.builtin .copy,#[x,y],#[t,u]⟩:=by exact rfl) (hx:(⟨env,b0,H⟩:AS).eval x=.os i g off n 1:=by exact rfl) (hH:H[i]?=some (g,.blk N f):=by exact rfl) (hN:off+n * 1≤N:=by omega) (hmn:L.length≤n:=by omega)
  (h1:jslQ P t 1=true:=by kernel_rfl) (hd:o.dst=some d:=by exact rfl) (hdN:Nat.blt d G.N=true:=by exact rfl):AMd P G o ⟨env,b0,H⟩ K:=by
 obtain ⟨e,h2,h5⟩:=jslQ_ok h1
 refine m_copy ho hx hH hN hsrc hmn h2 h5 F (by rw [Nat.mul_one];exact hF) (fun j hj=>rfl) (by grind [dstOk]) ?_
 rw [hd]
 exact hK
theorem src_bs {s:AS} {y:Operand} {L:List UInt8} (hy:s.eval y=bsC L):ASrc P G s y 1 L.length (byF L):=by
 have:=src_rs (P:=P) (G:=G) (k:=1) hy
 simp_all
end
section
variable {P:Program} {G:Gh} {o:Oper} {s:AS} {t:TypeId} {x y:Operand} {k:IntKind}
theorem rd_indexB {e:TypeId} {len n i:Nat} {f:Nat→CV} {v:CV} {z:Int} (ho:o.op=.index t x y) (hx:s.eval x=.agg n f) (hy:s.eval y=.c (.int k z)) (h1:P.underlying t=some (.array len e)) (h3:P.underlying e=some (.int .u8)) (h5:(P.info? e).map (·.size)=some 1)
  (hz:z=(i:Int)) (hi:i<len) (hn:i<n) (hv:f i=v):ARd P G o s v:=fun St a w h=>by
 obtain ⟨info,h5i,h6⟩:=Option.map_eq_some_iff.1 h5
 obtain ⟨cs,e',hn',hf⟩:=evR h hx
 refine ⟨cs.getD i undef,fun W _=>?_,hv ▸ hf _ hn⟩
 simp only [execOp,ho,e',evC h hy]
 refine vOk ?_
 subst hz
 have:i<cs.size:=by omega
 have h4:aggB P e=false:=by unfold aggB;rw [h3]
 simp [Instr.index,asIntOf,underlying,h1,hi,part,run_isAgg h3,h4,sizeOf,typeInfo,h5i,h6,this]
def jaryB (P:Program) (t:TypeId) (n:Nat):Bool:=match P.underlying t with
 | some (.array k e)=>(match P.underlying e,(P.info? e).map (·.size) with|some (.int .u8),some 1=>Nat.beq k n|_,_=>false)
 | _=>false
theorem jaryB_ok {t:TypeId} {n:Nat} (h:jaryB P t n=true):∃ e,P.underlying t=some (.array n e)∧P.underlying e=some (.int .u8)∧(P.info? e).map (·.size)=some 1:=by
 grind [jaryB,Nat.eq_of_beq_eq_true]
theorem jrixB (len:Nat) {i n:Nat} {f:Nat→CV} {v:CV} {z:Int} (ho:o.op=.index t x y:=by exact rfl) (hx:s.eval x=.agg n f:=by exact rfl) (hy:s.eval y=.c (.int k z):=by exact rfl) (hv:f i=v:=by first|exact jflO_eq rfl|exact jfz_eq rfl) (hz:z=(i:Int):=by first|exact rfl|exact natI (by omega))
  (hi:i<len:=by first|decide|omega|(dsimp only at *;omega)) (hn:i<n:=by first|decide|omega|(dsimp only at *;omega)) (hT:jaryB P t len=true:=by kernel_rfl):ARd P G o s v:=by
 obtain ⟨e,h1,h3,h5⟩:=jaryB_ok hT
 exact rd_indexB ho hx hy h1 h3 h5 hz hi hn hv
end
end
section
theorem and_all:∀ c:Fin 256,IntKind.u8.wrap (BitVec.ofInt (IntKind.bits .u8) ((c.val:Nat):Int) &&& BitVec.ofInt (IntKind.bits .u8) 15).toNat=((c.val % 16:Nat):Int):=by decide +kernel
theorem and_15 (c:UInt8):IntKind.u8.wrap (BitVec.ofInt (IntKind.bits .u8) ((c.toNat:Nat):Int) &&& BitVec.ofInt (IntKind.bits .u8) 15).toNat=((c.toNat % 16:Nat):Int):=and_all ⟨c.toNat,c.toNat_lt⟩
theorem shr_4 (n:Nat):((n:Nat):Int).fdiv (2 ^ min (Int.toNat 4) (IntKind.bits .u8))=((n / 16:Nat):Int):=by
 show Int.fdiv _ (16:Int)=_
 rw [Int.fdiv_eq_ediv_of_nonneg _ (by decide)]
 omega
theorem flatX_take {b:List UInt8} {i:Nat} (h:i<b.length):flatX (b.take (i+1))=flatX (b.take i)++[hx ((b.getD i 0).toNat / 16),hx ((b.getD i 0).toNat % 16)]:=by
 rw [List.take_succ_eq_append_getElem h,flatX_snoc]
 simp [List.getD,h]
theorem hexL_all:∀ k:Fin 16,hexL.getD k.val 0=hx k.val:=by decide
theorem hexL_hx {k:Nat} (h:k<16):hexL.getD k 0=hx k:=hexL_all ⟨k,h⟩
theorem fl_map (f:Nat→CV) {n j:Nat} (h:j<n):fl (List.map f (List.range n)) j=f j:=by rw [fl_get];simp [List.getD,h]
set_option maxHeartbeats 1000000 in
theorem figs_ac {gs:List Nat} (b:List UInt8) (hb:b.length=32):ACp gs Tryz.prog 122 [.agg 32 (byF b)] (strC (flatX b)):=by
 refine ac_oF 22 Tryz.func122 fun al w0 F0 St0=>?_;refine jcr ?_
 refine jqe (jebx 32 fun p1=>?_)
 refine jU 51 ?_;refine jE (blk_ent 0 (m:=32) (F:=byF b) rfl (by decide) (fun _=>rfl) (fun j hj=>CEnt.of_eq (fl_map _ hj))) ?_;refine jU 67516 ?_;refine jqo (jrdoA 32) ?_;refine jU 2051 ?_;refine jE (own_nil 3 1 (byF []) rfl) ?_;refine jE (weaken 6 (.agg 32 (byF b)) (CEnt.agg rfl fun j hj=>CEnt.of_eq (by rw [Nat.zero_add]))) ?_
 refine jlp (α:=Nat×Option Nat) [3,3,5,5,7,19] (fun (i,g)=>[(7,.c (.int .i64 (i:Nat))),(3,.os 1 g 0 (flatX (b.take i)).length 1)]) (fun (i,g)=>[(p1,.blk 32 (byF b)),(g,.blk (flatX (b.take i)).length (byF (flatX (b.take i))))]) (fun (i,g)=>i≤32) (fun (i,g)=>32-i) (0,none) (hr:=?_)
 rintro ⟨i,g⟩ (hi:i≤32)
 have hbl:=(b.getD i 0).toNat_lt
 have hfl:(flatX (b.take i)).length≤64:=by rw [flatX_len,List.length_take];omega
 refine jU 7526 ?_;refine jF3 6207810 84000200020006000 (fun h124=>?_) fun h124=>?_
 rotate_left
 ·have hil:i=b.length:=by omega
  refine jU 16 ?_;refine jqo jrbo ?_;refine jU 8000700051 ?_
  rw [hil,List.take_length];exact cZ
 refine jq (jrixB 32) ?_;refine jU 51 ?_;refine jcdB 8 (oT [0,2,4,6,8,10,12,15] .done) ?_;refine jU 7070 ?_;refine jyq (rd_shr rfl rfl rfl (by (omega)) ((((b.getD i 0).toNat / 16:Nat):Int)) ((shr_4 _))) ?_;refine jyq (jrix (i:=((b.getD i 0).toNat / 16)) (hz:=by omega) (hS:=by (show _<16;omega))) ?_;refine jU 70 ?_;refine jyq (rd_and rfl rfl rfl ((((b.getD i 0).toNat % 16:Nat):Int)) ((and_15 _))) ?_;refine jyq (jrix (i:=((b.getD i 0).toNat % 16)) (hz:=by omega) (hS:=by (show _<16;omega))) ?_
 refine jye (jebl 2 1 zr5 fun p2=>?_)
 refine jyd ?_
 show ASeq _ _ _ _ _ _
 refine jqm (m_appendB (l2:=[hx ((b.getD i 0).toNat / 16),hx ((b.getD i 0).toNat % 16)]) rfl rfl rfl (Nat.le_refl _) (fun _ _=>cZ) (src_os rfl (.inl rfl) (by decide)) rfl (hh_bytes (.cons (cI ((by rw [← hexL_hx (by omega)];rfl))) (.cons (cI ((by rw [← hexL_hx (by omega)];rfl))) .nil))) Tryz.underlying58 nu58 sz5 zr5 by5 rfl (by (simp;omega)) (leaf_fl rfl rfl) rfl rfl (fun p3=>?_))
 refine jU 8519200840051 ?_
 exact jlend (i+1,p3) (h5:=by exact .cons (cI (by omega)) (.cons (cO (by rw [flatX_take (by omega)];done)) .nil)) (h7:=by exact .same (.blk (by rw [flatX_take (by omega)];done) (fun j hj=>CEnt.of_eq (by rw [flatX_take (by omega)])) .nil))
theorem rep_cell (n j:Nat) (hj:j<n) (v u:Value):(List.replicate n v).toArray.getD j u=v:=by simp [hj]
theorem zero32 (j:Nat) (hj:j<32):CEnt (.c ((Value.agg (Array.replicate 32 (.int .u8 0))).cells.getD j undef)) (.c (.int .u8 0)):=by
 show CEnt (.c ((List.replicate 32 (Value.int .u8 0)).toArray.getD j undef)) _
 exact CEnt.of_eq (congrArg CV.c (rep_cell 32 j hj _ _))
theorem pad_cell {b:List UInt8} (hb:b.length=16) {f:Nat→CV} (hf:∀ j,j<32→CEnt (f j) (.c (.int .u8 0))) (j:Nat) (hj:j<32):CEnt (cpyF 0 b.length f (byF b) j) (byF (b++List.replicate 16 0) j):=by
 unfold cpyF
 by_cases h:j<16
 ·rw [if_pos (by omega),Nat.sub_zero]
  refine CEnt.of_eq ?_
  unfold byF
  simp [List.getD,List.getElem?_append_left (show j<b.length by omega)]
 ·rw [if_neg (by omega)]
  have e:byF (b++List.replicate 16 0) j=.c (.int .u8 0):=by
   unfold byF
   rw [List.getD_eq_getElem?_getD,List.getElem?_append_right (by omega),List.getElem?_replicate]
   split <;> rfl
  rw [e]
  exact hf j hj
theorem flat_pad {b:List UInt8} (hb:b.length=16):(flatX (b++List.replicate 16 0)).take 32=flatX b:=by
 have h1:flatX (b++List.replicate 16 0)=flatX b++flatX (List.replicate 16 0):=by unfold flatX;rw [List.map_append,List.flatten_append]
 rw [h1,List.take_append_of_le_length (by rw [flatX_len];omega),List.take_of_length_le (by rw [flatX_len];omega)]
set_option maxHeartbeats 1000000 in
theorem mtext_ac {gs:List Nat} [Ok9 gs] (b:List UInt8):ACp gs Tryz.prog 91 [bsC b] (.tup 2 (fl [strC (if b.length=16 then flatX b else []),.err (if b.length=16 then 0 else 4)])):=by
 refine jF5 5231675116 15 Tryz.func91 fun al w0 F0 St0=>?_;refine jF3 0 810 (fun h115=>?_) fun h115=>?_
 ·refine jcs ?_;refine jcd (oN 0 3) ?_;refine jU 80003000700088070704000000 ?_
  rw [if_neg (by omega),if_neg (by omega)];exact cT cZ (CEnt.errN rfl)
 have h16:b.length=16:=by omega
 have hfl:(flatX (b++List.replicate 16 0)).length=64:=by rw [flatX_len,List.length_append,List.length_replicate,h16]
 refine jcr ?_
 refine jqe (jeal (n:=32) zr180 rfl fun p1=>?_)
 refine jU 65 ?_;refine jq (rd_sliceA rfl rfl (.inl rfl) (by decide) Tryz.underlying180 sz5 (bd_none _ _) (bd_none _ _) (by (omega)) (by (omega)) (by (omega)) rfl) ?_;refine jU 1 ?_
 refine jqm (jmcpB (b) (byF (b++List.replicate 16 0)) (fun j hj=>pad_cell h16 zero32 j hj) ?_ (src_bs rfl))
 refine jU 65 ?_;refine jqo (jrdoA 32) ?_
 refine jqe (jecP (figs_ac (b++List.replicate 16 0) (by rw [List.length_append,h16,List.length_replicate])) ?_ (ho:=rfl) (he:=(.cons (se rfl (CEnt.agg rfl fun j hj=>CEnt.of_eq (by rw [Nat.zero_add]))) .nil)))
 refine jq (rd_sliceLT rfl rfl Tryz.underlying9 rfl (show (32:Int)=((32:Nat):Int) from rfl) (by (omega))) ?_;refine jU 80007000511 ?_
 rw [if_pos h16,if_pos h16,flat_pad h16];exact cT cZ (CEnt.nilE rfl)
end
section
open Go.RowKit Cal
def certF (c:C11):Nat→CV:=fl [.c (.int .i64 c.se),strC c.iss,.c (.int .i64 c.ge),.c (.int .i64 c.who.1),strC c.who.2.1,strC c.who.2.2,.c (.int .i64 c.nb),.c (.int .i64 c.na),strC c.ky,.c (.int .i64 c.us),lsC c.al]
end
section
open Go.RowKit Cal
section
variable {P:Program} {G:Gh} {o:Oper} {s:AS} {t u:TypeId} {x y:Operand} {a b:List UInt8}
end
theorem rid_ac {gs:List Nat} (l:List UInt8) (hl:l.length≤1000000):ACp gs Tryz.prog 67 [strC l] (.c (.bool (hexOk l))):=by
 refine jF5 16516 11 Tryz.func67 fun al w0 F0 St0=>?_;refine jF1 51165119009001 (rnum_ac l hl) ?_
 refine jR jrt
end
section
open Go.RowKit Cal
structure GoodA (a:N4):Prop where
 ge:GoodF fGe (vN4 a.1)
 ky:GoodF fId (vB4 (hexB a.2.1))
 fr:GoodF fMo (vN4 a.2.2.1)
 til:GoodF fMo (vN4 a.2.2.2)
 hx:flatX (hexB a.2.1)=a.2.1
theorem good_A {a:N4} (h:rightN a=true):GoodA a:=by
 unfold rightN inB at h
 simp only [Bool.and_eq_true,decide_eq_true_eq] at h
 obtain ⟨⟨hk,g1,g2⟩,⟨n1,n2⟩,n3,n4⟩:=h
 have hk':=hexOk_two hk
 have lk:=hexB_len a.2.1
 refine ⟨.inr (.inl ⟨.inl rfl,rfl,g1,g2⟩),.inr (.inr (.inl ⟨rfl,rfl,?_,?_⟩)),.inr (.inr (.inr (.inr ⟨rfl,rfl,?_⟩))),.inr (.inr (.inr (.inr ⟨rfl,rfl,?_⟩))),flat_hexB _ (by rw [hk'.1]) hk'.2⟩
 ·show (16:Int)≤((hexB a.2.1).length:Nat);omega
 ·show ((hexB a.2.1).length:Nat)≤(16:Int);omega
 ·show 0≤a.2.2.1∧a.2.2.1≤253402300799;omega
 ·show 0≤a.2.2.2∧a.2.2.2≤253402300799;omega
def ancX (a:N4):Int×List UInt8:=(48,([fdX fGe (vN4 a.1),fdX fId (vB4 (hexB a.2.1)),fdX fMo (vN4 a.2.2.1),fdX fMo (vN4 a.2.2.2)].map elB).flatten)
def ancB (a:N4):List UInt8:=elB (ancX a)
theorem ancX_eq (a:N4):(ancX a).2=encF fGe (vN4 a.1)++(encF fId (vB4 (hexB a.2.1))++(encF fMo (vN4 a.2.2.1)++(encF fMo (vN4 a.2.2.2)++[]))):=by
 unfold ancX
 simp only [List.map_cons,List.map_nil,List.flatten_cons,List.flatten_nil]
 rfl
theorem enc_num {f:Fd} {n:Int} (ho:OkF f) (h:GoodF f (vN4 n)) (h3:f.call=3):(encF f (vN4 n)).length≤14:=by
 obtain ⟨b1,b2,b3,b4,b5,b6,b7,_⟩:=fd_body ho h (by omega)
 grind [bodyV,putN_len,encF_tag,putL_len]
theorem enc_mo {n:Int} (h:GoodF fMo (vN4 n)):(encF fMo (vN4 n)).length≤40:=by
 have e2:(bodyV (fdV fMo (vN4 n))).2.1.length≤34:=by
  show (if inT n then bodyL (ofM n) else []).length≤34
  split
  ·exact Nat.le_of_ble_eq_true rfl
  ·decide
 grind [encF_tag,ok_Mo,putL_len,fMo]
theorem enc_id {b:List UInt8} (h:GoodF fId (vB4 b)):(encF fId (vB4 b)).length≤22:=by
 have hl:b.length≤16:=by
  rcases h with h|h|h|h|h
  ·exact absurd h.1 (by decide)
  ·exact absurd h.1 (by decide)
  ·have:=h.2.2.2;show b.length≤16;have e:((b.length:Nat):Int)≤16:=this;omega
  ·exact absurd h.1 (by decide)
  ·exact absurd h.1 (by decide)
 rw [encF_tag ok_Id h (by decide)]
 show (putL _ b).length≤22
 have:=putL_len (tagA (fdA fId)) b
 omega
theorem anc_len {a:N4} (h:GoodA a):(ancX a).2.length≤116∧(ancB a).length≤122:=by
 have h1:=enc_num ok_Ge h.ge rfl
 have h2:=enc_id h.ky
 have h3:=enc_mo h.fr
 have h4:=enc_mo h.til
 have e:(ancX a).2.length≤116:=by
  rw [ancX_eq]
  simp only [List.length_append,List.length_nil]
  omega
 refine ⟨e,?_⟩
 have:=putL_len (ancX a).1 (ancX a).2
 show (putL (ancX a).1 (ancX a).2).length≤122
 omega
theorem ancs_len:∀ {l:List N4},(∀ a ∈ l,GoodA a)→(l.map ancB).flatten.length≤122 * l.length
 | [],_=>by simp
 | a::l,h=>by
  have h1:=(anc_len (h a List.mem_cons_self)).2
  have h2:=ancs_len fun x hx=>h x (List.mem_cons_of_mem _ hx)
  rw [List.map_cons,List.flatten_cons,List.length_append,List.length_cons]
  omega
def leA (a b:N4):Bool:=leL (ancB a) (ancB b)
def ordA (l:List N4):List N4:=l.mergeSort leA
theorem ordA_perm (l:List N4):(ordA l).Perm l:=List.mergeSort_perm l leA
attribute [local irreducible] ancB in
theorem ordA_sorted (l:List N4):(ordA l).Pairwise fun a b=>leA a b=true:=List.pairwise_mergeSort (fun a b c=>leL_trans (ancB a) (ancB b) (ancB c)) (fun a b=>leL_total (ancB a) (ancB b)) l
attribute [local irreducible] ancB in
theorem ordA_set (l:List N4):sortL (l.map ancB)=(ordA l).map ancB:=by
 have h:((ordA l).map ancB).Pairwise fun a b=>leL a b=true:=List.pairwise_map.2 (ordA_sorted l)
 exact (sortL_of ((ordA_perm l).map ancB) h).symm
def bs3 (b:B3):List UInt8:=putL 49 ((ordA b.2.2).map ancB).flatten++[]
def bs2 (b:B3):List UInt8:=encT b.2.1++bs3 b
def bs1 (b:B3):List UInt8:=encF fSe (vN4 b.1)++bs2 b
def bunB (b:B3):List UInt8:=putL 48 (bs1 b)
structure GoodB3 (b:B3):Prop where
 ve:GoodF fSe (vN4 b.1)
 sp:askedM b.2.1 64=0
 n8:1≤b.2.2.length∧b.2.2.length≤8
 an:∀ a ∈ b.2.2,GoodA a
 ri:Rises b.2.2
theorem good_B3 {b:B3} (h:rightB b=true):GoodB3 b:=by
 unfold rightB inB at h
 simp only [Bool.and_eq_true,decide_eq_true_eq] at h
 obtain ⟨⟨⟨⟨⟨v1,v2⟩,hl⟩,l1⟩,l8⟩,hg⟩:=h
 have ha:=lab_ascii hl
 refine ⟨.inr (.inl ⟨.inl rfl,rfl,v1,v2⟩),asked_ascii ha.1 ha.2.1 (by have:=ha.2.2;omega),⟨l1,l8⟩,fun a hm=>?_,goes_rises hg⟩
 obtain ⟨j,hj,rfl⟩:=List.getElem_of_mem hm
 have ho:=goes_all hg j hj
 grind [okN,good_A]
section
variable {b:B3}
theorem ord_len (b:B3):(ordA b.2.2).length=b.2.2.length:=(ordA_perm _).length_eq
theorem ord_good (h:GoodB3 b):∀ a ∈ ordA b.2.2,GoodA a:=fun a ha=>h.an a ((ordA_perm _).subset ha)
theorem set_len (h:GoodB3 b):((ordA b.2.2).map ancB).flatten.length≤976:=by
 have h1:=ancs_len (ord_good h)
 have h2:=ord_len b
 have h3:=h.n8
 omega
theorem bun_len (h:GoodB3 b):(bs1 b).length≤1200∧(bs2 b).length≤1200∧(bs3 b).length≤1200∧(bunB b).length≤1300:=by
 have h1:=set_len h
 have h2:=enc_num ok_Se h.ve rfl
 have h3:=(encT_len h.sp).1
 have h4:=putL_len 49 ((ordA b.2.2).map ancB).flatten
 have h5:=putL_len 48 (bs1 b)
 have e1:(bs1 b).length=(encF fSe (vN4 b.1)).length+(bs2 b).length:=by unfold bs1;rw [List.length_append]
 grind [bs2,bs3,bunB]
end
def ancW (a:N4) (w:W8):W8:=closeV (putFd fMo (vN4 a.2.2.2) (putFd fMo (vN4 a.2.2.1) (putFd fId (vB4 (hexB a.2.1)) (putFd fGe (vN4 a.1) (openW 48 w)))))
def ancR (a:N4) (r:R8):R8:=rdoS w2 (rputFd fMo (vN4 a.2.2.2) (rputFd fMo (vN4 a.2.2.1) (rputFd fId (vB4 (hexB a.2.1)) (rputFd fGe (vN4 a.1) (rdoS (w1 48) r)))))
def aW (ws:W8) (l:List N4):Nat→W8
 | 0=>openW 49 ws
 | i+1=>ancW (l.getD i a00) (aW ws l i)
def aR (ws:R8) (l:List N4):Nat→R8
 | 0=>rdoS (w1 49) ws
 | i+1=>ancR (l.getD i a00) (aR ws l i)
def bW1 (b:B3):W8:=putFd fSe (vN4 b.1) (openW 48 w00)
def bW2 (b:B3):W8:=doW (vTx b.2.1) (bW1 b)
def bW3 (b:B3):W8:=closeV (aW (bW2 b) b.2.2 b.2.2.length)
def bW4 (b:B3):W8:=closeV (bW3 b)
def bR1 (b:B3):R8:=rputFd fSe (vN4 b.1) rW0
def bR2 (b:B3):R8:=rdoS (vTx b.2.1) (bR1 b)
def bR3 (b:B3):R8:=rdoS w2 (aR (bR2 b) b.2.2 b.2.2.length)
def bR4 (b:B3):R8:=rdoS w2 (bR3 b)
theorem set_ok {ls:List (List UInt8)} {fr:List (Int×List (List UInt8))} {d:List UInt8} (hb:(sortL ls).flatten.length≤65530):closeV ⟨(49,ls)::fr,d,0⟩=addW (putL 49 (sortL ls).flatten) ⟨fr,d,0⟩:=by
 have hf:bodyF (49,ls)=(sortL ls).flatten:=by unfold bodyF;rw [if_pos rfl]
 show putW 49 (bodyF (49,ls)) 0 ⟨fr,d,0⟩=_
 rw [hf,put_ok rfl (by decide) hb]
theorem anc_mid {a:N4} (h:GoodA a) {t:Int} {ls:List (List UInt8)} {fr:List (Int×List (List UInt8))} {d:List UInt8} (hl:fr.length<10):ancW a ⟨(t,ls)::fr,d,0⟩=⟨(t,ls++[ancB a])::fr,d,0⟩:=by
 unfold ancW
 have hf:([]++[encF fGe (vN4 a.1)]++[encF fId (vB4 (hexB a.2.1))]++[encF fMo (vN4 a.2.2.1)]++[encF fMo (vN4 a.2.2.2)]).flatten=(ancX a).2:=by
  rw [ancX_eq]
  simp
 have hn:=(anc_len h).1
 rw [open_mid (by omega),put_mid ok_Ge h.ge (by grind),put_mid ok_Id h.ky (by grind),put_mid ok_Mo h.fr (by grind),put_mid ok_Mo h.til (by grind),close_ok (by decide) (by decide) (by rw [hf];omega),hf,addW_in]
 rfl
theorem aW_mid {l:List N4} (hg:∀ a ∈ l,GoodA a) {t:Int} {ls:List (List UInt8)} {fr:List (Int×List (List UInt8))} {d:List UInt8} (hl:fr.length<9):∀ i,i≤l.length→aW ⟨(t,ls)::fr,d,0⟩ l i=⟨(49,(l.take i).map ancB)::(t,ls)::fr,d,0⟩
 | 0,_=>open_ok rfl (by decide) (by show (_::fr).length<16;rw [List.length_cons];omega)
 | i+1,h=>by
  show ancW (l.getD i a00) (aW _ l i)=_
  rw [aW_mid hg hl i (by omega)]
  have e:l.getD i a00=l[i]'(by omega):=by simp [List.getD,show i<l.length by omega]
  rw [e,anc_mid (hg _ (List.getElem_mem _)) (by rw [List.length_cons];omega),List.take_succ_eq_append_getElem (show i<l.length by omega),List.map_append]
  rfl
section
variable {b:B3}
theorem bun_put (h:GoodB3 b):doneK (bW4 b)=0∧doneB (bW4 b)=bunB b:=by
 obtain ⟨l1,l2,l3,l4⟩:=bun_len h
 have hS:=set_len h
 have e1:bW1 b=⟨[(48,[encF fSe (vN4 b.1)])],[],0⟩:=by unfold bW1;rw [show openW 48 w00=⟨[(48,[])],[],0⟩ from rfl,put_mid ok_Se h.ve (by decide)];rfl
 have e2:bW2 b=⟨[(48,[encF fSe (vN4 b.1),encT b.2.1])],[],0⟩:=by unfold bW2;rw [e1,tx_mid h.sp];rfl
 have e3:bW3 b=⟨[(48,[encF fSe (vN4 b.1),encT b.2.1,putL 49 ((ordA b.2.2).map ancB).flatten])],[],0⟩:=by
  unfold bW3
  rw [e2,aW_mid h.an (by decide) _ (Nat.le_refl _),List.take_length,set_ok (by rw [ordA_set];omega),ordA_set,addW_in]
  rfl
 have e4:bW4 b=⟨[],bunB b,0⟩:=by
  unfold bW4
  have ef:[encF fSe (vN4 b.1),encT b.2.1,putL 49 ((ordA b.2.2).map ancB).flatten].flatten=bs1 b:=by
   unfold bs1 bs2 bs3
   simp only [List.flatten_cons,List.flatten_nil]
  rw [e3,close_ok (by decide) (by decide) (by rw [ef];omega),ef]
  rfl
 grind [doneK,doneB]
theorem inv_b1 (h:GoodB3 b):Inv8 15 (bR1 b) (bW1 b):=inv_putFd ok_Se h.ve inv_0
theorem inv_b2 (h:GoodB3 b):Inv8 16 (bR2 b) (bW2 b):=inv_do (inv_b1 h) (small_tx h.sp)
theorem inv_anc {a:N4} (h:GoodA a) {i:Nat} {r:R8} {w:W8} (hI:Inv8 i r w):Inv8 (i+58) (ancR a r) (ancW a w):=by
 have h0:=inv_do hI (small_w1 (t:=48) (by decide))
 rw [do_w1] at h0
 have h5:=inv_do (inv_putFd ok_Mo h.til (inv_putFd ok_Mo h.fr (inv_putFd ok_Id h.ky (inv_putFd ok_Ge h.ge h0)))) small_w2
 rw [do_w2] at h5
 exact inv_mono h5 (by omega)
theorem inv_a (h:GoodB3 b):∀ i,i≤b.2.2.length→Inv8 (17+58 * i) (aR (bR2 b) b.2.2 i) (aW (bW2 b) b.2.2 i)
 | 0,_=>by
  have:=inv_do (inv_b2 h) (small_w1 (t:=49) (by decide))
  rw [do_w1] at this
  exact this
 | i+1,hi=>by
  have e:b.2.2.getD i a00=b.2.2[i]'(by omega):=by simp [List.getD,show i<b.2.2.length by omega]
  exact inv_mono (inv_anc (h.an _ (by rw [e];exact List.getElem_mem _)) (inv_a h i (by omega))) (by omega)
theorem inv_b3 (h:GoodB3 b):Inv8 500 (bR3 b) (bW3 b):=by
 have h8:=h.n8
 have:=inv_do (inv_a h _ (Nat.le_refl _)) small_w2
 rw [do_w2] at this
 exact inv_mono this (by omega)
theorem inv_b4 (h:GoodB3 b):Inv8 501 (bR4 b) (bW4 b):=by
 have:=inv_do (inv_b3 h) small_w2
 rw [do_w2] at this
 exact this
theorem bun_rput (h:GoodB3 b):rdoneE (bR4 b)=0∧rdoneB (bR4 b)=bunB b:=by
 have hs:=same_done (inv_b4 h).same
 grind [bun_put]
end
end
section
open Go.RowKit Cal
def anF (a:N4):Nat→CV:=fl [.c (.int .i64 a.1),strC a.2.1,.c (.int .i64 a.2.2.1),.c (.int .i64 a.2.2.2)]
def anC (a:N4):CV:=.agg 4 (anF a)
def asC (l:List N4):CV:=.rs 4 l.length fun i=>anF (l.getD i a00)
def bnF (b:B3):Nat→CV:=fl [.c (.int .i64 b.1),strC b.2.1,asC b.2.2]
def bnC (b:B3):CV:=.agg 3 (bnF b)
def asF (l:List N4):Nat→CV:=rowF 4 anF a00 l
def ownA (g:Option Nat) (l:List N4):Option Nat×Res:=(g,.blk (l.length * 4) (asF l))
theorem leaf_a (r:N4) {j:Nat} (hj:j<4):leafC (anF r j)=true:=by
 rcases j with _|_|_|_|j <;> first|rfl|omega
theorem a_ent {X:List N4} {j:Nat} {F:Nat→CV} (h:∀ m,m<4→CEnt (F m) (asF X (j * 4+m))):CEnt (.agg 4 F) (anC (X.getD j a00)) :=
 CEnt.agg rfl fun m hm=>(h m hm).trans (CEnt.of_eq (rowF_at hm))
theorem a_set {X:List N4} {i o:Nat} (y:N4) {l:List CV} (ho:o=i * 4) (hi:i<X.length) (hl:l.length=4) (he:∀ m,m<4→CEnt (fl l m) (anF y m)) :
  ∀ j,j<X.length * 4→CEnt (updF (asF X) o l j) (asF (X.set i y) j):=fun j hj=>by
 subst ho
 obtain ⟨q,r,hr,rfl⟩:∃ q r,r<4∧j=q * 4+r:=⟨j / 4,j % 4,Nat.mod_lt _ (by decide),by omega⟩
 rw [updF_get,hl]
 have e1:asF (X.set i y) (q * 4+r)=anF ((X.set i y).getD q a00) r:=rowF_at hr
 have e2:asF X (q * 4+r)=anF (X.getD q a00) r:=rowF_at hr
 have hq:q<X.length:=by omega
 by_cases h:q=i
 ·subst h
  rw [if_pos (by omega),e1,show q * 4+r-q * 4=r by omega]
  have:(X.set q y).getD q a00=y:=by simp [List.getD,hq]
  rw [this]
  exact he r hr
 ·rw [if_neg (by omega),e1,e2]
  have:(X.set i y).getD q a00=X.getD q a00:=by simp [List.getD,Ne.symm h]
  rw [this]
  exact cZ
theorem ancidx_ac {gs:List Nat} {g:FuncId} {n:Nat} {fv:Nat→CV} (hc:calleeB Tryz.prog g=true) (l:List (N4)) (p:(N4)→Bool) (hp:∀ r,ACp gs Tryz.prog g (anC r::(List.range n).map fv) (.c (.bool (p r)))) :
  ACp gs Tryz.prog 37 [asC l,.fn g n fv] (.c (.int .i64 (firstI p l))):=by
 refine ac_len 0 rfl fun hlen=>?_;refine jF5 20513167516 19 Tryz.func37 fun al w0 F0 St0=>?_
 refine jlp (α:=Nat) [4,5,8,18] (fun i=>[(8,.c (.int .i64 (i:Nat)))]) (fun _=>[]) (fun i=>i≤l.length∧∀ j (hj:j<l.length),j<i→p l[j]=false) (fun i=>l.length-i) 0 (h0:=⟨by omega,fun j _ hj=>absurd hj (Nat.not_lt_zero j)⟩) (hr:=?_)
 rintro i ⟨hi,he⟩
 refine jU 7526 ?_;refine jF3 70011165116207810 8000700051684000200020006000 (fun h108=>?_) fun h108=>?_
 rotate_left
 ·refine cI ?_
  exact (firstI_none fun j hj=>he j hj (by omega)).symm
 refine jq (jrdrA 4) ?_
 refine jqe (e_callV rfl rfl (by assumption) (hp (l.getD i a00)) (entL_fn cZ _) rfl rfl ?_)
 rintro _ _ ⟨rfl,rfl⟩
 refine jU 5 ?_;refine jF3 80003000500030003000500070005116 8519200840010 (fun h109=>?_) fun h109=>?_
 ·refine cI ?_
  have hlt:i<l.length:=by omega
  exact (firstI_at i hlt (by simpa [List.getD,hlt] using h109) (fun j hj=>he j (by omega) hj)).symm
 refine jlend (i+1) (h1:=?_)
 ·exact ⟨by omega,fun j hj hj1=>by
   by_cases e:j=i
   ·subst e
    simpa [List.getD,hj] using h109
   ·exact he j hj (by omega)⟩
theorem acl_ac {gs:List Nat} (l:List N4) (hl:l.length≤1000000):AC gs Tryz.prog 31 [] [asC l] (OwnQ l.length 4 (l.length * 4) (asF l)):=by
 refine jF5 167516 8 Tryz.func31 fun al w0 F0 St0=>?_;refine seq_eqNil (wanted_none rfl) rfl rfl rfl Tryz.underlying22 rfl rfl (fun h357=>?_) ?_
 ·refine jU 51690005 ?_;refine jE (own_nil 2 4 (asF l) rfl) ?_;refine jU 30007000 ?_
  exact end_O 0 (.inl rfl) (res_1 rfl (arv_tmp rfl)) rfl (by omega) (by omega) (fun _=>by omega) (fun j hj=>by omega)
 ·refine jU 68103005 ?_;refine jF6 1 0 4 zr33 fun p1=>?_
  refine jqm (jac 40 ( rowC_row 4 anF a00) (l:=[]) (hs:=by exact sbC (hleaf:=by exact (fun j hj=>leaf_a _ (Nat.mod_lt _ (by decide))))) fun p2=>?_)
  refine jU 700051 ?_
  exact end_O 0 (.inl rfl) (res_1 rfl (arv_tmp rfl)) rfl (by simp) (by simp) (fun _=>by simp) (fun j hj=>cZ)
theorem byGen_ac {gs:List Nat} (a b:N4):ACp gs Tryz.prog 33 [anC a,anC b] (.c (.int .i64 (cmpI a.1 b.1))):=by
 refine ac_oF 10 Tryz.func33 fun al w0 F0 St0=>?_;refine jcr ?_
 refine jqe (jebx 4 fun p1=>?_)
 refine jqe (jebx 4 fun p2=>?_)
 refine jU 50905090651 ?_;refine jF1 51 (cmpI_ac a.1 b.1) ?_
 refine jR jrt
end
section
def m32:Nat:=4294967296
def turnW (x n:Nat):Nat:=x >>> n ||| (x <<< (32-n)) % m32
def notM (x:Nat):Nat:=4294967295-x
theorem not_lt (x:Nat):notM x<m32:=by unfold notM m32;omega
def sigA (x:Nat):Nat:=turnW x 7 ^^^ turnW x 18 ^^^ x >>> 3
def sigB (x:Nat):Nat:=turnW x 17 ^^^ turnW x 19 ^^^ x >>> 10
def sumA (x:Nat):Nat:=turnW x 2 ^^^ turnW x 13 ^^^ turnW x 22
def sumE (x:Nat):Nat:=turnW x 6 ^^^ turnW x 11 ^^^ turnW x 25
def be4 (b:List UInt8) (p:Nat):Nat:=(b.getD p 0).toNat * 16777216+(b.getD (p+1) 0).toNat * 65536+(b.getD (p+2) 0).toNat * 256+(b.getD (p+3) 0).toNat
def nextW (w:List Nat) (i:Nat):Nat:=(w.getD (i-16) 0+sigA (w.getD (i-15) 0)+w.getD (i-7) 0+sigB (w.getD (i-2) 0)) % m32
def spreadM (b:List UInt8):Nat→List Nat
 | 0=>[]
 | i+1=>spreadM b i++[if i<16 then be4 b (4 * i) else nextW (spreadM b i) i]
def vAt (v:List Nat) (i:Nat):Nat:=v.getD i 0
def tM (v:List Nat) (k w:Nat):Nat:=vAt v 7+sumE (vAt v 4)+((vAt v 4 &&& vAt v 5) ||| (notM (vAt v 4) &&& vAt v 6))+k+w
def uM (v:List Nat):Nat:=sumA (vAt v 0)+((vAt v 0 &&& vAt v 1) ||| (vAt v 0 &&& vAt v 2) ||| (vAt v 1 &&& vAt v 2))
def roundM (v:List Nat) (k w:Nat):List Nat:=[(tM v k w+uM v) % m32,vAt v 0,vAt v 1,vAt v 2,(vAt v 3+tM v k w) % m32,vAt v 4,vAt v 5,vAt v 6]
def roundsM (h:List Nat) (b:List UInt8):Nat→List Nat
 | 0=>h
 | i+1=>roundM (roundsM h b i) (kL.getD i 0) ((spreadM b 64).getD i 0)
def takeM (h:List Nat) (b:List UInt8):List Nat:=(List.range 8).map fun i=>(vAt h i+vAt (roundsM h b 64) i) % m32
def blocksM (h:List Nat) (b:List UInt8):Nat→List Nat
 | 0=>h
 | j+1=>takeM (blocksM h b j) ((b.drop (64 * j)).take 64)
def beL (n:Nat):List UInt8:=(List.range 8).map fun i=>UInt8.ofNat (n >>> (8 * (7-i)))
def padM (n:Nat):List UInt8:=128::(List.replicate ((119-n % 64) % 64) 0++beL (8 * n))
def outM (h:List Nat):List UInt8:=(h.map fun w=>[UInt8.ofNat (w >>> 24),UInt8.ofNat (w >>> 16),UInt8.ofNat (w >>> 8),UInt8.ofNat w]).flatten
def shaM (b:List UInt8):List UInt8:=outM (blocksM firstL (b++padM b.length) ((b++padM b.length).length / 64))
end
section
def Words (h:List Nat):Prop:=h.length=8∧∀ i,vAt h i<m32
def wordsS (m:List UInt8):List Nat:=blocksM firstL m (m.length / 64)
def restS (m:List UInt8):List UInt8:=m.drop (64 * (m.length / 64))
end
section
def keyM (k:List UInt8):List UInt8:=if 64<k.length then shaM k else k
def keyB (k:List UInt8):List UInt8:=keyM k++List.replicate (64-(keyM k).length) 0
def padK (k:List UInt8) (x:UInt8):List UInt8:=(keyB k).map (· ^^^ x)
def macM (k m:List UInt8):List UInt8:=shaM (padK k 92++shaM (padK k 54++m))
end
section
def wordOk (w:List UInt8):Bool:=decide (1≤w.length) && decide (w.length≤32) && w.all lch
def be32 (n:Nat):List UInt8:=[UInt8.ofNat (n >>> 24),UInt8.ofNat (n >>> 16),UInt8.ofNat (n >>> 8),UInt8.ofNat n]
def prtB (p:List UInt8):List UInt8:=be32 p.length++p
def bigP (p:List UInt8):Bool:=decide (65536<p.length)
def frameE (w:List UInt8) (ps:List (List UInt8)):Nat:=if wordOk w=true then (if 16<ps.length∨ps.any bigP=true then 3 else 0) else 8
def frameB (w:List UInt8) (ps:List (List UInt8)):List UInt8:=UInt8.ofNat w.length::(w++UInt8.ofNat ps.length::(ps.map prtB).flatten)
def idM (k:List UInt8):List UInt8:=flatX ((macM k (frameB [105,100] [])).take 16)
end
section
section
variable {κ β:Type}
def mget [DecidableEq κ] (l:List (κ×β)) (k:κ):Option β:=match l with|[]=>none|x::r=>if x.1=k then some x.2 else mget r k
def mset [DecidableEq κ]:List (κ×β)→κ→β→List (κ×β)
 | [],k,v=>[(k,v)]
 | x::r,k,v=>if x.1=k then (k,v)::r else x::mset r k v
def findSp [DecidableEq κ] (k:κ):List κ→List MapEntry→Nat→Option (Nat×Value)
 | x::ks,e::es,i=>if x=k then some (i,e.val) else findSp k ks es (i+1)
 | _,_,_=>none
structure KeyK [DecidableEq κ] (P:Program) (kt:TypeId) (kv:κ→Value):Prop where
 check:∀ (w:World) (em:Bool) (k:κ),(Instr.checkKey em 10000 kt (kv k)).run P w=.ok () w
 find:∀ (w:World) (k:κ) (es:List MapEntry) (ks:List κ),es.map (·.key)=ks.map kv→(Instr.findKey kt (kv k) es).run P w=.ok (findSp k ks es 0) w
 stays:∀ (w:World) (k:κ),(Instr.keyThatStays (kv k) (kv k)).run P w=.ok (kv k) w
def EntsOk (al:List Addr) (St:Nat→Prop) (w:World) (kv:κ→Value) (vC:β→CV):List MapEntry→List (κ×β)→Prop
 | [],[]=>True
 | e::es,x::l=>e.key=kv x.1∧RepC al St w (vC x.2) e.val∧EntsOk al St w kv vC es l
 | _,_=>False
theorem EntsOk.evo {al:List Addr} {St St':Nat→Prop} {w w':World} (he:Evo St w w') (hs:∀ b,St b→St' b) {kv:κ→Value} {vC:β→CV}:∀ {es:List MapEntry} {l:List (κ×β)},EntsOk al St w kv vC es l→EntsOk al St' w' kv vC es l
 | [],[],_=>trivial
 | e::es,x::l,h=>⟨h.1,RepC.evo he hs _ _ h.2.1,EntsOk.evo he hs h.2.2⟩
 | [],_::_,h=>h.elim
 | _::_,[],h=>h.elim
theorem EntsOk.keys {al:List Addr} {St:Nat→Prop} {w:World} {kv:κ→Value} {vC:β→CV}:∀ {es:List MapEntry} {l:List (κ×β)},EntsOk al St w kv vC es l→es.map (·.key)=(l.map (·.1)).map kv
 | [],[],_=>rfl
 | e::es,x::l,h=>by rw [List.map_cons,List.map_cons,List.map_cons,h.1,EntsOk.keys h.2.2]
 | [],_::_,h=>h.elim
 | _::_,[],h=>h.elim
def mapO (kv:κ→Value) (vC:β→CV) (l:List (κ×β)):OP where
 p al St w g F:=(∀ b,F b↔b=g)∧∃ es clock,w.heap[g]?=some (.map es clock)∧EntsOk al St w kv vC es.toList l
 st:=fun he hs hF ⟨h0,es,clock,h1,h2⟩=>⟨h0,es,clock,(hF _ ((h0 _).2 rfl)).trans h1,h2.evo he hs⟩
theorem find_at [DecidableEq κ] {al:List Addr} {St:Nat→Prop} {w:World} {kv:κ→Value} {vC:β→CV} (k:κ):∀ {es:List MapEntry} {l:List (κ×β)} (i:Nat),EntsOk al St w kv vC es l →
  match mget l k with
  | some v=>∃ j x,findSp k (l.map (·.1)) es i=some (i+j,x)∧RepC al St w (vC v) x∧∃ e,es[j]?=some e∧e.key=kv k∧e.val=x
  | none=>findSp k (l.map (·.1)) es i=none
 | [],[],i,_=>rfl
 | e::es,x::l,i,h=>by
  have ih:=find_at k (es:=es) (l:=l) (i+1) h.2.2
  rw [List.map_cons]
  unfold mget findSp
  by_cases hk:x.1=k
  ·rw [if_pos hk,if_pos hk]
   exact ⟨0,e.val,rfl,h.2.1,e,rfl,by rw [h.1,hk],rfl⟩
  ·rw [if_neg hk,if_neg hk]
   split
   ·rename_i v hv
    rw [hv] at ih
    obtain ⟨j,y,h1,h2,e',h3,h4,h5⟩:=ih
    exact ⟨j+1,y,by grind,h2,e',by simpa using h3,h4,h5⟩
   simp_all
 | [],_::_,_,h=>h.elim
 | _::_,[],_,h=>h.elim
end
def keyV (k:List UInt8):Value:=.string ⟨k.toArray⟩
theorem bytes_eq {a b:List UInt8}:((⟨a.toArray⟩:ByteArray) == ⟨b.toArray⟩)=decide (a=b):=by
 have e:((⟨a.toArray⟩:ByteArray) == ⟨b.toArray⟩)=(a.toArray == b.toArray):=rfl
 grind
theorem key_eq {a b:List UInt8}:Instr.sameNow .string (keyV a) (keyV b)=some (decide (b=a)):=by
 show some ((⟨a.toArray⟩:ByteArray) == ⟨b.toArray⟩)=_
 grind [bytes_eq]
theorem find_str (k:List UInt8):∀ (es:List MapEntry) (ks:List (List UInt8)) (i:Nat),es.map (·.key)=ks.map keyV→Instr.findNow .string (keyV k) es i=some (findSp k ks es i)
 | [],[],_,_=>rfl
 | [],_::_,_,h=>by simp at h
 | _::_,[],_,h=>by simp at h
 | e::es,x::ks,i,h=>by
  simp only [List.map_cons,List.cons.injEq] at h
  unfold Instr.findNow findSp
  rw [h.1,key_eq]
  by_cases hx:x=k
  ·rw [decide_eq_true hx,if_pos hx]
  ·rw [decide_eq_false hx,if_neg hx]
   exact find_str k es ks (i+1) h.2
theorem keyK_str {P:Program} {kt:TypeId} (h:P.underlying kt=some .string):KeyK P kt keyV where
 check w em k:=Go.MapKept.run_checkKey h (by simp [Go.MapKept.IsKey,keyV]) em 9999
 find w k es ks he:=Go.MapKept.run_findKey h (find_str k es ks 0 he)
 stays w k:=by
  simp_all [Instr.sameBits,keyV,bytes_eq,Instr.keyThatStays]
def keyV2 (k:List UInt8×List UInt8):Value:=.agg #[keyV k.1,keyV k.2]
end
section
abbrev Line3:=List UInt8×List UInt8×List UInt8
abbrev Keys:=List (List UInt8×List UInt8)
def lineK (l:Line3):List UInt8×List UInt8:=(l.1,frameB l.2.1 [l.2.2])
def bookM (B:List Line3):List ((List UInt8×List UInt8)×Bool):=B.map fun l=>(lineK l,true)
def addL (B:List Line3) (l:Line3):List Line3:=if l ∈ B then B else B++[l]
def GoodB (B:List Line3):Prop:=∀ l ∈ B,frameE l.2.1 [l.2.2]=0
def Good32 (K:Keys):Prop:=∀ x ∈ K,x.2.length=32
def askE (K:Keys) (id d m:List UInt8):Nat:=if (mget K id).isSome=true then frameE d [m] else 10
def sigM (K:Keys) (id d m:List UInt8):List UInt8:=macM ((mget K id).getD []) (frameB d [m])
theorem GoodB.add {B:List Line3} {l:Line3} (h:GoodB B) (hl:frameE l.2.1 [l.2.2]=0):GoodB (addL B l):=by
 unfold addL
 split
 ·exact h
 ·intro x hx
  rcases List.mem_append.1 hx with hx|hx
  ·exact h x hx
  simp_all
theorem mset_new {κ β:Type} [DecidableEq κ]:∀ {l:List (κ×β)} {k:κ} {v:β},mget l k=none→mset l k v=l++[(k,v)]
 | [],_,_,_=>rfl
 | x::r,k,v,h=>by
  unfold mget at h
  by_cases e:x.1=k
  ·rw [if_pos e] at h;cases h
  ·rw [if_neg e] at h
   unfold mset
   rw [if_neg e,mset_new h]
   rfl
end
section
open Go.RowKit Cal
def oneC (n:Nat):CV:=.c (.int .i64 (n:Nat))
def seenM (l:List N4) (i:Nat):List (List UInt8×Nat):=(l.take i).map fun a=>(a.2.1,1)
theorem mget_seen:∀ (l:List N4) (k:List UInt8),mget (l.map fun a=>(a.2.1,1)) k=if (∃ a ∈ l,a.2.1=k) then some 1 else none
 | [],k=>by rw [if_neg (by simp)];rfl
 | a::l,k=>by
  show (if a.2.1=k then some 1 else mget (l.map fun a=>(a.2.1,1)) k)=_
  rw [mget_seen l k]
  by_cases e:a.2.1=k
  ·rw [if_pos e,if_pos ⟨a,List.mem_cons_self,e⟩]
  ·rw [if_neg e]
   by_cases h:∃ x ∈ l,x.2.1=k
   ·obtain ⟨x,h1,h2⟩:=h
    rw [if_pos ⟨x,h1,h2⟩,if_pos ⟨x,List.mem_cons_of_mem _ h1,h2⟩]
   ·rw [if_neg h,if_neg]
    rintro ⟨x,h1,h2⟩
    rcases List.mem_cons.1 h1 with rfl|h1
    ·exact e h2
    ·exact h ⟨x,h1,h2⟩
section
variable {l:List N4} {i:Nat}
theorem seen_iff (hi:i≤l.length) (k:List UInt8):(mget (seenM l i) k).getD 0=if (∃ j,j<i∧(l.getD j a00).2.1=k) then 1 else 0:=by
 have hx:(∃ a ∈ l.take i,a.2.1=k)↔∃ j,j<i∧(l.getD j a00).2.1=k:=by
  constructor
  ·rintro ⟨a,h1,h2⟩
   obtain ⟨j,hj,rfl⟩:=List.getElem_of_mem h1
   rw [List.length_take] at hj
   refine ⟨j,by omega,?_⟩
   grind
  ·grind [List.mem_take_iff_getElem]
 unfold seenM
 rw [mget_seen]
 by_cases h:∃ a ∈ l.take i,a.2.1=k
 ·simp_all
 simp_all
theorem seen_next (hi:i<l.length) (h:¬ 0<(mget (seenM l i) (l.getD i a00).2.1).getD 0):mset (seenM l i) (l.getD i a00).2.1 ((mget (seenM l i) (l.getD i a00).2.1).getD 0+1)=seenM l (i+1):=by
 have hn:mget (seenM l i) (l.getD i a00).2.1=none:=by
  unfold seenM at h ⊢
  rw [mget_seen] at h ⊢
  split at h
  ·simp at h
  ·simp_all
 grind [mset_new,seenM,List.take_succ_eq_append_getElem]
theorem okN_bad (hi:i<l.length) (h:rightN (l.getD i a00)=false∨0<(mget (seenM l i) (l.getD i a00).2.1).getD 0∨(0<i∧(l.getD i a00).1≤(l.getD (i-1) a00).1)):okN l i=false:=by
 grind [seen_iff,okN,beh_iff]
theorem okN_good (hg:goesTo l i=true) (hi:i<l.length) (h1:rightN (l.getD i a00)=true) (h2:¬ 0<(mget (seenM l i) (l.getD i a00).2.1).getD 0) (h3:i=0∨(l.getD (i-1) a00).1<(l.getD i a00).1):okN l i=true:=by
 rw [seen_iff (by omega)] at h2
 simp_all [okN,beh_prev]
end
end
section
section
variable {κ β:Type} {kv:κ→Value} {kw:Value} {P:Program} {G:Gh} {o:Oper} {s:AS} {K:AS→Prop} {t kt et:TypeId} {x y z:Operand} {vC:β→CV} {l:List (κ×β)} {k:κ} {i g:Nat}
theorem mapAt {St:Nat→Prop} {a:Act} {w:World} (h:RelSt G St s a w) (hH:s.H[i]?=some (some g,.obj (mapO kv vC l))):g<w.heap.size∧∃ es clock,w.heap[g]?=some (.map es clock)∧EntsOk G.al St w kv vC es.toList l:=by
 obtain ⟨fp,hp⟩:=h.hp
 obtain ⟨h0,es,clock,h1,h2⟩:=hp.rep i (some g) _ hH
 grind
def KeyC (c:CV) (v:Value):Prop:=∀ al St w x,RepC al St w c x→x=v
theorem keyC_str {c:CV} {k:List UInt8} (h:c=strC k):KeyC c (keyV k):=fun al St w x hx=>by rw [h] at hx;exact hx
theorem rd_mget [DecidableEq κ] {zv:Value} {v:CV} (ho:o.op=.lookup t x y false) (hx:s.eval x=.c (.map (some g))) (hH:s.H[i]?=some (some g,.obj (mapO kv vC l))) (hy:KeyC (s.eval y) (kv k)) (h1:P.underlying t=some (.map kt et)) (h2:KeyK P kt kv) (hz:(P.info? et).map (·.zero)=some (some zv))
  (hv:∀ u,mget l k=some u→CEnt (vC u) v) (hv0:mget l k=none→CEnt (.c zv) v):ARdO P G o s v:=fun St a w h=>by
 obtain ⟨hlt,es,clock,hb,he⟩:=mapAt h hH
 obtain ⟨info,hi,hzz⟩:=Option.map_eq_some_iff.1 hz
 have hf:=find_at k 0 he
 have hkv:a.eval y=kv k:=hy _ _ _ _ (h.eval y)
 have hff:=fun W:World=>h2.find W k es.toList _ he.keys
 cases hm:mget l k with
 | none =>
  simp only [hm] at hf
  simp only [hf] at hff
  refine ⟨zv,fun W hW=>?_,hv0 hm _ _ _ _ rfl⟩
  have hbW:W.heap[g]?=some (.map es clock):=(hW.block g hlt).trans hb
  simp only [execOp,ho,evC h hx,hkv]
  refine vOk ?_
  simp [Instr.lookup,underlying,h1,Go.MapKept.run_getObj_map hbW,h2.check,hff,zeroValue,typeInfo,hi,hzz]
 | some u =>
  simp only [hm] at hf
  obtain ⟨j,xv,hf,hr,_⟩:=hf
  simp only [hf] at hff
  refine ⟨xv,fun W hW=>?_,hv u hm _ _ _ _ hr⟩
  have hbW:W.heap[g]?=some (.map es clock):=(hW.block g hlt).trans hb
  simp only [execOp,ho,evC h hx,hkv]
  refine vOk ?_
  simp [Instr.lookup,underlying,h1,Go.MapKept.run_getObj_map hbW,h2.check,hff]
theorem RelSt.setMap {St:Nat→Prop} {a:Act} {w:World} (h:RelSt G St s a w) {l':List (κ×β)} (hH:s.H[i]?=some (some g,.obj (mapO kv vC l))) {es es':Array MapEntry} {clock clock':Nat} (hb:w.heap[g]?=some (.map es clock)) (he':EntsOk G.al St w kv vC es'.toList l') :
  RelSt G St ⟨s.env,s.b,s.H.set i (some g,.obj (mapO kv vC l'))⟩ a { w with heap:=w.heap.setIfInBounds g (.map es' clock') }∧KeepS St w { w with heap:=w.heap.setIfInBounds g (.map es' clock') }:=by
 obtain ⟨fp,hp⟩:=h.hp
 have hlt:i<s.H.length:=(List.getElem?_eq_some_iff.1 hH).1
 have hrep:=hp.rep i (some g) _ hH
 have hg:fp i g:=(hrep.1 g).2 rfl
 obtain ⟨hg1,hg2,hg3⟩:=hp.own i g hg
 obtain ⟨hnew,hold⟩:=Go.MapKept.heap_set (o':=.map es' clock') hb
 have hold:∀ b,b≠g→(w.heap.setIfInBounds g (.map es' clock'))[b]?=w.heap[b]?:=hold
 have hsz:(w.heap.setIfInBounds g (.map es' clock')).size=w.heap.size:=by simp
 have he:Evo St w { w with heap:=w.heap.setIfInBounds g (.map es' clock') }:=⟨fun b cu ct cz hb2 hcu=>(hold b (fun e=>hg2 (e ▸ hb2))).trans hcu,fun b cu t z hb2=>by
  grind⟩
 refine ⟨⟨h.df.keep (fun _ h=>h) (fun b hb=>hold b (fun e=>hg2 (e ▸ hb))),h.sz,fun d=>RepC.evo he (fun _ x=>x) _ _ (h.env d),⟨h.un.os,h.un.tape,h.un.output,Nat.le_trans h.un.size (Nat.le_of_eq hsz.symm),fun k hk hF=>?_,fun b cu t z hb2=>?_⟩,h.s1,h.s2,fun b hb=>Nat.lt_of_lt_of_eq (h.s3 b hb) hsz.symm,?_,?_,h.sg⟩,fun q hq=>hold q (fun e=>hg2 (e ▸ hq))⟩
 ·refine (hold k (fun e=>?_)).trans (h.un.block k hk hF)
  grind
 ·obtain ⟨cur',z',h1,h2⟩:=h.un.sh b cu t z hb2
  grind
 ·refine ⟨fp,fun j q r hj=>?_,hp.dis,fun j b hb=>⟨Nat.lt_of_lt_of_eq (hp.own j b hb).1 hsz.symm,(hp.own j b hb).2⟩,fun j hj=>hp.out j (by simpa using hj)⟩
  by_cases e:j=i
  ·subst e
   simp [hlt] at hj
   obtain ⟨rfl,rfl⟩:=hj
   exact ⟨hrep.1,es',clock',hnew,he'.evo he (fun _ x=>x)⟩
  ·rw [List.getElem?_set_ne (Ne.symm e)] at hj
   exact Res.rep_evo he (fun _ x=>x) (fun b hF=>hold b (fun e2=>e (hp.dis j i b hF (e2 ▸ hg)))) (hp.rep j q r hj)
 ·exact SentL.keep h.sn (fun q hq=>hold q (fun e=>hg2 (e ▸ h.sg.1 q hq))) (fun q hq=>hold _ (fun e=>hg2 (e ▸ h.sg.2 q hq)))
end
end
section
section
variable {κ β:Type} {kv:κ→Value} {P:Program} {G:Gh} {o:Oper} {s:AS} {K:AS→Prop} {t kt et:TypeId} {x y z:Operand} {vC:β→CV} {l:List (κ×β)} {k:κ} {i g:Nat}
theorem ents_set [DecidableEq κ] {al:List Addr} {St:Nat→Prop} {w:World} (u:β) {xv:Value} (hx:RepC al St w (vC u) xv):∀ {es:List MapEntry} {l:List (κ×β)} (i:Nat),EntsOk al St w kv vC es l →
  (∃ j y,findSp k (l.map (·.1)) es i=some (i+j,y)∧(∃ e,es[j]?=some e∧e.key=kv k)∧EntsOk al St w kv vC (es.modify j fun e=>{ e with key:=kv k,val:=xv }) (mset l k u)) ∨
  (findSp k (l.map (·.1)) es i=none∧∀ b,EntsOk al St w kv vC (es++[⟨kv k,xv,b⟩]) (mset l k u))
 | [],[],i,_=>.inr ⟨rfl,fun b=>⟨rfl,hx,trivial⟩⟩
 | e::es,q::l,i,h=>by
  rw [List.map_cons]
  unfold findSp mset
  by_cases hk:q.1=k
  ·rw [if_pos hk,if_pos hk]
   exact .inl ⟨0,e.val,rfl,⟨e,rfl,by rw [h.1,hk]⟩,rfl,hx,h.2.2⟩
  ·rw [if_neg hk,if_neg hk]
   rcases ents_set u hx (es:=es) (l:=l) (i+1) h.2.2 with ⟨j,y,h1,⟨e',h2,h3⟩,h4⟩|⟨h1,h2⟩
   ·exact .inl ⟨j+1,y,by grind,⟨e',by simpa using h2,h3⟩,h.1,h.2.1,h4⟩
   ·exact .inr ⟨h1,fun b=>⟨h.1,h.2.1,h2 b⟩⟩
 | [],_::_,_,h=>h.elim
 | _::_,[],_,h=>h.elim
theorem md_mset [DecidableEq κ] {u:β} {c:CV} (ho:o.op=.mapUpdate t x y z∨o.op=.insert t x y z) (hx:s.eval x=.c (.map (some g))) (hH:s.H[i]?=some (some g,.obj (mapO kv vC l))) (hy:KeyC (s.eval y) (kv k)) (hz:s.eval z=c) (hc:CEnt c (vC u)) (h1:P.underlying t=some (.map kt et)) (h2:KeyK P kt kv)
  (hd:dstOk G o=true) (hK:K (s.with o.dst (.c undef) (s.H.set i (some g,.obj (mapO kv vC (mset l k u)))))):AMd P G o s K:=fun St a w hr Q=>by
 obtain ⟨hlt,es,clock,hb,he⟩:=mapAt hr hH
 have hkv:a.eval y=kv k:=hy _ _ _ _ (hr.eval y)
 have hff:=h2.find w k es.toList _ he.keys
 have hzv:RepC G.al St w (vC u) (a.eval z):=hc _ _ _ _ (evR hr hz)
 have put:∀ {w':World} {H:List (Option Nat×Res)},RelSt G St ⟨s.env,s.b,H⟩ a w'→RelSt G St (s.with o.dst (.c undef) H) (a.put o.dst undef) w':=fun {w' H} h1=>by
  have:=h1.put (dst:=o.dst) (v:=.c undef) (x:=undef) (dst_of hd) rfl
  cases ho:o.dst with
  | none=>rw [ho] at this;exact this
  | some d=>rw [ho] at this;exact this
 rcases ents_set (k:=k) u hzv 0 he with ⟨j,yv,hf,⟨e,h3,h4⟩,h5⟩|⟨hf,h5⟩
 ·rw [hf,Nat.zero_add] at hff
  have hrun:(execOp a.eval o).run P w=.ok .skip { w with heap:=w.heap.setIfInBounds g (.map (es.modify j fun e=>{ e with key:=kv k,val:=a.eval z }) clock) }:=by
   have h3':es[j]?=some e:=by simpa using h3
   rcases ho with ho|ho <;> (simp only [execOp,ho,evC hr hx,hkv];simp [Instr.mapUpdate,underlying,h1,Go.MapKept.run_getObj_map hb,h2.check,hff,h3',h4,h2.stays,Go.MapKept.run_setObj_map _ hb])
  have hm:=RelSt.setMap hr hH (l':=mset l k u) (clock':=clock) hb (es':=es.modify j fun e=>{ e with key:=kv k,val:=a.eval z }) (by simpa using h5)
  unfold Oper.wp
  rw [hrun]
  exact ⟨hm.2,St,fun _ h=>h,_,hK,put hm.1⟩
 ·rw [hf] at hff
  have hrun:(execOp a.eval o).run P w=.ok .skip { w with heap:=w.heap.setIfInBounds g (.map (es.push ⟨kv k,a.eval z,clock⟩) (clock+1)) }:=by
   rcases ho with ho|ho <;> (simp only [execOp,ho,evC hr hx,hkv];simp [Instr.mapUpdate,underlying,h1,Go.MapKept.run_getObj_map hb,h2.check,hff,Go.MapKept.run_setObj_map _ hb])
  have hm:=RelSt.setMap hr hH (l':=mset l k u) (clock':=clock+1) hb (es':=es.push ⟨kv k,a.eval z,clock⟩) (by simpa using h5 clock)
  unfold Oper.wp
  rw [hrun]
  exact ⟨hm.2,St,fun _ h=>h,_,hK,put hm.1⟩
theorem ex_makeMap (kv:κ→Value) (vC:β→CV) (ho:o.op=.makeMap t none) (hd:dstOk G o=true) (hK:∀ g:Nat,K (s.with o.dst (.c (.map (some g))) (s.H++[(some g,.obj (mapO kv vC []))]))):AEx P G o s K:=fun St a w hr Q=>by
 have hrun:(execOp a.eval o).run P w=.ok (.value (.map (some w.heap.size))) (w.alloc (.map #[] 0)):=by
  simp only [execOp,ho]
  refine vOk ?_
  simp [Instr.makeMap]
 have hn:=heap_alloc_new w (.map #[] 0)
 unfold Oper.wp
 rw [hrun]
 refine ⟨below_alloc w _,St,fun _ h=>h,_,hK w.heap.size,?_⟩
 have:=(hr.freshObj (below_alloc w (.map #[] 0)) (Nat.le_refl _) (p:=mapO kv vC ([]:List (κ×β))) (Array.getElem?_eq_some_iff.1 hn).1 ⟨fun b=>Iff.rfl,#[],0,hn,trivial⟩).put (dst:=o.dst) (v:=.c (.map (some w.heap.size))) (x:=.map (some w.heap.size)) (dst_of hd) rfl
 cases ho:o.dst with
 | none=>rw [ho] at this;exact this
 | some d=>rw [ho] at this;exact this
end
end
end Am
end Go.Proofs.YtnijncmifjnifaaGreatDoor
