/- What the law leans on, part 11: P09s, ErrN, W08y, AmN, W09s, W09t, P19, W05r, P08k, P19b, P19c, W08q, W08r, W08s, W08t, W05i, W08s7, W09u, W19a -/
import Derived.Test.YthlpfjnkieaeeaaGreatDoorM10ObjectsOthers

set_option maxRecDepth 100000
namespace Go.Proofs.YthlpfjnkieaeeaaGreatDoor
set_option linter.unusedVariables false
namespace Am
open Go.RowKit
section
open Go.RowKit Cal
def v8 (t:List UInt8):VV:=⟨8,0,false,[],t⟩
def v7 (t:List UInt8) (most:Int):VV:=⟨7,most,false,[],t⟩
def w1 (tag:Int):VV:=⟨1,tag,false,[],[]⟩
def w2:VV:=⟨2,0,false,[],[]⟩
def pv (p:P2):List VV:=[w1 48,v8 p.1,v7 p.2 64,w2]
def namesV (s:S3):List VV:=w1 48::((partsS s).flatMap pv++[w2])
def putS (s:S3) (w:W8):W8:=if rightS s=true then doAll (namesV s) w else failW 9 w
def rputS9 (s:S3) (r:R8):R8:=if rightS s=true then rdoAll (namesV s) r else ⟨r.tags,r.rows,if r.e=0 then 9 else r.e⟩
theorem do_w1 (tag:Int) (s:W8):doW (w1 tag) s=openW tag s:=by unfold doW;rw [if_pos (show (w1 tag).kind=1 from rfl)];rfl
theorem do_w2 (s:W8):doW w2 s=closeV s:=by unfold doW;rw [if_neg (show ¬ w2.kind=1 by decide),if_pos (show w2.kind=2 from rfl)]
theorem do_v8 (t:List UInt8) (s:W8):doW (v8 t) s=putW 6 (putM t) (parseM t).2 s:=by
 unfold doW
 rw [if_neg (show ¬ (v8 t).kind=1 by show ¬ (8:Int)=1;decide),if_neg (show ¬ (v8 t).kind=2 by show ¬ (8:Int)=2;decide),if_neg (show ¬ (v8 t).kind=11 by show ¬ (8:Int)=11;decide)]
 rfl
theorem do_v7 (t:List UInt8) (m:Int) (s:W8):doW (v7 t m) s=putW 12 (if askedM t m=0 then t else []) (askedM t m) s:=by
 unfold doW
 rw [if_neg (show ¬ (v7 t m).kind=1 by show ¬ (7:Int)=1;decide),if_neg (show ¬ (v7 t m).kind=2 by show ¬ (7:Int)=2;decide),if_neg (show ¬ (v7 t m).kind=11 by show ¬ (7:Int)=11;decide)]
 rfl
theorem lab_ascii {l:List UInt8} (h:labM l=true):(∀ c ∈ l,32≤c.toNat∧c.toNat<127)∧l≠[]∧l.length≤24:=by
 simp only [labM,Bool.and_eq_true,decide_eq_true_eq,List.all_eq_true] at h
 obtain ⟨⟨⟨⟨h1,h2⟩,_⟩,_⟩,h5⟩:=h
 refine ⟨fun c hc=>?_,h1,h2⟩
 have:=h5 c hc
 simp only [lch,Bool.or_eq_true,Bool.and_eq_true,decide_eq_true_eq] at this
 omega
theorem plain_ascii:∀ {l:List UInt8},(∀ c ∈ l,32≤c.toNat∧c.toNat<127)→plainM l=true
 | [],_=>rfl
 | c::l,h=>by
  have hc:=h c List.mem_cons_self
  have e:bt (c::l) 0=c.toNat:=rfl
  rw [ref_ascii (by simp) (by rw [e];omega),e,if_neg (by omega)]
  exact plain_ascii fun d hd=>h d (List.mem_cons_of_mem _ hd)
theorem asked_ascii {l:List UInt8} {m:Int} (h:∀ c ∈ l,32≤c.toNat∧c.toNat<127) (h0:l≠[]) (hm:(l.length:Int)≤m):askedM l m=0:=by
 have hp:=List.length_pos_iff.2 h0
 unfold askedM
 rw [if_neg (by omega),if_neg (by omega),if_neg (by rw [plain_ascii h];decide)]
theorem asked_len {l:List UInt8} {m:Int} (h:askedM l m=0):(l.length:Int)≤m:=by
 unfold askedM at h
 by_cases h0:l.length=0
 ·rw [if_pos h0] at h;cases h
 ·rw [if_neg h0] at h
  by_cases h1:m<l.length
  ·rw [if_pos h1] at h;cases h
  ·omega
def GoodP (p:P2):Prop:=(parseM p.1).2=0∧askedM p.2 64=0
def innerX (p:P2):List (Int×List UInt8):=[(6,putM p.1),(12,p.2)]
def partX (p:P2):Int×List UInt8:=(48,((innerX p).map elB).flatten)
def partB (p:P2):List UInt8:=elB (partX p)
def subX (s:S3):Int×List UInt8:=(48,(((partsS s).map partX).map elB).flatten)
def subB (s:S3):List UInt8:=elB (subX s)
theorem oids_good:(parseM oidK).2=0∧(parseM oidS).2=0∧(parseM oidN).2=0:=by decide +kernel
theorem word_ascii {k:Int} (h1:1≤k) (h5:k≤5):(∀ c ∈ wordM k,32≤c.toNat∧c.toNat<127)∧wordM k≠[]∧(wordM k).length≤8:=by
 obtain rfl|rfl|rfl|rfl|rfl:=kinds h1 h5 <;> decide
theorem good_parts {s:S3} (h:rightS s=true):(∀ p ∈ partsS s,GoodP p∧p.1.length=12∧p.2.length≤24)∧(partsS s).length≤3:=by
 obtain ⟨h1,h5,hn,h2,hs⟩:=(right_iff s).1 h
 have hw:=word_ascii h1 h5
 have hn':=lab_ascii hn
 have gk:GoodP (oidK,wordM s.1)∧(oidK,wordM s.1).1.length=12∧(oidK,wordM s.1).2.length≤24:=⟨⟨oids_good.1,asked_ascii hw.1 hw.2.1 (by have:=hw.2.2;show ((wordM s.1).length:Int)≤64;omega)⟩,rfl,by have:=hw.2.2;dsimp only;omega⟩
 have gn:GoodP (oidN,s.2.2)∧(oidN,s.2.2).1.length=12∧(oidN,s.2.2).2.length≤24:=⟨⟨oids_good.2.2,asked_ascii hn'.1 hn'.2.1 (by have:=hn'.2.2;show (s.2.2.length:Int)≤64;omega)⟩,rfl,hn'.2.2⟩
 rw [parts_ref h]
 by_cases hk:s.1=2
 ·have hsp:=lab_ascii (h2 hk)
  have gs:GoodP (oidS,s.2.1)∧(oidS,s.2.1).1.length=12∧(oidS,s.2.1).2.length≤24:=⟨⟨oids_good.2.1,asked_ascii hsp.1 hsp.2.1 (by have:=hsp.2.2;show (s.2.1.length:Int)≤64;omega)⟩,rfl,hsp.2.2⟩
  rw [if_pos hk]
  refine ⟨fun p hp=>?_,by simp⟩
  rcases List.mem_cons.1 hp with rfl|hp
  ·exact gk
  ·rcases List.mem_cons.1 hp with rfl|hp
   ·exact gs
   ·rw [List.mem_singleton.1 hp];exact gn
 ·rw [if_neg hk]
  refine ⟨fun p hp=>?_,by simp⟩
  rcases List.mem_cons.1 hp with rfl|hp
  ·exact gk
  ·rw [List.mem_singleton.1 hp];exact gn
theorem part9_len {p:P2} (h:GoodP p) (h1:p.1.length≤300):(((innerX p).map elB).flatten).length≤1000∧(putM p.1).length≤600∧p.2.length≤64:=by
 have h2:=put_len p.1
 have h3:=asked_len h.2
 have h4:=putL_len 6 (putM p.1)
 have h5:=putL_len 12 p.2
 simp only [innerX,elB,List.map_cons,List.map_nil,List.flatten_cons,List.flatten_nil,List.append_nil,List.length_append]
 omega
theorem addW_in (b:List UInt8) {t:Int} {ls:List (List UInt8)} {fr:List (Int×List (List UInt8))} {d:List UInt8}:addW b ⟨(t,ls)::fr,d,0⟩=⟨(t,ls++[b])::fr,d,0⟩:=rfl
theorem do_part {p:P2} (h:GoodP p) (h1:p.1.length≤300) {s:W8} (hk:s.k=0) (hf:s.fr.length<16):doAll (pv p) s=addW (partB p) s:=by
 obtain ⟨l1,l2,l3⟩:=part9_len h h1
 obtain ⟨fr,d,k⟩:=s
 simp only at hk hf
 subst hk
 show doW w2 (doW (v7 p.2 64) (doW (v8 p.1) (doW (w1 48) ⟨fr,d,0⟩)))=_
 rw [do_w1,open_ok rfl (by decide) hf,do_v8,h.1,put_ok rfl (by decide) (by omega),addW_in,do_v7,h.2,if_pos rfl,put_ok rfl (by decide) (by omega),addW_in,do_w2]
 have e:([]++[putL 6 (putM p.1)]++[putL 12 p.2]:List (List UInt8)).flatten=((innerX p).map elB).flatten:=rfl
 rw [close_ok (by decide) (by decide) (by rw [e];omega),e]
 rfl
theorem do_parts:∀ (ps:List P2) {ls:List (List UInt8)} {fr:List (Int×List (List UInt8))} {d:List UInt8},(∀ p ∈ ps,GoodP p∧p.1.length≤300)→fr.length<15→doAll (ps.flatMap pv) ⟨(48,ls)::fr,d,0⟩=⟨(48,ls++ps.map partB)::fr,d,0⟩
 | [],ls,fr,d,_,_=>by simp [doAll]
 | p::ps,ls,fr,d,h,hf=>by
  rw [List.flatMap_cons,doAll_app,do_part (h p List.mem_cons_self).1 (h p List.mem_cons_self).2 rfl (by simp only [List.length_cons];omega),addW_in,do_parts ps (fun q hq=>h q (List.mem_cons_of_mem _ hq)) hf]
  simp
theorem sub_len {s:S3} (h:rightS s=true):(((partsS s).map partX).map elB).flatten.length≤4000∧(subB s).length≤4100:=by
 obtain ⟨h1,h2⟩:=good_parts h
 have key:∀ ps:List P2,(∀ p ∈ ps,GoodP p∧p.1.length=12∧p.2.length≤24)→((ps.map partX).map elB).flatten.length≤1010 * ps.length:=fun ps=>by
  induction ps with
  | nil=>intro _;simp
  | cons p ps ih =>
   intro h
   have h3:=ih fun q hq=>h q (List.mem_cons_of_mem _ hq)
   obtain ⟨h4,h5,_⟩:=h p List.mem_cons_self
   have h6:=part9_len h4 (by omega)
   have h7:=putL_len 48 ((innerX p).map elB).flatten
   have h8:(elB (partX p)).length=(putL 48 ((innerX p).map elB).flatten).length:=rfl
   simp only [List.map_cons,List.flatten_cons,List.length_append,List.length_cons]
   omega
 have h3:=key _ h1
 have h4:=putL_len 48 (((partsS s).map partX).map elB).flatten
 have h5:(subB s).length=(putL 48 (((partsS s).map partX).map elB).flatten).length:=rfl
 omega
theorem putS_ok {s:S3} (h:rightS s=true) {w:W8} (hk:w.k=0) (hf:w.fr.length<15):putS s w=addW (subB s) w:=by
 obtain ⟨h1,h2⟩:=good_parts h
 obtain ⟨l1,l2⟩:=sub_len h
 obtain ⟨fr,d,k⟩:=w
 simp only at hk hf
 subst hk
 unfold putS
 rw [if_pos h]
 show doAll ((partsS s).flatMap pv++[w2]) (doW (w1 48) ⟨fr,d,0⟩)=_
 rw [do_w1,open_ok rfl (by decide) (by dsimp only;omega),doAll_app,do_parts _ (fun p hp=>⟨(h1 p hp).1,by have:=(h1 p hp).2.1;omega⟩) hf]
 rw [show ∀ X,doAll [w2] X=doW w2 X from fun _=>rfl,do_w2]
 have e:([]++(partsS s).map partB:List (List UInt8)).flatten=(((partsS s).map partX).map elB).flatten:=by rw [List.nil_append,List.map_map];rfl
 rw [close_ok (by decide) (by decide) (by rw [e];omega),e]
 rfl
def w00:W8:=⟨[],[],0⟩
theorem small_w1 {t:Int} (h:-9223372036854775808≤t∧t≤9223372036854775807):SmallV (w1 t):=⟨h,by simp [w1],by simp [w1]⟩
theorem small_w2:SmallV w2:=⟨by simp [w2],by simp [w2],by simp [w2]⟩
theorem small_v8 {t:List UInt8} (h:t.length≤300):SmallV (v8 t):=⟨by simp [v8],by simp [v8],h⟩
theorem small_v7 {t:List UInt8} (h:t.length≤300):SmallV (v7 t 64):=⟨by simp [v7],by simp [v7],h⟩
theorem small_pv {p:P2} (h1:p.1.length≤300) (h2:p.2.length≤300):∀ v ∈ pv p,SmallV v:=fun v hv=>by
 simp only [pv,List.mem_cons,List.not_mem_nil,or_false] at hv
 rcases hv with rfl|rfl|rfl|rfl
 ·exact small_w1 (by decide)
 ·exact small_v8 h1
 ·exact small_v7 h2
 ·exact small_w2
theorem pvs_len:∀ ps:List P2,(ps.flatMap pv).length=4 * ps.length
 | []=>rfl
 | p::ps=>by
  rw [List.flatMap_cons,List.length_append,pvs_len ps,List.length_cons]
  show 4+_=_
  omega
theorem inv_putS {i:Nat} {r:R8} {w:W8} (hI:Inv8 i r w) (s:S3):Inv8 (i+14) (rputS9 s r) (putS s w):=by
 unfold rputS9 putS
 by_cases h:rightS s=true
 ·rw [if_pos h,if_pos h]
  obtain ⟨h1,h2⟩:=good_parts h
  have hl:(namesV s).length≤14:=by
   unfold namesV
   rw [List.length_cons,List.length_append,pvs_len]
   simp only [List.length_singleton]
   omega
  refine inv_mono (inv_all (namesV s) hI fun v hv=>?_) (by omega)
  unfold namesV at hv
  rcases List.mem_cons.1 hv with rfl|hv
  ·exact small_w1 (by decide)
  ·rcases List.mem_append.1 hv with hv|hv
   ·obtain ⟨p,hp,hv⟩:=List.mem_flatMap.1 hv
    obtain ⟨_,h3,h4⟩:=h1 p hp
    exact small_pv (by omega) (by omega) v hv
   ·rw [List.mem_singleton.1 hv];exact small_w2
 ·rw [if_neg h,if_neg h]
  exact inv_mono (inv_fail hI 9) (by omega)
def aL:AA:=⟨1,48,0,0⟩
def aO:AA:=⟨8,0,0,0⟩
def aT:AA:=⟨7,0,0,64⟩
def aE:AA:=⟨2,0,0,0⟩
def partSp:StepR P2:=fun l k =>
 let r1:=readR aL l k
 let r2:=readR aO r1.l r1.k
 let r3:=readR aT r2.l r2.k
 let r4:=readR aE r3.l r3.k
 ((r4.l,r4.k),(r2.v.t,r3.v.t))
theorem said_O (b:List UInt8):saidM aO b=(vT (ogetM b).1,(ogetM b).2):=rfl
theorem said_T (b:List UInt8):saidM aT b=(vT (if askedM b 64=0 then b else []),askedM b 64):=rfl
theorem part_ok:StepOk partSp:=by
 have key:∀ l k,0<l.length→moreM l k=true→muS (partSp l k).1.1 (partSp l k).1.2<muS l k∧((partSp l k).1.2=0→(partSp l k).1.1.length=l.length)∧l.length≤(partSp l k).1.1.length∧(partSp l k).1.1.length≤l.length+16:=by
  intro l k hl hm
  have hk:=(more_pos hm).1
  obtain ⟨a1,a2,a3,a4,a5,a6,a7⟩:=read_mu aL (l:=l) (k:=k) hl
  have a3':=a3 hk (by decide)
  obtain ⟨a41,a42⟩:=a4 rfl
  have p1:l.length≤(readR aL l k).l.length∧(readR aL l k).l.length≤l.length+1:=by
   by_cases h:(readR aL l k).k=0
   ·have:=a41 h;omega
   ·have:=a42 h;omega
  obtain ⟨b1,b2,b3,b4,b5,b6,b7⟩:=read_mu aO (l:=(readR aL l k).l) (k:=(readR aL l k).k) (by omega)
  have b6':=b6 (by decide) (by decide)
  obtain ⟨c1,c2,c3,c4,c5,c6,c7⟩:=read_mu aT (l:=(readR aO (readR aL l k).l (readR aL l k).k).l) (k:=(readR aO (readR aL l k).l (readR aL l k).k).k) (by omega)
  have c6':=c6 (by decide) (by decide)
  obtain ⟨d1,d2,d3,d4,d5,d6,d7⟩:=read_mu aE (l:=(readR aT (readR aO (readR aL l k).l (readR aL l k).k).l (readR aO (readR aL l k).l (readR aL l k).k).k).l) (k:=(readR aT (readR aO (readR aL l k).l (readR aL l k).k).l (readR aO (readR aL l k).l (readR aL l k).k).k).k) (by omega)
  obtain ⟨d51,d52⟩:=d5 rfl
  show muS (readR aE _ _).l (readR aE _ _).k<_∧((readR aE _ _).k=0→(readR aE _ _).l.length=_)∧_≤(readR aE _ _).l.length∧(readR aE _ _).l.length≤_
  refine ⟨by omega,fun h=>?_,?_,?_⟩
  ·have:=d51 h
   have:=a41 (b7 (c7 (d7 h)))
   omega
  ·by_cases h:(readR aE (readR aT (readR aO (readR aL l k).l (readR aL l k).k).l (readR aO (readR aL l k).l (readR aL l k).k).k).l (readR aT (readR aO (readR aL l k).l (readR aL l k).k).l (readR aO (readR aL l k).l (readR aL l k).k).k).k).k=0
   ·have:=d51 h
    have:=a41 (b7 (c7 (d7 h)))
    omega
   ·have:=d52 h;omega
  ·by_cases h:(readR aE (readR aT (readR aO (readR aL l k).l (readR aL l k).k).l (readR aO (readR aL l k).l (readR aL l k).k).k).l (readR aT (readR aO (readR aL l k).l (readR aL l k).k).l (readR aO (readR aL l k).l (readR aL l k).k).k).k).k=0
   ·have:=d51 h;omega
   ·have:=d52 h;omega
 exact ⟨fun l k h1 h2=>(key l k h1 h2).1,fun l k h1 h2=>(key l k h1 h2).2.1,fun l k h1 h2=>(key l k h1 h2).2.2⟩
theorem part_body (p:P2):((innerX p).map elB).flatten=putL 6 (putM p.1)++(putL 12 p.2++[]):=by simp [innerX,elB]
def GoodR (p:P2):Prop:=GoodP p∧(putM p.1).length≤65530∧(((innerX p).map elB).flatten).length≤65530
theorem part_fb:StepFB partSp partB GoodR:=by
 refine ⟨fun ls p r h=>?_,fun ls x k h=>?_,fun p _=>elB_pos _⟩
 ·obtain ⟨⟨h1,h2⟩,h3,h4⟩:=h
  have h5:=asked_len h2
  obtain ⟨e1,e2,_⟩:=enter_fwd ls (t:=48) (b:=((innerX p).map elB).flatten) r (by decide) h4
  obtain ⟨f1,f2⟩:=read_enter aL rfl (ls++[partB p++r]) 0
  have g1:(readR aL (ls++[partB p++r]) 0).l=ls++[r]++[putL 6 (putM p.1)++(putL 12 p.2++[])]:=by rw [f1,← part_body];exact e1
  have g2:(readR aL (ls++[partB p++r]) 0).k=0:=f2.trans e2
  have hpm:putM p.1=putA (parseM p.1).1:=by unfold putM;rw [if_pos h1]
  have hO:saidM aO (putM p.1)=(vT p.1,0):=by rw [said_O,hpm,get_of_put h1]
  have hT:saidM aT p.2=(vT p.2,0):=by rw [said_T,h2,if_pos rfl]
  have g3:=read_fwd aO (ls++[r]) (b:=putM p.1) (putL 12 p.2++[]) (by decide) h3 (by rw [hO])
  have g4:=read_fwd aT (ls++[r]) (b:=p.2) [] (by decide) (by omega) (by rw [hT])
  have g5:=leave_fwd (ls:=ls++[r]) (by simp)
  obtain ⟨g6,g7⟩:=read_leave aE rfl (ls++[r]++[[]]) 0
  have tO:tagA aO=6:=rfl
  have tT:tagA aT=12:=rfl
  rw [tO] at g3
  rw [tT] at g4
  unfold partSp
  dsimp only
  rw [g1,g2,g3]
  dsimp only
  rw [g4]
  dsimp only
  rw [g6,g7,g5.1,g5.2,hO,hT]
  rfl
 ·have hk4:(readR aE (readR aT (readR aO (readR aL (ls++[x]) k).l (readR aL (ls++[x]) k).k).l (readR aO (readR aL (ls++[x]) k).l (readR aL (ls++[x]) k).k).k).l (readR aT (readR aO (readR aL (ls++[x]) k).l (readR aL (ls++[x]) k).k).l (readR aO (readR aL (ls++[x]) k).l (readR aL (ls++[x]) k).k).k).k).k=0:=h
  have len1:0<(readR aL (ls++[x]) k).l.length:=by
   obtain ⟨a1,a2,a3,a4,_⟩:=read_mu aL (l:=ls++[x]) (k:=k) (by simp)
   obtain ⟨a41,a42⟩:=a4 rfl
   by_cases h:(readR aL (ls++[x]) k).k=0
   ·rw [a41 h];omega
   ·rw [a42 h];simp
  obtain ⟨_,_,_,_,_,b6,b7⟩:=read_mu aO (l:=(readR aL (ls++[x]) k).l) (k:=(readR aL (ls++[x]) k).k) len1
  have b6':=b6 (by decide) (by decide)
  obtain ⟨_,_,_,_,_,c6,c7⟩:=read_mu aT (l:=(readR aO (readR aL (ls++[x]) k).l (readR aL (ls++[x]) k).k).l) (k:=(readR aO (readR aL (ls++[x]) k).l (readR aL (ls++[x]) k).k).k) (by omega)
  have c6':=c6 (by decide) (by decide)
  obtain ⟨_,_,_,_,_,_,d7⟩:=read_mu aE (l:=(readR aT (readR aO (readR aL (ls++[x]) k).l (readR aL (ls++[x]) k).k).l (readR aO (readR aL (ls++[x]) k).l (readR aL (ls++[x]) k).k).k).l) (k:=(readR aT (readR aO (readR aL (ls++[x]) k).l (readR aL (ls++[x]) k).k).l (readR aO (readR aL (ls++[x]) k).l (readR aL (ls++[x]) k).k).k).k) (by omega)
  have hk3:=d7 hk4
  have hk2:=c7 hk3
  have hk1:=b7 hk2
  obtain ⟨f1,f2⟩:=read_enter aL rfl (ls++[x]) k
  obtain ⟨hk0,b,r,e1,e2,e3,e4⟩:=enter_back (t:=48) (by decide) (show (enterR 48 (ls++[x]) k).k=0 from f2.symm.trans hk1)
  have g1:(readR aL (ls++[x]) k).l=ls++[r]++[b]:=f1.trans e3
  rw [g1,hk1] at hk2 hk3 hk4
  obtain ⟨_,o,r2,o1,o2,o3,o4⟩:=read_back (a:=aO) (by decide) hk2
  rw [o4] at hk3 hk4
  obtain ⟨_,t,r3,t1,t2,t3,t4⟩:=read_back (a:=aT) (by decide) hk3
  rw [t4] at hk4
  obtain ⟨f3,f4⟩:=read_leave aE rfl (ls++[r]++[r3]) 0
  dsimp only at hk4
  rw [f4] at hk4
  obtain ⟨_,u1,u2,u3⟩:=leave_back hk4
  subst u1
  have o3':(ogetM o).2=0:=o3
  have t3':askedM t 64=0:=t3
  obtain ⟨q1,q2⟩:=oget_canon o3'
  have hO:(saidM aO o).1.t=(ogetM o).1:=rfl
  have hT:(saidM aT t).1.t=t:=by rw [said_T];show (if askedM t 64=0 then t else [])=t;rw [if_pos t3']
  have hb:b=((innerX ((ogetM o).1,t)).map elB).flatten:=by
   rw [part_body,o1,t1]
   show putL 6 o++(putL 12 t++[])=putL 6 (putM (ogetM o).1)++_
   rw [q1]
  refine ⟨hk0,((ogetM o).1,t),r,⟨⟨q2,t3'⟩,by rw [q1];exact o2,by rw [← hb];exact e2⟩,?_,?_⟩
  ·rw [e1,hb];rfl
  ·unfold partSp
   dsimp only
   rw [g1,hk1,o4]
   dsimp only
   rw [t4]
   dsimp only
   rw [f3,f4,u3,hk4,hO,hT]
def endP (l:List (List UInt8)) (k:Nat):List (List UInt8)×Nat:=endG partSp (enterL 48 l k) (enterR 48 l k).k 8
def listP (l:List (List UInt8)) (k:Nat):List P2:=(stG partSp (enterL 48 l k) (enterR 48 l k).k (jG partSp (enterL 48 l k) (enterR 48 l k).k 8)).2
def getS (l:List (List UInt8)) (k:Nat):(List (List UInt8)×Nat)×S3 :=
 if (endP l k).2≠0 then (endP l k,zeroS) else (((endP l k).1,(ofP (listP l k)).2),(ofP (listP l k)).1)
def readS (b:List UInt8):S3×Nat :=
 let g:=getS [b] (depthM b).2
 if endK g.1.1 g.1.2≠0 then (zeroS,endK g.1.1 g.1.2) else (g.2,0)
theorem parts_enc (s:S3):((partsS s).map partB).flatten=(((partsS s).map partX).map elB).flatten:=by rw [List.map_map];rfl
theorem good_R {p:P2} (h:GoodP p) (h1:p.1.length≤300):GoodR p:=by
 obtain ⟨l1,l2,l3⟩:=part9_len h h1
 exact ⟨h,by omega,by omega⟩
theorem getS_fwd {s:S3} (h:rightS s=true) (ls:List (List UInt8)) (r:List UInt8):getS (ls++[subB s++r]) 0=((ls++[r],0),s):=by
 obtain ⟨h1,h2⟩:=good_parts h
 obtain ⟨l1,l2⟩:=sub_len h
 have e:subB s=putL 48 ((partsS s).map partB).flatten:=by rw [parts_enc];rfl
 obtain ⟨r1,r2⟩:=row_fwd part_ok part_fb (tag:=48) (most:=8) ls (xs:=partsS s) r (by decide) (fun p hp=>good_R (h1 p hp).1 (by have:=(h1 p hp).2.1;omega)) (by omega) (by rw [parts_enc];omega)
 rw [← e] at r1 r2
 have hE:endP (ls++[subB s++r]) 0=(ls++[r],0):=r1
 have hL:listP (ls++[subB s++r]) 0=partsS s:=r2
 have ho:ofP (partsS s)=(s,0):=(ofP_iff _ _).2 ⟨h,rfl⟩
 unfold getS
 rw [hE,hL,ho,if_neg (by simp)]
theorem getS_back {ls:List (List UInt8)} {x:List UInt8} {k:Nat} (h:(getS (ls++[x]) k).1.2=0):k=0∧∃ s r,rightS s=true∧x=subB s++r∧getS (ls++[x]) k=((ls++[r],0),s):=by
 unfold getS at h ⊢
 by_cases h0:(endP (ls++[x]) k).2≠0
 ·rw [if_pos h0] at h;exact absurd h h0
 ·rw [if_neg h0] at h ⊢
  obtain ⟨hk,xs,r,g1,g2,g3,g4,g5,g6⟩:=row_back part_ok part_fb (tag:=48) (most:=8) (k:=k) ls x (by decide) (by exact Classical.not_not.1 h0)
  have hE:endP (ls++[x]) k=(ls++[r],0):=g5
  have hL:listP (ls++[x]) k=xs:=g6
  rw [hE,hL] at h ⊢
  dsimp only at h ⊢
  have ho:ofP xs=((ofP xs).1,0):=Prod.ext rfl h
  obtain ⟨hr,hp⟩:=(ofP_iff _ _).1 ho
  refine ⟨hk,(ofP xs).1,r,hr,?_,by rw [h]⟩
  have hsb:subB (ofP xs).1=putL 48 (xs.map partB).flatten:=by
   show putL 48 (((partsS (ofP xs).1).map partX).map elB).flatten=_
   rw [← parts_enc,hp]
  rw [g4,hsb]
end
section
variable {gs:List Nat} [OkG gs]
end
section
variable {gs:List Nat} [Ok9 gs]
open Go.RowKit Cal

def valF (v:VV):Nat→CV:=fl [.c (.int .i64 v.kind),.c (.int .i64 v.n),.c (.bool v.is),bsC v.b,strC v.t]
def vsC (vs:List VV):CV:=.rs 5 vs.length fun i j=>valF (vs.getD i VV.none) j
def bigV (v:VV):Bool:=decide (300<v.b.length) || decide (300<v.t.length)
def longM (vs:List VV):Bool:=decide (60<vs.length) || vs.any bigV
def r0W:R8:=⟨[],[],0⟩
theorem newRW {G:Gh} {env:List (Nat×CV)} {b0:Nat→CV} {H:List (Option Nat×Res)} (n i:Nat) {f:Nat→CV} (hi:H[i]?=some (some n,.blk 3 f)) (h0:CEnt (f 0) (.c (.slice none 0 0))) (h1:CEnt (f 1) (.c (.slice none 0 0))) (h2:CEnt (f 2) (.c (.int .i64 0))):EntS G ⟨env,b0,H⟩ ⟨env,b0,H.set i (rwO n r0W)⟩:=by
 have hil:=(List.getElem?_eq_some_iff.1 hi).1
 have os0:∀ {j k:Nat},CEnt (.c (.slice none 0 0)) (.os j none 0 0 k):=fun al St w v h=>⟨rfl,h⟩
 intro St a w hr
 obtain ⟨S1,s1,r1⟩:=ent_none (G:=G) (s:=⟨env,b0,H⟩) (rowsF []) St a w hr
 obtain ⟨S4,s4,r4⟩:=closeRW (G:=G) (env:=env) (b0:=b0) (H:=H++[(none,.blk 0 (rowsF []))]) n r0W i H.length (gr:=none) (N:=0) (f:=f) (F:=rowsF [])
  (by rw [List.getElem?_append_left hil];exact hi) (by simp) (by cases e:Nat.beq i H.length with|false=>rfl|true=>have:=Nat.eq_of_beq_eq_true e;omega) (h0.trans (CEnt.nilS _ _)) (h1.trans os0) h2 (Nat.le_refl _) (fun a h=>absurd h (Nat.not_lt_zero a)) S1 a w r1
 obtain ⟨S5,s5,r5⟩:=pick_ent (G:=G) (H':=H.set i (rwO n r0W)) (List.range H.length) (range_nodup _) (by
  rw [pickL_range _ _ (by simp)]
  rw [take_set_out _ _ _ _ (by omega),List.take_set,List.take_left]) S4 a w r4
 exact ⟨S5,fun b hb=>s5 b (s4 b (s1 b hb)),r5⟩
end
section
section
variable {P:Program} {G:Gh} {o:Oper} {env:List (Nat×CV)} {b0:Nat→CV} {H:List (Option Nat×Res)} {K:AS→Prop}
theorem m_callHV1 {f:FuncId} {v:Operand} {n d:Nat} {fv:Nat→CV} {xs:Array Operand} {ats:Array TypeId} {args:List CV} {Q:CV→List (Option Nat×Res)→Prop} {i:Nat} {x0:Option Nat×Res} (ho:o.op=.call ⟨.value v,xs,ats⟩) (hv:(⟨env,b0,H⟩:AS).eval v=.fn f n fv) (hc:calleeB P f=true) (hi:H[i]?=some x0) (hA:AC G.gs P f [x0] args Q)
  (he:EntL (xs.toList.map (⟨env,b0,H⟩:AS).eval++(List.range n).map fv) args) (hd:o.dst=some d) (hN:Nat.blt d G.N=true)
  (hK:∀ r H',Q r H'→∃ x,H'=[x]∧K ⟨(d,r)::env,b0,H.set i x⟩):AMd P G o ⟨env,b0,H⟩ K :=
 m_callHV ho hv hc hi hA he (dst_s hd hN) (fun r H' hq=>by obtain ⟨x,h1,h2⟩:=hK r H' hq;exact ⟨x,h1,by rw [with_some hd];exact h2⟩)
end
end
section
variable {gs:List Nat} [OkG gs] [OkT gs]
open Go.RowKit Cal

def partV (p:P2):CV:=.agg 2 (partE p)
set_option maxHeartbeats 1000000 in
theorem rowsP_ac {gs:List Nat} [Ok9 gs] {f:FuncId} (hc:calleeB Tryz.prog f=true) (n:Nat) (tag:Int) (ws:W8) (l:List P2) (sG:Nat→W8) (h0:OkW ws) (hs:sG 0=openW tag ws) (hok:∀ i,i≤l.length→OkW (sG i)) (hl:l.length≤1000000) (hf:∀ i,i<l.length→AC gs Tryz.prog f [wrO n (sG i)] [.op 0 (some n) 0,partV (l.getD i ([],[]))] (fun r H'=>r=.c (.tuple #[])∧H'=[wrO n (sG (i+1))])) :
  AC gs Tryz.prog 171 [wrO n ws] [.op 0 (some n) 0,.c (.int .i64 tag),partsC l,.fn f 0 fun _=>.top] (fun r H'=>r=.c (.tuple #[])∧H'=[wrO n (closeV (sG l.length))]):=by
 refine ac_of 26 Tryz.func171 rfl rfl rfl (fun al w0 F0 St0=>?_)
 refine jU 116 ?_
 refine jqm (jmcH 0 (openW_ac n ws tag h0) ?_)
 rintro _ _ ⟨rfl,rfl⟩
 refine ⟨_,_,rfl,cZ,?_⟩
 refine jU 205131675 ?_;refine l_loop (α:=Nat) [9,15,16,17,18,19,20,21,22,23] (fun i=>[(15,.c (.int .i64 (i:Nat)))]) (fun i=>[wrO n (sG i)]) (fun i=>i≤l.length) (fun i=>l.length-i) (0) ?_ (fun _=>rfl) ?_ ?_ ?_
 ·exact Nat.zero_le _
 ·exact .cons cZ .nil
 ·rw [hs];exact HEnt.refl _
 ·rintro i (hi:i≤l.length)
  refine jU 7526 ?_;refine jcc (fun h305=>?_) fun h305=>?_
  rotate_left
  ·refine jU 84000200020006000 ?_
   have hie:i=l.length:=by omega
   subst hie
   refine jU 1200 ?_
   refine jqm (jmcH 0 (closeW_ac n (sG l.length) (hok _ (Nat.le_refl _))) ?_)
   rintro _ _ ⟨rfl,rfl⟩
   refine ⟨_,_,rfl,cZ,?_⟩
   refine jU 5 ?_
   exact end_own (.inr rfl) _ [_] [0] (by decide) rfl (res_0 rfl) ⟨rfl,rfl⟩
  refine jU 7006207810 ?_;refine jq (jrdrA 2) ?_
  refine jqe (jeal (n:=2) zr212 rfl fun p2=>?_)
  refine jqm (jmstF 2 (partE (l.getD i ([],[]))) ?_ ?_)
  ·exact (fun j hj=>by rcases j with _|_|j <;> first|exact cZ|omega)
  refine jU 112005 ?_;refine jqo (jrdoA 2) ?_
  refine jqm (m_callHV1 (i:=0) rfl rfl (by assumption) rfl (hf i (by omega)) (.cons cP (.cons (CEnt.agg rfl (fun j hj=>CEnt.of_eq (by show partE _ (0+j)=partE _ j;rw [Nat.zero_add]))) .nil)) rfl rfl ?_)
  rintro _ _ ⟨rfl,rfl⟩
  refine ⟨_,rfl,?_⟩
  refine jU 851920084005 ?_
  refine jlend (i+1) ?_ ?_ (h5:=?_) (h7:=?_)
  ·show i+1≤l.length;omega
  ·show l.length-(i+1)<l.length-i;omega
  ·exact .cons (cI (by omega)) .nil
  ·exact HEnt.refl _
theorem putP_ac (n:Nat) {i:Nat} {r:R8} {s:W8} (hI:Inv8 i r s) (hi:i≤900) (p:P2) (h1:p.1.length≤300) (h2:p.2.length≤300):AC gs Tryz.prog 172 [wrO n s] [.op 0 (some n) 0,partV p] (fun r H'=>r=.c (.tuple #[])∧H'=[wrO n (doAll (pv p) s)]):=by
 have I1:=inv_do hI (small_w1 (t:=48) (by decide))
 rw [do_w1] at I1
 have I2:=inv_do I1 (small_v8 h1)
 rw [do_v8] at I2
 have I3:=inv_do I2 (small_v7 h2)
 rw [do_v7] at I3
 have hD:doAll (pv p) s=closeV (putW 12 (if askedM p.2 64=0 then p.2 else []) (askedM p.2 64) (putW 6 (putM p.1) (parseM p.1).2 (openW 48 s))):=by
  show doW w2 (doW (v7 p.2 64) (doW (v8 p.1) (doW (w1 48) s)))=_
  rw [do_w1,do_v8,do_v7,do_w2]
 refine ac_of 16 Tryz.func172 rfl rfl rfl (fun al w0 F0 St0=>?_)
 refine jcr ?_
 refine jqe (jebx 2 fun p1=>?_)
 refine jU 165 ?_
 refine jqm (jmcH 0 (openW_ac n s 48 (inv_okW hI (by omega))) ?_)
 rintro _ _ ⟨rfl,rfl⟩
 refine ⟨_,_,rfl,cZ,?_⟩
 refine jU 5090165 ?_
 refine jqm (jmcH 0 (oidW_ac n (openW 48 s) p.1 (by omega) (inv_okW I1 (by omega))) ?_)
 rintro _ _ ⟨rfl,rfl⟩
 refine ⟨_,_,rfl,cZ,?_⟩
 refine jU 50100165 ?_
 refine jqm (jmcH 0 (textW_ac n (putW 6 (putM p.1) (parseM p.1).2 (openW 48 s)) p.2 64 (by omega) (inv_okW I2 (by omega))) ?_)
 rintro _ _ ⟨rfl,rfl⟩
 refine ⟨_,_,rfl,cZ,?_⟩
 refine jU 12005 ?_
 refine jqm (jmcH 0 (closeW_ac n (putW 12 (if askedM p.2 64=0 then p.2 else []) (askedM p.2 64) (putW 6 (putM p.1) (parseM p.1).2 (openW 48 s))) (inv_okW I3 (by omega))) ?_)
 rintro _ _ ⟨rfl,rfl⟩
 refine ⟨_,_,rfl,cZ,?_⟩
 refine jU 5 ?_
 rw [hD]
 exact end_own (.inr rfl) _ [_] [0] (by decide) rfl (res_0 rfl) ⟨rfl,rfl⟩
theorem putG_ac (n:Nat) {i:Nat} {r:R8} {w:W8} (hI:Inv8 i r w) (hi:i≤800) (s:S3) (L:List P2) (e:Nat) (hp:ACp gs Tryz.prog 170 [subjC s] (.tup 2 (fl [partsC L,.err e]))) (hL:∀ p ∈ L,p.1.length≤300∧p.2.length≤300) (hl:L.length≤8) :
  AC gs Tryz.prog 99 [wrO n w] [.op 0 (some n) 0,subjC s] (fun r H'=>r=.c (.tuple #[])∧H'=[wrO n (closeV (doAll (L.flatMap pv) (openW 48 (failW e w))))]):=by
 have I0:=inv_fail hI e
 have I1:=inv_do I0 (small_w1 (t:=48) (by decide))
 rw [do_w1] at I1
 have hG:∀ j,j≤L.length→∃ r',Inv8 (i+1+4 * j) r' (doAll ((L.take j).flatMap pv) (openW 48 (failW e w))):=fun j hj=>by
  refine ⟨_,inv_mono (inv_all ((L.take j).flatMap pv) I1 fun v hv=>?_) ?_⟩
  ·obtain ⟨p,hp,hv⟩:=List.mem_flatMap.1 hv
   have h:=hL p (List.mem_of_mem_take hp)
   exact small_pv h.1 h.2 v hv
  ·rw [pvs_len,List.length_take];omega
 have hS:∀ j,j<L.length→doAll ((L.take (j+1)).flatMap pv) (openW 48 (failW e w))=doAll (pv (L.getD j ([],[]))) (doAll ((L.take j).flatMap pv) (openW 48 (failW e w))):=fun j hj=>by
  rw [List.take_succ_eq_append_getElem hj,List.flatMap_append,doAll_app,List.getD_eq_getElem?_getD,List.getElem?_eq_getElem hj]
  simp
 have hok:∀ j,j≤L.length→OkW (doAll ((L.take j).flatMap pv) (openW 48 (failW e w))):=fun j hj=>by
  obtain ⟨r',h⟩:=hG j hj
  exact inv_okW h (by omega)
 have hf:∀ j,j<L.length→AC gs Tryz.prog 172 [wrO n (doAll ((L.take j).flatMap pv) (openW 48 (failW e w)))] [.op 0 (some n) 0,partV (L.getD j ([],[]))] (fun r H'=>r=.c (.tuple #[])∧H'=[wrO n (doAll ((L.take (j+1)).flatMap pv) (openW 48 (failW e w)))]):=fun j hj=>by
  obtain ⟨r',h⟩:=hG j (by omega)
  have hm:L.getD j ([],[]) ∈ L:=by
   rw [List.getD_eq_getElem?_getD,List.getElem?_eq_getElem hj]
   exact List.getElem_mem _
  rw [hS j hj]
  exact putP_ac n h (by omega) _ (hL _ hm).1 (hL _ hm).2
 have hR:=rowsP_ac (gs:=gs) (f:=172) (by kernel_rfl) n 48 (failW e w) L (fun j=>doAll ((L.take j).flatMap pv) (openW 48 (failW e w))) (inv_okW I0 (by omega)) rfl hok (by omega) hf
 rw [List.take_length] at hR
 refine ac_of 17 Tryz.func99 rfl rfl rfl (fun al w0 F0 St0=>?_)
 refine jcr ?_
 refine jqe (jebx 3 fun p1=>?_)
 refine jU 65 ?_;refine jqo (jrdoA 3) ?_
 refine jqe (jecP hp ?_)
 refine jU 1165119009001 ?_
 refine jqm (jmcH 0 (failW_ac n w e) ?_)
 rintro _ _ ⟨rfl,rfl⟩
 refine ⟨_,_,rfl,cZ,?_⟩
 refine jU 112005 ?_
 refine jqm (jmcH 0 hR ?_ (ho:=rfl) (he:=(.cons (se rfl cP) (.cons (se rfl cZ) (.cons (se rfl cZ) (.cons (se rfl CEnt.fn0) .nil))))))
 rintro _ _ ⟨rfl,rfl⟩
 refine ⟨_,_,rfl,cZ,?_⟩
 refine jU 5 ?_
 exact end_own (.inr rfl) _ [_] [0] (by decide) rfl (res_0 rfl) ⟨rfl,rfl⟩
theorem nput_ac (n:Nat) {i:Nat} {r:R8} {w:W8} (hI:Inv8 i r w) (hi:i≤800) (s:S3):AC gs Tryz.prog 99 [wrO n w] [.op 0 (some n) 0,subjC s] (fun r H'=>r=.c (.tuple #[])∧H'=[wrO n (putS s w)]):=by
 have hp:=nparts_ac (gs:=gs) s
 by_cases hr:rightS s=true
 ·rw [if_pos hr,if_pos hr] at hp
  obtain ⟨h1,h2⟩:=good_parts hr
  have h:=putG_ac n hI hi s _ _ hp (fun p hp=>by have:=h1 p hp;omega) (by omega)
  have e:putS s w=closeV (doAll ((partsS s).flatMap pv) (openW 48 (failW 0 w))):=by
   unfold putS
   rw [if_pos hr,failW_zero]
   show doAll ((partsS s).flatMap pv++[w2]) (doW (w1 48) w)=_
   rw [do_w1,doAll_app]
   exact do_w2 _
  rw [e]
  exact h
 ·rw [if_neg hr,if_neg hr] at hp
  have h:=putG_ac n hI hi s _ _ hp (fun p hp=>by cases hp) (by decide)
  have hk:(failW 9 w).k≠0:=by
   unfold failW
   split
   ·show (9:Nat)≠0;decide
   ·assumption
  have e:putS s w=closeV (doAll (([]:List P2).flatMap pv) (openW 48 (failW 9 w))):=by
   unfold putS
   rw [if_neg hr]
   show _=closeV (openW 48 (failW 9 w))
   rw [← do_w1,← do_w2,doW_bad8 hk,doW_bad8 hk]
  rw [e]
  exact h
def r00:R8:=⟨[],[],0⟩
theorem inv_00:Inv8 0 r00 w00:=inv_zero
end
section
variable {gs:List Nat} [OkG gs] [OkT gs]
open Go.RowKit Cal

set_option maxHeartbeats 2000000 in
theorem rowP_ac {gs:List Nat} [Ok9 gs] {f:FuncId} (hc:calleeB Tryz.prog f=true) (n:Nat) (l:List (List UInt8)) (k:Nat) (tag most:Int) {sp:StepR P2} (ok:StepOk sp) (hl:0<l.length∧l.length≤100000) (hb:sumL l≤100000) (hf:∀ l k,0<l.length∧l.length≤200000→sumL l≤100000→moreM l k=true→AC gs Tryz.prog f [rdO n l k] [.op 0 (some n) 0] (fun r H'=>r=partV (sp l k).2∧H'=[rdO n (sp l k).1.1 (sp l k).1.2])) :
  AC gs Tryz.prog 188 [rdO n l k] [.op 0 (some n) 0,.c (.int .i64 tag),.c (.int .i64 most),.fn f 0 fun _=>.top]
   (fun r H'=>r=partsC (if (endG sp (enterL tag l k) (enterR tag l k).k most).2=0 then (stG sp (enterL tag l k) (enterR tag l k).k (jG sp (enterL tag l k) (enterR tag l k).k most)).2 else [])∧H'=[rdO n (endG sp (enterL tag l k) (enterR tag l k).k most).1 (endG sp (enterL tag l k) (enterR tag l k).k most).2]):=by
 have he:=enter_mu (t:=tag) (l:=l) (k:=k) hl.1
 have hle:l.length≤(enterL tag l k).length∧(enterL tag l k).length≤l.length+1:=by
  by_cases h:(enterR tag l k).k=0
  ·have:=he.2.2.2.1 h;omega
  ·have:=he.2.2.2.2.1 h;omega
 have hsm:muS (enterL tag l k) (enterR tag l k).k≤100001:=by
  have h0:muS l k≤100001:=by unfold muS;split <;> omega
  exact Nat.le_trans he.2.1 h0
 have hse:sumL (enterL tag l k)≤100000:=by
  have h1:=he.2.1
  have h2:=he.2.2.1
  have h3:=he.1
  by_cases hk:k=0
  ·have h4:=h2 hk
   unfold muS at h4
   rw [if_pos hk] at h4
   split at h4 <;> omega
  ·rw [(h3 hk).1];exact hb
 have hnl:=now_sum l
 generalize hl0:enterL tag l k=l0 at *
 generalize hk0:(enterR tag l k).k=k0 at *
 have hso:=fun j=>stG_out sp l0 k0 j
 have hbd:=stG_bd (sp:=sp) (k0:=k0) (most:=most) ok (show 0<l0.length by omega)
 refine ac_of 36 Tryz.func188 rfl rfl rfl (fun al w0 F0 St0=>?_)
 refine jU 116516516 ?_
 refine jqm (jmcH 0 (enter_ac n l k tag (by omega) (by omega)) ?_)
 rintro _ _ ⟨rfl,rfl⟩
 refine ⟨_,_,rfl,cZ,?_⟩
 refine jU 2075 ?_
 rw [hl0,hk0]
 refine jE (own_nil 9 2 (rowF 2 partE ([],[]) []) rfl) ?_;refine l_loop (α:=Nat×Option Nat) [9,13,14,15,16,17,18,19,20,21,22,23,24,25,26,27] (fun (j,g)=>[(9,.os 1 g 0 (stG sp l0 k0 j).2.length 2)]) (fun (j,g)=>[rdO n (stG sp l0 k0 j).1.1 (stG sp l0 k0 j).1.2,(g,.blk ((stG sp l0 k0 j).2.length * 2) (rowF 2 partE ([],[]) (stG sp l0 k0 j).2))]) (fun p=>∀ i,i<p.1→goB sp l0 k0 most i=true) (fun p=>muS (stG sp l0 k0 p.1).1.1 (stG sp l0 k0 p.1).1.2) ((0,none)) ?_ (fun _=>rfl) ?_ ?_ ?_
 ·exact fun i hi=>absurd hi (Nat.not_lt_zero i)
 ·exact .cons (cO rfl) .nil
 ·exact HEnt.refl _
 ·rintro ⟨j,g⟩ (hj:∀ i,i<j→goB sp l0 k0 most i=true)
  obtain ⟨hmj,hlk,hlo,hhi⟩:=hbd j hj
  have hjl:0<(stG sp l0 k0 j).1.1.length∧(stG sp l0 k0 j).1.1.length≤200000:=by omega
  have hjo:=hso j
  have hjm:j≤100001:=by omega
  refine jU 167 ?_
  refine jqm (jmcH 0 (more_ac n (stG sp l0 k0 j).1.1 (stG sp l0 k0 j).1.2 (by omega)) ?_)
  rintro _ _ ⟨rfl,rfl⟩
  refine ⟨_,_,rfl,cZ,?_⟩
  refine jU 5 ?_;refine jcc (fun h315=>?_) fun h315=>?_
  rotate_left
  ·refine jU 84000200020006000 ?_
   first
    |(have hmt:moreM (stG sp l0 k0 j).1.1 (stG sp l0 k0 j).1.2=true:=by simpa using h315
      have hkz:=(more_pos hmt).1
      rw [if_pos hkz]
      have hstop:jG sp l0 k0 most=j:=jG_one ok (by omega) hj (by unfold goB;rw [hmt,Bool.true_and,decide_eq_false_iff_not];omega)
      have hE:rdO n (leaveL (stG sp l0 k0 j).1.1 3) (leaveK (stG sp l0 k0 j).1.1 3)=rdO n (endG sp l0 k0 most).1 (endG sp l0 k0 most).2:=by
       unfold endG
       rw [hstop]
       dsimp only
       rw [if_pos hmt])
    |(have hmf:moreM (stG sp l0 k0 j).1.1 (stG sp l0 k0 j).1.2=false:=by simpa using h315
      have hstop:jG sp l0 k0 most=j:=jG_one ok (by omega) hj (by unfold goB;rw [hmf];rfl)
      have hE:rdO n (leaveL (stG sp l0 k0 j).1.1 (stG sp l0 k0 j).1.2) (leaveK (stG sp l0 k0 j).1.1 (stG sp l0 k0 j).1.2)=rdO n (endG sp l0 k0 most).1 (endG sp l0 k0 most).2:=by
       unfold endG
       rw [hstop]
       dsimp only
       rw [if_neg (by rw [hmf];simp)])
   refine jU 16 ?_
   refine jqm (jmcH 0 (leave_ac n (stG sp l0 k0 j).1.1 _ (by omega)) ?_)
   rintro _ _ ⟨rfl,rfl⟩
   refine ⟨_,_,rfl,cZ,?_⟩
   refine jU 75 ?_
   dsimp only
   rw [hE,hstop]
   refine code_openR 0 rfl fun gl=>?_;refine jU 5500000501004016 ?_;refine jcc (fun h323=>?_) fun h323=>?_
   ·refine jE (closeR n (endG sp l0 k0 most).2 (endG sp l0 k0 most).1 0 2 rfl rfl rfl (cO rfl) cZ (Nat.le_refl _) (fun _ _=>cZ)) ?_;refine jU 30007000516 ?_
    exact end_ownV (.inl rfl) [0] (by decide) rfl (res_1 rfl (arv_tmp rfl)) (m:=partsC []) (CEnt.nilS' rfl) ⟨by rw [if_neg (by omega)],rfl⟩
   refine jU 810 ?_;refine jE (closeR n (endG sp l0 k0 most).2 (endG sp l0 k0 most).1 0 2 rfl rfl rfl (cO rfl) cZ (Nat.le_refl _) (fun _ _=>cZ)) ?_;refine jU 5116 ?_;refine jE (freeze 1 rfl) ?_;refine jE (thaw 8 (fun a b=>partE ((stG sp l0 k0 j).2.getD a ([],[])) b) rfl rfl (by omega) (fun a b ha hb=>CEnt.of_eq (by rw [Nat.zero_add,rowF_at hb]))) ?_;refine jU 7000 ?_
   exact end_ownV (.inl rfl) [0] (by decide) rfl (res_1 rfl (arv_tmp rfl)) (m:=partsC (stG sp l0 k0 j).2) cZ ⟨by rw [if_pos (by omega)],rfl⟩
  refine jU 521316720810 ?_;refine jcc (fun h316=>?_) fun h316=>?_
  rotate_left
  ·refine jU 810 ?_
   have hmt0:moreM (stG sp l0 k0 j).1.1 (stG sp l0 k0 j).1.2=true:=by simpa using h315
   have hgo:goB sp l0 k0 most j=true:=by unfold goB;rw [hmt0,Bool.true_and,decide_eq_true_eq];omega
   refine jU 111200 ?_
   refine jqm (m_callHV1 (i:=0) rfl rfl (by assumption) rfl (hf (stG sp l0 k0 j).1.1 (stG sp l0 k0 j).1.2 hjl (by have h1:muS (stG sp l0 k0 j).1.1 (stG sp l0 k0 j).1.2=sumL (stG sp l0 k0 j).1.1+1:=(by unfold muS;rw [if_pos (more_pos hmt0).1]);omega) hmt0) (.cons cP .nil) rfl rfl ?_)
   rintro _ _ ⟨rfl,rfl⟩
   refine ⟨_,rfl,?_⟩
   refine jqe (jebl 2 2 zr212 fun p3=>?_)
   refine jqm (m_appendC (rowC_row 2 partE ([],[])) (l2:=[(sp (stG sp l0 k0 j).1.1 (stG sp l0 k0 j).1.2).2]) rfl rfl rfl rfl (by exact Nat.le_refl _) (fun _ _=>cZ) (src_os rfl (.inl rfl) (by decide)) rfl (fun j hj=>by rcases j with _|_|j <;> first|exact cZ|(exfalso;simp at hj <;> omega)) Tryz.underlying210 nu210 sz212 zr212 by212 rfl (by (simp;omega)) (by (simp;omega)) (leaf_flk rfl rfl) rfl rfl rfl (fun p4=>?_))
   refine jU 840051 ?_
   refine jlend ((j+1,p4)) ?_ ?_ (h5:=?_) (h7:=?_)
   ·exact fun i hi=>if h:i<j then hj i h else (by obtain rfl:i=j:=(by have hi:i<j+1:=hi;omega);exact hgo)
   ·exact ok.mu _ _ (by omega) (by unfold goB at hgo;rw [Bool.and_eq_true] at hgo;exact hgo.1)
   ·exact .cons (cO rfl) .nil
   ·exact HEnt.refl _
  refine jU 16 ?_;refine jq (jrde 2) ?_
  refine jqm (jmcH 0 (fail08_ac n (stG sp l0 k0 j).1.1 (stG sp l0 k0 j).1.2 3) ?_)
  rintro _ _ ⟨rfl,rfl⟩
  refine ⟨_,_,rfl,cZ,?_⟩
  refine jU 84000200080000200060005 ?_
  first
   |(have hmt:moreM (stG sp l0 k0 j).1.1 (stG sp l0 k0 j).1.2=true:=by simpa using h315
     have hkz:=(more_pos hmt).1
     rw [if_pos hkz]
     have hstop:jG sp l0 k0 most=j:=jG_one ok (by omega) hj (by unfold goB;rw [hmt,Bool.true_and,decide_eq_false_iff_not];omega)
     have hE:rdO n (leaveL (stG sp l0 k0 j).1.1 3) (leaveK (stG sp l0 k0 j).1.1 3)=rdO n (endG sp l0 k0 most).1 (endG sp l0 k0 most).2:=by
      unfold endG
      rw [hstop]
      dsimp only
      rw [if_pos hmt])
   |(have hmf:moreM (stG sp l0 k0 j).1.1 (stG sp l0 k0 j).1.2=false:=by simpa using h315
     have hstop:jG sp l0 k0 most=j:=jG_one ok (by omega) hj (by unfold goB;rw [hmf];rfl)
     have hE:rdO n (leaveL (stG sp l0 k0 j).1.1 (stG sp l0 k0 j).1.2) (leaveK (stG sp l0 k0 j).1.1 (stG sp l0 k0 j).1.2)=rdO n (endG sp l0 k0 most).1 (endG sp l0 k0 most).2:=by
      unfold endG
      rw [hstop]
      dsimp only
      rw [if_neg (by rw [hmf];simp)])
  refine jU 16 ?_
  refine jqm (jmcH 0 (leave_ac n (stG sp l0 k0 j).1.1 _ (by omega)) ?_)
  rintro _ _ ⟨rfl,rfl⟩
  refine ⟨_,_,rfl,cZ,?_⟩
  refine jU 75 ?_
  dsimp only
  rw [hE,hstop]
  refine code_openR 0 rfl fun gl=>?_;refine jU 5500000501004016 ?_;refine jcc (fun h323=>?_) fun h323=>?_
  ·refine jE (closeR n (endG sp l0 k0 most).2 (endG sp l0 k0 most).1 0 2 rfl rfl rfl (cO rfl) cZ (Nat.le_refl _) (fun _ _=>cZ)) ?_;refine jU 30007000516 ?_
   exact end_ownV (.inl rfl) [0] (by decide) rfl (res_1 rfl (arv_tmp rfl)) (m:=partsC []) (CEnt.nilS' rfl) ⟨by rw [if_neg (by omega)],rfl⟩
  refine jU 810 ?_;refine jE (closeR n (endG sp l0 k0 most).2 (endG sp l0 k0 most).1 0 2 rfl rfl rfl (cO rfl) cZ (Nat.le_refl _) (fun _ _=>cZ)) ?_;refine jU 5116 ?_;refine jE (freeze 1 rfl) ?_;refine jE (thaw 8 (fun a b=>partE ((stG sp l0 k0 j).2.getD a ([],[])) b) rfl rfl (by omega) (fun a b ha hb=>CEnt.of_eq (by rw [Nat.zero_add,rowF_at hb]))) ?_;refine jU 7000 ?_
  exact end_ownV (.inl rfl) [0] (by decide) rfl (res_1 rfl (arv_tmp rfl)) (m:=partsC (stG sp l0 k0 j).2) cZ ⟨by rw [if_pos (by omega)],rfl⟩
theorem oidR_ac {gs:List Nat} [Ok9 gs] (n:Nat) (l:List (List UInt8)) (k:Nat) (hl:0<l.length∧l.length≤1000000) (hb:(nowL l).length≤10000000):AC gs Tryz.prog 231 [rdO n l k] [.op 0 (some n) 0] (fun r H'=>r=strC (readR aO l k).v.t∧H'=[rdO n (readR aO l k).l (readR aO l k).k]):=by
 have h:=oid08_ac (gs:=gs) n l k hl hb
 rw [readR_g vT [] rfl (t:=6) (f:=ogetM) (by decide) (by decide) (by decide) (by funext b;rfl) rfl]
 exact h
theorem textR_ac {gs:List Nat} [Ok9 gs] [OkT gs] (n:Nat) (l:List (List UInt8)) (k:Nat) (hl:0<l.length∧l.length≤1000000) (hb:(nowL l).length≤10000000):AC gs Tryz.prog 121 [rdO n l k] [.op 0 (some n) 0,.c (.int .i64 64)] (fun r H'=>r=strC (readR aT l k).v.t∧H'=[rdO n (readR aT l k).l (readR aT l k).k]):=by
 have h:=text08_ac (gs:=gs) n l k 64 hl hb
 rw [readR_g vT [] rfl (t:=12) (f:=fun b=>(if askedM b 64=0 then b else [],askedM b 64)) (by decide) (by decide) (by decide) (by funext b;rfl) rfl]
 exact h
theorem mu_sum {l:List (List UInt8)} {k B:Nat} (h:muS l k≤B):sumL l≤B:=by unfold muS at h;omega
theorem read_bd (a:AA) {l:List (List UInt8)} {k m B:Nat} (hl:0<l.length∧l.length≤m) (hb:muS l k≤B) (h2:a.kind≠2):(0<(readR a l k).l.length∧(readR a l k).l.length≤m+1)∧muS (readR a l k).l (readR a l k).k≤B:=by
 obtain ⟨a1,a2,a3,a4,a5,a6,a7⟩:=read_mu a (l:=l) (k:=k) hl.1
 refine ⟨?_,by omega⟩
 by_cases h1:a.kind=1
 ·obtain ⟨a41,a42⟩:=a4 h1
  by_cases h:(readR a l k).k=0
  ·have:=a41 h;omega
  ·have:=a42 h;omega
 ·have:=a6 h1 h2;omega
theorem now_le {l:List (List UInt8)} {k B:Nat} (h:muS l k≤B):(nowL l).length≤B:=Nat.le_trans (now_sum l) (mu_sum h)
theorem npart_ac {gs:List Nat} [Ok9 gs] [OkT gs] (n:Nat) (l:List (List UInt8)) (k:Nat) (hl:0<l.length∧l.length≤200000) (hb:sumL l≤100000):AC gs Tryz.prog 189 [rdO n l k] [.op 0 (some n) 0] (fun r H'=>r=partV (partSp l k).2∧H'=[rdO n (partSp l k).1.1 (partSp l k).1.2]):=by
 have m0:muS l k≤100001:=by unfold muS;split <;> omega
 obtain ⟨f1,f2⟩:=read_enter aL rfl l k
 obtain ⟨l1,m1⟩:=read_bd aL hl m0 (by decide)
 obtain ⟨l2,m2⟩:=read_bd aO l1 m1 (by decide)
 obtain ⟨l3,m3⟩:=read_bd aT l2 m2 (by decide)
 obtain ⟨f3,f4⟩:=read_leave aE rfl (readR aT (readR aO (readR aL l k).l (readR aL l k).k).l (readR aO (readR aL l k).l (readR aL l k).k).k).l (readR aT (readR aO (readR aL l k).l (readR aL l k).k).l (readR aO (readR aL l k).l (readR aL l k).k).k).k
 have n0:=now_le m0
 have n1:=now_le m1
 have n2:=now_le m2
 have n3:=now_le m3
 have hE:AC gs Tryz.prog 64 [rdO n l k] [.op 0 (some n) 0,.c (.int .i64 48)] (fun r H'=>r=.c (.bool (enterR 48 l k).is)∧H'=[rdO n (readR aL l k).l (readR aL l k).k]):=by
  rw [f1,f2]
  exact enter_ac n l k 48 (by omega) (by omega)
 have hL:=leave_ac (gs:=gs) n (readR aT (readR aO (readR aL l k).l (readR aL l k).k).l (readR aO (readR aL l k).l (readR aL l k).k).k).l (readR aT (readR aO (readR aL l k).l (readR aL l k).k).l (readR aO (readR aL l k).l (readR aL l k).k).k).k (by omega)
 rw [← f3,← f4] at hL
 refine ac_of 14 Tryz.func189 rfl rfl rfl (fun al w0 F0 St0=>?_)
 refine jcr ?_
 refine jqe (jeal (n:=2) zr212 rfl fun p1=>?_)
 refine jU 165 ?_
 refine jqm (jmcH 0 hE ?_)
 rintro _ _ ⟨rfl,rfl⟩
 refine ⟨_,_,rfl,cZ,?_⟩
 refine jU 165 ?_
 refine jqm (jmcH 0 (oidR_ac n (readR aL l k).l (readR aL l k).k (by omega) (by omega)) ?_)
 rintro _ _ ⟨rfl,rfl⟩
 refine ⟨_,_,rfl,cZ,?_⟩
 refine jU 1 ?_
 refine jqm (jmcH 0 (textR_ac n (readR aO (readR aL l k).l (readR aL l k).k).l (readR aO (readR aL l k).l (readR aL l k).k).k (by omega) (by omega)) ?_)
 rintro _ _ ⟨rfl,rfl⟩
 refine ⟨_,_,rfl,cZ,?_⟩
 refine jq (rd_build (n:=2) rfl zr212 pl212 rfl rfl) ?_
 refine jqe (jeal (n:=2) zr212 rfl fun p5=>?_)
 refine jqm (jmst 2 ?_)
 refine jU 165 ?_
 refine jqm (jmcH 0 hL ?_)
 rintro _ _ ⟨rfl,rfl⟩
 refine ⟨_,_,rfl,cZ,?_⟩
 refine jU 65 ?_;refine jqo (jrdoA 2) ?_
 refine jqm (jmst 2 ?_)
 refine jU 70005 ?_
 exact end_H (.inl rfl) rfl (res_1 rfl (javA 2)) (CEnt.agg rfl (fun j hj=>by rcases j with _|_|j <;> first|exact cZ|omega))
set_option maxHeartbeats 1000000 in
theorem nget_ac (n:Nat) (l:List (List UInt8)) (k:Nat) (hl:0<l.length∧l.length≤100000) (hb:sumL l≤100000):AC gs Tryz.prog 116 [rdO n l k] [.op 0 (some n) 0] (fun r H'=>r=subjC (getS l k).2∧H'=[rdO n (getS l k).1.1 (getS l k).1.2]):=by
 have hR:=rowP_ac (gs:=gs) (f:=189) (by kernel_rfl) n l k 48 8 part_ok hl hb (fun l k h1 h2 _=>npart_ac n l k h1 h2)
 have hlen:(listP l k).length≤1000000:=by
  have h1:=jG_stop (sp:=partSp) (l0:=enterL 48 l k) (k0:=(enterR 48 l k).k) (most:=8) part_ok (by
   obtain ⟨_,_,_,e4,e5,_⟩:=enter_mu (t:=48) (l:=l) (k:=k) hl.1
   by_cases h0:(enterR 48 l k).k=0
   ·rw [e4 h0];omega
   ·rw [e5 h0];omega)
  have h2:=stG_out partSp (enterL 48 l k) (enterR 48 l k).k (jG partSp (enterL 48 l k) (enterR 48 l k).k 8)
  have h3:(listP l k).length=jG partSp (enterL 48 l k) (enterR 48 l k).k 8:=h2
  rw [h3]
  rcases Nat.eq_zero_or_pos (jG partSp (enterL 48 l k) (enterR 48 l k).k 8) with hz|hz
  ·omega
  ·have hg:=h1.1 (jG partSp (enterL 48 l k) (enterR 48 l k).k 8-1) (by omega)
   unfold goB at hg
   rw [Bool.and_eq_true,decide_eq_true_eq] at hg
   omega
 have hR':AC gs Tryz.prog 188 [rdO n l k] [.op 0 (some n) 0,.c (.int .i64 48),.c (.int .i64 8),.fn 189 0 fun _=>.top] (fun r H'=>r=partsC (if (endP l k).2=0 then listP l k else [])∧H'=[rdO n (endP l k).1 (endP l k).2]):=hR
 have hO:=nof_ac (gs:=gs) (listP l k) hlen
 refine ac_of 21 Tryz.func116 rfl rfl rfl (fun al w0 F0 St0=>?_)
 refine jcr ?_
 refine jqe (jeal (n:=3) zr36 rfl fun p1=>?_)
 refine jU 165 ?_
 refine jqm (jmcH 0 (hR') ?_ (ho:=rfl) (he:=(.cons (se rfl cP) (.cons (se rfl cZ) (.cons (se rfl cZ) (.cons (se rfl CEnt.fn0) .nil))))))
 rintro _ _ ⟨rfl,rfl⟩
 refine ⟨_,_,rfl,cZ,?_⟩
 refine jU 16751 ?_
 refine jqm (jmcH 0 (err08_ac n (endP l k).1 (endP l k).2) ?_)
 rintro _ _ ⟨rfl,rfl⟩
 refine ⟨_,_,rfl,cZ,?_⟩
 refine jU 5500000 ?_;refine jcc (fun h117=>?_) fun h117=>?_
 ·refine jcr ?_;refine jq (rd_build (n:=3) rfl zr36 pl36 rfl rfl) ?_
  refine jqm (jmst 3 ?_)
  refine jU 300070005 ?_
  rw [show getS l k=(endP l k,zeroS) by unfold getS;rw [if_pos (by omega)]]
  exact end_H (.inl rfl) rfl (res_1 rfl (javA 3)) (CEnt.agg rfl (fun j hj=>by rcases j with _|_|_|j <;> first|exact cZ|omega))
 refine jU 810 ?_
 have hz:(endP l k).2=0:=by omega
 rw [if_pos hz]
 refine jU 16 ?_
 refine jqe (jecP hO ?_)
 refine jU 9009001 ?_
 refine jqe (jeal (n:=3) zr36 rfl fun p4=>?_)
 refine jqm (jmst 3 ?_)
 refine jU 11651 ?_
 refine jqm (jmcH 0 (fail08_ac n (endP l k).1 (endP l k).2 (ofP (listP l k)).2) ?_)
 rintro _ _ ⟨rfl,rfl⟩
 refine ⟨_,_,rfl,cZ,?_⟩
 refine jU 65 ?_;refine jqo (jrdoA 3) ?_
 refine jqm (jmst 3 ?_)
 refine jU 70005 ?_
 rw [if_pos hz,show getS l k=(((endP l k).1,(ofP (listP l k)).2),(ofP (listP l k)).1) by unfold getS;rw [if_neg (by omega)]]
 exact end_H (.inl rfl) rfl (res_1 rfl (javA 3)) (CEnt.agg rfl (fun j hj=>by rcases j with _|_|_|j <;> first|exact cZ|omega))
theorem getS_len (l:List (List UInt8)) (k:Nat) (hl:0<l.length):0<(getS l k).1.1.length∧(getS l k).1.1.length≤l.length+17:=by
 have hE:(getS l k).1.1=(endP l k).1:=by unfold getS;split <;> rfl
 have he:0<(enterL 48 l k).length∧(enterL 48 l k).length≤l.length+1:=by
  obtain ⟨_,_,_,e4,e5,_⟩:=enter_mu (t:=48) (l:=l) (k:=k) hl
  by_cases h0:(enterR 48 l k).k=0
  ·rw [e4 h0];omega
  ·rw [e5 h0];omega
 have hs:=jG_stop (sp:=partSp) (l0:=enterL 48 l k) (k0:=(enterR 48 l k).k) (most:=8) part_ok he.1
 have hb:=stG_bd (sp:=partSp) (l0:=enterL 48 l k) (k0:=(enterR 48 l k).k) (most:=8) part_ok he.1 _ hs.1
 have lv:∀ (l':List (List UInt8)) (k':Nat),0<l'.length→0<(leaveL l' k').length∧(leaveL l' k').length≤l'.length:=fun l' k' h=>by
  obtain ⟨_,_,f3,f4⟩:=leave_mu (l:=l') (k:=k') h
  by_cases h0:leaveK l' k'=0
  ·have:=f3 h0;omega
  ·rw [f4 h0];omega
 rw [hE]
 unfold endP endG
 dsimp only
 split
 ·have:=lv (stG partSp (enterL 48 l k) (enterR 48 l k).k (jG partSp (enterL 48 l k) (enterR 48 l k).k 8)).1.1 3 (by omega)
  dsimp only
  omega
 ·have:=lv (stG partSp (enterL 48 l k) (enterR 48 l k).k (jG partSp (enterL 48 l k) (enterR 48 l k).k 8)).1.1 (stG partSp (enterL 48 l k) (enterR 48 l k).k (jG partSp (enterL 48 l k) (enterR 48 l k).k 8)).1.2 (by omega)
  dsimp only
  omega
end
section
open Go.RowKit Cal
structure Fd where
 call:Int
 least:Int
 most:Int
structure V4 where
 n:Int
 t:List UInt8
 b:List UInt8
 who:S3
def V4.z:V4:=⟨0,[],[],zeroS⟩
def OkF (f:Fd):Prop:=f.call=0∨((f.call=3∨f.call=4)∧-9223372036854775808≤f.least∧f.most≤9223372036854775807)∨(f.call=6∧0≤f.least∧f.most≤4096)∨(f.call=7∧f.most=24)∨f.call=9
def GoodF (f:Fd) (v:V4):Prop:=(f.call=0∧v=⟨0,[],[],v.who⟩∧rightS v.who=true)∨((f.call=3∨f.call=4)∧v=⟨v.n,[],[],zeroS⟩∧f.least≤v.n∧v.n≤f.most) ∨
 (f.call=6∧v=⟨0,[],v.b,zeroS⟩∧f.least≤(v.b.length:Nat)∧(v.b.length:Nat)≤f.most)∨(f.call=7∧v=⟨0,v.t,[],zeroS⟩∧askedM v.t 24=0)∨(f.call=9∧v=⟨v.n,[],[],zeroS⟩∧inT v.n)
def fdV (f:Fd) (v:V4):VV:=if f.call=7 then ⟨7,24,false,[],v.t⟩ else ⟨f.call,v.n,false,v.b,[]⟩
def fdX (f:Fd) (v:V4):Int×List UInt8:=if f.call=0 then subX v.who else ((bodyV (fdV f v)).1,(bodyV (fdV f v)).2.1)
def encF (f:Fd) (v:V4):List UInt8:=elB (fdX f v)
def putFd (f:Fd) (v:V4) (w:W8):W8:=if f.call=0 then putS v.who w else doW (fdV f v) w
def rputFd (f:Fd) (v:V4) (r:R8):R8:=if f.call=0 then rputS9 v.who r else rdoS (fdV f v) r
def fdA (f:Fd):AA:=⟨f.call,0,f.least,f.most⟩
def readF (f:Fd):StepR V4:=fun l k=>if f.call=0 then ((getS l k).1,⟨0,[],[],(getS l k).2⟩) else (((readR (fdA f) l k).l,(readR (fdA f) l k).k),⟨(readR (fdA f) l k).v.n,(readR (fdA f) l k).v.t,(readR (fdA f) l k).v.b,zeroS⟩)
theorem fd_body {f:Fd} {v:V4} (ho:OkF f) (h:GoodF f v) (h0:f.call≠0):(3≤f.call∧f.call≤10)∧(fdV f v).kind=f.call∧(bodyV (fdV f v)).1=tagA (fdA f)∧(bodyV (fdV f v)).2.2=0∧(bodyV (fdV f v)).2.1.length≤4096∧saidM (fdA f) (bodyV (fdV f v)).2.1=(⟨0,v.n,false,v.b,v.t⟩,0) ∧
  (-9223372036854775808≤(fdV f v).n∧(fdV f v).n≤9223372036854775807)∧(fdV f v).t.length≤300∧(fdV f v).b.length≤4096∧v.who=zeroS:=by
 obtain ⟨c,least,most⟩:=f
 obtain ⟨n,t,b,who⟩:=v
 unfold OkF GoodF at *
 dsimp only at ho h h0
 rcases h with h|⟨hc,hv,h1,h2⟩|⟨hc,hv,h1,h2⟩|⟨hc,hv,h1⟩|⟨hc,hv,h1⟩
 ·exact absurd h.1 h0
 ·obtain ⟨_,rfl,rfl,rfl⟩:=(V4.mk.injEq _ _ _ _ _ _ _ _).mp hv
  have hb:-9223372036854775808≤n∧n≤9223372036854775807:=by omega
  have hg:=putN_get hb.1 hb.2
  have hl:=(putN_len n hb.1 hb.2).2
  have hr:rangeM (putN n) least most=(n,0):=by
   unfold rangeM
   rw [hg,if_neg (by simp),if_neg (by dsimp only;omega)]
  rcases hc with rfl|rfl
  ·have e:bodyV (fdV ⟨3,least,most⟩ ⟨n,[],[],zeroS⟩)=(2,putN n,0):=rfl
   refine ⟨by constructor <;> (dsimp only;omega),rfl,rfl,rfl,by rw [e];dsimp only;omega,?_,hb,by simp [fdV],by simp [fdV],rfl⟩
   rw [e]
   show (vN (rangeM (putN n) least most).1,(rangeM (putN n) least most).2)=_
   rw [hr];rfl
  ·have e:bodyV (fdV ⟨4,least,most⟩ ⟨n,[],[],zeroS⟩)=(10,putN n,0):=rfl
   refine ⟨by constructor <;> (dsimp only;omega),rfl,rfl,rfl,by rw [e];dsimp only;omega,?_,hb,by simp [fdV],by simp [fdV],rfl⟩
   rw [e]
   show (vN (rangeM (putN n) least most).1,(rangeM (putN n) least most).2)=_
   rw [hr];rfl
 ·obtain ⟨rfl,rfl,_,rfl⟩:=(V4.mk.injEq _ _ _ _ _ _ _ _).mp hv
  subst hc
  have e:bodyV (fdV ⟨6,least,most⟩ ⟨0,[],b,zeroS⟩)=(4,b,0):=rfl
  have hl:b.length≤4096:=by omega
  refine ⟨by constructor <;> (dsimp only;omega),rfl,rfl,rfl,by rw [e];exact hl,?_,by show (-9223372036854775808:Int)≤0∧(0:Int)≤9223372036854775807;decide,by simp [fdV],hl,rfl⟩
  rw [e]
  show (vB (octM least most b).1,(octM least most b).2)=_
  unfold octM
  rw [if_neg (by omega),if_neg (by omega)]
  rfl
 ·obtain ⟨rfl,_,rfl,rfl⟩:=(V4.mk.injEq _ _ _ _ _ _ _ _).mp hv
  subst hc
  have hm:most=24:=by omega
  subst hm
  have hl:=asked_len h1
  have e:bodyV (fdV ⟨7,least,24⟩ ⟨0,t,[],zeroS⟩)=(12,t,0):=by
   show ((12:Int),(if askedM t 24=0 then t else []),askedM t 24)=_
   rw [h1,if_pos rfl]
  refine ⟨by constructor <;> (dsimp only;omega),rfl,by rw [e];rfl,by rw [e],by rw [e];dsimp only;omega,?_,by show (-9223372036854775808:Int)≤24∧(24:Int)≤9223372036854775807;decide,by show t.length≤300;omega,by simp [fdV],rfl⟩
  rw [e]
  show (vT (if askedM t 24=0 then t else []),askedM t 24)=_
  rw [h1,if_pos rfl];rfl
 ·obtain ⟨_,rfl,rfl,rfl⟩:=(V4.mk.injEq _ _ _ _ _ _ _ _).mp hv
  subst hc
  have ho6:ofM n=ofR6 n:=by unfold ofM;rw [if_pos h1]
  have hq:=ofR_right h1
  have e:bodyV (fdV ⟨9,least,most⟩ ⟨n,[],[],zeroS⟩)=(24,bodyL (ofM n),0):=by
   show ((24:Int),(if inT n then bodyL (ofM n) else []),ofE n)=_
   unfold ofE
   rw [if_pos h1,if_pos h1]
  refine ⟨by constructor <;> (dsimp only;omega),rfl,by rw [e];rfl,by rw [e],by rw [e];exact Nat.le_of_ble_eq_true rfl,?_,by have h1':=h1;unfold inT at h1';show _≤n∧n≤_;omega,by simp [fdV],by simp [fdV],rfl⟩
  rw [e]
  show (vN (getV (bodyL (ofM n))),getE (bodyL (ofM n)))=_
  rw [ho6,(get_body hq.1).1,(get_body hq.1).2,hq.2];rfl
theorem encF_tag {f:Fd} {v:V4} (ho:OkF f) (h:GoodF f v) (h0:f.call≠0):encF f v=putL (tagA (fdA f)) (bodyV (fdV f v)).2.1:=by
 unfold encF fdX elB
 rw [if_neg h0]
 dsimp only
 rw [(fd_body ho h h0).2.2.1]
theorem encF_sub {f:Fd} {v:V4} (h0:f.call=0):encF f v=subB v.who:=by
 unfold encF fdX
 rw [if_pos h0];rfl
theorem good_sub {f:Fd} {v:V4} (h:GoodF f v) (h0:f.call=0):v=⟨0,[],[],v.who⟩∧rightS v.who=true:=by
 unfold GoodF at h
 rcases h with h|h|h|h|h
 ·exact h.2
 all_goals (exfalso;omega)
theorem field_fwd {f:Fd} {v:V4} (ho:OkF f) (h:GoodF f v) (ls:List (List UInt8)) (r:List UInt8):readF f (ls++[encF f v++r]) 0=((ls++[r],0),v):=by
 unfold readF
 by_cases h0:f.call=0
 ·obtain ⟨h1,h2⟩:=good_sub h h0
  rw [if_pos h0,encF_sub h0,getS_fwd h2]
  dsimp only
  rw [← h1]
 ·obtain ⟨b1,b2,b3,b4,b5,b6,b7,b8,b9,b10⟩:=fd_body ho h h0
  have hr:=read_fwd (fdA f) ls (b:=(bodyV (fdV f v)).2.1) r b1 (by omega) (by rw [b6])
  rw [if_neg h0,encF_tag ho h h0,hr,b6]
  obtain ⟨n,t,b,who⟩:=v
  dsimp only at b10 ⊢
  rw [b10]
theorem field_back {f:Fd} (ho:OkF f) {ls:List (List UInt8)} {x:List UInt8} {k:Nat} (h:(readF f (ls++[x]) k).1.2=0):k=0∧∃ v r,GoodF f v∧x=encF f v++r∧readF f (ls++[x]) k=((ls++[r],0),v):=by
 unfold readF at h ⊢
 by_cases h0:f.call=0
 ·rw [if_pos h0] at h ⊢
  obtain ⟨h1,s,r,h2,h3,h4⟩:=getS_back h
  refine ⟨h1,⟨0,[],[],s⟩,r,.inl ⟨h0,rfl,h2⟩,by rw [h3,encF_sub h0],by rw [h4]⟩
 ·rw [if_neg h0] at h ⊢
  dsimp only at h
  have ha:3≤(fdA f).kind∧(fdA f).kind≤10:=by unfold OkF at ho;show 3≤f.call∧f.call≤10;omega
  obtain ⟨h1,b,r,h2,h3,h4,h5⟩:=read_back ha h
  have key:∀ v:V4,GoodF f v→(bodyV (fdV f v)).2.1=b→(saidM (fdA f) b).1.n=v.n→(saidM (fdA f) b).1.t=v.t→(saidM (fdA f) b).1.b=v.b→v.who=zeroS→k=0∧∃ v r,GoodF f v∧x=encF f v++r∧(((readR (fdA f) (ls++[x]) k).l,(readR (fdA f) (ls++[x]) k).k),V4.mk (readR (fdA f) (ls++[x]) k).v.n (readR (fdA f) (ls++[x]) k).v.t (readR (fdA f) (ls++[x]) k).v.b zeroS)=((ls++[r],0),v):=fun v hg hb hn ht hbb hw=>by
   refine ⟨h1,v,r,hg,by rw [h2,encF_tag ho hg h0,hb],?_⟩
   rw [h5]
   dsimp only
   rw [hn,ht,hbb,← hw]
  obtain ⟨c,least,most⟩:=f
  unfold OkF at ho
  dsimp only at ho h0
  rcases ho with ho|⟨ho,ho1,ho2⟩|⟨ho,ho1,ho2⟩|⟨ho,ho1⟩|ho
  ·exact absurd ho h0
  ·rcases ho with rfl|rfl
   ·obtain ⟨c1,c2,c3,c4,c5⟩:=range_canon (b:=b) (x:=least) (y:=most) h4
    exact key ⟨(rangeM b least most).1,[],[],zeroS⟩ (.inr (.inl ⟨.inl rfl,rfl,by show least≤(rangeM b least most).1;omega,by show (rangeM b least most).1≤most;omega⟩)) c1 rfl rfl rfl rfl
   ·obtain ⟨c1,c2,c3,c4,c5⟩:=range_canon (b:=b) (x:=least) (y:=most) h4
    exact key ⟨(rangeM b least most).1,[],[],zeroS⟩ (.inr (.inl ⟨.inr rfl,rfl,by show least≤(rangeM b least most).1;omega,by show (rangeM b least most).1≤most;omega⟩)) c1 rfl rfl rfl rfl
  ·subst ho
   have h4':(octM least most b).2=0:=h4
   have hm:(saidM ⟨6,0,least,most⟩ b).1=vB (octM least most b).1:=rfl
   unfold octM at h4' hm
   by_cases e1:(b.length:Int)<least
   ·rw [if_pos e1] at h4';cases h4'
   ·by_cases e2:most<(b.length:Int)
    ·rw [if_neg e1,if_pos e2] at h4';cases h4'
    ·rw [if_neg e1,if_neg e2] at hm
     refine key ⟨0,[],b,zeroS⟩ (.inr (.inr (.inl ⟨rfl,rfl,by show least≤((b.length:Nat):Int);omega,by show ((b.length:Nat):Int)≤most;omega⟩))) rfl ?_ ?_ ?_ rfl <;> (show _=_;rw [show (fdA ⟨6,least,most⟩)=⟨6,0,least,most⟩ from rfl,hm];rfl)
  ·subst ho
   subst ho1
   have h4':askedM b 24=0:=h4
   have hm:(saidM ⟨7,0,least,24⟩ b).1=vT b:=by show vT (if askedM b 24=0 then b else [])=_;rw [if_pos h4']
   refine key ⟨0,b,[],zeroS⟩ (.inr (.inr (.inr (.inl ⟨rfl,rfl,h4'⟩)))) ?_ ?_ ?_ ?_ rfl
   ·show (if askedM b 24=0 then b else [])=b;rw [if_pos h4']
   all_goals (rw [show (fdA ⟨7,least,24⟩)=⟨7,0,least,24⟩ from rfl,hm];rfl)
  ·subst ho
   have h4':getE b=0:=h4
   obtain ⟨c1,c2⟩:=moment_canon h4'
   refine key ⟨getV b,[],[],zeroS⟩ (.inr (.inr (.inr (.inr ⟨rfl,rfl,c2⟩)))) ?_ rfl rfl rfl rfl
   show (if inT (getV b) then bodyL (ofM (getV b)) else [])=b
   rw [if_pos c2,c1]
theorem field_len (f:Fd) (ho:OkF f) {l:List (List UInt8)} {k:Nat} (hl:0<l.length):(0<(readF f l k).1.1.length∧(readF f l k).1.1.length≤l.length+17)∧((readF f l k).1.2=0→k=0):=by
 obtain ⟨ls,x,rfl⟩:∃ ls x,l=ls++[x]:=⟨l.dropLast,l.getLast (List.length_pos_iff.1 hl),(List.dropLast_concat_getLast _).symm⟩
 refine ⟨?_,fun h=>(field_back ho h).1⟩
 unfold readF
 by_cases h0:f.call=0
 ·rw [if_pos h0];exact getS_len _ _ hl
 ·rw [if_neg h0]
  have hk:(fdA f).kind=f.call:=rfl
  obtain ⟨_,_,_,_,_,h6,_⟩:=read_mu (fdA f) (l:=ls++[x]) (k:=k) hl
  have:=h6 (by unfold OkF at ho;rw [hk];omega) (by unfold OkF at ho;rw [hk];omega)
  dsimp only
  omega
theorem encF_bd {f:Fd} {v:V4} (ho:OkF f) (h:GoodF f v):(encF f v).length≤4110∧0<(encF f v).length∧Lev 3 (fdX f v):=by
 refine ⟨?_,elB_pos _,?_⟩
 ·by_cases h0:f.call=0
  ·rw [encF_sub h0]
   have:=(sub_len (good_sub h h0).2).2
   omega
  ·rw [encF_tag ho h h0]
   have h1:=putL_len (tagA (fdA f)) (bodyV (fdV f v)).2.1
   have h2:=(fd_body ho h h0).2.2.2.2.1
   omega
 ·by_cases h0:f.call=0
  ·have h2:=(good_sub h h0).2
   obtain ⟨g1,g2⟩:=good_parts h2
   obtain ⟨l1,l2⟩:=sub_len h2
   unfold fdX
   rw [if_pos h0]
   refine lev_made (d:=2) (by decide) (by decide) (by decide) (fun x hx=>?_) (by omega)
   obtain ⟨p,hp,rfl⟩:=List.mem_map.1 hx
   obtain ⟨h3,h4,h5⟩:=g1 p hp
   obtain ⟨m1,m2,m3⟩:=part9_len h3 (by omega)
   refine lev_made (d:=1) (by decide) (by decide) (by decide) (fun x hx=>?_) (by omega)
   simp only [innerX,List.mem_cons,List.not_mem_nil,or_false] at hx
   rcases hx with rfl|rfl
   ·exact lev_plain (by decide) (by decide) (by omega)
   ·exact lev_plain (by decide) (by decide) (by omega)
  ·obtain ⟨b1,b2,b3,b4,b5,_⟩:=fd_body ho h h0
   have ht:=tagV (v:=fdV f v) (by rw [b2];exact b1)
   unfold fdX
   rw [if_neg h0]
   exact (lev_plain ht.1 ht.2.1 (by omega)).mono (by decide)
def readFs:List Fd→StepR (List V4)
 | [],l,k=>((l,k),[])
 | f::fs,l,k=>((readFs fs (readF f l k).1.1 (readF f l k).1.2).1,(readF f l k).2::(readFs fs (readF f l k).1.1 (readF f l k).1.2).2)
def encFs:List Fd→List V4→List UInt8
 | f::fs,v::vs=>encF f v++encFs fs vs
 | _,_=>[]
def GoodFs:List Fd→List V4→Prop
 | [],[]=>True
 | f::fs,v::vs=>GoodF f v∧GoodFs fs vs
 | _,_=>False
def putFds:List Fd→List V4→W8→W8
 | f::fs,v::vs,w=>putFds fs vs (putFd f v w)
 | _,_,w=>w
def rputFds:List Fd→List V4→R8→R8
 | f::fs,v::vs,r=>rputFds fs vs (rputFd f v r)
 | _,_,r=>r
theorem good_length:∀ {fs:List Fd} {vs:List V4},GoodFs fs vs→fs.length=vs.length
 | [],[],_=>rfl
 | f::fs,v::vs,h=>by simp [good_length h.2]
 | [],v::vs,h=>h.elim
 | f::fs,[],h=>h.elim
theorem fields_fwd:∀ {fs:List Fd} {vs:List V4},(∀ f ∈ fs,OkF f)→GoodFs fs vs→∀ (ls:List (List UInt8)) (r:List UInt8),readFs fs (ls++[encFs fs vs++r]) 0=((ls++[r],0),vs)
 | [],[],_,_,ls,r=>rfl
 | f::fs,v::vs,ho,h,ls,r=>by
  have h1:=field_fwd (ho f List.mem_cons_self) h.1 ls (encFs fs vs++r)
  have h2:=fields_fwd (fun g hg=>ho g (List.mem_cons_of_mem _ hg)) h.2 ls r
  unfold readFs encFs
  rw [List.append_assoc,h1]
  dsimp only
  rw [h2]
 | [],v::vs,_,h,_,_=>h.elim
 | f::fs,[],_,h,_,_=>h.elim
theorem fields_k:∀ (fs:List Fd) {l:List (List UInt8)} {k:Nat},(∀ f ∈ fs,OkF f)→0<l.length→((readFs fs l k).1.2=0→k=0)∧(0<(readFs fs l k).1.1.length∧(readFs fs l k).1.1.length≤l.length+17 * fs.length)
 | [],l,k,_,hl=>⟨fun h=>h,hl,Nat.le_refl _⟩
 | f::fs,l,k,ho,hl=>by
  obtain ⟨h1,h2⟩:=field_len f (ho f List.mem_cons_self) (k:=k) hl
  obtain ⟨h3,h4⟩:=fields_k fs (k:=(readF f l k).1.2) (fun g hg=>ho g (List.mem_cons_of_mem _ hg)) h1.1
  refine ⟨fun h=>h2 (h3 h),h4.1,?_⟩
  have:=h4.2
  rw [List.length_cons]
  show (readFs fs (readF f l k).1.1 (readF f l k).1.2).1.1.length≤_
  omega
theorem fields_back:∀ {fs:List Fd} {ls:List (List UInt8)} {x:List UInt8} {k:Nat},(∀ f ∈ fs,OkF f)→(readFs fs (ls++[x]) k).1.2=0→k=0∧∃ vs r,GoodFs fs vs∧x=encFs fs vs++r∧readFs fs (ls++[x]) k=((ls++[r],0),vs)
 | [],ls,x,k,_,h=>⟨h,[],x,trivial,rfl,by have h:k=0:=h;subst h;rfl⟩
 | f::fs,ls,x,k,ho,h=>by
  have hl:=field_len f (ho f List.mem_cons_self) (l:=ls++[x]) (k:=k) (by simp)
  have h':(readFs fs (readF f (ls++[x]) k).1.1 (readF f (ls++[x]) k).1.2).1.2=0:=h
  have h1:=(fields_k fs (fun g hg=>ho g (List.mem_cons_of_mem _ hg)) hl.1.1).1 h'
  obtain ⟨hk,v,r,g1,g2,g3⟩:=field_back (ho f List.mem_cons_self) h1
  rw [g3] at h'
  obtain ⟨_,vs,r2,g4,g5,g6⟩:=fields_back (fun g hg=>ho g (List.mem_cons_of_mem _ hg)) h'
  refine ⟨hk,v::vs,r2,⟨g1,g4⟩,?_,?_⟩
  ·rw [g2,g5]
   show _=(encF f v++encFs fs vs)++r2
   rw [List.append_assoc]
  ·unfold readFs
   rw [g3]
   dsimp only
   rw [g6]
theorem encFs_len:∀ {fs:List Fd} {vs:List V4},(∀ f ∈ fs,OkF f)→GoodFs fs vs→(encFs fs vs).length≤4110 * fs.length
 | [],[],_,_=>Nat.le_refl _
 | f::fs,v::vs,ho,h=>by
  have h1:=(encF_bd (ho f List.mem_cons_self) h.1).1
  have h2:=encFs_len (fun g hg=>ho g (List.mem_cons_of_mem _ hg)) h.2
  show (encF f v++encFs fs vs).length≤_
  rw [List.length_append,List.length_cons]
  omega
 | [],v::vs,_,h=>h.elim
 | f::fs,[],_,h=>h.elim
theorem putFd_ok {f:Fd} {v:V4} (ho:OkF f) (h:GoodF f v) {w:W8} (hk:w.k=0) (hf:w.fr.length<15):putFd f v w=addW (encF f v) w:=by
 unfold putFd
 by_cases h0:f.call=0
 ·rw [if_pos h0,encF_sub h0,putS_ok (good_sub h h0).2 hk hf]
 ·obtain ⟨b1,b2,b3,b4,b5,_⟩:=fd_body ho h h0
  have ht:=tagV (v:=fdV f v) (by rw [b2];exact b1)
  rw [if_neg h0,encF_tag ho h h0,doW_put (by rw [b2];exact b1),b4,put_ok hk ht.1 (by omega),b3]
theorem putFds_ok:∀ {fs:List Fd} {vs:List V4},(∀ f ∈ fs,OkF f)→GoodFs fs vs→∀ {ls:List (List UInt8)} {d:List UInt8},∃ ls',putFds fs vs ⟨[(48,ls)],d,0⟩=⟨[(48,ls')],d,0⟩∧ls'.flatten=ls.flatten++encFs fs vs
 | [],[],_,_,ls,d=>⟨ls,rfl,by simp [encFs]⟩
 | f::fs,v::vs,ho,h,ls,d=>by
  obtain ⟨ls',h1,h2⟩:=putFds_ok (fun g hg=>ho g (List.mem_cons_of_mem _ hg)) h.2 (ls:=ls++[encF f v]) (d:=d)
  refine ⟨ls',?_,?_⟩
  ·show putFds fs vs (putFd f v ⟨[(48,ls)],d,0⟩)=_
   rw [putFd_ok (ho f List.mem_cons_self) h.1 rfl (by simp),addW_in]
   exact h1
  ·rw [h2]
   show _=_++(encF f v++encFs fs vs)
   simp
 | [],v::vs,_,h,_,_=>h.elim
 | f::fs,[],_,h,_,_=>h.elim
theorem inv_putFd {f:Fd} {v:V4} (ho:OkF f) (h:GoodF f v) {i:Nat} {r:R8} {w:W8} (hI:Inv8 i r w):Inv8 (i+14) (rputFd f v r) (putFd f v w):=by
 unfold rputFd putFd
 by_cases h0:f.call=0
 ·rw [if_pos h0,if_pos h0]
  exact inv_putS hI v.who
 ·obtain ⟨b1,b2,b3,b4,b5,b6,b7,b8,b9,b10⟩:=fd_body ho h h0
  rw [if_neg h0,if_neg h0]
  exact inv_doU hI b7 b8 (by rw [b2];exact b1) (by decide) (by omega)
end
section
def mB (at_:Nat):Nat:=if at_=0 then 2147483727 else 2147483647
def glueN (l:List Nat) (p:List Nat×Nat):List Nat×Nat:=if p.2≠0 then ([],p.2) else (l++p.1,0)
def ofN (l:List Nat):List Int:=l.map Int.ofNat
structure AtN (b:List UInt8) (a:Nat) (nums:List Nat):Prop where
 le:a≤b.length
 n0:nums.length≤a
 ne:a≠0→nums≠[]
 bd:∀ n ∈ nums,n≤2147483727
 eq:numsM 2147483727 b=glueN nums (numsM (mB a) (b.drop a))
end
section
open Go.RowKit Cal

end
section
open Go.RowKit Cal
def rightF (f:Fd) (v:V4):Bool :=
 if f.call=0 then rightS v.who else if f.call=3∨f.call=4 then decide (f.least≤v.n) && decide (v.n≤f.most) else
 if f.call=6 then decide (f.least≤(v.b.length:Nat)) && decide ((v.b.length:Nat)≤f.most) else if f.call=7 then labM v.t else
 if f.call=9 then decide (0≤v.n) && decide (v.n≤253402300799) else true
def rightFs:List Fd→List V4→Bool
 | f::fs,v::vs=>rightF f v && rightFs fs vs
 | _,_=>true
def specR (kind:Int) (vs:List V4):Bool :=
 if kind=2 then (decide ((vs.getD 5 V4.z).b.length=0) || decide (0<(vs.getD 4 V4.z).b.length)) && (decide ((vs.getD 4 V4.z).b.length=0) || decide ((vs.getD 3 V4.z).n=1))
 else if kind=3 then decide ((vs.getD 3 V4.z).n≤(vs.getD 4 V4.z).n) else true
def rightRec (kind:Int) (fs:List Fd) (vs:List V4):Bool:=rightFs fs vs && specR kind vs
def NormF (f:Fd) (v:V4):Prop:=(f.call=0∧v=⟨0,[],[],v.who⟩)∨((f.call=3∨f.call=4)∧v=⟨v.n,[],[],zeroS⟩)∨(f.call=6∧v=⟨0,[],v.b,zeroS⟩)∨(f.call=7∧v=⟨0,v.t,[],zeroS⟩)∨(f.call=9∧v=⟨v.n,[],[],zeroS⟩)
def NormFs:List Fd→List V4→Prop
 | [],[]=>True
 | f::fs,v::vs=>NormF f v∧NormFs fs vs
 | _,_=>False
theorem good_right {f:Fd} {v:V4} (hn:NormF f v) (h:rightF f v=true):GoodF f v:=by
 unfold NormF at hn
 unfold rightF at h
 rcases hn with ⟨hc,hv⟩|⟨hc,hv⟩|⟨hc,hv⟩|⟨hc,hv⟩|⟨hc,hv⟩
 ·rw [if_pos hc] at h
  exact .inl ⟨hc,hv,h⟩
 ·rw [if_neg (by omega),if_pos hc,Bool.and_eq_true,decide_eq_true_eq,decide_eq_true_eq] at h
  exact .inr (.inl ⟨hc,hv,h.1,h.2⟩)
 ·rw [if_neg (by omega),if_neg (by omega),if_pos hc,Bool.and_eq_true,decide_eq_true_eq,decide_eq_true_eq] at h
  exact .inr (.inr (.inl ⟨hc,hv,h.1,h.2⟩))
 ·rw [if_neg (by omega),if_neg (by omega),if_neg (by omega),if_pos hc] at h
  have hl:=lab_ascii h
  exact .inr (.inr (.inr (.inl ⟨hc,hv,asked_ascii hl.1 hl.2.1 (by have:=hl.2.2;omega)⟩)))
 ·rw [if_neg (by omega),if_neg (by omega),if_neg (by omega),if_neg (by omega),if_pos hc,Bool.and_eq_true,decide_eq_true_eq,decide_eq_true_eq] at h
  exact .inr (.inr (.inr (.inr ⟨hc,hv,h⟩)))
theorem goods_right:∀ {fs:List Fd} {vs:List V4},NormFs fs vs→rightFs fs vs=true→GoodFs fs vs
 | [],[],_,_=>trivial
 | f::fs,v::vs,hn,h=>by
  have h':(rightF f v && rightFs fs vs)=true:=h
  rw [Bool.and_eq_true] at h'
  exact ⟨good_right hn.1 h'.1,goods_right hn.2 h'.2⟩
 | [],v::vs,hn,_=>hn.elim
 | f::fs,[],hn,_=>hn.elim
def vE (kind:Int):VV:=⟨4,kind,false,[],[]⟩
def aK (kind:Int):AA:=⟨4,0,kind,kind⟩
def recX (kind:Int) (fs:List Fd) (vs:List V4):List (Int×List UInt8):=(10,putN kind)::List.zipWith fdX fs vs
def recB (kind:Int) (fs:List Fd) (vs:List V4):List UInt8:=putL 48 (putL 10 (putN kind)++encFs fs vs)
def putRec (kind:Int) (fs:List Fd) (vs:List V4):W8:=closeV (putFds fs vs (doW (vE kind) (doW (w1 48) w00)))
def rputRec (kind:Int) (fs:List Fd) (vs:List V4):R8:=rdoS w2 (rputFds fs vs (rdoS (vE kind) (rdoS (w1 48) r00)))
def KindOk (kind:Int):Prop:=0≤kind∧kind≤100
theorem kind_put {kind:Int} (h:KindOk kind):getM (putN kind)=(kind,0)∧(putN kind).length≤8:=by
 unfold KindOk at h
 exact ⟨putN_get (by omega) (by omega),(putN_len kind (by omega) (by omega)).2⟩
theorem do_vE (kind:Int) (s:W8):doW (vE kind) s=putW 10 (putN kind) 0 s:=by
 unfold doW
 rw [if_neg (show ¬ (vE kind).kind=1 by show ¬ (4:Int)=1;decide),if_neg (show ¬ (vE kind).kind=2 by show ¬ (4:Int)=2;decide),if_neg (show ¬ (vE kind).kind=11 by show ¬ (4:Int)=11;decide)]
 rfl
theorem enc_flat:∀ (fs:List Fd) (vs:List V4),((List.zipWith fdX fs vs).map elB).flatten=encFs fs vs
 | [],_=>by cases ‹List V4› <;> rfl
 | _::_,[]=>rfl
 | f::fs,v::vs=>by
  show elB (fdX f v)++((List.zipWith fdX fs vs).map elB).flatten=encF f v++encFs fs vs
  rw [enc_flat fs vs];rfl
theorem zip_lev:∀ {fs:List Fd} {vs:List V4},(∀ f ∈ fs,OkF f)→GoodFs fs vs→∀ x ∈ List.zipWith fdX fs vs,Lev 3 x
 | [],[],_,_,x,hx=>by cases hx
 | f::fs,v::vs,ho,h,x,hx=>by
  rcases List.mem_cons.1 hx with rfl|hx
  ·exact (encF_bd (ho f List.mem_cons_self) h.1).2.2
  ·exact zip_lev (fun g hg=>ho g (List.mem_cons_of_mem _ hg)) h.2 x hx
 | [],v::vs,_,h,_,_=>h.elim
 | f::fs,[],_,h,_,_=>h.elim
section
variable {kind:Int} {fs:List Fd} {vs:List V4}
theorem rec_len (hk:KindOk kind) (ho:∀ f ∈ fs,OkF f) (hl:fs.length≤8) (h:GoodFs fs vs):(putL 10 (putN kind)++encFs fs vs).length≤33000∧(recB kind fs vs).length≤33100:=by
 have h1:=encFs_len ho h
 have h2:=(kind_put hk).2
 have h3:=putL_len 10 (putN kind)
 have h4:=putL_len 48 (putL 10 (putN kind)++encFs fs vs)
 unfold recB
 rw [List.length_append] at h4 ⊢
 omega
theorem putRec_ok (hk:KindOk kind) (ho:∀ f ∈ fs,OkF f) (hl:fs.length≤8) (h:GoodFs fs vs):doneK (putRec kind fs vs)=0∧doneB (putRec kind fs vs)=recB kind fs vs:=by
 obtain ⟨l1,l2⟩:=rec_len hk ho hl h
 have h2:=(kind_put hk).2
 have e1:doW (vE kind) (doW (w1 48) w00)=⟨[(48,[putL 10 (putN kind)])],[],0⟩:=by
  rw [do_w1,show openW 48 w00=⟨[(48,[])],[],0⟩ from rfl,do_vE,put_ok rfl (by decide) (by omega)]
  rfl
 obtain ⟨ls',g1,g2⟩:=putFds_ok ho h (ls:=[putL 10 (putN kind)]) (d:=[])
 have g3:ls'.flatten=putL 10 (putN kind)++encFs fs vs:=by rw [g2];simp
 have e2:putRec kind fs vs=⟨[],recB kind fs vs,0⟩:=by
  unfold putRec
  rw [e1,g1,close_ok (by decide) (by decide) (by rw [g3];omega),g3]
  rfl
 have hkz:doneK (⟨[],recB kind fs vs,0⟩:W8)=0:=by
  unfold doneK
  rw [if_neg (by simp),if_neg (by simp),if_neg (by dsimp only;omega)]
 rw [e2]
 refine ⟨hkz,?_⟩
 unfold doneB
 rw [if_pos hkz]
theorem rec_depth (hk:KindOk kind) (ho:∀ f ∈ fs,OkF f) (hl:fs.length≤8) (h:GoodFs fs vs):(depthM (recB kind fs vs)).2=0:=by
 obtain ⟨l1,l2⟩:=rec_len hk ho hl h
 have h2:=(kind_put hk).2
 have e:putL 10 (putN kind)++encFs fs vs=((recX kind fs vs).map elB).flatten:=by
  unfold recX
  rw [List.map_cons,List.flatten_cons,enc_flat]
  rfl
 have hL:Lev 4 (48,((recX kind fs vs).map elB).flatten):=by
  refine lev_made (d:=3) (by decide) (by decide) (by decide) (fun x hx=>?_) (by rw [← e];omega)
  rcases List.mem_cons.1 hx with rfl|hx
  ·exact (lev_plain (by decide) (by decide) (by omega)).mono (by decide)
  ·exact zip_lev ho h x hx
 have:=lev_depth hL (by decide) (by show (putL 48 ((recX kind fs vs).map elB).flatten).length≤65536;rw [← e];unfold recB at l2;omega)
 have e2:elB (48,((recX kind fs vs).map elB).flatten)=recB kind fs vs:=by show putL 48 _=_;rw [← e];rfl
 rw [e2] at this
 exact this
end
theorem endK_zero {l:List (List UInt8)} {k:Nat} (h:endK l k=0):k=0:=by
 unfold endK at h
 split at h
 ·rename_i h0;exact absurd h h0
 ·omega
def readRec (kind:Int) (fs:List Fd) (b:List UInt8):List V4×Nat :=
 let r1:=readR aL [b] (depthM b).2
 let r2:=readR (aK kind) r1.l r1.k
 let x:=readFs fs r2.l r2.k
 let r4:=readR aE x.1.1 x.1.2
 (x.2,endK r4.l r4.k)
def recM (kind:Int) (fs:List Fd) (b:List UInt8):List V4×Nat :=
 if (readRec kind fs b).2≠0 then (List.replicate fs.length V4.z,(readRec kind fs b).2) else if rightRec kind fs (readRec kind fs b).1=false then (List.replicate fs.length V4.z,4) else ((readRec kind fs b).1,0)
section
variable {kind:Int} {fs:List Fd} {vs:List V4}
theorem readRec_fwd (hk:KindOk kind) (ho:∀ f ∈ fs,OkF f) (hl:fs.length≤8) (h:GoodFs fs vs):readRec kind fs (recB kind fs vs)=(vs,0):=by
 obtain ⟨l1,l2⟩:=rec_len hk ho hl h
 obtain ⟨k1,k2⟩:=kind_put hk
 have hd:=rec_depth hk ho hl h
 obtain ⟨e1,e2,_⟩:=enter_fwd [] (t:=48) (b:=putL 10 (putN kind)++encFs fs vs) [] (by decide) (by omega)
 rw [List.append_nil] at e1 e2
 obtain ⟨f1,f2⟩:=read_enter aL rfl [recB kind fs vs] 0
 have g1:(readR aL [recB kind fs vs] 0).l=[[]]++[putL 10 (putN kind)++encFs fs vs]:=f1.trans e1
 have g2:(readR aL [recB kind fs vs] 0).k=0:=f2.trans e2
 have hs:saidM (aK kind) (putN kind)=(vN kind,0):=by
  show (vN (rangeM (putN kind) kind kind).1,(rangeM (putN kind) kind kind).2)=_
  unfold rangeM
  rw [k1,if_neg (by simp),if_neg (by dsimp only;omega)]
 have g3:=read_fwd (aK kind) [[]] (b:=putN kind) (encFs fs vs) ⟨by show (3:Int)≤4;decide,by show (4:Int)≤10;decide⟩ (by omega) (by rw [hs])
 have g3':readR (aK kind) ([[]]++[putL 10 (putN kind)++encFs fs vs]) 0=⟨[[]]++[encFs fs vs],0,(saidM (aK kind) (putN kind)).1⟩:=g3
 have g4:=fields_fwd ho h [[]] []
 rw [List.append_nil] at g4
 obtain ⟨f3,f4⟩:=read_leave aE rfl ([[]]++[[]]) 0
 have g5:=leave_fwd (ls:=[[]]) (by decide)
 unfold readRec
 dsimp only
 rw [hd,g1,g2,g3']
 dsimp only
 rw [g4]
 dsimp only
 rw [f3,f4,g5.1,g5.2]
 rfl
theorem readRec_back {b:List UInt8} (ho:∀ f ∈ fs,OkF f) (h:(readRec kind fs b).2=0):GoodFs fs (readRec kind fs b).1∧recB kind fs (readRec kind fs b).1=b∧(getM (putN kind)).2=0:=by
 have h':endK (readR aE (readFs fs (readR (aK kind) (readR aL [b] (depthM b).2).l (readR aL [b] (depthM b).2).k).l (readR (aK kind) (readR aL [b] (depthM b).2).l (readR aL [b] (depthM b).2).k).k).1.1 (readFs fs (readR (aK kind) (readR aL [b] (depthM b).2).l (readR aL [b] (depthM b).2).k).l (readR (aK kind) (readR aL [b] (depthM b).2).l (readR aL [b] (depthM b).2).k).k).1.2).l (readR aE (readFs fs (readR (aK kind) (readR aL [b] (depthM b).2).l (readR aL [b] (depthM b).2).k).l (readR (aK kind) (readR aL [b] (depthM b).2).l (readR aL [b] (depthM b).2).k).k).1.1 (readFs fs (readR (aK kind) (readR aL [b] (depthM b).2).l (readR aL [b] (depthM b).2).k).l (readR (aK kind) (readR aL [b] (depthM b).2).l (readR aL [b] (depthM b).2).k).k).1.2).k=0:=h
 have p1:0<(readR aL [b] (depthM b).2).l.length:=by
  obtain ⟨_,_,_,a4,_⟩:=read_mu aL (l:=[b]) (k:=(depthM b).2) (by simp)
  obtain ⟨a41,a42⟩:=a4 rfl
  by_cases h0:(readR aL [b] (depthM b).2).k=0
  ·rw [a41 h0];omega
  ·rw [a42 h0];simp
 obtain ⟨_,_,_,_,_,q6,q7⟩:=read_mu (aK kind) (l:=(readR aL [b] (depthM b).2).l) (k:=(readR aL [b] (depthM b).2).k) p1
 have p2:=q6 (by show ¬ (4:Int)=1;decide) (by show ¬ (4:Int)=2;decide)
 obtain ⟨r1,r2,r3⟩:=fields_k fs (l:=(readR (aK kind) (readR aL [b] (depthM b).2).l (readR aL [b] (depthM b).2).k).l) (k:=(readR (aK kind) (readR aL [b] (depthM b).2).l (readR aL [b] (depthM b).2).k).k) ho (by omega)
 obtain ⟨_,_,_,_,s5,_,s7⟩:=read_mu aE (l:=(readFs fs (readR (aK kind) (readR aL [b] (depthM b).2).l (readR aL [b] (depthM b).2).k).l (readR (aK kind) (readR aL [b] (depthM b).2).l (readR aL [b] (depthM b).2).k).k).1.1) (k:=(readFs fs (readR (aK kind) (readR aL [b] (depthM b).2).l (readR aL [b] (depthM b).2).k).l (readR (aK kind) (readR aL [b] (depthM b).2).l (readR aL [b] (depthM b).2).k).k).1.2) r2
 have k4:=endK_zero h'
 have k3:=s7 k4
 have k2:=r1 k3
 have k1:=q7 k2
 obtain ⟨f1,f2⟩:=read_enter aL rfl [b] (depthM b).2
 obtain ⟨hk0,body,r,e1,e2,e3,_⟩:=enter_back (ls:=[]) (x:=b) (t:=48) (by decide) (show (enterR 48 [b] (depthM b).2).k=0 from f2.symm.trans k1)
 have g1:(readR aL [b] (depthM b).2).l=[r]++[body]:=f1.trans e3
 have e1':b=putL 48 body++r:=e1
 rw [g1,k1] at k2 k3 k4 h'
 obtain ⟨_,kb,r',t1,t2,t3,t4⟩:=read_back (a:=aK kind) (ls:=[r]) (x:=body) ⟨by show (3:Int)≤4;decide,by show (4:Int)≤10;decide⟩ k2
 rw [t4] at k3 k4 h'
 dsimp only at k3 k4 h'
 obtain ⟨_,ws,r'',u1,u2,u3⟩:=fields_back ho k3
 rw [u3] at k4 h'
 dsimp only at k4 h'
 obtain ⟨f3,f4⟩:=read_leave aE rfl ([r]++[r'']) 0
 rw [f4] at k4
 obtain ⟨_,v1,_,v3⟩:=leave_back k4
 subst v1
 rw [f3,f4,v3,k4] at h'
 have h5:=(end_back (l:=[r]) (k:=0) (by simp) h').2
 have hr:r=[]:=by simpa using h5
 subst hr
 have hws:(readRec kind fs b).1=ws:=by
  unfold readRec
  dsimp only
  rw [g1,k1,t4]
  dsimp only
  rw [u3]
 have hkk:putN kind=kb:=by
  have t3':(rangeM kb kind kind).2=0:=t3
  obtain ⟨c1,c2,c3,c4,c5⟩:=range_canon t3'
  have e:(rangeM kb kind kind).1=kind:=by omega
  rw [e] at c1
  exact c1
 rw [hws]
 have t1':body=putL 10 kb++r':=t1
 refine ⟨u1,?_,?_⟩
 ·rw [e1',t1',u2,← hkk,List.append_nil,List.append_nil]
  rfl
 ·have t3':(rangeM kb kind kind).2=0:=t3
  rw [hkk]
  exact (range_canon t3').2.1
end
def fsCase:List Fd:=[⟨0,0,0⟩,⟨6,1,4096⟩,⟨9,0,0⟩,⟨4,0,2⟩,⟨6,0,4096⟩,⟨6,0,4096⟩]
def fsAuth:List Fd:=[⟨3,1,1048576⟩,⟨6,16,64⟩,⟨4,1,4⟩,⟨9,0,0⟩,⟨9,0,0⟩,⟨9,0,0⟩,⟨3,0,1099511627776⟩]
def fsMark:List Fd:=[⟨3,1,1048576⟩,⟨3,1,1099511627776⟩,⟨9,0,0⟩,⟨9,0,0⟩]
def fsTick:List Fd:=[⟨7,1,24⟩,⟨6,32,32⟩,⟨9,0,0⟩]
def fsIss:List Fd:=[⟨6,1,4096⟩,⟨6,0,4096⟩]
instance (f:Fd):Decidable (OkF f):=by unfold OkF;infer_instance
theorem ok_case:∀ f ∈ fsCase,OkF f:=by decide
theorem ok_auth:∀ f ∈ fsAuth,OkF f:=by decide
theorem ok_mark:∀ f ∈ fsMark,OkF f:=by decide
theorem ok_tick:∀ f ∈ fsTick,OkF f:=by decide
theorem ok_iss:∀ f ∈ fsIss,OkF f:=by decide
theorem rec_kind {k1 k2:Int} {f1 f2:List Fd} {v1 v2:List V4} (h1:KindOk k1) (h2:KindOk k2) (o1:∀ f ∈ f1,OkF f) (o2:∀ f ∈ f2,OkF f) (l1:f1.length≤8) (l2:f2.length≤8) (g1:GoodFs f1 v1) (g2:GoodFs f2 v2) (h:recB k1 f1 v1=recB k2 f2 v2):k1=k2:=by
 have b1:=rec_len h1 o1 l1 g1
 have b2:=rec_len h2 o2 l2 g2
 have n1:=next_put (tag:=48) (body:=putL 10 (putN k1)++encFs f1 v1) (r:=[]) (by decide) (by omega)
 have n2:=next_put (tag:=48) (body:=putL 10 (putN k2)++encFs f2 v2) (r:=[]) (by decide) (by omega)
 rw [List.append_nil] at n1 n2
 have e1:nextM (recB k1 f1 v1)=nextM (recB k2 f2 v2):=by rw [h]
 have e1':nextM (putL 48 (putL 10 (putN k1)++encFs f1 v1))=nextM (putL 48 (putL 10 (putN k2)++encFs f2 v2)):=e1
 rw [n1,n2] at e1'
 have e2:putL 10 (putN k1)++encFs f1 v1=putL 10 (putN k2)++encFs f2 v2:=(Nx.mk.injEq _ _ _ _ _ _ _ _).mp e1' |>.2.2.1
 have m1:=next_put (tag:=10) (body:=putN k1) (r:=encFs f1 v1) (by decide) (by have:=(kind_put h1).2;omega)
 have m2:=next_put (tag:=10) (body:=putN k2) (r:=encFs f2 v2) (by decide) (by have:=(kind_put h2).2;omega)
 rw [e2,m2] at m1
 have e3:putN k2=putN k1:=(Nx.mk.injEq _ _ _ _ _ _ _ _).mp m1 |>.2.2.1
 have c1:=(kind_put h1).1
 have c2:=(kind_put h2).1
 rw [← e3,c2] at c1
 exact ((Prod.mk.injEq _ _ _ _).mp c1).1.symm
theorem other_kind {k1 k2:Int} {f1 f2:List Fd} {v1:List V4} (h1:KindOk k1) (h2:KindOk k2) (o1:∀ f ∈ f1,OkF f) (o2:∀ f ∈ f2,OkF f) (l1:f1.length≤8) (l2:f2.length≤8) (g1:GoodFs f1 v1) (hne:k1≠k2):(readRec k2 f2 (recB k1 f1 v1)).2≠0:=fun h=>by
 obtain ⟨a1,a2,_⟩:=readRec_back o2 h
 exact hne (rec_kind h1 h2 o1 o2 l1 l2 g1 a1 a2.symm)
theorem recM_fwd {kind:Int} {fs:List Fd} {vs:List V4} (hk:KindOk kind) (ho:∀ f ∈ fs,OkF f) (hl:fs.length≤8) (hn:NormFs fs vs) (h:rightRec kind fs vs=true):recM kind fs (recB kind fs vs)=(vs,0):=by
 have h':=h
 unfold rightRec at h'
 rw [Bool.and_eq_true] at h'
 have hf:=readRec_fwd hk ho hl (goods_right hn h'.1)
 unfold recM
 rw [hf,if_neg (by simp),if_neg (by rw [h];decide)]
theorem recM_other {k1 k2:Int} {f1 f2:List Fd} {v1:List V4} (h1:KindOk k1) (h2:KindOk k2) (o1:∀ f ∈ f1,OkF f) (o2:∀ f ∈ f2,OkF f) (l1:f1.length≤8) (l2:f2.length≤8) (hn:NormFs f1 v1) (h:rightRec k1 f1 v1=true) (hne:k1≠k2):(recM k2 f2 (recB k1 f1 v1)).2≠0:=by
 unfold rightRec at h
 rw [Bool.and_eq_true] at h
 have:=other_kind h1 h2 o1 o2 l1 l2 (goods_right hn h.1) hne
 unfold recM
 rw [if_pos this]
 exact this
def kindB (b:List UInt8):Int :=
 if (recM 2 fsCase b).2=0 then 2 else if (recM 3 fsAuth b).2=0 then 3 else if (recM 4 fsMark b).2=0 then 4 else if (recM 7 fsTick b).2=0 then 7 else if (recM 6 fsIss b).2=0 then 6 else 0
end
section
open Go.RowKit Cal
theorem kind_mark {vs:List V4} (hn:NormFs fsMark vs) (h:rightRec 4 fsMark vs=true):kindB (recB 4 fsMark vs)=4:=by
 have e:=recM_fwd (kind:=4) (by unfold KindOk;decide) ok_mark (by decide) hn h
 unfold kindB
 rw [if_neg (recM_other (k1:=4) (k2:=2) (by unfold KindOk;decide) (by unfold KindOk;decide) ok_mark ok_case (by decide) (by decide) hn h (by decide)),if_neg (recM_other (k1:=4) (k2:=3) (by unfold KindOk;decide) (by unfold KindOk;decide) ok_mark ok_auth (by decide) (by decide) hn h (by decide)),if_pos (by rw [e])]
theorem kind_tick {vs:List V4} (hn:NormFs fsTick vs) (h:rightRec 7 fsTick vs=true):kindB (recB 7 fsTick vs)=7:=by
 have e:=recM_fwd (kind:=7) (by unfold KindOk;decide) ok_tick (by decide) hn h
 unfold kindB
 rw [if_neg (recM_other (k1:=7) (k2:=2) (by unfold KindOk;decide) (by unfold KindOk;decide) ok_tick ok_case (by decide) (by decide) hn h (by decide)),if_neg (recM_other (k1:=7) (k2:=3) (by unfold KindOk;decide) (by unfold KindOk;decide) ok_tick ok_auth (by decide) (by decide) hn h (by decide)),if_neg (recM_other (k1:=7) (k2:=4) (by unfold KindOk;decide) (by unfold KindOk;decide) ok_tick ok_mark (by decide) (by decide) hn h (by decide)),if_pos (by rw [e])]
theorem kind_iss {vs:List V4} (hn:NormFs fsIss vs) (h:rightRec 6 fsIss vs=true):kindB (recB 6 fsIss vs)=6:=by
 have e:=recM_fwd (kind:=6) (by unfold KindOk;decide) ok_iss (by decide) hn h
 unfold kindB
 rw [if_neg (recM_other (k1:=6) (k2:=2) (by unfold KindOk;decide) (by unfold KindOk;decide) ok_iss ok_case (by decide) (by decide) hn h (by decide)),if_neg (recM_other (k1:=6) (k2:=3) (by unfold KindOk;decide) (by unfold KindOk;decide) ok_iss ok_auth (by decide) (by decide) hn h (by decide)),if_neg (recM_other (k1:=6) (k2:=4) (by unfold KindOk;decide) (by unfold KindOk;decide) ok_iss ok_mark (by decide) (by decide) hn h (by decide)),if_neg (recM_other (k1:=6) (k2:=7) (by unfold KindOk;decide) (by unfold KindOk;decide) ok_iss ok_tick (by decide) (by decide) hn h (by decide)),if_pos (by rw [e])]
theorem inv_fds:∀ {fs:List Fd} {vs:List V4},(∀ f ∈ fs,OkF f)→GoodFs fs vs→∀ {i:Nat} {r:R8} {w:W8},Inv8 i r w→Inv8 (i+14 * fs.length) (rputFds fs vs r) (putFds fs vs w)
 | [],[],_,_,i,r,w,h=>h
 | f::fs,v::vs,ho,h,i,r,w,hI=>by
  have h1:=inv_fds (fun g hg=>ho g (List.mem_cons_of_mem _ hg)) h.2 (inv_putFd (ho f List.mem_cons_self) h.1 hI)
  rw [List.length_cons,show i+14 * (fs.length+1)=i+14+14 * fs.length by omega]
  exact h1
 | [],v::vs,_,h,_,_,_,_=>h.elim
 | f::fs,[],_,h,_,_,_,_=>h.elim
theorem small_vE {kind:Int} (h:KindOk kind):SmallV (vE kind):=⟨by unfold KindOk at h;show _≤kind∧kind≤_;omega,by simp [vE],by simp [vE]⟩
theorem inv_rec0 {kind:Int} (h:KindOk kind):Inv8 2 (rdoS (vE kind) (rdoS (w1 48) r00)) (doW (vE kind) (doW (w1 48) w00)):=inv_do (inv_do inv_00 (small_w1 (t:=48) (by decide))) (small_vE h)
theorem inv_rec {kind:Int} {fs:List Fd} {vs:List V4} (h:KindOk kind) (ho:∀ f ∈ fs,OkF f) (hg:GoodFs fs vs):Inv8 (3+14 * fs.length) (rputRec kind fs vs) (putRec kind fs vs):=by
 have h1:=inv_do (inv_fds ho hg (inv_rec0 h)) small_w2
 rw [do_w2,show 2+14 * fs.length+1=3+14 * fs.length by omega] at h1
 exact h1
end
section
variable {gs:List Nat} [Ok9 gs]
open Go.RowKit Cal

def rqF (l:List (List UInt8)) (k:Nat):Nat→CV:=fl [lbC l,.c (.int .i64 (k:Nat))]
def rqE (n:Nat) (l:List (List UInt8)) (k:Nat):Option Nat×Res:=(some n,.blk 2 (rqF l k))
end
section
variable {gs:List Nat} [Ok9 gs]
open Go.RowKit Cal

def nxK8 (tag:Int) (l:List (List UInt8)):Nat:=if (nextM (nowL l)).e=0∧tag≠0∧((nextM (nowL l)).tag:Int)≠tag then 5 else (nextM (nowL l)).e
end
section
variable {gs:List Nat} [Ok9 gs]
open Go.RowKit Cal

def SaidQ (a:AA) (b:List UInt8):CV→List (Option Nat×Res)→Prop:=fun r H'=>(∃ v,r=.tup 2 (fl [valC v,.c (.int .i64 ((saidM a b).2:Nat))])∧((saidM a b).2=0→v=(saidM a b).1))∧H'=[]
def GetC (gs:List Nat) (P:Program) (f:FuncId):Prop:=∀ b:List UInt8,b.length≤1000000→ACp gs P f [bsC b] (.tup 2 (fl [isC (getA b).1,.c (.int .i64 ((getA b).2:Nat))]))
end
section
variable {gs:List Nat} [Ok9 gs]
open Go.RowKit Cal
end
section
variable {gs:List Nat}

theorem shr7 (N i:Nat) (hi:i≤5) {b:Int} (hb:b=7 * (i:Int)):(N:Int).fdiv (2 ^ (min b.toNat (IntKind.bits .i64)))=((N / 128 ^ i:Nat):Int):=by
 have e:b.toNat=7 * i:=by omega
 rw [e,show min (7 * i) (IntKind.bits .i64)=7 * i from Nat.min_eq_left (by show 7 * i≤64;omega),Int.fdiv_eq_ediv_of_nonneg _ (Int.pow_nonneg (by decide))]
 rw [show (128:Nat) ^ i=2 ^ (7 * i) by rw [Nat.pow_mul]]
 push_cast
 rfl
def preS (N k:Nat):List UInt8:=if k=0 then sepL N else sepHi (N / 128 ^ k)
theorem div_next (N i:Nat):N / 128 ^ (i+1)=N / 128 ^ i / 128:=by rw [Nat.pow_succ,Nat.div_div_eq_div_mul]
theorem sepHi_nil {m:Nat} (h:(sepHi m).length=0):m=0:=by
 by_cases h0:m=0
 ·exact h0
 ·rw [sepHi_pos h0] at h;simp at h
def sepD (q i:Nat):UInt8:=if i=0 then UInt8.ofNat (q % 128) else UInt8.ofNat (q % 128+128)
theorem sepD_hi {q i:Nat} (h:0<i):(q:Int) % 128+128=((sepD q i).toNat:Nat):=by
 rw [sepD,if_neg (by omega)];exact (sep_int2 q).symm
theorem sepD_lo {q i:Nat} (h:i=0):(q:Int) % 128=((sepD q i).toNat:Nat):=by
 rw [sepD,if_pos h];exact (sep_int q).symm
theorem pre_hi {N i q:Nat} {o:List UInt8} (hq:N / 128 ^ i=q) (ho:o=preS N (i+1)) (h0:0<i) (h:0<q % 128∨0<o.length):o++[UInt8.ofNat (q % 128+128)]=preS N i:=by
 have e1:preS N (i+1)=sepHi (q / 128):=by unfold preS;rw [if_neg (by omega),div_next,hq]
 have e2:preS N i=sepHi q:=by unfold preS;rw [if_neg (by omega),hq]
 have hq0:q≠0:=fun e=>by
  rw [e] at h e1
  rw [ho,e1,show (0:Nat) / 128=0 from rfl,sepHi_zero] at h
  rcases h with h|h
  ·exact absurd h (by decide)
  ·exact absurd h (by decide)
 rw [e2,ho,e1,sepHi_pos hq0]
theorem pre_lo {N q:Nat} {o:List UInt8} (hq:N / 128 ^ 0=q) (ho:o=preS N 1):o++[UInt8.ofNat (q % 128)]=preS N 0:=by
 have e0:q=N:=by rw [← hq,Nat.pow_zero,Nat.div_one]
 rw [ho,e0]
 rfl
theorem pre_no {N i q:Nat} {o:List UInt8} (hq:N / 128 ^ i=q) (ho:o=preS N (i+1)) (h0:0<i) (h1:¬ 0<q % 128) (h2:¬ 0<o.length):o=preS N i:=by
 have e1:preS N (i+1)=sepHi (q / 128):=by unfold preS;rw [if_neg (by omega),div_next,hq]
 have e2:preS N i=sepHi q:=by unfold preS;rw [if_neg (by omega),hq]
 have e3:q / 128=0:=sepHi_nil (by rw [← e1,← ho];omega)
 have e4:q=0:=by omega
 rw [ho,e1,e2,e3,e4]
theorem pre_len {N k:Nat} (hN:N<34359738368) (hk:k≤6):(preS N k).length≤5:=by
 unfold preS
 split
 ·exact sepL_len hN
 ·have h1:N / 128 ^ k≤N:=Nat.div_le_self _ _
  exact sepHi_len 5 _ (by omega)
set_option maxHeartbeats 1000000 in
theorem rsep_ac (N:Nat) (hN:N<34359738368):AC gs Tryz.prog 250 [] [.c (.int .i64 (N:Nat))] (OwnQ (sepL N).length 1 (sepL N).length (byF (sepL N))):=by
 refine ac_of 38 Tryz.func250 rfl rfl rfl (fun al w0 F0 St0=>?_)
 refine jU 6516 ?_
 refine jqe (jebl 0 1 zr5 fun p1=>?_)
 refine jU 20516751 ?_;refine l_loop (α:=Nat×List UInt8×Option Nat) [3,4,5,7,8,9,10,11,12,13,14,15,16,17,18,19,20,21,22,23,24,25,26,27,28,29,30,31,32,33,34,35,36] (fun (k,o,g)=>[(4,.c (.int .i64 ((k:Int)-1))),(3,.os 0 g 0 o.length 1)]) (fun (k,o,g)=>[(g,.blk o.length (byF o))]) (fun (k,o,g)=>k≤6∧o=preS N k) (fun (k,o,g)=>k) ((6,[],p1)) ?_ (fun _=>rfl) ?_ ?_ ?_
 ·exact ⟨Nat.le_refl _,by unfold preS;rw [if_neg (by decide),show N / 128 ^ 6=0 by omega,sepHi_zero]⟩
 ·exact .cons cZ (.cons cZ .nil)
 ·exact .blk rfl (fun j hj=>absurd hj (Nat.not_lt_zero j)) .nil
 ·rintro ⟨k,o,g⟩ ⟨(hk:k≤6),(ho:o=_)⟩
  have hol:o.length≤5:=by rw [ho];exact pre_len hN hk
  refine jU 52167 ?_;refine jcc (fun h65=>?_) fun h65=>?_
  rotate_left
  ·refine jU 84000200020006000 ?_
   obtain rfl:k=0:=by omega
   obtain rfl:o=sepL N:=ho
   refine jU 70005116 ?_
   exact end_O 0 (.inl rfl) (res_1 rfl (arv_tmp rfl)) rfl rfl (Nat.le_refl _) (fun _=>rfl) (fun j hj=>cZ)
  refine jU 207810 ?_
  obtain ⟨i,rfl⟩:∃ i,k=i+1:=⟨k-1,by omega⟩
  obtain ⟨q,hq⟩:∃ q,N / 128 ^ i=q:=⟨_,rfl⟩
  refine jU 9116 ?_;refine jq (jrv .i64 .u64) ?_;refine jq (rd_shr rfl rfl rfl (by (omega)) ((q:Int)) (by rw [← hq];exact shr7 N i (by omega) (by omega))) ?_;refine jU 1216511000000 ?_;refine jqsp 19 (fun g67=>?_) fun g67=>?_
  ·refine jU 521679000580004418000444 ?_;refine jcc (fun h68=>?_) fun h68=>?_
   rotate_left
   ·refine jU 80000011200810 ?_
    refine jqe (jebl 1 1 zr5 fun p2=>?_)
    refine jqm (m_appendB (l2:=[sepD q i]) rfl rfl rfl (Nat.le_refl _) (fun _ _=>cZ) (src_os rfl (.inl rfl) (by decide)) rfl (hh_bytes (.cons (cI (by exact sepD_lo (by omega))) .nil)) Tryz.underlying22 nu22 sz5 zr5 by5 rfl (by (simp;omega)) (leaf_fl rfl rfl) rfl rfl (fun p3=>?_))
    refine jU 85191200840051 ?_
    refine jlend ((i,o++[sepD q i],p3)) ?_ ?_ (h5:=?_) (h7:=?_)
    ·exact ⟨by omega,by obtain rfl:i=0:=(by omega);rw [sepD,if_pos rfl];exact pre_lo hq ho⟩
    ·show i<i+1;omega
    ·exact .cons (cI (by omega)) (.cons cZ .nil)
    ·exact .same .nil
   refine jU 8000001120085191200 ?_
   refine jqe (jebl 1 1 zr5 fun p2=>?_)
   refine jqm (m_appendB (l2:=[sepD q i]) rfl rfl rfl (Nat.le_refl _) (fun _ _=>cZ) (src_os rfl (.inl rfl) (by decide)) rfl (hh_bytes (.cons (cI (by exact sepD_hi (by omega))) .nil)) Tryz.underlying22 nu22 sz5 zr5 by5 rfl (by (simp;omega)) (leaf_fl rfl rfl) rfl rfl (fun p3=>?_))
   refine jU 85191200840051 ?_
   refine jlend ((i,o++[sepD q i],p3)) ?_ ?_ (h5:=?_) (h7:=?_)
   ·exact ⟨by omega,by (rw [sepD,if_neg (by omega)];exact pre_hi hq ho (by omega) (by omega))⟩
   ·show i<i+1;omega
   ·exact .cons (cI (by omega)) (.cons cZ .nil)
   ·exact .same .nil
  refine jU 1500231 ?_;refine jqsp 24 (fun g67_2=>?_) fun g67_2=>?_
  ·refine jU 5216790005800044 ?_;refine jcc (fun h68=>?_) fun h68=>?_
   rotate_left
   ·refine jU 80000011200810 ?_
    refine jqe (jebl 1 1 zr5 fun p2=>?_)
    refine jqm (m_appendB (l2:=[sepD q i]) rfl rfl rfl (Nat.le_refl _) (fun _ _=>cZ) (src_os rfl (.inl rfl) (by decide)) rfl (hh_bytes (.cons (cI (by exact sepD_lo (by omega))) .nil)) Tryz.underlying22 nu22 sz5 zr5 by5 rfl (by (simp;omega)) (leaf_fl rfl rfl) rfl rfl (fun p3=>?_))
    refine jU 85191200840051 ?_
    refine jlend ((i,o++[sepD q i],p3)) ?_ ?_ (h5:=?_) (h7:=?_)
    ·exact ⟨by omega,by obtain rfl:i=0:=(by omega);rw [sepD,if_pos rfl];exact pre_lo hq ho⟩
    ·show i<i+1;omega
    ·exact .cons (cI (by omega)) (.cons cZ .nil)
    ·exact .same .nil
   refine jU 8000001120085191200 ?_
   refine jqe (jebl 1 1 zr5 fun p2=>?_)
   refine jqm (m_appendB (l2:=[sepD q i]) rfl rfl rfl (Nat.le_refl _) (fun _ _=>cZ) (src_os rfl (.inl rfl) (by decide)) rfl (hh_bytes (.cons (cI (by exact sepD_hi (by omega))) .nil)) Tryz.underlying22 nu22 sz5 zr5 by5 rfl (by (simp;omega)) (leaf_fl rfl rfl) rfl rfl (fun p3=>?_))
   refine jU 85191200840051 ?_
   refine jlend ((i,o++[sepD q i],p3)) ?_ ?_ (h5:=?_) (h7:=?_)
   ·exact ⟨by omega,by (rw [sepD,if_neg (by omega)];exact pre_hi hq ho (by omega) (by omega))⟩
   ·show i<i+1;omega
   ·exact .cons (cI (by omega)) (.cons cZ .nil)
   ·exact .same .nil
  refine jU 550021 ?_;refine jcc (fun h67=>?_) fun h67=>?_
  rotate_left
  ·refine jU 85191200840010 ?_
   refine jlend ((i,o,g)) ?_ ?_ (h5:=?_) (h7:=?_)
   ·exact ⟨by omega,pre_no hq ho (by omega) (by omega) (by omega)⟩
   ·show i<i+1;omega
   ·exact .cons (cI (by omega)) (.cons cZ .nil)
   ·exact .same .nil
  refine jU 52167 ?_;refine jcc (fun h68=>?_) fun h68=>?_
  rotate_left
  ·refine jU 80000011200810 ?_
   refine jqe (jebl 1 1 zr5 fun p2=>?_)
   refine jqm (m_appendB (l2:=[sepD q i]) rfl rfl rfl (Nat.le_refl _) (fun _ _=>cZ) (src_os rfl (.inl rfl) (by decide)) rfl (hh_bytes (.cons (cI (by exact sepD_lo (by omega))) .nil)) Tryz.underlying22 nu22 sz5 zr5 by5 rfl (by (simp;omega)) (leaf_fl rfl rfl) rfl rfl (fun p3=>?_))
   refine jU 85191200840051 ?_
   refine jlend ((i,o++[sepD q i],p3)) ?_ ?_ (h5:=?_) (h7:=?_)
   ·exact ⟨by omega,by obtain rfl:i=0:=(by omega);rw [sepD,if_pos rfl];exact pre_lo hq ho⟩
   ·show i<i+1;omega
   ·exact .cons (cI (by omega)) (.cons cZ .nil)
   ·exact .same .nil
  refine jU 8000001120085191200 ?_
  refine jqe (jebl 1 1 zr5 fun p2=>?_)
  refine jqm (m_appendB (l2:=[sepD q i]) rfl rfl rfl (Nat.le_refl _) (fun _ _=>cZ) (src_os rfl (.inl rfl) (by decide)) rfl (hh_bytes (.cons (cI (by exact sepD_hi (by omega))) .nil)) Tryz.underlying22 nu22 sz5 zr5 by5 rfl (by omega) (leaf_fl rfl rfl) rfl rfl (fun p3=>?_))
  refine jU 85191200840051 ?_
  refine jlend ((i,o++[sepD q i],p3)) ?_ ?_ (h5:=?_) (h7:=?_)
  ·exact ⟨by omega,by (exfalso;omega)⟩
  ·show i<i+1;omega
  ·exact .cons (cI (by omega)) (.cons cZ .nil)
  ·exact .same .nil
set_option maxHeartbeats 1000000 in
theorem rputO_ac (l:List Int) (hr:rightA l=true):ACp gs Tryz.prog 213 [isC l] (bsC (putA l)):=by
 obtain ⟨hl2,hl16,hall,ha,hb⟩:=right_at hr
 have h0:=hall _ (getD_mem' (l:=l) (k:=0) 0 (by omega))
 have h1:=hall _ (getD_mem' (l:=l) (k:=1) 0 (by omega))
 refine ac_of 28 Tryz.func213 rfl rfl rfl (fun al w0 F0 St0=>?_)
 refine jU 7516 ?_;refine jcd (.rd 0 (.rd 1 (.rd 2 (.rd 3 (.rd 4 (.rd 5 (.rd 6 (.rd 7 (.one 8 (.rd 9 .done)))))))))) ?_;refine jU 70 ?_;refine jyq (jri (i:=0)) ?_;refine jU 703000070000 ?_;refine jyq (jri (i:=1)) ?_;refine jU 3000070000 ?_
 refine jye (jecO (rsep_ac (40 * l.getD 0 0+l.getD 1 0).toNat (by omega)) (fun p1=>?_) (ho:=rfl) (he:=(.cons (se rfl (cI (by omega))) .nil)))
 refine jU 16788070 ?_;refine jq (jrsr (hl:=(bd_some rfl (show (2:Int)=((2:Nat):Int) from rfl))) (hu:=(bd_none _ _))) ?_;refine jU 20513 ?_;refine l_loop (α:=Nat×List UInt8×Option Nat) [3,5,18,19,20,21,22,23,24,25,26] (fun (i,o,g)=>[(3,.os 0 g 0 o.length 1),(18,.c (.int .i64 (i:Nat)))]) (fun (i,o,g)=>[(g,.blk o.length (byF o))]) (fun (i,o,g)=>i≤l.length-2∧o=sepL (40 * l.getD 0 0+l.getD 1 0).toNat++(((l.drop 2).take i).map fun n=>sepL n.toNat).flatten) (fun (i,o,g)=>l.length-i) ((0,sepL (40 * l.getD 0 0+l.getD 1 0).toNat,p1)) ?_ (fun _=>rfl) ?_ ?_ ?_
 ·exact ⟨Nat.zero_le _,by simp⟩
 ·exact .cons cZ (.cons cZ .nil)
 ·exact .same .nil
 ·rintro ⟨i,o,g⟩ ⟨(hi:i≤l.length-2),ho⟩
  have hol:o.length≤5+5 * i:=by
   rw [ho,List.length_append]
   have e1:=sepL_len (n:=(40 * l.getD 0 0+l.getD 1 0).toNat) (by omega)
   have e2:=sep_flat_len (l:=(l.drop 2).take i) (fun n hn=>hall n (List.mem_of_mem_drop (List.mem_of_mem_take hn)))
   rw [List.length_take,List.length_drop] at e2
   omega
  refine jU 7526 ?_;refine jcc (fun h80=>?_) fun h80=>?_
  rotate_left
  ·refine jU 511684000200020006000 ?_;refine jE (freeze 0 rfl) ?_;refine jE (thawB 2 (o) rfl rfl (by rfl) rfl) ?_
   refine jR (jrt (hv:=?_))
   refine CEnt.bs ?_
   rw [ho,List.take_of_length_le (by rw [List.length_drop];omega)]
   rfl
  refine jU 51607006207810 ?_
  have h3:=hall _ (getD_mem' (l:=l) (k:=2+i) 0 (by omega))
  have h4:=sepL_len (n:=(l.getD (2+i) 0).toNat) (by omega)
  refine jU 11200 ?_
  refine jqe (jecO (rsep_ac (l.getD (2+i) 0).toNat (by omega)) (fun p2=>?_) (ho:=rfl) (he:=(.cons (se rfl (cI (by omega))) .nil)))
  refine jqm (m_appendB rfl rfl rfl (Nat.le_refl _) (fun _ _=>cZ) (src_os rfl (.inl rfl) (by omega)) rfl (fun j hj=>by rw [Nat.zero_add];exact cZ) Tryz.underlying22 nu22 sz5 zr5 by5 rfl (by omega) (fun j hj=>rfl) rfl rfl (fun p3=>?_))
  refine jU 8519200840051 ?_
  refine jlend ((i+1,o++sepL (l.getD (2+i) 0).toNat,p3)) ?_ ?_ (h5:=?_) (h7:=?_)
  ·exact ⟨by omega,by rw [ho,sep_take (by rw [List.length_drop];omega),List.append_assoc]⟩
  ·show l.length-(i+1)<l.length-i;omega
  ·exact .cons cZ (.cons (cI (by omega)) .nil)
  ·exact .same .nil
end
section
open Go.RowKit Cal
set_option maxHeartbeats 1000000 in
theorem rbody78_ac {gs:List Nat} (v:VV) (hv:OkV v) (h78:v.kind=7∨v.kind=8):AC gs Tryz.prog 157 [] [valC v] (BodyQ v):=by
 have hvt:=hv.t
 refine ac_of 77 Tryz.func157 rfl rfl rfl (fun al w0 F0 St0=>?_)
 refine jcr ?_
 refine jqe (jebx 5 fun p1=>?_)
 refine jU 51262055090675111 ?_;refine jcc (fun h31=>?_) fun h31=>?_
 ·exfalso;omega
 refine jU 5126 ?_;refine jcc (fun h33=>?_) fun h33=>?_
 ·exfalso;omega
 refine jU 5126 ?_;refine jcc (fun h35=>?_) fun h35=>?_
 ·exfalso;omega
 refine jU 5126 ?_;refine jcc (fun h40=>?_) fun h40=>?_
 ·exfalso;omega
 refine jU 5126 ?_;refine jcc (fun h42=>?_) fun h42=>?_
 ·refine jcs ?_;refine jcd (.rd 0 (.rd 1 (.rd 3 (.rd 4 (.rd 5 (.rd 6 (.two 2 (.one 7 (.rd 8 (.rd 9 (.rd 10 .done)))) 7 (.rd 8 (.one 2 (.rd 9 (.rd 10 .done))))))))))) ?_;refine jyq (jrfa 4 1 false) ?_;refine jyo jrdo ?_;refine jyq (jrfa 4 1 false) ?_;refine jU 10000800000010000 ?_;refine jytwo ?_ ?_
  ·refine jye (jecv ?_)
   refine jye (jecP (rasked_ac v.t v.n (by omega)) ?_)
   refine jU 300050007000880707070 ?_
   exact end_ownV (.inl rfl) [] (by decide) rfl (res_3 rfl javt javt javt) cZ (bodyQ (b':=v.t) (by unfold bodyV;rw [if_neg (by omega),if_neg (by omega),if_neg (by omega),if_neg (by omega),if_pos (by omega)]) (fun h=>by rw [if_pos h]))
  ·refine jye (jecP (rasked_ac v.t v.n (by omega)) ?_)
   refine jU 70 ?_
   refine jye (jecv ?_)
   refine jU 3000500070008807070 ?_
   exact end_ownV (.inl rfl) [] (by decide) rfl (res_3 rfl javt javt javt) cZ (bodyQ (b':=v.t) (by unfold bodyV;rw [if_neg (by omega),if_neg (by omega),if_neg (by omega),if_neg (by omega),if_pos (by omega)]) (fun h=>by rw [if_pos h]))
 refine jU 5126 ?_;refine jcc (fun h44=>?_) fun h44=>?_
 rotate_left
 ·exfalso;omega
 refine jU 5070000006 ?_
 refine jqe (jecP (rparse_ac v.t (by omega)) ?_)
 refine jU 521675119009001 ?_;refine jcc (fun h46=>?_) fun h46=>?_
 ·refine jU 3000500030007000511116 ?_
  exact end_ownV (.inl rfl) [] (by decide) rfl (res_3 rfl javt javt javt) (CEnt.tup3 cZ cN cZ) (bodyQ (by unfold bodyV;rw [if_neg (by omega),if_neg (by omega),if_neg (by omega),if_neg (by omega),if_neg (by omega),if_pos (by omega)]) (fun h=>by omega))
 refine jU 810 ?_
 have hp0:(parseM v.t).2=0:=by omega
 refine jU 16 ?_
 refine jqe (jecP (rputO_ac (parseM v.t).1 (parse_ok hp0)) ?_)
 refine jU 3000500070005111 ?_
 exact end_ownV (.inl rfl) [] (by decide) rfl (res_3 rfl javt javt javt) cZ (bodyQ (e:=0) (by unfold bodyV;rw [if_neg (by omega),if_neg (by omega),if_neg (by omega),if_neg (by omega),if_neg (by omega),if_pos (by omega),hp0]) (fun h=>by unfold putM;rw [if_pos hp0]))
theorem rdoW78_ac {gs:List Nat} (n:Nat) (s:R8) (v:VV) (hs:OkRD s) (hv:OkV v) (hk:v.kind=1∨v.kind=2∨v.kind=7∨v.kind=8):AC gs Tryz.prog 80 [rwO n s] [.op 0 (some n) 0,valC v] (fun r H'=>r=.c (.tuple #[])∧H'=[rwO n (rdoS v s)]):=rdoWB_ac n s v hs hv fun h1 h2 _=>rbody78_ac v hv (by omega)
end
section
variable {gs:List Nat} [OkG gs] [OkT gs]
open Go.RowKit Cal

theorem rputS_bad {s:S3} {r:R8} (h:r.e≠0):rputS9 s r=r:=by
 unfold rputS9
 split
 ·exact rdoAll_bad _ h
 ·rfl
set_option maxHeartbeats 4000000 in
theorem rnput_ac {gs:List Nat} (n:Nat) {i0:Nat} {r:R8} {w:W8} (hI:Inv8 i0 r w) (hi0:i0≤800) (s:S3):AC gs Tryz.prog 81 [rwO n r] [.op 0 (some n) 0,subjC s] (fun x H'=>x=.c (.tuple #[])∧H'=[rwO n (rputS9 s r)]):=by
 have I1:=inv_do hI (small_w1 (t:=48) (by decide))
 refine ac_of 54 Tryz.func81 rfl rfl rfl (fun al w0 F0 St0=>?_)
 refine jcr ?_
 refine jqe (jebx 3 fun p1=>?_)
 refine jU 5 ?_;refine code_openRW 0 rfl fun gr=>?_;refine code_join (α:=Unit) [6,7,8,9,10,11,12,13,14,15,16,17,18] (fun _=>[]) (fun _=>[(some n,.blk 3 (rwB ⟨r.tags,r.rows,if r.e=0∧rightS s=false then 9 else r.e⟩ 2 gr)),(p1,.blk 3 (sF s)),(gr,.blk r.rows.length (rowsF r.rows))]) (fun _=>True) (fun _=>rfl) ?_ ?_
 ·refine jU 125010004016 ?_;refine jqsp 11 (fun g95=>?_) fun g95=>?_
  rotate_left
  ·refine jU 8103005500444 ?_
   refine jjend (()) ?_ (h5:=?_) (h7:=?_)
   ·trivial
   ·exact .nil
   ·show HEnt _ [(some n,.blk 3 (rwB ⟨r.tags,r.rows,if r.e=0∧rightS s=false then 9 else r.e⟩ 2 gr)),(p1,.blk 3 (sF s)),(gr,.blk r.rows.length (rowsF r.rows))]
    first
    |(rw [if_pos ⟨by omega,by simp_all⟩];exact HEnt.refl _)
    |(rw [if_neg (by rintro ⟨_,h⟩;simp_all)];exact HEnt.refl _)
    |(rw [if_neg (by omega)];exact HEnt.refl _)
  refine jqo (jrdoA 3) ?_
  refine jqe (jecP (rright_ac s) ?_)
  refine jU 5800030 ?_;refine jcc (fun h95=>?_) fun h95=>?_
  rotate_left
  ·refine jU 810 ?_
   refine jjend (()) ?_ (h5:=?_) (h7:=?_)
   ·trivial
   ·exact .nil
   ·show HEnt _ [(some n,.blk 3 (rwB ⟨r.tags,r.rows,if r.e=0∧rightS s=false then 9 else r.e⟩ 2 gr)),(p1,.blk 3 (sF s)),(gr,.blk r.rows.length (rowsF r.rows))]
    first
    |(rw [if_pos ⟨by omega,by simp_all⟩];exact HEnt.refl _)
    |(rw [if_neg (by rintro ⟨_,h⟩;simp_all)];exact HEnt.refl _)
    |(rw [if_neg (by omega)];exact HEnt.refl _)
  refine jU 1000401200 ?_
  refine jqm (jmstF 1 (rwB ⟨r.tags,r.rows,9⟩ 2 gr) ?_ ?_)
  ·exact (fun j hj=>by rcases j with _|_|_|j <;> exact cZ)
  refine jU 85 ?_
  refine jjend (()) ?_ (h5:=?_) (h7:=?_)
  ·trivial
  ·exact .nil
  ·show HEnt _ [(some n,.blk 3 (rwB ⟨r.tags,r.rows,if r.e=0∧rightS s=false then 9 else r.e⟩ 2 gr)),(p1,.blk 3 (sF s)),(gr,.blk r.rows.length (rowsF r.rows))]
   first
   |(rw [if_pos ⟨by omega,by simp_all⟩];exact HEnt.refl _)
   |(rw [if_neg (by rintro ⟨_,h⟩;simp_all)];exact HEnt.refl _)
   |(rw [if_neg (by omega)];exact HEnt.refl _)
 ·rintro u _
  obtain ⟨e0,he0⟩:∃ e0,e0=(if r.e=0∧rightS s=false then 9 else r.e):=⟨_,rfl⟩
  have hbad:e0≠0→rputS9 s r=⟨r.tags,r.rows,e0⟩:=fun h=>by
   by_cases hc:r.e=0∧rightS s=false
   ·rw [if_pos hc] at he0
    unfold rputS9
    rw [if_neg (by rw [hc.2];decide),if_pos hc.1,he0]
   ·rw [if_neg hc] at he0
    rw [rputS_bad (by omega),he0]
  have hgood:e0=0→r.e=0∧rightS s=true:=fun h=>by
   by_cases hc:r.e=0∧rightS s=false
   ·rw [if_pos hc] at he0;omega
   ·rw [if_neg hc] at he0
    refine ⟨by omega,?_⟩
    cases hb:rightS s with
    | true=>rfl
    | false=>exact absurd ⟨by omega,hb⟩ hc
  rw [← he0]
  refine jU 5250100040167 ?_;refine jcc (fun h98=>?_) fun h98=>?_
  ·refine jU 30007000 ?_
   rw [hbad (by have h:((e0:Nat):Int)≠0:=h98;omega)]
   exact end_closeRW (.inl rfl) n ⟨r.tags,r.rows,e0⟩ 2 (res_0 rfl) cZ rfl rfl rfl (by exact cZ) (by exact cO rfl) (by exact cZ) (Nat.le_refl _) (fun _ _=>by exact cZ)
  refine jU 810 ?_
  obtain ⟨hre,hr⟩:=hgood (by have h:¬ (((e0:Nat):Int)≠0):=h98;omega)
  obtain ⟨hg1,hg2⟩:=good_parts hr
  have hG:∀ j,j≤(partsS s).length→∃ w',Inv8 (i0+1+4 * j) (rdoAll (((partsS s).take j).flatMap pv) (rdoS (w1 48) r)) w':=fun j hj=>by
   refine ⟨_,inv_mono (inv_all (((partsS s).take j).flatMap pv) I1 fun v hv=>?_) ?_⟩
   ·obtain ⟨p,hp,hv⟩:=List.mem_flatMap.1 hv
    have h:=hg1 p (List.mem_of_mem_take hp)
    exact small_pv (by omega) (by omega) v hv
   ·rw [pvs_len,List.length_take];omega
  have hS:∀ j,j<(partsS s).length→rdoAll (((partsS s).take (j+1)).flatMap pv) (rdoS (w1 48) r)=rdoAll (pv ((partsS s).getD j ([],[]))) (rdoAll (((partsS s).take j).flatMap pv) (rdoS (w1 48) r)):=fun j hj=>by
   rw [List.take_succ_eq_append_getElem hj,List.flatMap_append,rdoAll_app,List.getD_eq_getElem?_getD,List.getElem?_eq_getElem hj]
   simp
  have hE:rputS9 s r=rdoS w2 (rdoAll ((partsS s).flatMap pv) (rdoS (w1 48) r)):=by
   unfold rputS9
   rw [if_pos hr]
   show rdoAll ((partsS s).flatMap pv++[w2]) (rdoS (w1 48) r)=_
   rw [rdoAll_app]
   rfl
  refine jE (closeRW n r 0 2 rfl rfl rfl cZ (cO rfl) (cI (by omega)) (Nat.le_refl _) (fun _ _=>cZ)) ?_;refine jE (pick_ent (H':=[rwO n r,(p1,.blk 3 (sF s))]) [0,1] (by decide) rfl) ?_;refine jU 16 ?_;refine jq (rd_build (n:=5) rfl zr130 pl130 rfl rfl) ?_
  refine jqm (jmcH 0 (rdoW78_ac n r (w1 48) (inv_okR hI (by omega)) (small_w1 (by decide)).ok (.inl rfl)) ?_ (ho:=rfl) (he:=(.cons (se rfl cP) (.cons (se rfl (CEnt.agg rfl (fun j hj=>by rcases j with _|_|_|_|_|j <;> first|exact cZ|exact cN))) .nil))))
  rintro _ _ ⟨rfl,rfl⟩
  refine ⟨_,_,rfl,cZ,?_⟩
  refine jU 675 ?_;refine jqo (jrdoA 3) ?_
  refine jqe (jecP (rparts_ac s hr) ?_)
  refine jU 20513 ?_;refine l_loop (α:=Nat) [5,30,31,32,33,34,35,36,37,38,39,40,41,42,43,44,45,46,47,48,49,50] (fun i=>[(30,.c (.int .i64 (i:Nat)))]) (fun i=>[rwO n (rdoAll (((partsS s).take i).flatMap pv) (rdoS (w1 48) r)),(p1,.blk 3 (sF s))]) (fun i=>i≤(partsS s).length) (fun i=>(partsS s).length-i) (0) ?_ (fun _=>rfl) ?_ ?_ ?_
  ·exact Nat.zero_le _
  ·exact .cons cZ .nil
  ·exact HEnt.refl _
  ·rintro i (hi:i≤(partsS s).length)
   refine jU 7526 ?_;refine jcc (fun h102=>?_) fun h102=>?_
   rotate_left
   ·refine jU 84000200020006000 ?_
    have hie:i=(partsS s).length:=by omega
    obtain ⟨w',J0⟩:=hG i hi
    subst hie
    rw [List.take_length] at *
    refine jU 1200 ?_;refine jq (rd_build (n:=5) rfl zr130 pl130 rfl rfl) ?_
    refine jqm (jmcH 0 (rdoW78_ac n _ w2 (inv_okR J0 (by omega)) small_w2.ok (.inr (.inl rfl))) ?_ (ho:=rfl) (he:=(.cons (se rfl cP) (.cons (se rfl (CEnt.agg rfl (fun j hj=>by rcases j with _|_|_|_|_|j <;> first|exact cZ|exact cN))) .nil))))
    rintro _ _ ⟨rfl,rfl⟩
    refine ⟨_,_,rfl,cZ,?_⟩
    refine jU 5 ?_
    rw [hE]
    exact end_H (.inr rfl) rfl (res_0 rfl) cZ
   refine jU 7006207810 ?_;refine jq (jrdrA 2) ?_
   refine jqe (jeal (n:=2) zr212 rfl fun p3=>?_)
   refine jqm (jmstF 2 (partE ((partsS s).getD i ([],[]))) ?_ ?_)
   ·exact (fun j hj=>by rcases j with _|_|j <;> first|exact cZ|omega)
   refine jU 5 ?_
   have hm:(partsS s).getD i ([],[]) ∈ partsS s:=by
    rw [List.getD_eq_getElem?_getD,List.getElem?_eq_getElem (by omega)]
    exact List.getElem_mem _
   obtain ⟨_,hp1,hp2⟩:=hg1 _ hm
   obtain ⟨w',J0⟩:=hG i hi
   have J1:=inv_do J0 (small_w1 (t:=48) (by decide))
   have J2:=inv_do J1 (small_v8 (t:=((partsS s).getD i ([],[])).1) (by omega))
   have J3:=inv_do J2 (small_v7 (t:=((partsS s).getD i ([],[])).2) (by omega))
   refine jU 16 ?_;refine jq (rd_build (n:=5) rfl zr130 pl130 rfl rfl) ?_
   refine jqm (jmcH 0 (rdoW78_ac n _ (w1 48) (inv_okR J0 (by omega)) (small_w1 (by decide)).ok (.inl rfl)) ?_ (ho:=rfl) (he:=(.cons (se rfl cP) (.cons (se rfl (CEnt.agg rfl (fun j hj=>by rcases j with _|_|_|_|_|j <;> first|exact cZ|exact cN))) .nil))))
   rintro _ _ ⟨rfl,rfl⟩
   refine ⟨_,_,rfl,cZ,?_⟩
   refine jU 5090165 ?_;refine jq (rd_build (n:=5) rfl zr130 pl130 rfl rfl) ?_
   refine jqm (jmcH 0 (rdoW78_ac n _ (v8 ((partsS s).getD i ([],[])).1) (inv_okR J1 (by omega)) (small_v8 (by omega)).ok (.inr (.inr (.inr rfl)))) ?_ (ho:=rfl) (he:=(.cons (se rfl cP) (.cons (se rfl (CEnt.agg rfl (fun j hj=>by rcases j with _|_|_|_|_|j <;> first|exact cZ|exact cN))) .nil))))
   rintro _ _ ⟨rfl,rfl⟩
   refine ⟨_,_,rfl,cZ,?_⟩
   refine jU 50100165 ?_;refine jq (rd_build (n:=5) rfl zr130 pl130 rfl rfl) ?_
   refine jqm (jmcH 0 (rdoW78_ac n _ (v7 ((partsS s).getD i ([],[])).2 64) (inv_okR J2 (by omega)) (small_v7 (by omega)).ok (.inr (.inr (.inl rfl)))) ?_ (ho:=rfl) (he:=(.cons (se rfl cP) (.cons (se rfl (CEnt.agg rfl (fun j hj=>by rcases j with _|_|_|_|_|j <;> first|exact cZ|exact cN))) .nil))))
   rintro _ _ ⟨rfl,rfl⟩
   refine ⟨_,_,rfl,cZ,?_⟩
   refine jU 12005 ?_;refine jq (rd_build (n:=5) rfl zr130 pl130 rfl rfl) ?_
   refine jqm (jmcH 0 (rdoW78_ac n _ w2 (inv_okR J3 (by omega)) small_w2.ok (.inr (.inl rfl))) ?_ (ho:=rfl) (he:=(.cons (se rfl cP) (.cons (se rfl (CEnt.agg rfl (fun j hj=>by rcases j with _|_|_|_|_|j <;> first|exact cZ|exact cN))) .nil))))
   rintro _ _ ⟨rfl,rfl⟩
   refine ⟨_,_,rfl,cZ,?_⟩
   refine jU 851920084005 ?_
   refine jlend (i+1) ?_ ?_ (h5:=?_) (h7:=?_)
   ·show i+1≤(partsS s).length;omega
   ·show (partsS s).length-(i+1)<(partsS s).length-i;omega
   ·exact .cons (cI (by omega)) .nil
   ·rw [hS i (by omega)];exact HEnt.refl _
def zS:Nat→CV:=fun _=>.top
end
section
variable {gs:List Nat} [OkG gs] [OkT gs]
open Go.RowKit Cal

theorem getS_mu (l:List (List UInt8)) (k:Nat) (hl:0<l.length):muS (getS l k).1.1 (getS l k).1.2≤muS l k:=by
 obtain ⟨_,e2,_,e4,e5,_⟩:=enter_mu (t:=48) (l:=l) (k:=k) hl
 have he:0<(enterL 48 l k).length:=by
  by_cases h0:(enterR 48 l k).k=0
  ·rw [e4 h0];omega
  ·rw [e5 h0];omega
 have hs:=jG_stop (sp:=partSp) (l0:=enterL 48 l k) (k0:=(enterR 48 l k).k) (most:=8) part_ok he
 have hb:=stG_bd (sp:=partSp) (l0:=enterL 48 l k) (k0:=(enterR 48 l k).k) (most:=8) part_ok he _ hs.1
 have hE:muS (endP l k).1 (endP l k).2≤muS l k:=by
  unfold endP endG
  dsimp only
  split
  ·obtain ⟨_,f2,_⟩:=leave_mu (l:=(stG partSp (enterL 48 l k) (enterR 48 l k).k (jG partSp (enterL 48 l k) (enterR 48 l k).k 8)).1.1) (k:=3) (by omega)
   have h3:muS (stG partSp (enterL 48 l k) (enterR 48 l k).k (jG partSp (enterL 48 l k) (enterR 48 l k).k 8)).1.1 3≤muS (stG partSp (enterL 48 l k) (enterR 48 l k).k (jG partSp (enterL 48 l k) (enterR 48 l k).k 8)).1.1 (stG partSp (enterL 48 l k) (enterR 48 l k).k (jG partSp (enterL 48 l k) (enterR 48 l k).k 8)).1.2:=by
    unfold muS
    rw [if_neg (by decide)]
    omega
   dsimp only
   omega
  ·obtain ⟨_,f2,_⟩:=leave_mu (l:=(stG partSp (enterL 48 l k) (enterR 48 l k).k (jG partSp (enterL 48 l k) (enterR 48 l k).k 8)).1.1) (k:=(stG partSp (enterL 48 l k) (enterR 48 l k).k (jG partSp (enterL 48 l k) (enterR 48 l k).k 8)).1.2) (by omega)
   dsimp only
   omega
 unfold getS
 split
 ·exact hE
 ·rename_i h0
  dsimp only
  have h1:(endP l k).2=0:=Classical.not_not.1 h0
  refine Nat.le_trans ?_ hE
  unfold muS
  rw [if_pos h1]
  split <;> omega
theorem field_bd (f:Fd) (ho:OkF f) {l:List (List UInt8)} {k m B:Nat} (hl:0<l.length∧l.length≤m) (hb:muS l k≤B):(0<(readF f l k).1.1.length∧(readF f l k).1.1.length≤m+17)∧muS (readF f l k).1.1 (readF f l k).1.2≤B:=by
 have h1:=(field_len f ho (k:=k) hl.1).1
 refine ⟨by omega,?_⟩
 unfold readF
 split
 ·exact Nat.le_trans (getS_mu l k hl.1) hb
 ·exact Nat.le_trans (read_mu (fdA f) (l:=l) (k:=k) hl.1).2.1 hb
theorem readFs_length:∀ (fs:List Fd) (l:List (List UInt8)) (k:Nat),(readFs fs l k).2.length=fs.length
 | [],l,k=>rfl
 | f::fs,l,k=>by
  show ((readF f l k).2::(readFs fs (readF f l k).1.1 (readF f l k).1.2).2).length=_
  rw [List.length_cons,List.length_cons,readFs_length fs]
section
variable (n:Nat) (l:List (List UInt8)) (k:Nat)
theorem subF_ac {gs:List Nat} [OkG gs] [OkT gs] (f:Fd) (hc:f.call=0) (hl:0<l.length∧l.length≤100000) (hb:muS l k≤100000):AC gs Tryz.prog 116 [rdO n l k] [.op 0 (some n) 0] (fun r H'=>r=subjC (readF f l k).2.who∧H'=[rdO n (readF f l k).1.1 (readF f l k).1.2]):=by
 have h:=nget_ac (gs:=gs) n l k hl (mu_sum hb)
 have e:readF f l k=((getS l k).1,⟨0,[],[],(getS l k).2⟩):=by unfold readF;rw [if_pos hc]
 rw [e]
 exact h
theorem readF_g {f:Fd} (hc:f.call≠0):readF f l k=(((readR (fdA f) l k).l,(readR (fdA f) l k).k),⟨(readR (fdA f) l k).v.n,(readR (fdA f) l k).v.t,(readR (fdA f) l k).v.b,zeroS⟩):=by unfold readF;rw [if_neg hc]
theorem octF_ac {gs:List Nat} [Ok9 gs] (least most:Int) (hl:0<l.length∧l.length≤1000000) (hb:(nowL l).length≤10000000):AC gs Tryz.prog 66 [rdO n l k] [.op 0 (some n) 0,.c (.int .i64 least),.c (.int .i64 most)] (fun r H'=>r=bsC (readF ⟨6,least,most⟩ l k).2.b∧H'=[rdO n (readF ⟨6,least,most⟩ l k).1.1 (readF ⟨6,least,most⟩ l k).1.2]):=by
 have h:=octets08_ac (gs:=gs) n l k least most hl hb
 rw [readF_g l k (show ¬ (6:Int)=0 by decide),readR_g vB [] rfl (t:=4) (f:=octM least most) (by show ¬ (6:Int)=1;decide) (by show ¬ (6:Int)=2;decide) (by show ¬ (6:Int)=11;decide) (by funext b;rfl) rfl]
 exact h
theorem momF_ac {gs:List Nat} [Ok9 gs] (least most:Int) (hl:0<l.length∧l.length≤1000000) (hb:(nowL l).length≤10000000):AC gs Tryz.prog 117 [rdO n l k] [.op 0 (some n) 0] (fun r H'=>r=.c (.int .i64 (readF ⟨9,least,most⟩ l k).2.n)∧H'=[rdO n (readF ⟨9,least,most⟩ l k).1.1 (readF ⟨9,least,most⟩ l k).1.2]):=by
 have h:=moment08_ac (gs:=gs) n l k hl hb
 rw [readF_g l k (show ¬ (9:Int)=0 by decide),readR_g vN 0 rfl (t:=24) (f:=fun b=>(getV b,getE b)) (by show ¬ (9:Int)=1;decide) (by show ¬ (9:Int)=2;decide) (by show ¬ (9:Int)=11;decide) (by funext b;rfl) rfl]
 exact h
theorem enumF_ac {gs:List Nat} [Ok9 gs] (least most:Int) (hl:0<l.length∧l.length≤1000000) (hb:(nowL l).length≤10000000):AC gs Tryz.prog 145 [rdO n l k] [.op 0 (some n) 0,.c (.int .i64 least),.c (.int .i64 most)] (fun r H'=>r=.c (.int .i64 (readF ⟨4,least,most⟩ l k).2.n)∧H'=[rdO n (readF ⟨4,least,most⟩ l k).1.1 (readF ⟨4,least,most⟩ l k).1.2]):=by
 have h:=enum08_ac (gs:=gs) n l k least most hl hb
 rw [readF_g l k (show ¬ (4:Int)=0 by decide),readR_g vN 0 rfl (t:=10) (f:=fun b=>rangeM b least most) (by show ¬ (4:Int)=1;decide) (by show ¬ (4:Int)=2;decide) (by show ¬ (4:Int)=11;decide) (by funext b;rfl) rfl]
 exact h
theorem intF_ac {gs:List Nat} [Ok9 gs] (least most:Int) (hl:0<l.length∧l.length≤1000000) (hb:(nowL l).length≤10000000):AC gs Tryz.prog 114 [rdO n l k] [.op 0 (some n) 0,.c (.int .i64 least),.c (.int .i64 most)] (fun r H'=>r=.c (.int .i64 (readF ⟨3,least,most⟩ l k).2.n)∧H'=[rdO n (readF ⟨3,least,most⟩ l k).1.1 (readF ⟨3,least,most⟩ l k).1.2]):=by
 have h:=int08_ac (gs:=gs) n l k least most hl hb
 rw [readF_g l k (show ¬ (3:Int)=0 by decide),readR_g vN 0 rfl (t:=2) (f:=fun b=>rangeM b least most) (by show ¬ (3:Int)=1;decide) (by show ¬ (3:Int)=2;decide) (by show ¬ (3:Int)=11;decide) (by funext b;rfl) rfl]
 exact h
theorem textF_ac {gs:List Nat} [Ok9 gs] [OkT gs] (least most:Int) (hl:0<l.length∧l.length≤1000000) (hb:(nowL l).length≤10000000):AC gs Tryz.prog 121 [rdO n l k] [.op 0 (some n) 0,.c (.int .i64 most)] (fun r H'=>r=strC (readF ⟨7,least,most⟩ l k).2.t∧H'=[rdO n (readF ⟨7,least,most⟩ l k).1.1 (readF ⟨7,least,most⟩ l k).1.2]):=by
 have h:=text08_ac (gs:=gs) n l k most hl hb
 rw [readF_g l k (show ¬ (7:Int)=0 by decide),readR_g vT [] rfl (t:=12) (f:=fun b=>(if askedM b most=0 then b else [],askedM b most)) (by show ¬ (7:Int)=1;decide) (by show ¬ (7:Int)=2;decide) (by show ¬ (7:Int)=11;decide) (by funext b;rfl) rfl]
 exact h
theorem enumR_ac {gs:List Nat} [Ok9 gs] (kind:Int) (hl:0<l.length∧l.length≤1000000) (hb:(nowL l).length≤10000000):AC gs Tryz.prog 145 [rdO n l k] [.op 0 (some n) 0,.c (.int .i64 kind),.c (.int .i64 kind)] (fun r H'=>r=.c (.int .i64 (readR (aK kind) l k).v.n)∧H'=[rdO n (readR (aK kind) l k).l (readR (aK kind) l k).k]):=by
 have h:=enum08_ac (gs:=gs) n l k kind kind hl hb
 rw [readR_g vN 0 rfl (t:=10) (f:=fun b=>rangeM b kind kind) (by show ¬ (4:Int)=1;decide) (by show ¬ (4:Int)=2;decide) (by show ¬ (4:Int)=11;decide) (by funext b;rfl) rfl]
 exact h
end
def recC (kind:Int) (fR fP fG:FuncId):CV:=.agg 4 (fl [.c (.int .i64 kind),.fn fR 0 fun _=>.top,.fn fP 0 fun _=>.top,.fn fG 0 fun _=>.top])
end
end Am
end Go.Proofs.YthlpfjnkieaeeaaGreatDoor
