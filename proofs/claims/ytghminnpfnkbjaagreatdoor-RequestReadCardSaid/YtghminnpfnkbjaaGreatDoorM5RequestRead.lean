/- What the law leans on, part 5: SlB, P03, Err, Num, NumC, W03, W03b, L03, SlC, NumB, MarkC, L03p, P07s, P07d, P07, P07b, P04, Dec -/
import Derived.Test.YtghminnpfnkbjaaGreatDoorM4RequestRead
import Derived.Stop.Asserts
import Derived.RowKitTokens
import Derived.Sort.Statements
import Derived.Lib.DecodeN
import Derived.Lib.ValidU
import Derived.Test.YtghminnpfnkbjaaGreatDoorChecked
import Derived.Laws.BitsAllLaws
import Derived.IntWalk

set_option maxRecDepth 100000
set_option maxHeartbeats 8000000
namespace Go.Proofs.YtghminnpfnkbjaaGreatDoor
set_option linter.unusedVariables false
namespace Am
open Go.RowKit
section
variable {gs:List Nat} [gQ gs]

theorem lz {gs:List Nat} (l:Z) (hl:l.length≤100000000000):cc gs Tryz.prog 105 [aV l] (aV l):=by
 refine aj 8 Tryz.func105 fun al w0 F0 St0=>?_;refine U 167516 ?_;refine pN (bw rfl) rfl rfl rfl Tryz.underlying23 rfl rfl (fun h357=>?_) ?_
 ·refine U 51690005 ?_
  refine jR (kq (eA (hv:=aa.nilS' h357)))
 ·refine U 68103005 ?_
  refine au (aY 0 1 er fun p1=>?_)
  refine U 1 ?_
  refine aq (aR (l:=[]) rfl rfl rfl (YT _) (fun j hj=>absurd hj (YW j)) (ew rfl) rfl (fun j hj=>by simp only [ZN];exact I) Tryz.underlying23 fY ix er mx rfl (by (simp;omega)) (fun j hj=>rfl) rfl rfl (fun p2=>?_))
  refine U 51 ?_;refine jE (freeze 0 rfl) ?_;refine jE (ia 2 ([]++l) rfl rfl (by rfl) rfl) ?_
  refine jR (eA (hv:=aa.bs (List.nil_append l)))
theorem zF {gs:List Nat} (c:UInt8):cc gs Tryz.prog 261 [.c (.int .u8 (c.toNat:Nat))] (.c (.bool false)):=by
 refine aj 6 Tryz.func261 fun al w0 F0 St0=>?_;refine U 512116516 ?_
 refine jR (eA (hv:=cB (by simp)))
def gx (a b:UInt8):Int:=if a.toNat<b.toNat then -1 else if b.toNat<a.toNat then 1 else 0
theorem Sm {gs:List Nat} (a b:UInt8):cc gs Tryz.prog 240 [.c (.int .u8 (a.toNat:Nat)),.c (.int .u8 (b.toNat:Nat))] (.c (.int .i64 (gx a b))):=by
 refine aj 20 Tryz.func240 fun al w0 F0 St0=>?_;refine U 16516 ?_
 refine au (ar (zF a) ?_)
 refine U 1651 ?_
 refine au (ar (zF b) ?_)
 refine U 516751 ?_;refine ap (fun h43=>?_) fun h43=>?_
 ·refine U 5167 ?_;refine ap (fun h44=>?_) fun h44=>?_
  ·refine U 8000300030007000516 ?_
   (exfalso;simp at *;done)
  refine U 800030007000516810 ?_
  (exfalso;simp at *;done)
 refine U 5167810 ?_;refine ap (fun h49=>?_) fun h49=>?_
 ·refine U 800030007000516 ?_
  (exfalso;simp at *;done)
 refine U 521167810 ?_;refine ap (fun h52=>?_) fun h52=>?_
 ·refine U 800030007000516 ?_
  (refine cI ?_;unfold gx;split <;> omega)
 refine U 521167810 ?_;refine ap (fun h55=>?_) fun h55=>?_
 ·refine U 800030007000516 ?_
  (refine cI ?_;unfold gx;split <;> omega)
 refine U 80007000516810 ?_
 (refine cI ?_;unfold gx;split <;> omega)
def eV:Z→Z→Int
 | [],[]=>0
 | [],_::_=>-1
 | _::_,[]=>1
 | a::l,b::r=>if gx a b≠0 then gx a b else eV l r
theorem qt:∀ l r:Z,decide (eV l r<0)=Op.bytesLess l r
 | [],[]=>by simp [eV,Op.bytesLess]
 | [],_::_=>by simp [eV,Op.bytesLess]
 | _::_,[]=>by simp [eV,Op.bytesLess]
 | a::l,b::r=>by
  have ih:=qt l r
  rw [eV,Op.bytesLess,← ih]
  have h1:(a<b)↔a.toNat<b.toNat:=UInt8.lt_iff_toNat_lt
  have h2:(a=b)↔a.toNat=b.toNat:=Zq.symm
  rw [axx]
  simp only [YP,Zx,YK,ZZ,h1,h2]
  by_cases h3:a.toNat<b.toNat
  ·simp [gx,h3]
  ·by_cases h4:b.toNat<a.toNat
   ·simp [gx,h3,h4]
    omega
   ·have h5:a.toNat=b.toNat:=by omega
    simp [gx,h5]
theorem t8 {l r:Z} {i:Nat} (h1:i<l.length) (h2:i<r.length):eV (l.drop i) (r.drop i)=if gx (l.getD i 0) (r.getD i 0)≠0 then gx (l.getD i 0) (r.getD i 0) else eV (l.drop (i+1)) (r.drop (i+1)):=by
 rw [Y5 h1,Y5 h2,eV]
 simp [List.getD,h1,h2]
theorem DY {gs:List Nat} (l r:Z):cc gs Tryz.prog 204 [aV l,aV r] (.c (.int .i64 (eV l r))):=by
 refine fC 0 rfl fun hlen=>?_;refine aj 36 Tryz.func204 fun al w0 F0 St0=>?_;refine U 20513167516 ?_;refine ax (α:=Nat) [4,5,6,7,8,11,12,13,14,15,16,17,18,19,20,21,22,23,24,25,26,27,28,29,30] (fun i=>[(11,.c (.int .i64 (i:Nat)))]) (fun _=>[]) (fun i=>i≤l.length∧i≤r.length∧eV (l.drop i) (r.drop i)=eV l r) (fun i=>l.length-i) (0) ?_ (fun _=>rfl) ?_ ?_ ?_
 ·exact ⟨by omega,by omega,rfl⟩
 ·(repeat (first|exact bz.nil|refine bz.cons I ?_))
 ·(repeat (exact aP.nil))
 ·rintro i ⟨hi,hj,he⟩
  refine U 7526 ?_;refine ap (fun h58=>?_) fun h58=>?_
  rotate_left
  ·refine U 5231316784000200020006000 ?_;refine ap (fun h67=>?_) fun h67=>?_
   ·refine U 800030007000516 ?_;refine cI ?_
    have h1:l.drop i=[]:=ZE O
    rw [← he,h1]
    (rw [Y5 (show i<r.length by omega)];rfl)
   refine U 80007000516810 ?_;refine cI ?_
   have h1:l.drop i=[]:=ZE O
   rw [← he,h1]
   (rw [ZE (show r.length≤i by omega)];rfl)
  refine U 52311675116070016207810 ?_;refine ap (fun h59=>?_) fun h59=>?_
  ·refine U 80003000500030003000500030007000516 ?_;refine cI ?_
   have:r.drop i=[]:=ZE O
   rw [← he,this,Y5 O]
   rfl
  refine U 1165160700116810 ?_
  refine au (ar (Sm (l.getD i 0) (r.getD i 0)) ?_)
  refine U 521651 ?_;refine ap (fun h63=>?_) fun h63=>?_
  ·refine U 80003000500030003000500070005116 ?_;refine cI ?_
   rw [← he,t8 (l:=l) (r:=r) (i:=i) O O,YF h63]
  refine U 8519200840010 ?_;refine aw (i+1) ?_ ?_
  ·exact ⟨by omega,by omega,by rw [← he,t8 (l:=l) (r:=r) (i:=i) O O,YE h63]⟩
  ·omega

def RM (l:List Int) (x:Int):Int:=if x ∈ l then (l.idxOf x:Nat) else -1
theorem Fk {gs:List Nat} (l:List Int) (x:Int):cc gs Tryz.prog 251 [Ju l,.c (.int .i64 x)] (.c (.int .i64 (RM l x))):=by
 refine fC 0 rfl fun hlen=>?_;refine aj 19 Tryz.func251 fun al w0 F0 St0=>?_;refine U 20513167516 ?_;refine ax (α:=Nat) [4,5,8,9,10,11,12,13,14,15,16,17,18] (fun i=>[(8,.c (.int .i64 (i:Nat)))]) (fun _=>[]) (fun i=>i≤l.length∧x ∉ l.take i) (fun i=>l.length-i) (0) ?_ (fun _=>rfl) ?_ ?_ ?_
 ·exact ⟨by omega,by simp⟩
 ·(repeat (first|exact bz.nil|refine bz.cons I ?_))
 ·(repeat (exact aP.nil))
 ·rintro i ⟨hi,he⟩
  refine U 7526 ?_;refine ap (fun h97=>?_) fun h97=>?_
  rotate_left
  ·refine U 8000700051684000200020006000 ?_;refine cI ?_
   have:l.take i=l:=Y0 O
   rw [this] at he
   unfold RM
   rw [YE he]
  refine U 526070011165116207810 ?_;refine ap (fun h98=>?_) fun h98=>?_
  ·refine U 80003000500030003000500070005116 ?_;refine cI ?_
   have hlt:i<l.length:=by omega
   have e:l.getD i 0=l[i]:=by simp [List.getD,hlt]
   have hm:x ∈ l:=by rw [h98,e];exact ZS hlt
   have hx:l.idxOf x=i:=by
    have e2:l=l.take i++l[i]::l.drop (i+1):=by rw [← Y5 hlt,Zu]
    rw [e2,List.idxOf_append,YE he,h98,e]
    rw [← Y5 hlt,Y5 hlt,bVx,YS]
    omega
   unfold RM
   rw [YF hm,hx]
  refine U 8519200840010 ?_;refine aw (i+1) ?_ ?_
  ·exact ⟨by omega,fun hm=>by
    rw [YO O] at hm
    rcases akx.1 hm with h|h
    ·exact he h
    ·have e:l.getD i 0=l[i]:=by simp [List.getD,show i<l.length by omega]
     simp at h
     rw [e] at h98
     exact h98 h⟩
  ·omega
theorem yj {gs:List Nat} (l:List Int) (x:Int):cc gs Tryz.prog 236 [Ju l,.c (.int .i64 x)] (.c (.bool (decide (x ∈ l)))):=by
 refine aj 9 Tryz.func236 fun al w0 F0 St0=>?_;refine U 116516 ?_
 refine au (ar (Fk l x) ?_)
 refine U 80007000512 ?_;refine cB ?_
 unfold RM
 split <;> simp_all <;> omega

def AU (l:Z) (i:Nat):Z:=(List.range l.length).map fun j=>if j<i∨l.length≤j+i then l.reverse.getD j 0 else l.getD j 0
theorem mV {l:Z} {i j:Nat} (h:j<l.length):(AU l i).getD j 0=if j<i∨l.length≤j+i then l.reverse.getD j 0 else l.getD j 0:=by simp [AU,List.getD,h]
theorem Gf {l:Z} {j:Nat} (h:j<l.length):l.reverse.getD j 0=l.getD (l.length-1-j) 0:=by
 simp [List.getD,bex h,show l.length-1-j<l.length by omega]
theorem LI {l:Z} {i:Nat} (h:l.length≤2 * i+1):AU l i=l.reverse:=by
 apply agx
 ·simp [AU]
 ·intro j h1 h2
  have hj:j<l.length:=by simpa using h2
  have e:=mV (i:=i) hj
  simp only [YH,YR h1,YR h2,YR hj,Zw] at e
  rw [e]
  split
  ·rfl
  ·have:j=l.length-1-j:=by omega
   rw [bWx]
   congr 1
theorem Io (l:Z):AU l 0=l:=by
 apply agx
 ·simp [AU]
 ·intro j h1 h2
  have e:=mV (i:=0) h2
  simp only [YH,YR h1,YR h2,Zw] at e
  rw [e,jK]
def XQ (g:Option Nat) (l:Z):CV→List (Option Nat×bi)→Prop:=fun r H'=>r=.c (.tuple #[])∧H'=[(g,.blk l.length (bc l))]
theorem mf {gs:List Nat} (g:Option Nat) (l:Z) (hl:l.length≤100000000000):AC gs Tryz.prog 161 [(g,.blk l.length (bc l))] [.os 0 g 0 l.length 1] (XQ g l.reverse):=by
 refine aj 28 Tryz.func161 fun al w0 F0 St0=>?_;refine U 205119316 ?_;refine ax (α:=Nat) [2,3,7,8,9,10,11,12,13,14,15,16,17,18,19,20,21,22,23,24,25,26,27] (fun i=>[(2,.c (.int .i64 (i:Nat))),(3,.c (.int .i64 ((l.length:Int)-1-i)))]) (fun i=>[(g,.blk l.length (bc (AU l i)))]) (fun i=>2 * i≤l.length+1) (fun i=>l.length-i) (0) ?_ (fun _=>rfl) ?_ ?_ ?_
 ·show 2 * 0≤l.length+1;omega
 ·exact .cons I (.cons (cI O) .nil)
 ·exact .blk rfl (fun j hj=>by rw [Io];exact I) .nil
 ·rintro i (hi:2 * i≤l.length+1)
  refine U 521167 ?_;refine ap (fun h484=>?_) fun h484=>?_
  rotate_left
  ·refine U 4000200020006000 ?_
   exact bV (.inr rfl) _ _ [0] jD rfl (cM rfl) ⟨rfl,by show [(g,bi.blk l.length (bc (AU l i)))]=_;rw [LI O,aFx]⟩
  refine U 207810 ?_;refine lL (.rd 0 (.rd 1 (.rd 2 (.rd 3 (.rd 4 (.rd 5 (.rd 6 (.rd 7 (.rd 8 (.rd 9 (.rd 10 (.rd 11 (.rd 12 (.one 13 (.rd 14 (.one 15 .done)))))))))))))))) ?_;refine U 400000400000400000400000400000400000 ?_;refine iX (dU (i:=(l.length-1-i)) (hz:=by omega)) ?_;refine U 40000040000050000000 ?_;refine iX (dU (i:=i) (hz:=by omega)) ?_;refine XA gm ?_;refine iX (dU (i:=i) (hz:=by omega)) ?_
  refine lK (aA 1 ?_)
  refine iX (dU (i:=(l.length-1-i)) (hz:=by omega)) ?_
  refine lK (aA 1 ?_)
  refine U 851191912008400700000 ?_
  refine aw (i+1) ?_ ?_ (h7:=?_)
  ·show 2 * (i+1)≤l.length+1;omega
  ·omega
  ·exact .blk rfl (fun j hj=>by
    refine (aa.of_eq (mQ _ _ _ j)).trans ?_
    have hj:j<l.length:=hj
    have e3:=mV (i:=i+1) hj
    have ri:=@Gf l i O
    have rj:=@Gf l (l.length-1-i) O
    have ei:=@mV l i i O
    have ej:=@mV l i (l.length-1-i) O
    rw [jK] at ei ej
    rw [show l.length-1-(l.length-1-i)=i by omega] at rj
    show aa (if j=_ then _ else gT (bc (AU l i)) i [_] j) _
    rw [mQ]
    unfold bc
    by_cases h1:j=l.length-1-i
    ·rw [YF h1]
     subst h1
     exact cI (by rw [ei,e3,YF (.inr O),rj])
    ·rw [YE h1]
     by_cases h2:j=i
     ·rw [YF h2]
      subst h2
      exact cI (by rw [ej,e3,YF (.inl O),ri])
     ·rw [YE h2]
      have e0:=mV (i:=i) hj
      refine cI ?_
      rw [e0,e3]
      by_cases h3:j<i∨l.length≤j+i
      ·rw [YF h3,jP]
      ·rw [YE h3,jK]) .nil
end
def bQ (t:Int):Bool:=decide (t=48∨t=49∨(160≤t∧t<176))
def tm:List Int:=[1,2,3,4,5,6,10,12,24]
def bI (t:Int):Bool:=bQ t || decide ((1≤t∧t≤6)∨t=10∨t=12∨t=24)
theorem uu (t:Int):decide (t ∈ tm)=decide ((1≤t∧t≤6)∨t=10∨t=12∨t=24):=by
 refine decide_eq_decide.2 ?_
 simp only [tm,Zg,Zo,or_false]
 omega
def b8 (n:Nat):UInt8:=UInt8.ofNat n
theorem xG {n:Nat} (h:n<256):(b8 n).toNat=n:=by
 unfold b8
 rw [YY]
 omega
theorem fS (n:Nat):(b8 n).toNat=n % 256:=by
 unfold b8
 rw [YY]
def ie (n:Nat):Z :=
 if n<128 then [b8 n] else if n<256 then [129,b8 n] else if n<65536 then [130,b8 (n / 256),b8 n]
 else if n<16777216 then [131,b8 (n / 65536),b8 (n / 256),b8 n] else [132,b8 (n / 16777216),b8 (n / 65536),b8 (n / 256),b8 n]
theorem sj (n:Nat):1≤(ie n).length∧(ie n).length≤5:=by
 unfold ie
 split
 ·simp
 ·split
  ·simp
  ·split
   ·simp
   ·split <;> simp
def bL (tag:Int) (body:Z):Z:=UInt8.ofNat tag.toNat::(ie body.length++body)
def mM (l:Z):Nat:=l.foldl (fun n c=>n * 256+c.toNat) 0
theorem O4 (l:Z) (c:UInt8):mM (l++[c])=mM l * 256+c.toNat:=by simp [mM]
theorem D8 {l:Z} {i:Nat} (h:i<l.length):mM (l.take (i+1))=mM (l.take i) * 256+(l.getD i 0).toNat:=by
 rw [YO h,O4]
 simp [List.getD,h]
theorem FK (l:Z):mM l<256 ^ l.length:=by
 have key:∀ (r:Z) (n k:Nat),n<256 ^ k→r.foldl (fun n c=>n * 256+c.toNat) n<256 ^ (k+r.length):=by
  intro r
  induction r with
  | nil=>intro n k h;simpa using h
  | cons c r ih =>
   intro n k h
   have:=ih (n * 256+c.toNat) (k+1) (by have:=c.toNat_lt;rw [a6x];omega)
   simpa [bhx,b4x 1] using this
 have:=key l 0 0 jD
 simpa [mM] using this

structure Ms where
 e:Nat
 n:Nat
 rest:Z
def cj (b:Z):Ms :=
 if b.length=0 then ⟨2,0,[]⟩ else
 let c:=(b.getD 0 0).toNat
 let r:=b.drop 1
 if c≤127 then ⟨0,c,r⟩ else
 if c=128∨132<c then ⟨4,0,[]⟩ else
 if r.length<c-128 then ⟨2,0,[]⟩ else
 if mM (r.take (c-128))≤127∨(r.getD 0 0).toNat=0 then ⟨4,0,[]⟩ else ⟨0,mM (r.take (c-128)),r.drop (c-128)⟩
theorem wS {b r:Z} {c:Nat} (h:b.length≠0) (hc:c=(b.getD 0 0).toNat) (hr:r=b.drop 1):cj b=if c≤127 then ⟨0,c,r⟩ else
 if c=128∨132<c then ⟨4,0,[]⟩ else
 if r.length<c-128 then ⟨2,0,[]⟩ else
 if mM (r.take (c-128))≤127∨(r.getD 0 0).toNat=0 then ⟨4,0,[]⟩ else ⟨0,mM (r.take (c-128)),r.drop (c-128)⟩:=by
 subst hc hr
 unfold cj
 rw [YE h]
theorem ro (b:Z):(cj b).rest.length≤b.length-1∧((cj b).e≠0→(cj b).rest=[]∧(cj b).n=0)∧(cj b).e≤4:=by
 unfold cj
 split
 ·simp
 ·dsimp only
  split
  ·simp
  ·split
   ·simp
   ·split
    ·simp
    ·split
     ·simp
     ·refine ⟨?_,by simp,by simp⟩
      simp
      omega

structure Nx where
 e:Nat
 tag:Nat
 body:Z
 rest:Z
def af (b:Z):Nx :=
 if b.length=0 then ⟨2,0,[],[]⟩ else
 if bI ((b.getD 0 0).toNat:Nat)=false then ⟨5,0,[],[]⟩ else
 let m:=cj (b.drop 1)
 if m.e≠0 then ⟨m.e,0,[],[]⟩ else
 if 65530<m.n then ⟨3,0,[],[]⟩ else
 if m.rest.length<m.n then ⟨2,0,[],[]⟩ else ⟨0,(b.getD 0 0).toNat,m.rest.take m.n,m.rest.drop m.n⟩
theorem CY {b:Z} {t:Nat} {m:Ms} (h:b.length≠0) (ht:t=(b.getD 0 0).toNat) (hk:bI (t:Nat)=true) (hm:m=cj (b.drop 1)):af b=if m.e≠0 then ⟨m.e,0,[],[]⟩ else
 if 65530<m.n then ⟨3,0,[],[]⟩ else
 if m.rest.length<m.n then ⟨2,0,[],[]⟩ else ⟨0,t,m.rest.take m.n,m.rest.drop m.n⟩:=by
 subst ht hm
 unfold af
 rw [YE h,YE (by rw [hk];exact Bool.noConfusion)]
theorem ek (b:Z):(af b).e≤5∧(af b).tag≤255∧(af b).body.length≤65530∧(af b).body.length≤b.length∧(af b).rest.length≤b.length∧((af b).e=0→(af b).rest.length<b.length):=by
 unfold af
 split
 ·simp
 ·split
  ·simp
  ·dsimp only
   have hm:=ro (b.drop 1)
   split
   ·refine ⟨by dsimp only;omega,by simp,by simp,by simp,by simp,fun h=>by dsimp only at h;omega⟩
   ·split
    ·simp
    ·split
     ·simp
     ·have h8:=(b.getD 0 0).toNat_lt
      have hm1:=hm.1
      rw [YN] at hm1
      refine ⟨by simp,by dsimp only;omega,by rw [YS];omega,by rw [YS];omega,by rw [YN];omega,fun _=>by rw [YN];omega⟩

def fZ (rec:Nat→Z→Nat×Nat) (set:Bool) (lv:Nat):Nat→Z→Z→Nat→Nat×Nat
 | 0,_,_,dp=>(dp,0)
 | fuel+1,b,last,dp =>
  if b.length=0 then (dp,0) else
  if (af b).e≠0 then (0,(af b).e) else
  if lv≤1 then (0,6) else
  if (rec (af b).tag (af b).body).2≠0 then (0,(rec (af b).tag (af b).body).2) else
  if set=true∧Op.bytesLess (b.take (b.length-(af b).rest.length)) last=true then (0,7) else
  fZ rec set lv fuel (af b).rest (b.take (b.length-(af b).rest.length)) (max dp ((rec (af b).tag (af b).body).1+1))
def bm:Nat→Nat→Z→Nat×Nat
 | 0,_,_=>(1,0)
 | lv+1,tag,body=>if bQ tag=false then (1,0) else fZ (bm lv) (decide (tag=49)) (lv+1) body.length body [] 1
theorem C6 (rec:Nat→Z→Nat×Nat) (set:Bool) (lv B:Nat) (hr:∀ t b,(rec t b).1≤B∧(rec t b).2≤7):∀ (fuel:Nat) (b last:Z) (dp:Nat),dp≤B+1→(fZ rec set lv fuel b last dp).1≤B+1∧(fZ rec set lv fuel b last dp).2≤7
 | 0,_,_,dp,h=>⟨h,by simp [fZ]⟩
 | fuel+1,b,last,dp,h=>by
  have h1:=ek b
  have h2:=hr (af b).tag (af b).body
  unfold fZ
  split
  ·exact ⟨h,by simp⟩
  ·split
   ·exact ⟨by simp,by simp;omega⟩
   ·split
    ·exact ⟨by simp,by simp⟩
    ·split
     ·exact ⟨by simp,by simp;omega⟩
     ·split
      ·exact ⟨by simp,by simp⟩
      ·exact C6 rec set lv B hr fuel _ _ _ O
theorem pE:∀ (lv tag:Nat) (body:Z),(bm lv tag body).1≤lv+1∧(bm lv tag body).2≤7
 | 0,_,_=>by simp [bm]
 | lv+1,tag,body=>by
  unfold bm
  split
  ·exact ⟨by simp,by simp⟩
  ·exact C6 _ _ _ _ (fun t b=>pE lv t b) _ _ _ _ O
def aN (b:Z):Nat×Nat :=
 if 65536<b.length then (0,3) else
 if (af b).e≠0 then (0,(af b).e) else
 if 0<(af b).rest.length then (0,4) else bm 16 (af b).tag (af b).body
theorem J2 (b:Z):(aN b).1≤17∧(aN b).2≤7:=by
 have h1:=ek b
 have h2:=pE 16 (af b).tag (af b).body
 unfold aN
 split
 ·simp
 ·split
  ·exact ⟨by simp,by simp;omega⟩
  ·split
   ·simp
   ·exact h2

theorem MS {n:Nat} (r:Z) (h:n<4294967296):cj (ie n++r)=⟨0,n,r⟩:=by
 unfold ie
 split
 ·rename_i h1
  simp [cj,xG (show n<256 by omega)]
  omega
 ·split
  ·rename_i h1 h2
   simp [cj,xG h2,mM]
   omega
  ·split
   ·rename_i h1 h2 h3
    simp [cj,fS,mM]
    rw [jK,jK];congr 1;omega
   ·split
    ·rename_i h1 h2 h3 h4
     simp [cj,fS,mM]
     rw [jK,jK];congr 1;omega
    ·rename_i h1 h2 h3 h4
     simp [cj,fS,mM]
     rw [jK,jK];congr 1;omega
theorem wN {tag:Int} {body r:Z} (hk:bI tag=true) (hb:body.length≤65530):af (bL tag body++r)=⟨0,tag.toNat,body,r⟩:=by
 have ht:0≤tag∧tag<256:=by
  unfold bI bQ at hk
  simp at hk
  omega
 have e0:(UInt8.ofNat tag.toNat).toNat=tag.toNat:=xG (n:=tag.toNat) O
 have hm:=MS (n:=body.length) (body++r) O
 have e1:((tag.toNat:Nat):Int)=tag:=by omega
 unfold af bL
 simp only [List.cons_append,List.length_cons,amx,e0,e1,hk,b2x,bxx,Zb,hm]
 rw [jK,YE (by simp),YE (by simp),jK,YE (by simp)]
 simp
end Am
end Go.Proofs.YtghminnpfnkbjaaGreatDoor
namespace Go.Proofs.YtghminnpfnkbjaaGreatDoor
set_option linter.unusedVariables false
open Go.RowKit Go.Extern.Stop Go.Stop Go.Extern

theorem Dj (v:Value) (w:World):(callFunc 89 #[.iface 338 v]).run Tryz.prog w=.ok (.value (.iface 210 (.agg #[.pointer (some ⟨33,338,none⟩)]))) w:=by kernel_rfl
theorem sv (w:World):(callFunc 312 #[.agg #[.pointer (some ⟨33,338,none⟩)]]).run Tryz.prog w=.ok (.value (.bool true)) w:=by kernel_rfl
theorem lO (v : Value) (w : World) : (Go.method 470 210 v "Comparable").run Tryz.prog w = .ok (312, v) w := by kernel_rfl
theorem NE:(Tryz.prog.info? 338).map (·.comparable)=some true:=by kernel_rfl
theorem ND:(Tryz.prog.info? 360).map (·.size)=some 1:=by kernel_rfl
theorem Wn (v:Value) (xT:TypeId) (w:World):(Instr.typeAssert (.iface 338 v) xT 212 true).run Tryz.prog w=.ok (.tuple #[.nilIface,.bool false]) w:=run_typeAssert_lacksB Tryz.underlying212 (by kernel_rfl) (by kernel_rfl) v xT w
theorem I6 (v:Value) (xT:TypeId) (w:World):(Instr.typeAssert (.iface 338 v) xT 215 true).run Tryz.prog w=.ok (.tuple #[.nilIface,.bool false]) w:=run_typeAssert_lacksB Tryz.underlying215 (by kernel_rfl) (by kernel_rfl) v xT w
theorem EW (v:Value) (xT:TypeId) (w:World):(Instr.typeAssert (.iface 338 v) xT 216 true).run Tryz.prog w=.ok (.tuple #[.nilIface,.bool false]) w:=run_typeAssert_lacksB Tryz.underlying216 (by kernel_rfl) (by kernel_rfl) v xT w

theorem RF (a:Addr) (w:World) :
  Calls Tryz.prog 33 #[.iface 338 (.pointer (some a)),.iface 338 (.pointer (some a))] w fun e w'=>e=.returned (.bool true)∧w=w':=by
 obtain ⟨i,hi,hcmp⟩:=YM.1 NE
 obtain ⟨j,hj,hjs⟩:=YM.1 ND
 have tT:=Dj
 have cT:=sv
 have mR:=lO
 have heq:=run_eql_iface_ptr_same (P:=Tryz.prog) w a Tryz.underlying37 Tryz.underlying338 hi hcmp hj
 go_enter Tryz.func33,Tryz.ntmps33
 go_wp2
 refine wp_loop_rounds 1 ?_
 rw [rounds_succ]
 go_wp2
 go_ret
 exact ⟨rfl,rfl⟩

theorem Nz (a b:Addr) (ca cb:Array Value) (ta tb:TypeId) (w:World) (hne:a≠b) (ha:w.heap[a.block]?=some (.cells ca ta (0,0))) (hb:w.heap[b.block]?=some (.cells cb tb (0,0))) :
  Calls Tryz.prog 33 #[.iface 338 (.pointer (some a)),.iface 338 (.pointer (some b))] w fun e w'=>e=.returned (.bool false)∧w=w':=by
 obtain ⟨i,hi,hcmp⟩:=YM.1 NE
 obtain ⟨j,hj,hjs⟩:=YM.1 ND
 have tT:=Dj
 have cT:=sv
 have mR:=lO
 have nE:=Wn
 have uE:=I6
 have vE:=EW
 have heq:=run_eql_iface_ptr_other (P:=Tryz.prog) w Tryz.underlying37 Tryz.underlying338 hi hcmp hj (by rw [hjs];decide) hne ha hb
 go_enter Tryz.func33,Tryz.ntmps33
 go_wp2
 refine wp_loop_rounds 1 ?_
 rw [rounds_succ]
 go_wp2
 go_ret
 exact ⟨rfl,rfl⟩

theorem NA {w:World} {al:List Addr} (h:SF w al) (m k:Nat) (hm0:m≠0) (hm:m≤28) (hk:k<28) :
  Calls Tryz.prog 33 #[ev al m,ev al (k+1)] w fun e w'=>e=.returned (.bool (decide (m=k+1)))∧w=w':=by
 have hl:al.length=28:=h.len.trans (by rw [dK.eq];rfl)
 obtain ⟨a,ha⟩:∃ a,al[m-1]?=some a:=⟨al[m-1],YR O⟩
 obtain ⟨b,hb⟩:∃ b,al[k]?=some b:=⟨al[k],YR O⟩
 have e1:ev al m=.iface 338 (.pointer (some a)):=by simp [ev,hm0,ha]
 have e2:ev al (k+1)=.iface 338 (.pointer (some b)):=by simp [ev,hb]
 rw [e1,e2]
 by_cases hmk:m=k+1
 ·subst hmk
  simp only [Nat.add_sub_cancel] at ha
  obtain rfl:=Y9 (ha.symm.trans hb)
  simp only [decide_true]
  exact RF a w
 ·have hne:a≠b:=by
   intro e
   subst e
   have all:∀ i,i<28→((nk gs)[i]?).any (fun g=>(pn gs).contains g)=true:=by decide
   have get:∀ i,i<28→∃ g,(nk gs)[i]?=some g∧g ∈ pn gs:=fun i hi=>by
    have h1:=all i hi
    cases h2:(nk gs)[i]? with
    | none=>rw [h2] at h1;cases h1
    | some g=>rw [h2] at h1;exact ⟨g,rfl,atx.1 h1⟩
   obtain ⟨g1,k1,k2⟩:=get (m-1) O
   obtain ⟨g2,k3,k4⟩:=get k hk
   have:=h.nd (m-1) k g1 g2 k1 k2 k3 k4 (ha.trans hb.symm)
   omega
  simp only [hmk,bIx]
  obtain ⟨ca,ta,h1⟩:=h.row a (ZF ha)
  obtain ⟨cb,tb,h2⟩:=h.row b (ZF hb)
  exact Nz a b ca cb ta tb w hne h1 h2
end Go.Proofs.YtghminnpfnkbjaaGreatDoor
namespace Go.Proofs.YtghminnpfnkbjaaGreatDoor
set_option linter.unusedVariables false
open Go.RowKit

def Tn (al:List Addr):Array Value:=#[ev al 1,ev al 2,ev al 3,ev al 4,ev al 5,ev al 6,ev al 7,ev al 8,ev al 9,ev al 10,ev al 11,ev al 12,ev al 13,ev al 14,ev al 15,ev al 16,ev al 17,ev al 18,ev al 19,ev al 20,ev al 21,ev al 22,ev al 23,ev al 24,ev al 25,ev al 26,ev al 27,ev al 28]
theorem R3 (al:List Addr) (k:Nat) (hk:k<28):(Tn al)[k]?=some (ev al (k+1)):=by
 have:∀ k,k<28→(Tn al)[k]?=some (ev al (k+1)):=by
  intro k hk
  match k,hk with
  | 0,_=>rfl
  | 1,_=>rfl
  | 2,_=>rfl
  | 3,_=>rfl
  | 4,_=>rfl
  | 5,_=>rfl
  | 6,_=>rfl
  | 7,_=>rfl
  | 8,_=>rfl
  | 9,_=>rfl
  | 10,_=>rfl
  | 11,_=>rfl
  | 12,_=>rfl
  | 13,_=>rfl
  | 14,_=>rfl
  | 15,_=>rfl
  | 16,_=>rfl
  | 17,_=>rfl
  | 18,_=>rfl
  | 19,_=>rfl
  | 20,_=>rfl
  | 21,_=>rfl
  | 22,_=>rfl
  | 23,_=>rfl
  | 24,_=>rfl
  | 25,_=>rfl
  | 26,_=>rfl
  | 27,_=>rfl
  | k+28,h=>omega
 exact this k hk

set_option maxRecDepth 100000 in
theorem Rd {w:World} {al:List Addr} (h:SF w al) (m:Nat) (hm:m≤28) :
  Calls Tryz.prog 11 #[ev al m] w fun e w'=>e=.returned (.int .i64 m)∧Below w.heap.size w w':=by
 by_cases h0:m=0
 ·subst h0
  have e0:decide ((0:Nat)=0)=true:=rfl
  go_enter Tryz.func11,Tryz.ntmps11
  go_wp2
  go_ret
  exact ⟨rfl,Below.refl _ _⟩
 ·have hd:decide (m=0)=false:=by simpa using h0
  have g0:w.cell? ⟨0,0,none⟩=some (ev al 1):=h.var 0 _ rfl jD
  have g1:w.cell? ⟨1,0,none⟩=some (ev al 2):=h.var 1 _ rfl jD
  have g2:w.cell? ⟨2,0,none⟩=some (ev al 3):=h.var 2 _ rfl jD
  have g3:w.cell? ⟨3,0,none⟩=some (ev al 4):=h.var 3 _ rfl jD
  have g4:w.cell? ⟨4,0,none⟩=some (ev al 5):=h.var 4 _ rfl jD
  have g5:w.cell? ⟨5,0,none⟩=some (ev al 6):=h.var 5 _ rfl jD
  have g6:w.cell? ⟨6,0,none⟩=some (ev al 7):=h.var 6 _ rfl jD
  have g7:w.cell? ⟨7,0,none⟩=some (ev al 8):=h.var 7 _ rfl jD
  have g8:w.cell? ⟨8,0,none⟩=some (ev al 9):=h.var 8 _ rfl jD
  have g9:w.cell? ⟨9,0,none⟩=some (ev al 10):=h.var 9 _ rfl jD
  have g10:w.cell? ⟨10,0,none⟩=some (ev al 11):=h.var 10 _ rfl jD
  have g11:w.cell? ⟨11,0,none⟩=some (ev al 12):=h.var 11 _ rfl jD
  have g12:w.cell? ⟨12,0,none⟩=some (ev al 13):=h.var 12 _ rfl jD
  have g13:w.cell? ⟨13,0,none⟩=some (ev al 14):=h.var 13 _ rfl jD
  have g14:w.cell? ⟨14,0,none⟩=some (ev al 15):=h.var 14 _ rfl jD
  have g15:w.cell? ⟨15,0,none⟩=some (ev al 16):=h.var 15 _ rfl jD
  have g16:w.cell? ⟨16,0,none⟩=some (ev al 17):=h.var 16 _ rfl jD
  have g17:w.cell? ⟨17,0,none⟩=some (ev al 18):=h.var 17 _ rfl jD
  have g18:w.cell? ⟨18,0,none⟩=some (ev al 19):=h.var 18 _ rfl jD
  have g19:w.cell? ⟨19,0,none⟩=some (ev al 20):=h.var 19 _ rfl jD
  have g20:w.cell? ⟨20,0,none⟩=some (ev al 21):=h.var 20 _ rfl jD
  have g21:w.cell? ⟨21,0,none⟩=some (ev al 22):=h.var 21 _ rfl jD
  have g22:w.cell? ⟨22,0,none⟩=some (ev al 23):=h.var 22 _ rfl jD
  have g23:w.cell? ⟨23,0,none⟩=some (ev al 24):=h.var 23 _ rfl jD
  have g24:w.cell? ⟨24,0,none⟩=some (ev al 25):=h.var 24 _ rfl jD
  have g25:w.cell? ⟨25,0,none⟩=some (ev al 26):=h.var 25 _ rfl jD
  have g26:w.cell? ⟨26,0,none⟩=some (ev al 27):=h.var 26 _ rfl jD
  have g27:w.cell? ⟨27,0,none⟩=some (ev al 28):=h.var 27 _ rfl jD
  have HB:Hid (Below w.heap.size w (w.alloc (.cells (Tn al) 37))):=(Below.refl _ _).alloc (YG _) _
  have HS:Hid (SF (w.alloc (.cells (Tn al) 37)) al):=h.below HB.out
  have HC:Hid (∀ k,k<28→(w.alloc (.cells (Tn al) 37)).cell? ⟨w.heap.size,k,none⟩=some (ev al (k+1))):=fun k hk=>by
   rw [World.cell?_alloc_mark]
   exact R3 al k hk
  clear h
  go_enter Tryz.func11,Tryz.ntmps11
  go_wp2_with (refine As (o:=⟨some 36,_,_,_,_,_⟩) (.slice (some ⟨w.heap.size,0,none⟩) 28 28) (w.alloc (.cells (Tn al) 37)) rfl (by kernel_rfl) ?_)
  clear g0 g1 g2 g3 g4 g5 g6 g7 g8 g9 g10 g11 g12 g13 g14 g15 g16 g17 g18 g19 g20 g21 g22 g23 g24 g25 g26 g27
  show Code.wp _ _ _ _ (w.alloc (.cells (Tn al) 37))
  generalize hW:w.alloc (.cells (Tn al) 37)=W at HB HS HC ⊢
  have HW:=Lib.hid hW
  clear hW
  go_loop [39] (fun i=>∃ k:Nat,k<m∧i=.int .i64 k) (fun i=>28-(intOf i).toNat)
  case atStart=>exact ⟨0,by omega,rfl⟩
  case round =>
   obtain ⟨k,hk,rfl⟩:=hrel
   have hc:=HC.out k O
   by_cases hlast:m=k+1
   ·subst hlast
    have C:=Lib.hid (NA HS.out (k+1) k h0 hm O)
    go_wp2_with (go_at_call 33;refine (C.out).mono ?_;rintro e w' ⟨rfl,rfl⟩)
    go_ret
    exact ⟨by simp,HB.out⟩
   ·have hdd:decide (m=k+1)=false:=by simpa using hlast
    have C:=Lib.hid (NA HS.out m k h0 hm O)
    go_wp2_with (go_at_call 33;refine (C.out).mono ?_;rintro e w' ⟨rfl,rfl⟩)
    go_round
    case rel=>exact ⟨k+1,by omega,by go_num⟩
    case measure=>simp [intOf];omega
end Go.Proofs.YtghminnpfnkbjaaGreatDoor
namespace Go.Proofs.YtghminnpfnkbjaaGreatDoor
set_option linter.unusedVariables false
namespace Am
open Go.RowKit
section
variable {gs:List Nat} [dK gs]
theorem EV (m:Nat) (hm:m≤28):cc gs Tryz.prog 11 [.err m] (.c (.int .i64 m)) :=
 ot fun al w St vals hs hv hr=>by
  have h0:vals.getD 0 undef=ev al m:=hr 0
  rw [KC hv,h0]
  exact Rd hs.std m hm
end
section
variable {gs:List Nat} [gQ gs]

theorem vh {gs:List Nat} (t:Int):cc gs Tryz.prog 94 [.c (.int .i64 t)] (.c (.bool (bQ t))):=by
 refine aj 17 Tryz.func94 fun al w0 F0 St0=>?_;refine U 1216516 ?_;refine aK 5 (fun g31=>?_) fun g31=>?_
 ·refine U 8000700051100000000444444110000000044 ?_;refine cB ?_
  (simp [bQ, *];done)
 refine U 150021 ?_;refine aK 9 (fun g31_2=>?_) fun g31_2=>?_
 ·refine U 8000700051100000000444444 ?_;refine cB ?_
  (simp [bQ, *];done)
 refine U 121 ?_;refine aK 12 (fun g31_3=>?_) fun g31_3=>?_
 ·refine U 800070005150010000000021 ?_;refine cB ?_
  (simp [bQ, *];done)
 refine U 800070005150050044 ?_;refine cB ?_
 (simp [bQ, *];done)
theorem wn {gs:List Nat} (t:Int):cc gs Tryz.prog 133 [.c (.int .i64 t)] (.c (.bool (bQ t))):=by
 refine aj 17 Tryz.func133 fun al w0 F0 St0=>?_;refine U 1216516 ?_;refine aK 5 (fun g13=>?_) fun g13=>?_
 ·refine U 8000700051100000000444444110000000044 ?_;refine cB ?_
  (simp [bQ, *];done)
 refine U 150021 ?_;refine aK 9 (fun g13_2=>?_) fun g13_2=>?_
 ·refine U 8000700051100000000444444 ?_;refine cB ?_
  (simp [bQ, *];done)
 refine U 121 ?_;refine aK 12 (fun g13_3=>?_) fun g13_3=>?_
 ·refine U 800070005150010000000021 ?_;refine cB ?_
  (simp [bQ, *];omega)
 refine U 800070005150050044 ?_;refine cB ?_
 (simp [bQ, *];done)
theorem Mg {gs:List Nat}:cc gs Tryz.prog 237 [] (Ju tm):=by
 refine aj 2 Tryz.func237 fun al w0 F0 St0=>?_;refine U 6516 ?_
 refine au (aY 9 1 uh fun p1=>?_)
 refine U 51 ?_;refine jE (freeze 0 rfl) ?_;refine jE (oV 0 (tm) rfl rfl rfl rfl (fun j hj=>GY (tm) j hj)) ?_
 refine jR (eA (hv:=I))
theorem Db {gs:List Nat} (t:Int):cc gs Tryz.prog 197 [.c (.int .i64 t)] (.c (.bool (bI t))):=by
 refine aj 10 Tryz.func197 fun al w0 F0 St0=>?_;refine U 16516 ?_
 refine au (ar (vh _) ?_)
 refine U 1 ?_;refine aK 5 (fun g35=>?_) fun g35=>?_
 ·refine U 8000700051100000000444 ?_;refine cB ?_
  try rw [uu]
  (simp [bI,bQ, *];done)
 refine au (ar Mg ?_)
 refine U 1 ?_
 refine au (ar (yj tm t) ?_)
 refine U 8000700051500 ?_;refine cB ?_
 try rw [uu]
 (simp [bI,bQ, *];done)
theorem Ij {gs:List Nat} (t:Int):cc gs Tryz.prog 211 [.c (.int .i64 t)] (.c (.bool (bI t))):=by
 refine aj 25 Tryz.func211 fun al w0 F0 St0=>?_;refine U 16516 ?_
 refine au (ar (wn _) ?_)
 refine U 1 ?_;refine aK 5 (fun g16=>?_) fun g16=>?_
 ·refine U 8000700051100000000441100000000441100000000441100000000444444 ?_;refine cB ?_
  (simp [bI,bQ, *];done)
 refine U 121 ?_;refine aK 8 (fun g16_2=>?_) fun g16_2=>?_
 rotate_left
 ·refine U 150021150050044 ?_;refine aK 17 (fun g16_3=>?_) fun g16_3=>?_
  ·refine U 800070005110000000044110000000044 ?_;refine cB ?_
   (simp [bI,bQ, *];done)
  refine U 150021 ?_;refine aK 21 (fun g16_4=>?_) fun g16_4=>?_
  ·refine U 800070005110000000044 ?_;refine cB ?_
   (simp [bI,bQ, *];done)
  refine U 800070005150021 ?_;refine cB ?_
  (simp [bI,bQ, *];done)
 refine U 150010000000021 ?_;refine aK 13 (fun g16_3=>?_) fun g16_3=>?_
 ·refine U 800070005110000000044110000000044110000000044 ?_;refine cB ?_
  (simp [bI,bQ, *];done)
 refine U 150021 ?_;refine aK 17 (fun g16_4=>?_) fun g16_4=>?_
 ·refine U 800070005110000000044110000000044 ?_;refine cB ?_
  (simp [bI,bQ, *];done)
 refine U 150021 ?_;refine aK 21 (fun g16_5=>?_) fun g16_5=>?_
 ·refine U 800070005110000000044 ?_;refine cB ?_
  (simp [bI,bQ, *];done)
 refine U 800070005150021 ?_;refine cB ?_
 (simp [bI,bQ, *];done)
theorem Qq {gs:List Nat} (n:Nat) (hn:n<4294967296):cc gs Tryz.prog 152 [.c (.int .i64 n)] (aV (ie n)):=by
 refine aj 50 Tryz.func152 fun al w0 F0 St0=>?_;refine U 52167516 ?_;refine ap (fun h21=>?_) fun h21=>?_
 ·refine U 80000016 ?_
  refine au (aY 1 1 er fun p1=>?_)
  refine U 51 ?_;refine jE (freeze 0 rfl) ?_;refine jE (jC 2 ([b8 n]) rfl rfl rfl rfl (.cons (cI ((by rw [fS];omega))) .nil)) ?_
  refine jR (kq (eA (hv:=aa.bs (by unfold ie;rw [jP]))))
 refine U 52167810 ?_;refine ap (fun h24=>?_) fun h24=>?_
 ·refine U 80000016 ?_
  refine au (aY 2 1 er fun p1=>?_)
  refine U 51 ?_;refine jE (freeze 0 rfl) ?_;refine jE (jC 2 ([129,b8 n]) rfl rfl rfl rfl (.cons (cI (rfl)) (.cons (cI ((by rw [fS];omega))) .nil))) ?_
  refine jR (kq (eA (hv:=aa.bs (by unfold ie;rw [jK,jP]))))
 refine U 52167810 ?_;refine ap (fun h27=>?_) fun h27=>?_
 ·refine U 8000001000000180000060000016 ?_
  refine au (aY 3 1 er fun p1=>?_)
  refine U 51 ?_;refine jE (freeze 0 rfl) ?_;refine jE (jC 2 ([130,b8 (n / 256),b8 n]) rfl rfl rfl rfl (.cons (cI (rfl)) (.cons (cI ((by rw [fS];omega))) (.cons (cI ((by rw [fS];omega))) .nil)))) ?_
  refine jR (kq (eA (hv:=aa.bs (by unfold ie;rw [jK,jK,jP]))))
 refine U 52167810 ?_;refine ap (fun h30=>?_) fun h30=>?_
 ·refine U 800000100000018000001000000600000180000060000016 ?_
  refine au (aY 4 1 er fun p1=>?_)
  refine U 51 ?_;refine jE (freeze 0 rfl) ?_;refine jE (jC 2 ([131,b8 (n / 65536),b8 (n / 256),b8 n]) rfl rfl rfl rfl (.cons (cI (rfl)) (.cons (cI ((by rw [fS];omega))) (.cons (cI ((by rw [fS];omega))) (.cons (cI ((by rw [fS];omega))) .nil))))) ?_
  refine jR (kq (eA (hv:=aa.bs (by unfold ie;rw [jK,jK,jK,jP]))))
 refine U 80000010000001800000100000060000018000001000000600000180000060000016810 ?_
 refine au (aY 5 1 er fun p1=>?_)
 refine U 51 ?_;refine jE (freeze 0 rfl) ?_;refine jE (jC 2 ([132,b8 (n / 16777216),b8 (n / 65536),b8 (n / 256),b8 n]) rfl rfl rfl rfl (.cons (cI (rfl)) (.cons (cI ((by rw [fS];omega))) (.cons (cI ((by rw [fS];omega))) (.cons (cI ((by rw [fS];omega))) (.cons (cI ((by rw [fS];omega))) .nil)))))) ?_
 refine jR (eA (hv:=aa.bs (by unfold ie;rw [jK,jK,jK,jK])))
def uX (n k:Nat):Z:=(List.range k).map fun i=>b8 (n / 256 ^ i)
theorem zp (n k:Nat):uX n (k+1)=uX n k++[b8 (n / 256 ^ k)]:=by simp [uX,aSx]
theorem C4 (n k:Nat):(uX n k).length=k:=by simp [uX]
theorem zy {gs:List Nat} (n:Nat) (hn:n<65536):cc gs Tryz.prog 198 [.c (.int .i64 n)] (aV (ie n)):=by
 refine aj 28 Tryz.func198 fun al w0 F0 St0=>?_;refine U 52167516 ?_;refine ap (fun h39=>?_) fun h39=>?_
 ·refine U 80000016 ?_
  refine au (aY 1 1 er fun p1=>?_)
  refine U 51 ?_;refine jE (freeze 0 rfl) ?_;refine jE (jC 2 ([b8 n]) rfl rfl rfl rfl (.cons (cI ((by rw [fS];omega))) .nil)) ?_
  refine jR (kq (eA (hv:=aa.bs (by unfold ie;rw [jP]))))
 refine U 207516810 ?_;refine jE (mj 3 1 (bc []) rfl) ?_;refine ax (α:=Nat×Option Nat) [0,3,9,10,11,12,13,14,15,16,17] (fun (k,g)=>[(0,.c (.int .i64 ((n / 256 ^ k:Nat):Int))),(3,.os 0 g 0 (uX n k).length 1)]) (fun (k,g)=>[(g,.blk (uX n k).length (bc (uX n k)))]) (fun k=>k.1=0∨k.1=1∨(k.1=2∧256≤n)) (fun k=>2-k.1) ((0,none)) ?_ (fun _=>rfl) ?_ ?_ ?_
 ·exact .inl rfl
 ·exact .cons (cI (by simp)) (.cons I .nil)
 ·exact .same .nil
 ·rintro ⟨k,g'⟩ (hk:k=0∨k=1∨(k=2∧256≤n))
  refine U 52167 ?_;refine ap (fun h43=>?_) fun h43=>?_
  ·refine U 207810 ?_
   have hlk:=C4 n k
   have hk3:k≤2:=by omega
   refine U 11200 ?_;refine jq (yc .i64 .u8) ?_
   refine au (aY 1 1 er fun p1=>?_)
   refine aq (aR (l2:=[b8 (n / 256 ^ k)]) rfl rfl rfl (YG _) (fun _ _=>I) (aW rfl (.inl rfl) jD) rfl (ck (.cons (cI ((by rw [fS];generalize n / 256 ^ k=q;(simp only [IntKind.wrap_u8];omega)))) .nil)) Tryz.underlying23 fY ix er mx rfl (by (simp;omega)) (dz rfl rfl) rfl rfl (fun p2=>?_))
   refine U 1200840051 ?_;refine jq (jI rfl rfl rfl (by (omega)) _ rfl) ?_;refine U 851 ?_
   refine aw ((k+1,p2)) ?_ ?_ (h5:=?_) (h7:=?_)
   ·show k+1=0∨k+1=1∨(k+1=2∧256≤n)
    rcases hk with rfl|rfl|⟨rfl,h2⟩
    ·omega
    ·simp at h43;omega
    ·simp at h43;omega
   ·show 2-(k+1)<2-k
    rcases hk with rfl|rfl|⟨rfl,h2⟩
    ·omega
    ·omega
    ·simp at h43;omega
   ·simp only [zp]
    exact .cons (cI (by rw [a6x,← bMx,Zz _ jD];rfl)) (.cons I .nil)
   ·simp only [zp]
    exact .same .nil
  refine U 84000200020006000 ?_
  have hlk:=C4 n k
  have hk3:k≤2:=by omega
  refine U 80000093116 ?_
  refine au (aY 1 1 er fun p1=>?_)
  refine aq (aR (l2:=[b8 (128+k)]) rfl rfl rfl (YG _) (fun _ _=>I) (aW rfl (.inl rfl) jD) rfl (ck (.cons (cI ((by rw [fS];simp only [hlk];omega))) .nil)) Tryz.underlying23 fY ix er mx rfl (by (simp;omega)) (dz rfl rfl) rfl rfl (fun p2=>?_))
  refine U 1651 ?_
  refine aq (aQ 0 (mf _ (uX n k++[b8 (128+k)]) (by simp [hlk];omega)) ?_)
  refine U 51165 ?_;refine jE (freeze 0 rfl) ?_;refine jE (ia 2 ((uX n k++[b8 (128+k)]).reverse) rfl rfl (by simp) rfl) ?_;refine U 80007000 ?_;refine aa.bs ?_
  rcases hk with rfl|rfl|⟨rfl,h2⟩
  ·simp at h43;omega
  ·simp at h43
   unfold ie
   rw [jK,jP]
   simp [uX,aSx]
   rfl
  ·unfold ie
   rw [jK,jK,jP]
   simp [uX,aSx]
   rfl
def Xb (tag:Nat) (body:Z):CV:=.agg 2 (fl [.c (.int .i64 tag),aV body])
theorem EZ (b:Z):cc gs Tryz.prog 209 [aV b] (.tup 3 (fl [.c (.int .i64 (cj b).n),aV (cj b).rest,.err (cj b).e])):=by
 refine aj 67 Tryz.func209 fun al w0 F0 St0=>?_;refine U 52316751116 ?_;refine ap (fun h72=>?_) fun h72=>?_
 ·refine gY ?_;refine dY (.rd 0 (.rd 1 (.rd 2 (.rd 3 .done)))) ?_;refine aM (cK 1) ?_;refine U 800030007000880707070 ?_
  have:b.length=0:=by omega
  unfold cj
  rw [YF this]
  exact aa.tup3 I cN I
 refine U 7810 ?_;refine dY (.rd 0 (.rd 1 (.rd 2 (.rd 3 (.rd 4 (.rd 5 (.rd 6 (.rd 7 .done)))))))) ?_;refine U 70 ?_;refine aM (dU (i:=0)) ?_;refine aM kC ?_;refine aM (ru .i64) ?_;refine U 70 ?_;refine aM (qB (hz1:=(show (1:Int)=((1:Nat):Int) from rfl))) ?_;refine U 78807070 ?_
 obtain ⟨c,hc⟩:∃ c,c=(b.getD 0 0).toNat:=⟨_,rfl⟩
 obtain ⟨r,hr⟩:∃ r,r=b.drop 1:=⟨_,rfl⟩
 have c8:c<256:=by rw [hc];exact (b.getD 0 0).toNat_lt
 have hM:=wS O hc hr
 refine jE (aS 5 (.c (.int .i64 (c:Nat))) (cI (by rw [hc]))) ?_;refine jE (aS 0 (aV r) (aa.bs hr.symm)) ?_;refine U 5216 ?_;refine ap (fun h76=>?_) fun h76=>?_
 ·refine U 8000300070005111116 ?_
  rw [hM,jP]
  exact aa.tup3 I I aa.nil
 refine U 121620751916810 ?_;refine aK 29 (fun g81=>?_) fun g81=>?_
 ·refine U 790005110000000044 ?_;refine dY (.rd 0 (.rd 1 (.rd 2 (.rd 3 .done)))) ?_;refine U 80003000500070008807070704000000 ?_
  rw [hM,jK,jP]
  exact aa.tup3 I cN I
 refine U 5150021 ?_;refine ap (fun h81=>?_) fun h81=>?_
 ·refine gY ?_;refine dY (.rd 0 (.rd 1 (.rd 2 (.rd 3 .done)))) ?_;refine U 80003000500070008807070704000000 ?_
  rw [hM,jK,jP]
  exact aa.tup3 I cN I
 refine U 5121316 ?_;refine ap (fun h83=>?_) fun h83=>?_
 ·refine gY ?_;refine dY (.rd 0 (.rd 1 (.rd 2 (.rd 3 .done)))) ?_;refine aM (cK 1) ?_;refine U 8000300050007000880707070 ?_
  rw [hM,jK,jK,jP]
  exact aa.tup3 I cN I
 refine U 840010 ?_
 obtain ⟨w,hw⟩:∃ w,w=c-128:=⟨_,rfl⟩
 have hwr:w≤r.length:=by omega
 refine jE (aS 6 (.c (.int .i64 (w:Nat))) (cI O)) ?_;refine U 7516 ?_
 have htl:(r.take w).length=w:=by simp;omega
 refine U 2051390000000116 ?_;refine ax (α:=Nat) [7,9,44,45,46,47,48,49,50,51,52,53] (fun i=>[(7,.c (.int .i64 (mM ((r.take w).take i):Nat))),(44,.c (.int .i64 (i:Nat)))]) (fun _=>[]) (fun i=>i≤w) (fun i=>w-i) (0) ?_ (fun _=>rfl) ?_ ?_ ?_
 ·exact YT _
 ·(repeat (first|exact bz.nil|refine bz.cons I ?_))
 ·(repeat (exact aP.nil))
 ·rintro i (hi:i≤w)
  have htl:(r.take w).length=w:=by simp;omega
  refine U 7526 ?_;refine ap (fun h87=>?_) fun h87=>?_
  ·refine U 207810 ?_
   have htl:(r.take w).length=w:=by simp;omega
   refine U 51607006 ?_
   have hbn:=FK ((r.take w).take i)
   have hbl:((r.take w).take i).length=i:=by simp;omega
   have hb3:mM ((r.take w).take i)<16777216:=by
    rw [hbl] at hbn
    have:i≤3:=by omega
    have:=ZA (n:=256) jD this
    omega
   have hc8:=((r.take w).getD i 0).toNat_lt
   refine U 1200 ?_;refine jq (ic rfl rfl rfl (by (omega)) (((mM ((r.take w).take i) * 256:Nat):Int)) ((by show IntKind.i64.wrap (((mM ((r.take w).take i):Nat):Int) * 2 ^ 8)=_;rw [IntWalk.i64_in _ O];omega))) ?_;refine U 8400519700000001 ?_
   have htl:(r.take w).length=w:=by simp;omega
   refine U 8519200 ?_
   refine aw (i+1) ?_ ?_ (h5:=?_)
   ·show i+1≤w;omega
   ·omega
   ·exact .cons (cI (by rw [D8 O];omega)) (.cons I .nil)
  refine U 784000200020006000 ?_
  have hiw:i=w:=by omega
  have htt:(r.take w).take i=r.take (c-128):=by rw [hiw,hw,List.take_take,Nat.min_self]
  refine jE (aS 7 (.c (.int .i64 (mM (r.take (c-128)):Nat))) (cI (by rw [htt]))) ?_;refine U 1216 ?_;refine aK 56 (fun g90=>?_) fun g90=>?_
  ·refine U 7900051000000004444 ?_;refine dY (.rd 0 (.rd 1 (.rd 2 (.rd 3 .done)))) ?_;refine U 8000300070008807070704000000 ?_
   rw [hM,jK,jK,jK,jP]
   exact aa.tup3 I cN I
  refine U 550026020000001 ?_;refine ap (fun h90=>?_) fun h90=>?_
  ·refine gY ?_;refine dY (.rd 0 (.rd 1 (.rd 2 (.rd 3 .done)))) ?_;refine U 8000300070008807070704000000 ?_
   rw [hM,jK,jK,jK,jP]
   exact aa.tup3 I cN I
  refine U 7810 ?_;refine dY (.rd 0 (.rd 1 (.rd 2 (.rd 3 (.rd 4 (.rd 5 (.rd 6 .done))))))) ?_;refine U 707070 ?_;refine aM qB ?_;refine U 80007000880707070 ?_
  rw [hM,jK,jK,jK,jK]
  refine aa.tup3 I (aa.bs ?_) aa.nil
  rw [hw]

theorem A8 (b:Z) (hb:b.length≤10000000):cc gs Tryz.prog 169 [aV b] (.tup 3 (fl [Xb (af b).tag (af b).body,aV (af b).rest,.err (af b).e])):=by
 have hml:=ro (b.drop 1)
 refine aj 56 Tryz.func169 fun al w0 F0 St0=>?_;refine dP ?_
 refine au (cl (n:=2) gy rfl fun p1=>?_)
 refine U 523167511 ?_;refine ap (fun h98=>?_) fun h98=>?_
 ·refine gY ?_;refine lL (.rd 0 (.rd 1 (.one 2 (.rd 3 (.rd 4 .done))))) ?_;refine iX (ai (n:=2) rfl gy qK rfl rfl) ?_;refine iX (cK 1) ?_
  refine lK (aA 2 ?_)
  refine U 8700000400000400000 ?_
  refine jR (kq (eA (hres:=il rfl (bD 2) bJ bJ) (hv:=?_)))
  have:b.length=0:=by omega
  unfold af
  rw [YF this]
  exact aa.tup3 (aa.agg2 I cN) cN I
 refine U 7517000000060200000016810 ?_
 obtain ⟨t,ht⟩:∃ t,t=(b.getD 0 0).toNat:=⟨_,rfl⟩
 refine jE (aS 5 (.c (.int .i64 (t:Nat))) (cI (by rw [ht]))) ?_;refine U 16 ?_
 refine au (ar (Db _) ?_)
 refine U 530 ?_;refine ap (fun h102=>?_) fun h102=>?_
 ·refine gY ?_;refine lL (.rd 0 (.rd 1 (.one 2 (.rd 3 (.rd 4 .done))))) ?_;refine iX (ai (n:=2) rfl gy qK rfl rfl) ?_;refine iX (cK 4) ?_
  refine lK (aA 2 ?_)
  refine U 8700000400000400000 ?_
  refine jR (kq (eA (hres:=il rfl (bD 2) bJ bJ) (hv:=?_)))
  have hk:bI (t:Nat)=false:=by simpa using h102
  unfold af
  rw [jK,YF (by rw [← ht];exact hk)]
  exact aa.tup3 (aa.agg2 I cN) cN I
 refine U 810 ?_
 have hk:bI (t:Nat)=true:=by simpa using h102
 have hN:=CY O ht hk rfl
 refine U 16 ?_;refine jq (qB (hz1:=(show (1:Int)=((1:Nat):Int) from rfl))) ?_
 refine au (ar (EZ _) ?_)
 refine U 515000001620751119009009001 ?_;refine ap (fun h107=>?_) fun h107=>?_
 ·refine dP ?_;refine jq (ai (n:=2) rfl gy qK rfl rfl) ?_;refine U 1 ?_
  refine aq (aA 2 ?_)
  refine U 511 ?_
  refine jR (Jq (kq (eA (hres:=il rfl (bD 2) bJ bJ) (hv:=?_))))
  rw [hN,jP]
  exact aa.tup3 (aa.agg2 I cN) cN I
 refine U 51216 ?_;refine ap (fun h109=>?_) fun h109=>?_
 ·refine gY ?_;refine lL (.rd 0 (.rd 1 (.one 2 (.rd 3 (.rd 4 .done))))) ?_;refine iX (ai (n:=2) rfl gy qK rfl rfl) ?_;refine iX (cK 2) ?_
  refine lK (aA 2 ?_)
  refine U 8700000400000400000 ?_
  refine jR (Jq (kq (eA (hres:=il rfl (bD 2) bJ bJ) (hv:=?_))))
  rw [hN,jK,jP]
  exact aa.tup3 (aa.agg2 I cN) cN I
 refine U 5123116 ?_;refine ap (fun h111=>?_) fun h111=>?_
 ·refine gY ?_;refine lL (.rd 0 (.rd 1 (.one 2 (.rd 3 (.rd 4 .done))))) ?_;refine iX (ai (n:=2) rfl gy qK rfl rfl) ?_;refine iX (cK 1) ?_
  refine lK (aA 2 ?_)
  refine U 8700000400000400000 ?_
  refine jR (Jq (kq (eA (hres:=il rfl (bD 2) bJ bJ) (hv:=?_))))
  rw [hN,jK,jK,jP]
  exact aa.tup3 (aa.agg2 I cN) cN I
 refine U 7840010 ?_;refine lM 10 (.rd 0 (.rd 1 (.rd 2 (.rd 3 (.rd 6 (.rd 7 (.rd 8 (.one 4 (.rd 5 (.one 9 .done)))))))))) ?_;refine U 707070 ?_;refine aM w9 ?_;refine U 7070 ?_;refine aM qB ?_
 refine ir (ar (lz ((cj (b.drop 1)).rest.take (cj (b.drop 1)).n) (by rw [YS];have:=hml.1;rw [YN] at this;omega)) ?_)
 refine aM (ai (n:=2) rfl gy qK rfl rfl) ?_
 refine ir (ar (lz ((cj (b.drop 1)).rest.drop (cj (b.drop 1)).n) (by rw [YN];have:=hml.1;rw [YN] at this;omega)) ?_)
 refine xP ?_
 show cJ _ _ _ _ _ _
 refine aq (aA 2 ?_)
 refine U 8511 ?_
 refine jR (eA (hres:=il rfl (bD 2) bJ bJ) (hv:=?_))
 rw [hN,jK,jK,jK]
 exact aa.tup3 (aa.agg2 I I) I aa.nil

theorem qa (rec:Nat→Z→Nat×Nat) (set:Bool) (lv fuel:Nat) (last:Z) (dp:Nat):fZ rec set lv fuel [] last dp=(dp,0):=by
 cases fuel <;> simp [fZ]
theorem cd (rec:Nat→Z→Nat×Nat) (set:Bool) (lv fuel:Nat) (b last:Z) (dp:Nat) (hb:0<b.length) (hf:b.length≤fuel):fZ rec set lv fuel b last dp =
  if (af b).e≠0 then (0,(af b).e) else
  if lv≤1 then (0,6) else
  if (rec (af b).tag (af b).body).2≠0 then (0,(rec (af b).tag (af b).body).2) else
  if set=true∧Op.bytesLess (b.take (b.length-(af b).rest.length)) last=true then (0,7) else
  fZ rec set lv (fuel-1) (af b).rest (b.take (b.length-(af b).rest.length)) (max dp ((rec (af b).tag (af b).body).1+1)):=by
 obtain ⟨m,rfl⟩:∃ m,fuel=m+1:=⟨fuel-1,by omega⟩
 rw [fZ,jK]
 rfl
structure WS where
 f:Nat
 b:Z
 last:Z
 dp:Nat
theorem KA:∀ (lv tag:Nat) (body:Z),lv<16→body.length≤1000000→cc gs Tryz.prog 191 [Xb tag body,.c (.int .i64 ((lv+1:Nat):Int))] (.tup 2 (fl [.c (.int .i64 (bm (lv+1) tag body).1),.err (bm (lv+1) tag body).2])):=by
 intro lv
 induction lv using Nat.strongRecOn with
 | _ lv ih =>
 intro tag body hlv hbody
 have ih':1≤lv→∀ (tag:Nat) (body:Z),body.length≤1000000→cc gs Tryz.prog 191 [Xb tag body,.c (.int .i64 (lv:Nat))] (.tup 2 (fl [.c (.int .i64 (bm lv tag body).1),.err (bm lv tag body).2])):=fun h tag body hb=>by
  have:=ih (lv-1) O tag body O hb
  rwa [show lv-1+1=lv by omega] at this
 have hR:∀ t b,(bm lv t b).1≤lv+1∧(bm lv t b).2≤7:=fun t b=>pE lv t b
 refine aj 70 Tryz.func191 fun al w0 F0 St0=>?_;refine dP ?_
 refine au (ff 2 fun p1=>?_)
 refine U 509067516511 ?_
 refine au (ar (vh _) ?_)
 refine U 530 ?_;refine ap (fun h134=>?_) fun h134=>?_
 ·refine U 80003000700051116 ?_
  have hmd:bQ (tag:Nat)=false:=Zl h134
  rw [bm,YF hmd]
  exact cT I aa.nil
 refine U 810 ?_
 have hmd:bQ (tag:Nat)=true:=Zj (Decidable.not_not.1 h134)
 have hw0:bm (lv+1) tag body=fZ (bm lv) (decide (tag=49)) (lv+1) body.length body [] 1:=by
  rw [bm,YE (by rw [hmd];exact Bool.noConfusion)]
 refine U 20515010067516 ?_;refine ax (α:=WS×Option Nat) [4,5,6,7,8,9,10,11,12,13,21,22,23,24,25,26,27,28,29,30,31,32,33,34,35,36,37,38,39,40,41,42,43,44,45,46,47,48,49,50,51,52,53,54,55,56,57,58,59,60,61,62,63,64,65,66,67,68] (fun (x,g)=>[(6,.c (.int .i64 (x.dp:Nat))),(7,aV x.last),(8,aV x.b)]) (fun (x,g)=>[(p1,.blk 2 (fl [.c (.int .i64 tag),aV body]))]) (fun x=>x.1.b.length≤x.1.f∧x.1.b.length≤1000000∧x.1.dp≤lv+2∧fZ (bm lv) (decide (tag=49)) (lv+1) x.1.f x.1.b x.1.last x.1.dp=bm (lv+1) tag body) (fun x=>x.1.f) ((⟨body.length,body,[],1⟩,none)) ?_ (fun _=>rfl) ?_ ?_ ?_
 ·exact ⟨YG _,hbody,by show 1≤lv+2;omega,hw0.symm⟩
 ·exact .cons I (.cons cN (.cons I .nil))
 ·exact .same .nil
 ·rintro ⟨x,g'⟩ ⟨hxf,hxb',hdp,hw⟩
  dsimp only at hxf hxb' hdp hw
  have hxb:x.b.length≤10000000:=by omega
  have hnb:=ek x.b
  refine U 523167 ?_;refine ap (fun h138=>?_) fun h138=>?_
  rotate_left
  ·refine U 800070005111684000200020006000 ?_
   have hnil:x.b=[]:=Y1 O
   rw [← hw,hnil,qa]
   exact cT I aa.nil
  refine U 1620810 ?_
  refine au (ar (A8 x.b hxb) ?_)
  refine U 9009009001 ?_
  refine au (cl (n:=2) gy rfl fun p2=>?_)
  refine aq (aA 2 ?_)
  refine U 5500000167511 ?_;refine ap (fun h140=>?_) fun h140=>?_
  ·refine U 800030005000300050003000700051116 ?_
   rw [← hw,cd _ _ _ _ _ _ _ O hxf,YF h140]
   exact I
  refine U 52167810 ?_;refine ap (fun h143=>?_) fun h143=>?_
  ·refine gY ?_;refine dY (.rd 0 (.rd 1 (.rd 2 .done))) ?_;refine aM (cK 5) ?_;refine U 80003000500030005000300070008807070 ?_
   rw [← hw,cd _ _ _ _ _ _ _ O hxf,YE h140,jP]
   exact I
  refine U 6810 ?_;refine gw (bq 2) ?_;refine U 91 ?_
  refine au (ar (ih' O (af x.b).tag (af x.b).body O) ?_ (ho:=rfl) (he:=(.cons (se rfl (aa.agg2 I I)) (.cons (se rfl (cI O)) .nil))))
  refine U 75119009001 ?_
  have hRx:=hR (af x.b).tag (af x.b).body
  refine U 550000016 ?_;refine ap (fun h147=>?_) fun h147=>?_
  ·refine U 800030005000300050003000700051116 ?_
   rw [← hw,cd _ _ _ _ _ _ _ O hxf,YE h140,jK,YF h147]
   exact I
  refine U 9313116810 ?_;refine jq (w9 (hz2:=(show _=(((x.b.length-(af x.b).rest.length):Nat):Int) by omega))) ?_;refine U 1250906751 ?_;refine aK 56 (fun g151=>?_) fun g151=>?_
  rotate_left
  ·refine U 911681030055004444 ?_;refine jq (Gm rfl rfl rfl) ?_;refine U 84005111120051 ?_
   refine aw ((⟨x.f-1,(af x.b).rest,x.b.take (x.b.length-(af x.b).rest.length),max x.dp ((bm lv (af x.b).tag (af x.b).body).1+1)⟩,none)) ?_ ?_ (h5:=?_) (h7:=?_)
   ·exact ⟨by dsimp only;omega,by dsimp only;omega,by dsimp only;omega,by
     dsimp only
     rw [← hw,cd _ _ _ _ _ _ _ O hxf,YE h140,jK,YE h147,YE (by
      rintro ⟨h1,h2⟩
      have h1:=aax h1
      rw [← qt] at h2
      have h2:=aax h2
      omega)]⟩
   ·dsimp only
    omega
   ·exact .cons (cI (by dsimp only;omega)) (.cons I (.cons I .nil))
   ·exact .same .nil
  refine U 11 ?_
  refine au (ar (DY (x.b.take (x.b.length-(af x.b).rest.length)) x.last) ?_)
  refine U 51000000002 ?_;refine ap (fun h151=>?_) fun h151=>?_
  ·refine gY ?_;refine dY (.rd 0 (.rd 1 (.rd 2 .done))) ?_;refine aM (cK 6) ?_;refine U 80003000500030005000300070008807070 ?_
   rw [← hw,cd _ _ _ _ _ _ _ O hxf,YE h140,jK,YE h147,YF ⟨Zj O,by rw [← qt];exact Zj O⟩]
   exact I
  refine U 9116810 ?_;refine jq (Gm rfl rfl rfl) ?_;refine U 84005111120051 ?_
  refine aw ((⟨x.f-1,(af x.b).rest,x.b.take (x.b.length-(af x.b).rest.length),max x.dp ((bm lv (af x.b).tag (af x.b).body).1+1)⟩,none)) ?_ ?_ (h5:=?_) (h7:=?_)
  ·exact ⟨by dsimp only;omega,by dsimp only;omega,by dsimp only;omega,by
    dsimp only
    rw [← hw,cd _ _ _ _ _ _ _ O hxf,YE h140,jK,YE h147,YE (by
     rintro ⟨h1,h2⟩
     have h1:=aax h1
     rw [← qt] at h2
     have h2:=aax h2
     omega)]⟩
  ·dsimp only
   omega
  ·exact .cons (cI (by dsimp only;omega)) (.cons I (.cons I .nil))
  ·exact .same .nil

theorem ON (b:Z) (hb:b.length≤10000000):cc gs Tryz.prog 147 [aV b] (.tup 2 (fl [.c (.int .i64 (aN b).1),.err (aN b).2])):=by
 have hnb:=ek b
 refine aj 30 Tryz.func147 fun al w0 F0 St0=>?_;refine U 5231675116 ?_;refine ap (fun h162=>?_) fun h162=>?_
 ·refine gY ?_;refine dY (.rd 0 (.rd 1 (.rd 2 .done))) ?_;refine aM (cK 2) ?_;refine U 8000300070008807070 ?_
  unfold aN
  rw [jP]
  exact I
 refine U 16810 ?_
 refine au (ar (A8 b hb) ?_)
 refine U 9009009001 ?_
 refine au (cl (n:=2) gy rfl fun p1=>?_)
 refine aq (aA 2 ?_)
 refine U 5150000016207511 ?_;refine ap (fun h167=>?_) fun h167=>?_
 ·refine U 800030005000700051116 ?_
  unfold aN
  rw [jK,jP]
  exact I
 refine U 512316 ?_;refine ap (fun h169=>?_) fun h169=>?_
 ·refine gY ?_;refine dY (.rd 0 (.rd 1 (.rd 2 .done))) ?_;refine U 800030005000700088070704000000 ?_
  unfold aN
  rw [jK,jK,jP]
  exact I
 refine U 6840010 ?_;refine gw (bq 2) ?_
 refine au (ar (KA 15 (af b).tag (af b).body O O) ?_ (ho:=rfl) (he:=(.cons (se rfl (aa.agg2 I I)) (.cons (se rfl I) .nil))))
 refine U 80007000511900900 ?_
 unfold aN
 rw [jK,jK,jK]
 exact I
theorem xA (b:Z) (hb:b.length≤10000000):cc gs Tryz.prog 83 [aV b] (.err (aN b).2):=by
 refine aj 11 Tryz.func83 fun al w0 F0 St0=>?_;refine U 16516 ?_
 refine au (ar (ON b hb) ?_)
 refine U 51165119009001 ?_
 refine jR eA

theorem N0 {gs:List Nat} (n:Nat) (hn:n≤100000000000):AC gs Tryz.prog 205 [] [.c (.slice none 0 0),.c (.int .i64 (n:Nat))] (sV 0 1 0 fun _=>.top):=by
 refine aj 27 Tryz.func205 fun al w0 F0 St0=>?_;refine U 52167516 ?_;refine ap (fun h423=>?_) fun h423=>?_
 ·exfalso;omega
 refine U 1167810 ?_;refine jq (Gp rfl rfl Tryz.underlying23) ?_;refine U 5216519931 ?_;refine ap (fun h426=>?_) fun h426=>?_
 rotate_left
 ·refine U 810 ?_;refine jE (mj 0 1 (fun _=>.top) rfl) ?_;refine U 70005116 ?_
  exact oE 0 (.inl rfl) (av rfl (ak rfl)) rfl rfl (YG _) (fun _=>rfl) (fun j hj=>absurd hj (YW j))
 refine U 11200 ?_;refine jq (Gp rfl rfl Tryz.underlying23) ?_;refine jq (It rfl rfl Tryz.underlying23 ix (bG _ _) (cw rfl (show _=((0:Nat):Int) by omega)) (by (omega)) (by (omega))) ?_;refine U 1 ?_
 refine au (Vb (F:=fun _=>.top) rfl rfl rfl (show _=((n:Nat):Int) by omega) (by (omega)) Tryz.underlying23 Tryz.underlying3 ix jD er mx (by (omega)) (by (omega)) rfl rfl rfl (fun p1=>?_))
 refine U 31 ?_;refine jq (Fe (hl:=(bG _ _)) (hu:=(cw rfl (show _=((0:Nat):Int) by omega)))) ?_;refine U 851 ?_
 skip
 refine U 70005116 ?_
 exact oE 0 (.inl rfl) (av rfl (ak rfl)) rfl rfl (YG _) (fun _=>rfl) (fun j hj=>absurd hj (YW j))
theorem oc {gs:List Nat} (ls:YD) (h:cp ls≤10000000000) (hl:ls.length≤1000000):cc gs Tryz.prog 164 [C9 ls] (aV ls.flatten):=by
 refine aj 36 Tryz.func164 fun al w0 F0 St0=>?_;refine U 20513167516516 ?_;refine ax (α:=Nat) [3,5,11,12,13,14,15,16,17,18,19,20,21,22] (fun i=>[(3,.c (.int .i64 (cp (ls.take i):Nat))),(11,.c (.int .i64 (i:Nat)))]) (fun _=>[]) (fun i=>i≤ls.length) (fun i=>ls.length-i) (0) ?_ (fun _=>rfl) ?_ ?_ ?_
 ·exact YT _
 ·exact .cons I (.cons I .nil)
 ·(repeat (exact aP.nil))
 ·rintro i (hi:i≤ls.length)
  refine U 7526 ?_;refine ap (fun h493=>?_) fun h493=>?_
  ·refine U 51607006207810 ?_
   have hs1:=pH (ls:=ls) (i:=i) O
   have hs2:=AB ls (i+1)
   refine U 52165193116 ?_;refine ap (fun h495=>?_) fun h495=>?_
   ·exfalso;omega
   refine U 8519200840010 ?_
   refine aw (i+1) ?_ ?_ (h5:=?_)
   ·show i+1≤ls.length;omega
   ·omega
   ·exact .cons (cI (by rw [pH O];omega)) (.cons (cI O) .nil)
  refine U 84000200020006000 ?_
  have hs3:=AB ls i
  refine U 16 ?_
  refine au (Bm (N0 (cp (ls.take i)) O) (fun p1=>?_))
  refine U 2051316751 ?_;refine ax (α:=Nat×Option Nat) [6,8,27,28,29,30,31,32,33,34] (fun (j,g)=>[(6,.os 0 g 0 ((ls.take j).flatten).length 1),(27,.c (.int .i64 (j:Nat)))]) (fun (j,g)=>[(g,.blk ((ls.take j).flatten).length (bc (ls.take j).flatten))]) (fun j=>j.1≤ls.length) (fun j=>ls.length-j.1) ((0,p1)) ?_ (fun _=>rfl) ?_ ?_ ?_
  ·exact YT _
  ·exact .cons I (.cons I .nil)
  ·exact .blk rfl (fun j hj=>absurd hj (YW j)) .nil
  ·rintro ⟨j,g'⟩ (hj:j≤ls.length)
   refine U 7526 ?_;refine ap (fun h503=>?_) fun h503=>?_
   rotate_left
   ·refine U 511684000200020006000 ?_;refine jE (freeze 0 rfl) ?_;refine jE (ia 2 ((ls.take j).flatten) rfl rfl (by rfl) rfl) ?_;refine U 80007000 ?_;refine aa.bs ?_
    rw [Y0 O]
   refine U 51607006207810 ?_
   have hf1:=pH (ls:=ls) (i:=j) O
   have hf2:=AB ls (j+1)
   have hf3:=sB (ls.take j)
   refine U 11200 ?_
   refine aq (aR rfl rfl rfl (YG _) (fun _ _=>I) (ew rfl) rfl (fun j hj=>by simp only [ZN];exact I) Tryz.underlying23 fY ix er mx rfl O (fun j hj=>rfl) rfl rfl (fun p2=>?_))
   refine U 8519200840051 ?_
   refine aw ((j+1,p2)) ?_ ?_ (h5:=?_) (h7:=?_)
   ·show j+1≤ls.length;omega
   ·show ls.length-(j+1)<ls.length-j;omega
   ·simp only [zU (show j<ls.length by omega)]
    exact .cons I (.cons (cI O) .nil)
   ·simp only [zU (show j<ls.length by omega)]
    exact .same .nil
end
end Am
end Go.Proofs.YtghminnpfnkbjaaGreatDoor
namespace Go.Proofs.YtghminnpfnkbjaaGreatDoor
set_option linter.unusedVariables false
open Go.RowKit

def ml:Z:=[201,202,203,204,205,206]
def ue (w:World) (v:Value) (l:Z):Prop :=
 ∃ g,v=.slice (some ⟨g,0,none⟩) l.length (l.length+6)∧l.length+6≤9223372036854775807∧∀ i,i<l.length+6→w.cell? ⟨g,i,none⟩=some (.int .u8 ((l++ml).getD i 0).toNat)
def Ed (w:World) (g:Nat) (v:Value) (l:Z):Prop :=
 v=.slice (some ⟨g,0,none⟩) l.length (l.length+6)∧l.length+6≤9223372036854775807∧∀ i,i<l.length+6→w.cell? ⟨g,i,none⟩=some (.int .u8 ((l++ml).getD i 0).toNat)
theorem ue.below {a b:World} {v:Value} {l:Z} (h:ue a v l) (k:Below a.heap.size a b):ue b v l:=by
 obtain ⟨g,rfl,h1,h2⟩:=h
 exact ⟨g,rfl,h1,fun i hi=>jV k (h2 i hi)⟩
theorem ue.bs {w:World} {v:Value} {l:Z} (h:ue w v l):Bs w v l:=by
 obtain ⟨g,rfl,h1,h2⟩:=h
 refine Bs.of_cells O O fun i hi=>?_
 rw [Nat.zero_add,h2 i O]
 simp [List.getD,YL hi]

theorem Jw:(Tryz.prog.info? 5).map (fun i=>(i.zero,i.size,i.bytes))=some (some (.int .u8 0),1,1):=by kernel_rfl

theorem Af (l:Z):∀ u ∈ l.map (fun c=>Value.int .u8 c.toNat),u.oneCell'=true:=by
 intro u hu
 obtain ⟨c,_,rfl⟩:=aBx.1 hu
 rfl
theorem Bs.parts {w:World} {v:Value} {l:Z} (h:Bs w v l) :
  ∃ ao cap,v=.slice ao l.length cap∧l.length≤cap∧cap≤9223372036854775807∧(ao=none→l.length=0∧cap=0) ∧
   ∀ ad,ao=some ad→∀ j u,(l.map fun c=>Value.int .u8 c.toNat)[j]?=some u→w.cell? (ad.add j)=some u:=by
 obtain ⟨ao,cap,rfl,h1,h2,h3,h4⟩:=h
 refine ⟨ao,cap,rfl,h1,h2,fun h=>⟨by have:=h3 h;omega,h3 h⟩,?_⟩
 intro ad had j u hu
 obtain ⟨hs,hc⟩:=h4 ad had
 obtain ⟨b,o,sp⟩:=ad
 have hj:j<l.length:=by
  have:=(YJ.1 hu).1
  simpa using this
 have hs:=hs O
 simp only at hs
 subst hs
 rw [Addr.add_lit,hc j hj]
 rw [ZB,YR hj] at hu
 simpa [List.getD,hj] using hu

theorem EY {w:World} {v:Value} {l:Z} (h:Bs w v l) (hl:l.length≤1000000) :
  Calls Tryz.prog 21 #[v] w fun e w'=>∃ v',e=.returned v'∧Ed w' w.heap.size v' l∧Below w.heap.size w w':=by
 obtain ⟨i,hi,hz0,hz1,hz2⟩:=info_parts Jw
 obtain ⟨ao,cap,rfl,h1,h2,h3,h4⟩:=h.parts
 have h4':∀ w1,w.grownBy w1 none→∀ ad,ao=some ad→∀ j u,(l.map fun c=>Value.int .u8 c.toNat)[j]?=some u→w1.cell? (ad.add j)=some u :=
  fun w1 hg ad had j u hu=>hg.cell (h4 ad had j u hu) (by simp)
 have HL:Hid (l.length≤1000000):=hl
 clear h hl
 have b0:(0:Int)≤l.length:=by omega
 have b1:(l.length:Int)≤1000000:=by have:=HL.out;omega
 go_enter Tryz.func21,Tryz.ntmps21
 go_wp2_with (at_make;go_loud (refine wpList_make_own _ rfl _ _ 23 rfl w.heap.size 5 i (.int .u8 0) 1 Tryz.underlying23 hi hz0 hz1 _ _ _ (l.length+6) rfl rfl ?c1 ?c2 ?c3 (YG _) ?_))
 case c1=>omega
 case c2=>rw [hz2];omega
 case c3=>have:=HL.out;unfold maxLen;omega
 intro w1 ho1 hg1
 have hc1:=h4' w1 hg1
 clear h4 h4'
 go_wp2_with (at_builtin;go_loud (refine wpList_append_fits_any w1 rfl (.tmp 7) (.tmp 8) 23 rfl w.heap.size 5 i 1 Tryz.underlying23 hi hz1 _ _ _ _ rfl ho1 ao l.length cap _ rfl ?d1 h3 hc1 (Af l) ?d2 ?_))
 case d1=>simp
 case d2=>omega
 intro w2 ho2 hg2
 clear hc1
 have ho2':=ho2.alloc (.cells #[.int .u8 201,.int .u8 202,.int .u8 203,.int .u8 204,.int .u8 205,.int .u8 206] 5)
 go_wp2_with (at_builtin;go_loud (refine wpList_append_fits _ rfl (.tmp 9) (.tmp 10) 23 rfl w.heap.size 5 i 1 Tryz.underlying23 hi hz1 _ _ _ _ rfl ho2' ⟨w2.heap.size,0,none⟩ 6 6 (ml.map fun c=>.int .u8 c.toNat) rfl rfl ?e1 (Af _) ?e2 ?_))
 case e2=>omega
 case e1 =>
  intro j u hu
  match j,hu with
  | 0,hu=>simp [ml] at hu;subst hu;simp [Addr.add]
  | 1,hu=>simp [ml] at hu;subst hu;simp [Addr.add]
  | 2,hu=>simp [ml] at hu;subst hu;simp [Addr.add]
  | 3,hu=>simp [ml] at hu;subst hu;simp [Addr.add]
  | 4,hu=>simp [ml] at hu;subst hu;simp [Addr.add]
  | 5,hu=>simp [ml] at hu;subst hu;simp [Addr.add]
  | j+6,hu=>simp [ml] at hu
 intro w3 ho3 hg3
 have HB:Hid (Below w.heap.size w w3):=(((((Below.refl _ _).grown hg1 (YG _) (by simp)).grown hg2 hg1.size (by simp)).alloc (Zd hg1.size hg2.size) _).grown hg3 (by have:=hg1.size;have:=hg2.size;simp;omega) (by simp))
 have HO:=Lib.hid ho3
 clear ho3 hg1 hg2 hg3 ho1 ho2 ho2'
 go_wp2
 go_ret
 refine ⟨_,rfl,⟨rfl,by have:=HL.out;omega,fun k hk=>?_⟩,HB.out⟩
 have:=HO.out.cellAt k O
 rw [this,← Z3,ZB]
 have hk':k<(l++ml).length:=by simp [ml];omega
 rw [YR hk']
 simp [List.getD,YR hk']

theorem Jf (i:Nat) (hi:i<6):((ml.getD i 0).toNat:Int)=201+i:=by
 match i,hi with
 | 0,_=>rfl
 | 1,_=>rfl
 | 2,_=>rfl
 | 3,_=>rfl
 | 4,_=>rfl
 | 5,_=>rfl

set_option maxRecDepth 100000 in
theorem Nn {w:World} {v v2:Value} {l:Z} (h:ue w v l) (h2:Bs w v2 l) :
  Calls Tryz.prog 25 #[v,v2] w fun e w'=>e=.returned (.bool true)∧Below w.heap.size w w':=by
 have hb:=h.bs
 obtain ⟨g,rfl,hsz,hc⟩:=h
 obtain ⟨ao,cap,rfl,h1,h3,h4⟩:=h2.parts
 have s1:∀ n,(convert 23 9 (.slice (some ⟨g,0,none⟩) l.length (l.length+6))).run Tryz.prog (w.drewN n)=.ok (.string ⟨l.toArray⟩) (w.drewN n):=fun n =>
  ik (w:=w.drewN n) hb _ _ _ Tryz.underlying23 Tryz.underlying5 Tryz.underlying9
 have s2:∀ n,(convert 23 9 (.slice ao l.length cap)).run Tryz.prog (w.drewN n)=.ok (.string ⟨l.toArray⟩) (w.drewN n):=fun n =>
  ik (w:=w.drewN n) h2 _ _ _ Tryz.underlying23 Tryz.underlying5 Tryz.underlying9
 have s3:=s1 0
 have s4:=s2 0
 simp only [World.drewN] at s3 s4
 have HC:=Lib.hid hc
 clear hc hb h2 h4
 have b1:(l.length:Int)+6≤9223372036854775807:=by omega
 have b2:decide ((l.length:Int)+6<(l.length:Int)+6)=false:=by simp
 go_enter Tryz.func25,Tryz.ntmps25
 go_wp2
 go_quiet (fail)
 clear s1 s2 s3 s4 b2 h3 h1
 go_wp2
 go_loopw [6] (fun i wr=>∃ k:Nat,k≤6∧i=.int .i64 k∧Below w.heap.size w wr) (fun i _=>6-(intOf i).toNat)
 case atStart=>exact ⟨0,by omega,rfl,D7 (Below.refl _ _) _⟩
 case round =>
  obtain ⟨k,hk,rfl,hB⟩:=hrel
  have HSZ:=Lib.hid hsz
  clear hsz
  by_cases hlt:(k:Int)<6
  ·have hcx:=jV hB (HC.out (l.length+k) O)
   have e:(((l++ml).getD (l.length+k) 0).toNat:Int)=201+k:=by
    rw [← Jf k O]
    simp [List.getD,YX]
   rw [e] at hcx
   clear e
   have hw:IntKind.u8.wrap (201+(k:Int))=201+k:=IntWalk.u8_in _ ⟨by omega,by omega⟩
   go_wp2
   go_roundw
   case rel=>exact ⟨k+1,by omega,by go_num,hB⟩
   case measure=>simp [intOf];omega
  ·go_wp2
   go_ret
   exact ⟨rfl,hB⟩
end Go.Proofs.YtghminnpfnkbjaaGreatDoor
namespace Go.Proofs.YtghminnpfnkbjaaGreatDoor
set_option linter.unusedVariables false
namespace Am
open Go.RowKit
section
variable {gs:List Nat} [gQ gs]
def Uz (l:Z):SV where
 p St w v:=∃ g,St g∧Ed w g v l
 st:=fun {St St' w w' v} hs hb ⟨g,h1,h2,h3,h4⟩=>⟨g,hs g h1,h2,h3,fun i hi=>ub (fun cur t z hc=>hb g cur t z h1 hc) (h4 i hi)⟩
 one:=fun {St w v} ⟨g,h1,h2,h3,h4⟩=>by rw [h2];exact ⟨rfl,rfl⟩
def MV (l:Z):CV:=.pv (Uz l)
theorem aa.mark {l:Z}:aa (MV l) (aV l):=fun al St w v ⟨g,h1,h2,h3,h4⟩=>by
 refine ⟨_,_,h2,by omega,h3,(fun h=>by cases h),fun a ha hn=>?_⟩
 cases ha
 refine ⟨rfl,h1,fun i j hi hj=>⟨_,by rw [show 0+(i * 1+j)=i by omega];exact h4 i O,?_⟩⟩
 show _=_
 simp [List.getD,YL hi]
theorem Wq {gs:List Nat} (l:Z) (hl:l.length≤1000000):cc gs Tryz.prog 21 [aV l] (MV l):=fun al w St F0 vals he hs hv=>by
 have h0:Bs w (vals.getD 0 undef) l:=qw (hv 0)
 rw [KC hs]
 refine (EY h0 hl).mono ?_
 rintro e w' ⟨v',h1,h2,h3⟩
 have hlt:w.heap.size<w'.heap.size:=World.block_lt_of_cell? w' ⟨w.heap.size,0,none⟩ (h2.2.2 0 O)
 refine ⟨v',_,[],fun b=>St b∨b=w.heap.size,h1,⟨rfl,rfl⟩,⟨w.heap.size,.inr rfl,h2⟩,⟨h3.os,h3.tape,h3.output,h3.size,fun k hk _=>h3.block k hk,fun b cur t z hb=>⟨cur,z,(h3.block b (Y4.1 hb).1).trans hb,rfl⟩⟩,fun _ h=>.inl h,fun b hb=>?_,fun b hb=>?_,dr.none _ _ _ _ _⟩
 ·rcases hb with hb|rfl
  ·exact .inl hb
  ·exact .inr (.inl (YG _))
 ·rcases hb with hb|rfl
  ·exact Zf (he.s3 b hb) h3.size
  ·exact hlt
theorem Ru {gs:List Nat} (l:Z):cc gs Tryz.prog 25 [MV l,aV l] (.c (.bool true)) :=
 ot fun al w St vals hs hv hr=>by
  obtain ⟨g,_,h1⟩:=hr 0
  have h2:Bs w (vals.getD 1 undef) l:=qw (hr 1)
  rw [ui hv]
  exact Nn ⟨g,h1⟩ h2

def rh (tag:Int) (body:Z):Nat:=if bI tag=false then 5 else if 65530<body.length then 3 else 0
theorem sm {t:Int} (h:bI t=true):0≤t∧t<256:=by
 unfold bI bQ at h
 simp at h
 omega
theorem PV (tag:Int) (body:Z) (hb:body.length≤1000000):cc gs Tryz.prog 157 [.agg 2 (fl [.c (.int .i64 tag),aV body])] (.tup 2 (fl [aV (if rh tag body=0 then bL tag body else []),.err (rh tag body)])):=by
 refine aj 28 Tryz.func157 fun al w0 F0 St0=>?_;refine dP ?_
 refine au (ff 2 fun p1=>?_)
 refine U 50906207511 ?_
 refine au (ar (Db _) ?_)
 refine U 5130 ?_;refine ap (fun h62=>?_) fun h62=>?_
 ·refine gY ?_;refine dY (.rd 0 (.rd 1 (.rd 2 .done))) ?_;refine aM (cK 4) ?_;refine U 80003000500070008807070 ?_
  have hk:bI tag=false:=by simpa using h62
  have he:rh tag body=5:=by unfold rh;rw [YF hk]
  rw [he];exact cT cN I
 refine U 5123501006 ?_;refine ap (fun h64=>?_) fun h64=>?_
 ·refine gY ?_;refine dY (.rd 0 (.rd 1 (.rd 2 .done))) ?_;refine aM (cK 2) ?_;refine U 80003000500070008807070 ?_
  have hk:bI tag=true:=by simpa using h62
  have he:rh tag body=3:=by unfold rh;rw [YE (by rw [hk];exact Bool.noConfusion),jP]
  rw [he];exact cT cN I
 refine U 7840010 ?_
 have hk:bI tag=true:=by simpa using h62
 have hkb:=sm hk
 have he:rh tag body=0:=by unfold rh;rw [YE (by rw [hk];exact Bool.noConfusion),jK]
 have hlb:=sj body.length
 refine dY (.rd 0 (.rd 1 (.rd 2 (.rd 4 (.rd 5 (.rd 6 (.rd 8 (.rd 9 (.two 3 (.one 7 (.one 10 (.one 11 (.rd 12 (.rd 13 .done))))) 7 (.one 3 (.one 10 (.one 11 (.rd 12 (.rd 13 .done)))))))))))))) ?_;refine U 10000900000 ?_;refine aM (vi .i64 .u8) ?_;refine U 10000800000020000100008000000 ?_;refine Dg ?_ ?_
 ·refine ir (aY 1 1 er fun p2=>?_)
  refine ir (ar (zy body.length O) ?_)
  refine hZ (freeze 1 rfl) ?_;refine hZ (jC 19 [UInt8.ofNat tag.toNat] rfl rfl rfl rfl (.cons (cI (by rw [YY];omega)) .nil)) ?_
  refine ir (aY 3 1 eK fun p3=>?_)
  refine hZ (freeze 2 rfl) ?_;refine hZ (qY 26 [[UInt8.ofNat tag.toNat],ie body.length,body] rfl rfl rfl rfl (.cons I (.cons I (.cons I .nil)))) ?_
  refine ir (ar (oc [[UInt8.ofNat tag.toNat],ie body.length,body] (by simp [cp];omega) (by simp)) ?_)
  refine U 8807070 ?_
  refine jR (eA (hv:=cT (aa.bs (by rw [he,YF rfl];simp [bL])) (aa.nilE he)))
 ·refine ir (ar (zy body.length O) ?_)
  refine ir (aY 1 1 er fun p2=>?_)
  refine hZ (freeze 1 rfl) ?_;refine hZ (jC 19 [UInt8.ofNat tag.toNat] rfl rfl rfl rfl (.cons (cI (by rw [YY];omega)) .nil)) ?_
  refine ir (aY 3 1 eK fun p3=>?_)
  refine hZ (freeze 2 rfl) ?_;refine hZ (qY 26 [[UInt8.ofNat tag.toNat],ie body.length,body] rfl rfl rfl rfl (.cons I (.cons I (.cons I .nil)))) ?_
  refine ir (ar (oc [[UInt8.ofNat tag.toNat],ie body.length,body] (by simp [cp];omega) (by simp)) ?_)
  refine U 8807070 ?_
  refine jR (eA (hv:=cT (aa.bs (by rw [he,YF rfl];simp [bL])) (aa.nilE he)))
end
theorem Ae (a b:UInt8):gx b a=- gx a b:=by
 unfold gx
 rcases a7x a.toNat b.toNat with h|h|h
 ·rw [jK,YF h,YF h];rfl
 ·rw [jK,jK,jK,jK];rfl
 ·rw [YF h,jK,YF h]
theorem qu {a b:UInt8} (h:gx a b=0):a=b:=by
 unfold gx at h
 split at h
 ·omega
 ·split at h
  ·omega
  ·exact Zq.1 O
theorem xz (a b:UInt8):(gx a b<0↔a.toNat<b.toNat)∧(gx a b≤0↔a.toNat≤b.toNat):=by
 unfold gx
 split
 ·omega
 ·split <;> omega
theorem fy:∀ l r:Z,eV r l=- eV l r
 | [],[]=>rfl
 | [],_::_=>rfl
 | _::_,[]=>rfl
 | a::l,b::r=>by
  have h:=Ae a b
  have ih:=fy l r
  rw [eV,eV]
  by_cases e:gx a b=0
  ·rw [jK,jK,ih]
  ·rw [jP,YF e,h]
theorem qr:∀ {l r:Z},eV l r=0→l=r
 | [],[],_=>rfl
 | [],_::_,h=>by simp [eV] at h
 | _::_,[],h=>by simp [eV] at h
 | a::l,b::r,h=>by
  rw [eV] at h
  by_cases e:gx a b=0
  ·rw [YE (fun x=>x e)] at h
   rw [qu e,qr h]
  ·rw [YF e] at h;exact absurd h e
theorem og:∀ {a b c:Z},eV a b≤0→eV b c≤0→eV a c≤0
 | [],_,[],_,_=>Int.le_refl 0
 | [],_,_::_,_,_=>by show (-1:Int)≤0;decide
 | _::_,[],_,h,_=>by simp [eV] at h
 | _::_,_::_,[],_,h=>by simp [eV] at h
 | x::a,y::b,z::c,h1,h2=>by
  rw [eV] at h1 h2 ⊢
  have k1:=xz x y;have k2:=xz y z;have k3:=xz x z
  by_cases e1:gx x y=0
  ·have e:=qu e1
   subst e
   rw [YE (fun q=>q e1)] at h1
   by_cases e2:gx x z=0
   ·rw [YE (fun q=>q e2)] at h2 ⊢
    exact og h1 h2
   ·rw [YF e2] at h2 ⊢;exact h2
  ·rw [YF e1] at h1
   by_cases e2:gx y z=0
   ·have e:=qu e2
    subst e
    rw [YF e1];exact h1
   ·rw [YF e2] at h2
    have e3:gx x z≠0:=fun e=>by
     have:=qu e
     subst this
     have:=Ae x y
     omega
    rw [YF e3]
    omega
theorem Ad (l:Z):eV l l=0:=by have:=fy l l;omega
theorem OU {α:Type} (L:α→Z):Go.Sort.SWO (fun x y:α=>decide (eV (L x) (L y)<0)) where
 irrefl:=fun x=>by rw [Ad];rfl
 trans:=fun x y z h1 h2=>by
  simp only [YP] at h1 h2 ⊢
  have h3:=og (a:=L x) (b:=L y) (c:=L z) O O
  by_cases e:eV (L x) (L z)=0
  ·have:=qr e
   have h4:=fy (L y) (L z)
   rw [this] at h1
   omega
  ·omega
 ntrans:=fun x y z h1 h2=>by
  simp only [ZT,Int.not_lt] at h1 h2 ⊢
  have s1:=fy (L x) (L y);have s2:=fy (L y) (L z);have s3:=fy (L x) (L z)
  have h3:=og (a:=L z) (b:=L y) (c:=L x) O O
  omega
def C8 (a b:Z):Bool:=decide (eV a b≤0)
theorem Jj (a b:Z):(C8 a b || C8 b a)=true:=by
 have:=fy a b
 unfold C8
 by_cases h:eV a b≤0
 ·simp [h]
 ·have:eV b a≤0:=by omega
  simp [this]
theorem Ji (a b c:Z) (h1:C8 a b=true) (h2:C8 b c=true):C8 a c=true:=by
 unfold C8 at h1 h2 ⊢
 simp only [YP] at h1 h2 ⊢
 exact og h1 h2
theorem M8 {a b:Z} (h1:C8 a b=true) (h2:C8 b a=true):a=b:=by
 unfold C8 at h1 h2
 simp only [YP] at h1 h2
 have:=fy a b
 exact qr O
def ki (ls:YD):YD:=ls.mergeSort C8
theorem nF (ls:YD):(ki ls).Perm ls:=List.mergeSort_perm ls C8
theorem AD (ls:YD):(ki ls).Pairwise fun a b=>C8 a b=true:=List.pairwise_mergeSort Ji Jj ls
theorem yM:∀ {l r:YD},l.Perm r→(l.Pairwise fun a b=>C8 a b=true)→(r.Pairwise fun a b=>C8 a b=true)→l=r
 | [],r,hp,_,_=>(List.nil_perm.1 hp).symm
 | a::l,[],hp,_,_=>absurd hp.symm.nil_eq (by simp)
 | a::l,b::r,hp,h1,h2=>by
  have ha:=List.pairwise_cons.1 h1
  have hb:=List.pairwise_cons.1 h2
  have e:a=b:=by
   have m1:a ∈ b::r:=hp.subset (Y2 ..)
   have m2:b ∈ a::l:=hp.symm.subset (Y2 ..)
   rcases Zg.1 m1 with h|h
   ·exact h
   ·rcases Zg.1 m2 with k|k
    ·exact k.symm
    ·exact M8 (ha.1 b k) (hb.1 a h)
  subst e
  rw [yM (List.perm_cons a |>.1 hp) ha.2 hb.2]
theorem Lf {l r:YD} (hp:l.Perm r) (h:l.Pairwise fun a b=>C8 a b=true):l=ki r:=yM (hp.trans (nF r).symm) h (AD r)
theorem AE (ls:YD):(ki ls).length=ls.length:=(nF ls).length_eq
section
open Go.RowKit Go.Lib
def bt (l:Z) (i:Nat):Nat:=(l.getD i 0).toNat
theorem uK (l:Z) (i:Nat):bt l i<256:=Zk _
def fH (l:Z):Nat×Nat:=Lib.decodeN l.length (bt l 0) (bt l 1) (bt l 2) (bt l 3)
theorem mC (l:Z) (i:Nat):((⟨l.toArray⟩:ByteArray).get! i).toNat=bt l i:=by
 show (l.toArray[i]!).toNat=_
 simp [bt,List.getD]
 rfl
theorem BE (l:Z):decodeL l=fH l:=by
 unfold decodeL fH
 rw [Lib.decode_at,mC,mC,mC,mC]
 rfl
theorem lT (l:Z):1≤(fH l).2∧(fH l).2≤4:=by
 unfold fH Lib.decodeN
 repeat' split
 all_goals simp
def u0 (c:Nat):Bool:=decide (c<32) || decide (c=127)
def jc:Nat→Z→Bool
 | 0,_=>true
 | n+1,l=>if l=[] then true else if ((fH l).1=65533∧(fH l).2=1)∨u0 (fH l).1=true then false else jc n (l.drop (fH l).2)
def gi (l:Z):Bool:=jc l.length l
def mZ:Nat→Z→Bool
 | 0,_=>true
 | n+1,l=>if l=[] then true else if u0 (fH l).1=true then false else mZ n (l.drop (fH l).2)
theorem y6:∀ (n:Nat) (l:Z),jc n l=(mZ n l && validGoD n l)
 | 0,l=>rfl
 | n+1,l=>by
  rw [jc,mZ,validGoD,y6 n,BE]
  by_cases h:l=[]
  ·simp [h]
  ·rw [YE h,YE h,YE h]
   by_cases h1:u0 (fH l).1=true
   ·simp [h1]
   ·by_cases h2:(fH l).1=65533∧(fH l).2=1
    ·simp [h2]
    ·rw [YE (by simp [h1];intro h3 h4;exact h2 ⟨h3,h4⟩),YE h1,YE h2]
theorem xi:∀ (n m:Nat) (l:Z),l.length≤n→l.length≤m→jc n l=jc m l
 | 0,m,l,h,_=>by
  have:l=[]:=Zp.1 O
  subst this
  cases m <;> simp [jc]
 | n+1,0,l,_,h=>by
  have:l=[]:=Zp.1 O
  subst this
  simp [jc]
 | n+1,m+1,l,h1,h2=>by
  rw [jc,jc]
  by_cases h:l=[]
  ·simp [h]
  ·have hw:=(lT l).1
   have hp:=Zh.2 h
   rw [xi n m _ (by simp;omega) (by simp;omega)]
theorem pg {l:Z} (h:l≠[]):gi l=if ((fH l).1=65533∧(fH l).2=1)∨u0 (fH l).1=true then false else gi (l.drop (fH l).2):=by
 have hp:=Zh.2 h
 have hw:=(lT l).1
 unfold gi
 obtain ⟨n,hn⟩:∃ n,l.length=n+1:=⟨l.length-1,by omega⟩
 rw [hn,jc,YE h,xi n (l.drop (fH l).2).length _ (by simp;omega) (YG _)]
theorem EX {n:Nat} {l:Z} (h:l≠[]):mZ (n+1) l=if u0 (fH l).1=true then false else mZ n (l.drop (fH l).2):=by rw [mZ,YE h]
theorem wM:∀ (n m:Nat) (l:Z),l.length≤n→l.length≤m→mZ n l=mZ m l
 | 0,m,l,h,_=>by
  have:l=[]:=Zp.1 O
  subst this
  cases m <;> simp [mZ]
 | n+1,0,l,_,h=>by
  have:l=[]:=Zp.1 O
  subst this
  simp [mZ]
 | n+1,m+1,l,h1,h2=>by
  rw [mZ,mZ]
  by_cases h:l=[]
  ·simp [h]
  ·have hw:=(lT l).1
   have hp:=Zh.2 h
   rw [wM n m _ (by simp;omega) (by simp;omega)]
def tu (l:Z):Bool:=mZ l.length l
theorem pk {l:Z} (h:l≠[]):tu l=if u0 (fH l).1=true then false else tu (l.drop (fH l).2):=by
 have hp:=Zh.2 h
 have hw:=(lT l).1
 unfold tu
 obtain ⟨n,hn⟩:∃ n,l.length=n+1:=⟨l.length-1,by omega⟩
 rw [hn,EX h,wM n (l.drop (fH l).2).length _ (by simp;omega) (YG _)]
theorem rk (l:Z):gi l=(tu l && validD l):=y6 _ _
theorem pR {l:Z} (h:l≠[]) (h0:bt l 0<128):gi l=if bt l 0<32∨bt l 0=127 then false else gi (l.drop 1):=by
 have e:fH l=(bt l 0,1):=by unfold fH Lib.decodeN;rw [YF h0]
 rw [pg h,e]
 simp only [u0,Zx,YP]
 by_cases h1:bt l 0<32∨bt l 0=127
 ·rw [YF (.inr h1),YF h1]
 ·rw [YE h1,jK]
theorem iz {l:Z} (h:l≠[]) (hd:fH l=(65533,1)):gi l=false:=by
 rw [pg h,hd,YF (.inl ⟨rfl,rfl⟩)]
theorem wx {l:Z} (h:l≠[]) {c w:Nat} (hd:fH l=(c,w)) (hc:128≤c) (hw:2≤w):gi l=gi (l.drop w):=by
 rw [pg h,hd,YE (by simp [u0];omega)]
theorem eU {l:Z} (h:128≤bt l 0) (h2:bt l 0<192∨248≤bt l 0):fH l=(65533,1):=by
 unfold fH Lib.decodeN
 rw [jK,jK,jK,jK]
theorem G9 {l:Z} (h:192≤bt l 0) (h2:bt l 0<224):fH l=if l.length≤1∨bt l 1<128∨191<bt l 1∨(bt l 0-192) * 64+bt l 1-128<128 then (65533,1) else ((bt l 0-192) * 64+bt l 1-128,2):=by
 have:=uK l 1
 unfold fH Lib.decodeN
 rw [jK]
 by_cases h3:l.length≤1∨bt l 1<128∨191<bt l 1
 ·rw [jK,jK,jK,jP]
 ·rw [jP]
  have e:bt l 0 % 32 * 64+bt l 1 % 64=(bt l 0-192) * 64+bt l 1-128:=by omega
  rw [e]
  by_cases h4:(bt l 0-192) * 64+bt l 1-128<128
  ·rw [jK,jP]
  ·rw [jP,jK]
theorem Ab {l:Z} (h:224≤bt l 0) (h2:bt l 0<240):fH l=if l.length≤2∨(bt l 1<128∨191<bt l 1)∨(bt l 2<128∨191<bt l 2)∨((bt l 0-224) * 64+bt l 1-128) * 64+bt l 2-128<2048∨(55296≤((bt l 0-224) * 64+bt l 1-128) * 64+bt l 2-128∧((bt l 0-224) * 64+bt l 1-128) * 64+bt l 2-128<57344) then (65533,1) else (((bt l 0-224) * 64+bt l 1-128) * 64+bt l 2-128,3):=by
 have:=uK l 1
 have:=uK l 2
 unfold fH Lib.decodeN
 rw [jK,jK]
 by_cases h3:l.length≤2∨(bt l 1<128∨191<bt l 1)∨(bt l 2<128∨191<bt l 2)
 ·rw [jK,jK,jP]
 ·rw [jP]
  have e:bt l 0 % 16 * 4096+bt l 1 % 64 * 64+bt l 2 % 64=((bt l 0-224) * 64+bt l 1-128) * 64+bt l 2-128:=by omega
  rw [e]
  obtain ⟨c,hc⟩:∃ c,c=((bt l 0-224) * 64+bt l 1-128) * 64+bt l 2-128:=⟨_,rfl⟩
  have hlt:c≤65535:=by omega
  rw [← hc]
  by_cases h4:c<2048∨(55296≤c∧c<57344)
  ·rw [jK,jP]
  ·rw [jP,jK]
theorem DU {l:Z} (h:240≤bt l 0) (h2:bt l 0<248):fH l=if l.length≤3∨(bt l 1<128∨191<bt l 1)∨(bt l 2<128∨191<bt l 2)∨(bt l 3<128∨191<bt l 3)∨(((bt l 0-240) * 64+bt l 1-128) * 64+bt l 2-128) * 64+bt l 3-128<65536∨1114111<(((bt l 0-240) * 64+bt l 1-128) * 64+bt l 2-128) * 64+bt l 3-128 then (65533,1) else ((((bt l 0-240) * 64+bt l 1-128) * 64+bt l 2-128) * 64+bt l 3-128,4):=by
 have:=uK l 1
 have:=uK l 2
 have:=uK l 3
 unfold fH Lib.decodeN
 rw [jK,jK,jK]
 by_cases h3:l.length≤3∨(bt l 1<128∨191<bt l 1)∨(bt l 2<128∨191<bt l 2)∨(bt l 3<128∨191<bt l 3)
 ·rw [jK,jP]
 ·rw [jP]
  have e:bt l 0 % 8 * 262144+bt l 1 % 64 * 4096+bt l 2 % 64 * 64+bt l 3 % 64=(((bt l 0-240) * 64+bt l 1-128) * 64+bt l 2-128) * 64+bt l 3-128:=by omega
  rw [e]
  obtain ⟨c,hc⟩:∃ c,c=(((bt l 0-240) * 64+bt l 1-128) * 64+bt l 2-128) * 64+bt l 3-128:=⟨_,rfl⟩
  rw [← hc]
  by_cases h4:c<65536∨1114111<c
  ·rw [jK,jP]
  ·rw [jP,jK]
def ay (l:Z) (most:Int):Nat:=if l.length=0 then 2 else if most<l.length then 3 else if gi l=false then 8 else 0
end
def Gg:Z:=[0,128,64,192,32,160,96,224,16,144,80,208,48,176,112,240,8,136,72,200,40,168,104,232,24,152,88,216,56,184,120,248,4,132,68,196,36,164,100,228,20,148,84,212,52,180,116,244,12,140,76,204,44,172,108,236,28,156,92,220,60,188,124,252,2,130,66,194,34,162,98,226,18,146,82,210,50,178,114,242,10,138,74,202,42,170,106,234,26,154,90,218,58,186,122,250,6,134,70,198,38,166,102,230,22,150,86,214,54,182,118,246,14,142,78,206,46,174,110,238,30,158,94,222,62,190,126,254,1,129,65,193,33,161,97,225,17,145,81,209,49,177,113,241,9,137,73,201,41,169,105,233,25,153,89,217,57,185,121,249,5,133,69,197,37,165,101,229,21,149,85,213,53,181,117,245,13,141,77,205,45,173,109,237,29,157,93,221,61,189,125,253,3,131,67,195,35,163,99,227,19,147,83,211,51,179,115,243,11,139,75,203,43,171,107,235,27,155,91,219,59,187,123,251,7,135,71,199,39,167,103,231,23,151,87,215,55,183,119,247,15,143,79,207,47,175,111,239,31,159,95,223,63,191,127,255]
def GF:Z:=[0,1,2,2,3,3,3,3,4,4,4,4,4,4,4,4,5,5,5,5,5,5,5,5,5,5,5,5,5,5,5,5,6,6,6,6,6,6,6,6,6,6,6,6,6,6,6,6,6,6,6,6,6,6,6,6,6,6,6,6,6,6,6,6,7,7,7,7,7,7,7,7,7,7,7,7,7,7,7,7,7,7,7,7,7,7,7,7,7,7,7,7,7,7,7,7,7,7,7,7,7,7,7,7,7,7,7,7,7,7,7,7,7,7,7,7,7,7,7,7,7,7,7,7,7,7,7,7,8,8,8,8,8,8,8,8,8,8,8,8,8,8,8,8,8,8,8,8,8,8,8,8,8,8,8,8,8,8,8,8,8,8,8,8,8,8,8,8,8,8,8,8,8,8,8,8,8,8,8,8,8,8,8,8,8,8,8,8,8,8,8,8,8,8,8,8,8,8,8,8,8,8,8,8,8,8,8,8,8,8,8,8,8,8,8,8,8,8,8,8,8,8,8,8,8,8,8,8,8,8,8,8,8,8,8,8,8,8,8,8,8,8,8,8,8,8,8,8,8,8,8,8,8,8,8,8]
def MI:Z:=[8,0,1,0,2,0,1,0,3,0,1,0,2,0,1,0,4,0,1,0,2,0,1,0,3,0,1,0,2,0,1,0,5,0,1,0,2,0,1,0,3,0,1,0,2,0,1,0,4,0,1,0,2,0,1,0,3,0,1,0,2,0,1,0,6,0,1,0,2,0,1,0,3,0,1,0,2,0,1,0,4,0,1,0,2,0,1,0,3,0,1,0,2,0,1,0,5,0,1,0,2,0,1,0,3,0,1,0,2,0,1,0,4,0,1,0,2,0,1,0,3,0,1,0,2,0,1,0,7,0,1,0,2,0,1,0,3,0,1,0,2,0,1,0,4,0,1,0,2,0,1,0,3,0,1,0,2,0,1,0,5,0,1,0,2,0,1,0,3,0,1,0,2,0,1,0,4,0,1,0,2,0,1,0,3,0,1,0,2,0,1,0,6,0,1,0,2,0,1,0,3,0,1,0,2,0,1,0,4,0,1,0,2,0,1,0,3,0,1,0,2,0,1,0,5,0,1,0,2,0,1,0,3,0,1,0,2,0,1,0,4,0,1,0,2,0,1,0,3,0,1,0,2,0,1,0]
def da (n:Nat):Nat:=(List.range 8).foldl (fun a i=>a+n / 2 ^ i % 2 * 2 ^ (7-i)) 0
def ip (n:Nat):Nat:=(List.range 8).foldl (fun a i=>if n / 2 ^ i % 2=1 then i+1 else a) 0
def mY (n:Nat):Nat:=(List.range 8).foldr (fun i a=>if n / 2 ^ i % 2=1 then i else a) 8
theorem mN {n:Nat} {p:Nat→Bool} (h:(List.range n).all p=true) {i:Nat} (hi:i<n):p i=true:=Y8.1 h i (aqx.2 hi)
theorem Hd {n m:Nat} {p:Nat→Nat→Bool} (h:((List.range n).all fun i=>(List.range m).all fun j=>p i j)=true) {i j:Nat} (hi:i<n) (hj:j<m):p i j=true:=mN (mN h hi) hj
theorem yQ {i:Nat} (h:i<256):(Gg.getD i 0).toNat=da i:=by
 have:=mN (n:=256) (p:=fun i=>(Gg.getD i 0).toNat == da i) (by decide +kernel) h
 simpa using this
theorem zC {i:Nat} (h:i<256):(GF.getD i 0).toNat=ip i:=by
 have:=mN (n:=256) (p:=fun i=>(GF.getD i 0).toNat == ip i) (by decide +kernel) h
 simpa using this
theorem IZ {i:Nat} (h:i<256):(MI.getD i 0).toNat=mY i:=by
 have:=mN (n:=256) (p:=fun i=>(MI.getD i 0).toNat == mY i) (by decide +kernel) h
 simpa using this
theorem eo {i:Nat} (h:i<256):da i<256:=by
 have:=mN (n:=256) (p:=fun i=>decide (da i<256)) (by decide +kernel) h
 simpa using this
theorem mW {i:Nat} (h:i<256):da (da i)=i:=by
 have:=mN (n:=256) (p:=fun i=>da (da i) == i) (by decide +kernel) h
 simpa using this
theorem qc {i:Nat} (h:i<256):i<2 ^ ip i∧ip i≤8∧(ip i=0∨2 ^ (ip i-1)≤i):=by
 have:=mN (n:=256) (p:=fun i=>decide (i<2 ^ ip i∧ip i≤8∧(ip i=0∨2 ^ (ip i-1)≤i))) (by decide +kernel) h
 simpa using this
theorem Cy {v q:Nat} (h:v<256) (hq:q<8):v / 2 ^ (7-q) % 2=da v / 2 ^ q % 2:=by
 have:=Hd (n:=256) (m:=8) (p:=fun v q=>v / 2 ^ (7-q) % 2 == da v / 2 ^ q % 2) (by decide +kernel) h hq
 simpa using this
theorem CT {y x:Nat} (hy:y<256) (hx:x<8):mY y≠x↔(2 ^ (8-x)≤da y∨da y<2 ^ (7-x)):=by
 have:=Hd (n:=256) (m:=8) (p:=fun y x=>decide (mY y≠x↔(2 ^ (8-x)≤da y∨da y<2 ^ (7-x)))) (by decide +kernel) hy hx
 exact aax this

def XR (m n:Nat):Prop:=m<2 ^ n∧(n=0∨2 ^ (n-1)≤m)
def bl (m:Nat):Nat:=if 256≤m then 8+ip (m / 256) else ip m
theorem D5 {m:Nat} (h:m<65536):XR m (bl m)∧bl m≤16:=by
 unfold bl
 split
 ·obtain ⟨h1,h2,h3⟩:=qc (i:=m / 256) O
  refine ⟨⟨?_,?_⟩,by omega⟩
  ·rw [bkx];omega
  ·right
   rcases h3 with h3|h3
   ·rw [h3] at h1;simp at h1;omega
   ·rw [show 8+ip (m / 256)-1=8+(ip (m / 256)-1) by
     have:ip (m / 256)≠0:=fun h=>by rw [h] at h1;simp at h1;omega
     omega,bkx]
    omega
 ·obtain ⟨h1,h2,h3⟩:=qc (i:=m) O
  exact ⟨⟨h1,h3⟩,by omega⟩
theorem MO (M i:Nat):M % 2 ^ (i+1)=M % 2 ^ i+M / 2 ^ i % 2 * 2 ^ i:=by
 rw [a6x,Nat.mod_mul,a0x (2 ^ i)]
def pd (x:Nat):Nat:=da (x / 256)+256 * da (x % 256)
theorem pb {x:Nat} (h:x<65536):pd x<65536:=by
 have h1:=eo (i:=x / 256) O
 have h2:=eo (i:=x % 256) O
 unfold pd;omega
def dD (m:Nat):Z:=UInt8.ofNat ((8-bl m % 8) % 8)::(if bl m=0 then [] else if bl m≤8 then [UInt8.ofNat (da (m % 256))] else [UInt8.ofNat (da (m % 256)),UInt8.ofNat (da (m / 256))])
def aZ (b:Z):Nat×Nat :=
 if b.length=0 then (0,2) else
 if 8≤(b.getD 0 0).toNat∨3<b.length∨(b.length=1∧0<(b.getD 0 0).toNat) then (0,4) else
 if b.length=1 then (0,0) else
 if mY (b.getD (b.length-1) 0).toNat≠(b.getD 0 0).toNat then (0,4) else
 let m:=da (b.getD 1 0).toNat+256 * (if b.length=3 then da (b.getD 2 0).toNat else 0)
 if 32768≤m then (0,1) else (m,0)
theorem MU (b:Z):(aZ b).2≤4∧(aZ b).1<32768:=by
 unfold aZ
 split
 ·exact ⟨by decide,by decide⟩
 ·split
  ·exact ⟨by decide,by decide⟩
  ·split
   ·exact ⟨by decide,by decide⟩
   ·split
    ·exact ⟨by decide,by decide⟩
    ·dsimp only
     generalize da (b.getD 1 0).toNat+256 * (if b.length=3 then da (b.getD 2 0).toNat else 0)=m
     split
     ·exact ⟨by decide,by decide⟩
     ·exact ⟨by show 0≤4;decide,by show m<32768;omega⟩
theorem fU {n:Nat} (h:n<256):(UInt8.ofNat n).toNat=n:=by
 simp;omega
theorem yC {a b:UInt8} (h:a.toNat=b.toNat):a=b:=Zq.1 h
theorem sk {m:Nat} (h:m<256) (h0:0<m):mY (da m)=(8-ip m % 8) % 8∧0<ip m∧(8-(8+ip m) % 8) % 8=(8-ip m % 8) % 8:=by
 have:=mN (n:=256) (p:=fun m=>decide (0<m→mY (da m)=(8-ip m % 8) % 8∧0<ip m)) (by decide +kernel) h
 have:=(aax this) h0
 exact ⟨this.1,this.2,by omega⟩
theorem O2 {m:Nat} (h:m<256):bl m=ip m:=by unfold bl;rw [jK]
theorem Vj {m:Nat} (h:256≤m):bl m=8+ip (m / 256):=by unfold bl;rw [YF h]
theorem Fr:dD 0=[0]:=by decide
theorem zX {m:Nat} (h:m<256) (h0:0<m):dD m=[UInt8.ofNat ((8-ip m % 8) % 8),UInt8.ofNat (da m)]:=by
 have h1:=sk h h0
 have h2:=qc h
 unfold dD
 rw [O2 h,jK,YF h2.2.1,Z8 h]
theorem zW {m:Nat} (h:m<65536) (h0:256≤m):dD m=[UInt8.ofNat ((8-ip (m / 256) % 8) % 8),UInt8.ofNat (da (m % 256)),UInt8.ofNat (da (m / 256))]:=by
 have h1:=sk (m:=m / 256) O O
 unfold dD
 rw [Vj h0,jK,jK,h1.2.2]
theorem tQ {m:Nat} (h:m<65536):(dD m).length=1+(bl m+7) / 8:=by
 have:=(D5 h).2
 unfold dD
 split
 ·rename_i e;rw [e];rfl
 ·split
  ·simp;omega
  ·simp;omega
theorem tw (n x y z:Nat) (b:Z) (hn:b.length=n) (hx:(b.getD 0 0).toNat=x) (hl:(b.getD (n-1) 0).toNat=z) (hy:(b.getD 1 0).toNat=y):aZ b=if n=0 then (0,2) else
  if 8≤x∨3<n∨(n=1∧0<x) then (0,4) else if n=1 then (0,0) else if mY z≠x then (0,4) else
  if 32768≤da y+256 * (if n=3 then da (b.getD 2 0).toNat else 0) then (0,1) else (da y+256 * (if n=3 then da (b.getD 2 0).toNat else 0),0):=by
 subst hn hx hl hy
 rfl
theorem zo (x y:UInt8):aZ [x,y]=if 8≤x.toNat then (0,4) else if mY y.toNat≠x.toNat then (0,4) else (da y.toNat,0):=by
 have hy:=eo (i:=y.toNat) y.toNat_lt
 rw [tw 2 x.toNat y.toNat y.toNat [x,y] rfl rfl rfl rfl,YE (by decide:¬ (2:Nat)=0)]
 by_cases h:8≤x.toNat
 ·rw [YF (Or.inl h),YF h]
 ·rw [jK,YE (by decide:¬ (2:Nat)=1),YE h,YE (by decide:¬ (2:Nat)=3),bJx,Zt,YE (show ¬ 32768≤da y.toNat by omega)]
theorem zm (x y z:UInt8):aZ [x,y,z]=if 8≤x.toNat then (0,4) else if mY z.toNat≠x.toNat then (0,4) else if 32768≤da y.toNat+256 * da z.toNat then (0,1) else (da y.toNat+256 * da z.toNat,0):=by
 rw [tw 3 x.toNat y.toNat z.toNat [x,y,z] rfl rfl rfl rfl,YE (by decide:¬ (3:Nat)=0)]
 by_cases h:8≤x.toNat
 ·rw [YF (Or.inl h),YF h]
 ·rw [jK,YE (by decide:¬ (3:Nat)=1),YE h,YF (rfl:(3:Nat)=3)]
  rfl
theorem Fa {m:Nat} (h:m<32768):aZ (dD m)=(m,0):=by
 by_cases h0:m=0
 ·subst h0;rw [Fr];decide
 ·by_cases h1:m<256
  ·have h2:=sk h1 O
   have h3:=eo h1
   rw [zX h1 O,zo,fU (n:=(8-ip m % 8) % 8) O,fU h3,h2.1,mW h1,jK,jK]
  ·have h2:=sk (m:=m / 256) O O
   have h3:=eo (i:=m % 256) O
   have h4:=eo (i:=m / 256) O
   rw [zW O O,zm,fU (n:=(8-ip (m / 256) % 8) % 8) O,fU h3,fU h4,h2.1,mW (i:=m % 256) O,mW (i:=m / 256) O,jK,jK,jK,show m % 256+256 * (m / 256)=m by omega]
theorem CS {y:Nat} (hy:y<256) (h:mY y<8):0<da y∧(8-ip (da y) % 8) % 8=mY y:=by
 have:=mN (n:=256) (p:=fun y=>decide (mY y<8→0<da y∧(8-ip (da y) % 8) % 8=mY y)) (by decide +kernel) hy
 exact (aax this) h
theorem Fs {b:Z} (h:(aZ b).2=0):dD (aZ b).1=b:=by
 match b with
 | []=>exact absurd h jD
 | [x] =>
  have h8:=x.toNat_lt
  have:x=0:=by
   refine yC ?_;refine Decidable.byContradiction fun hn=>?_
   have hn:x.toNat≠0:=hn
   have e:aZ [x]=(0,4):=by
    rw [tw 1 x.toNat 0 x.toNat [x] rfl rfl rfl rfl,YE (by decide:¬ (1:Nat)=0),jP]
   rw [e] at h;exact absurd h jD
  subst this;decide
 | [x,y] =>
  have hx:=x.toNat_lt
  have hy:y.toNat<256:=y.toNat_lt
  rw [zo] at h ⊢
  split at h
  ·exact absurd h (by show ¬ (4:Nat)=0;decide)
  ·rename_i h1
   rw [YE h1]
   split at h
   ·exact absurd h (by show ¬ (4:Nat)=0;decide)
   ·rename_i h2
    rw [YE h2]
    have h4:mY y.toNat=x.toNat:=Z4 h2
    have h6:=CS hy O
    have h7:=eo hy
    show dD (da y.toNat)=_
    rw [zX h7 h6.1,mW hy,h6.2,h4]
    rw [yC (a:=UInt8.ofNat x.toNat) (b:=x) (fU O),yC (a:=UInt8.ofNat y.toNat) (b:=y) (fU hy)]
 | [x,y,z] =>
  have hx:=x.toNat_lt
  have hy:y.toNat<256:=y.toNat_lt
  have hz:z.toNat<256:=z.toNat_lt
  rw [zm] at h ⊢
  split at h
  ·exact absurd h (by show ¬ (4:Nat)=0;decide)
  ·rename_i h1
   rw [YE h1]
   split at h
   ·exact absurd h (by show ¬ (4:Nat)=0;decide)
   ·rename_i h2
    rw [YE h2]
    split at h
    ·exact absurd h (by show ¬ (1:Nat)=0;decide)
    ·rename_i h3
     rw [YE h3]
     have h4:mY z.toNat=x.toNat:=Z4 h2
     have h6:=CS hz O
     have h7:=eo hy
     have h8:=eo hz
     show dD (da y.toNat+256 * da z.toNat)=_
     rw [zW O O,show (da y.toNat+256 * da z.toNat) / 256=da z.toNat by omega,show (da y.toNat+256 * da z.toNat) % 256=da y.toNat by omega,mW hy,mW hz,h6.2,h4]
     rw [yC (a:=UInt8.ofNat x.toNat) (b:=x) (fU O),yC (a:=UInt8.ofNat y.toNat) (b:=y) (fU hy),yC (a:=UInt8.ofNat z.toNat) (b:=z) (fU hz)]
 | x::y::z::q::l =>
  have e:aZ (x::y::z::q::l)=(0,4):=by
   unfold aZ
   rw [YE (by simp),YF (.inr (.inl (by simp)))]
  rw [e] at h;exact absurd h jD

end Am
end Go.Proofs.YtghminnpfnkbjaaGreatDoor
namespace Go.Proofs.YtghminnpfnkbjaaGreatDoor
open Go.RowKit

def oP (n:Int):UInt8:=UInt8.ofNat (n % 256).toNat
theorem fh (n:Int):((oP n).toNat:Int)=n % 256:=by
 have h0:0≤n % 256:=Int.emod_nonneg _ jD
 have h1:n % 256<256:=Int.emod_lt_of_pos _ jD
 have:(oP n).toNat=(n % 256).toNat:=by
  unfold oP
  rw [YY]
  omega
 omega
def sh:Nat→Int→Int
 | 0,n=>n
 | k+1,n=>sh k n / 256
def iv (k:Nat) (n:Int):Z:=(List.range k).map fun j=>oP (sh j n)
theorem cV (k:Nat) (n:Int):(iv k n).length=k:=by simp [iv]
theorem ly (k:Nat) (n:Int):iv (k+1) n=iv k n++[oP (sh k n)]:=by simp [iv,aSx]
theorem xt (k:Nat) (n:Int) (j:Nat) (h:j<k):(iv k n).getD j 0=oP (sh j n):=by simp [iv,List.getD,h]
def xV (j:Nat) (n:Int):Bool:=(sh (j+1) n == 0 && decide (sh j n % 256<128)) || (sh (j+1) n == -1 && decide (128≤sh j n % 256))
theorem pI (j:Nat) (n:Int):xV j n=true↔-128≤sh j n∧sh j n<128:=by
 simp only [xV,sh,Zx,YK,ZZ,YP]
 constructor
 ·intro h;omega
 ·intro h;omega
theorem KZ (j:Nat) (n:Int) (h:xV j n=true):xV (j+1) n=true:=by
 rw [pI] at h ⊢
 simp only [sh]
 omega
theorem HH (n:Int) (j m:Nat) (hjm:j≤m) (h:xV j n=true):xV m n=true:=by
 induction m with
 | zero =>
   obtain rfl:j=0:=by omega
   exact h
 | succ m ih =>
  by_cases e:j=m+1
  ·subst e;exact h
  ·exact KZ m n (ih O)
theorem yH (n:Int) (h1:-9223372036854775808≤n) (h2:n≤9223372036854775807):xV 7 n=true:=by
 rw [pI]
 simp only [sh]
 omega
def xN (n:Int) (k:Nat):Prop:=k≤7∧xV k n=true∧∀ j,j<k→xV j n=false
theorem xN.unique {n:Int} {k m:Nat} (h:xN n k) (g:xN n m):k=m:=by
 rcases a7x k m with h1|h1|h1
 ·have:=g.2.2 k h1;rw [h.2.1] at this;cases this
 ·exact h1
 ·have:=h.2.2 m h1;rw [g.2.1] at this;cases this

def Eh (c:UInt8):Int:=if c.toNat<128 then c.toNat else (c.toNat:Int)-256
def fk (l:Z):Int:=match l with
 | []=>0
 | c::r=>r.foldl (fun a b=>a * 256+b.toNat) (Eh c)
theorem pF (l:Z) (hl:l≠[]) (c:UInt8):fk (l++[c])=fk l * 256+c.toNat:=by
 cases l with
 | nil=>exact absurd rfl hl
 | cons x r=>simp [fk]
theorem Er (l:Z):∀ m,l.length=m+1→-(128 * 256 ^ m)≤fk l∧fk l<128 * 256 ^ m:=by
 intro m
 induction m generalizing l with
 | zero =>
  intro h
  match l,h with
  | [c],_ =>
   have:=c.toNat_lt
   simp only [fk,aZx,Eh]
   split <;> omega
 | succ m ih =>
  intro h
  have hne:l≠[]:=by intro e;subst e;simp at h
  have e:l=l.dropLast++[l.getLast hne]:=(Z7 hne).symm
  have hl:l.dropLast.length=m+1:=by simp;omega
  have hd:l.dropLast≠[]:=by intro e;rw [e] at hl;simp at hl
  have:=ih l.dropLast hl
  have hc:=(l.getLast hne).toNat_lt
  rw [e,pF _ hd]
  have hp:(256:Int) ^ (m+1)=256 ^ m * 256:=Int.pow_succ _ _
  rw [hp]
  generalize (256:Int) ^ m=p at this ⊢
  omega
theorem qW (l:Z) (h:l.length≤7):-36028797018963968≤fk l∧fk l<36028797018963968:=by
 match l,h with
 | [],_=>show -36028797018963968≤(0:Int)∧(0:Int)<36028797018963968;omega
 | c::r,h =>
  simp only [List.length_cons] at h
  have:=Er (c::r) r.length rfl
  have hp:((256:Int) ^ r.length)≤256 ^ 6:=by
   have:r.length=0∨r.length=1∨r.length=2∨r.length=3∨r.length=4∨r.length=5∨r.length=6:=by omega
   rcases this with h|h|h|h|h|h|h <;> rw [h] <;> decide
  have e6:(256:Int) ^ 6=281474976710656:=by decide
  omega
theorem Hu (n:Int):∀ k,xV k n=true→fk (iv (k+1) n).reverse=n:=by
 intro k h
 have key:∀ j,j≤k→fk ((iv (k+1) n).reverse.take (j+1))=sh (k-j) n:=by
  intro j
  induction j with
  | zero =>
   intro _
   rw [ly]
   simp only [btx,abx,List.reverse_nil,List.nil_append,bfx,List.take_succ_cons,a8x,fk,aZx,Eh,ZP]
   rw [pI] at h
   have:=fh (sh k n)
   split <;> omega
  | succ j ih =>
   intro hj
   have hlen:j+1<(iv (k+1) n).reverse.length:=by simp [cV];omega
   rw [YO hlen,pF _ (by intro e;have:=Y3 List.length e;simp [cV] at this),ih O]
   have eg:(iv (k+1) n).reverse[j+1]=oP (sh (k-(j+1)) n):=by
    rw [bWx]
    have:=xt (k+1) n ((iv (k+1) n).length-1-(j+1)) (by rw [cV];omega)
    simp only [List.getD,cV] at this ⊢
    rw [YR (by rw [cV];omega)] at this
    simp only [Zw] at this
    rw [show k-(j+1)=k+1-1-(j+1) by omega]
    exact this
   rw [eg,fh,show k-j=(k-(j+1))+1 by omega]
   simp only [sh]
   omega
 have:=key k (YG _)
 rw [Y0 (by simp [cV])] at this
 simpa [sh] using this

def qD (l:Z):Bool:=match l with
 | a::b::_=>(a.toNat == 0 && decide (b.toNat<128)) || (a.toNat == 255 && decide (128≤b.toNat))
 | _=>false
def cg (l:Z):Int×Nat :=
 if l.length=0 then (0,2) else if qD l=true then (0,4) else if 8<l.length then (0,1) else (fk l,0)

theorem yi (k:Nat) (n:Int):(iv (k+2) n).reverse=oP (sh (k+1) n)::oP (sh k n)::(iv k n).reverse:=by
 rw [ly,ly]
 simp
theorem zI (n:Int) (k:Nat) (h:xV (k+1) n=true):qD (iv (k+2) n).reverse=xV k n:=by
 rw [yi]
 rw [pI] at h
 have e:=pI k n
 rw [axx,e]
 simp only [qD,Zx,YK,ZZ,YP]
 have h1:=fh (sh (k+1) n)
 have h2:=fh (sh k n)
 simp only [sh] at h h1 h2 ⊢
 omega
theorem N6 (n:Int) (k:Nat) (h:xN n k):cg (iv (k+1) n).reverse=(n,0):=by
 have hi:qD (iv (k+1) n).reverse=false:=by
  cases k with
  | zero=>simp [iv,qD]
  | succ k=>rw [zI n k h.2.1];exact h.2.2 k O
 have:=h.1
 simp [cg,cV,hi,Hu n k h.2.1]
 omega
theorem NT (m c:Int) (h1:-36028797018963968≤m) (h2:m<36028797018963968) (h3:0≤c) (h4:c<256):bits .or .i64 (m * 256) c=m * 256+c:=by
 show IntKind.i64.wrap ((BitVec.ofInt 64 (m * 256) ||| BitVec.ofInt 64 c).toNat:Int)=_
 rw [BitVec.toNat_or,BitVec.toNat_ofInt,BitVec.toNat_ofInt]
 have e1:(c % ((2 ^ 64:Nat):Int)).toNat=c.toNat:=by
  have:((2 ^ 64:Nat):Int)=18446744073709551616:=by decide
  rw [this];omega
 have e2:(m * 256 % ((2 ^ 64:Nat):Int)).toNat=(m * 256 % 18446744073709551616).toNat:=by
  have:((2 ^ 64:Nat):Int)=18446744073709551616:=by decide
  rw [this]
 rw [e1,e2,nat_join 8 _ _ O O,IntKind.wrap_i64]
 omega
theorem BD (n:Int) (k i:Nat) (h:i<k):(iv k n).reverse.getD i 0=oP (sh (k-1-i) n):=by
 have hl:i<(iv k n).length:=by rw [cV];exact h
 simp only [List.getD,bex hl,cV]
 have:=xt k n (k-1-i) O
 simpa [List.getD] using this
end Go.Proofs.YtghminnpfnkbjaaGreatDoor
namespace Go.Proofs.YtghminnpfnkbjaaGreatDoor
open Go.RowKit

def Bx (d:Nat):UInt8:=oP (48+d:Nat)
def mv (n:Nat):Z:=if n<10 then [Bx n] else mv (n / 10)++[Bx (n % 10)]
termination_by n

def eB (c:UInt8):Bool:=decide (48≤c.toNat) && decide (c.toNat≤57)
def mH (l:Z):Nat:=l.foldl (fun a c=>10 * a+(c.toNat-48)) 0
def qE (l:Z):Nat×Nat:=if l.length=0∨18<l.length∨(1<l.length∧(l.getD 0 0).toNat=48)∨l.all eB=false then (0,4) else (mH l,0)

theorem fx {n:Nat} (h:n<10):mv n=[Bx n]:=by rw [mv,YF h]
theorem jm {n:Nat} (h:¬ n<10):mv n=mv (n / 10)++[Bx (n % 10)]:=by rw [mv,YE h]
theorem jQ (n:Nat) (h:n<10):(Bx n).toNat=48+n:=by
 unfold Bx
 have:=fh ((48+n:Nat):Int)
 omega
theorem kf (l:Z) (c:UInt8):mH (l++[c])=10 * mH l+(c.toNat-48):=by simp [mH]

theorem vw {p:Nat→Prop} (h0:∀ n,n<10→p n) (h1:∀ n,¬ n<10→p (n / 10)→p n) (n:Nat):p n:=by
 induction n using Nat.strongRecOn with
 | ind n ih =>
  by_cases h:n<10
  ·exact h0 n h
  ·exact h1 n h (ih _ O)

theorem BF (n:Nat):0<(mv n).length:=by
 by_cases h:n<10
 ·rw [fx h];simp
 ·rw [jm h];simp
theorem DV (n:Nat):(mv n).all eB=true:=by
 induction n using vw with
 | h0 n h =>
  rw [fx h]
  have:=jQ n h
  simp [eB,this];omega
 | h1 n h ih =>
  rw [jm h,aTx,ih]
  have:=jQ (n % 10) O
  simp [eB,this];omega
theorem Si (n:Nat):mH (mv n)=n:=by
 induction n using vw with
 | h0 n h =>
  rw [fx h]
  have:=jQ n h
  simp [mH,this]
 | h1 n h ih =>
  rw [jm h,kf,ih]
  have:=jQ (n % 10) O
  omega
theorem DT (n:Nat):1<(mv n).length→((mv n).getD 0 0).toNat≠48:=by
 induction n using vw with
 | h0 n h=>rw [fx h];simp
 | h1 n h ih =>
  intro _
  rw [jm h]
  have hp:=BF (n / 10)
  have e:(mv (n / 10)++[Bx (n % 10)]).getD 0 0=(mv (n / 10)).getD 0 0:=by
   simp only [List.getD,YL hp]
  rw [e]
  by_cases hs:n / 10<10
  ·rw [fx hs]
   have:=jQ (n / 10) hs
   simp only [List.getD,ZK,Zw]
   omega
  ·apply ih
   rw [jm hs]
   have:=BF (n / 10 / 10)
   simp
   omega
theorem lf (k:Nat):∀ n,n<10 ^ (k+1)→(mv n).length≤k+1:=by
 induction k with
 | zero=>intro n h;rw [fx (by simpa using h)];simp
 | succ k ih =>
  intro n h
  by_cases hs:n<10
  ·rw [fx hs];simp
  ·rw [jm hs]
   have:=ih (n / 10) (by rw [a6x] at h;omega)
   simp;omega
theorem vV {p:Z→Prop} (h0:p []) (h1:∀ l c,p l→p (l++[c])) (l:Z):p l:=by
 have h:∀ l:Z,p l.reverse:=by
  intro l
  induction l with
  | nil=>exact h0
  | cons c l ih=>rw [abx];exact h1 _ _ ih
 have:=h l.reverse
 rwa [List.reverse_reverse] at this
theorem xH {l:Z} {c:UInt8} (h:(l++[c]).all eB=true):l.all eB=true∧48≤c.toNat∧c.toNat≤57:=by
 simp only [aTx,Z6,List.all_nil,Bool.and_true,YK,eB,YP] at h
 exact ⟨by simpa [eB] using h.1,h.2⟩
theorem zL {l:Z} {c:UInt8} (h:0<l.length):(l++[c]).getD 0 0=l.getD 0 0:=by
 simp only [List.getD,YL h]
theorem PO (l:Z):l.all eB=true→mH l<10 ^ l.length:=by
 induction l using vV with
 | h0=>intro _;simp [mH]
 | h1 l c ih =>
  intro h
  obtain ⟨h1,h2,h3⟩:=xH h
  have:=ih h1
  rw [kf,YI,ZC,a6x]
  omega
theorem yA {l:Z} (h:l.all eB=true) (hl:l.length≤17):mH l<100000000000000000 :=
 Zf (PO l h) (Zd (ZA jD hl) jD)
theorem KH (l:Z):0<l.length→l.all eB=true→(l.getD 0 0).toNat≠48→0<mH l:=by
 induction l using vV with
 | h0=>simp
 | h1 l c ih =>
  intro _ h hh
  obtain ⟨h1,h2,h3⟩:=xH h
  rw [kf]
  by_cases hl:l=[]
  ·subst hl
   simp only [List.nil_append,List.getD,ZK,Zw] at hh
   omega
  ·have hp:=Zh.2 hl
   rw [zL hp] at hh
   have:=ih hp h1 hh
   omega
theorem Dz {c:UInt8} (h2:48≤c.toNat):Bx (c.toNat-48)=c:=by
 unfold Bx
 apply Zq.1
 have:=fh ((48+(c.toNat-48):Nat):Int)
 have:=c.toNat_lt
 omega
theorem OO (l:Z):0<l.length→l.all eB=true→(1<l.length→(l.getD 0 0).toNat≠48)→mv (mH l)=l:=by
 induction l using vV with
 | h0=>simp
 | h1 l c ih =>
  intro _ h hh
  obtain ⟨h1,h2,h3⟩:=xH h
  rw [kf]
  by_cases hl:l=[]
  ·subst hl
   show mv (10 * 0+(c.toNat-48))=[c]
   rw [bJx,Nat.zero_add,fx O,Dz h2]
  ·have hp:=Zh.2 hl
   rw [zL hp] at hh
   have h0:=hh (by simp;omega)
   have hv:=KH l hp h1 h0
   rw [jm O,show (10 * mH l+(c.toNat-48)) / 10=mH l by omega,show (10 * mH l+(c.toNat-48)) % 10=c.toNat-48 by omega,Dz h2,ih hp h1 (fun _=>h0)]
theorem Om {n:Nat} (h:n<1000000000000000000):qE (mv n)=(n,0):=by
 have h1:=BF n
 have h2:=lf 17 n h
 have h3:=DT n
 unfold qE
 rw [YE,Si]
 rintro (h|h|⟨h,h'⟩|h)
 ·omega
 ·omega
 ·exact h3 h h'
 ·rw [DV] at h;cases h
theorem Ol (l:Z):qE l=if 1≤l.length∧l.length≤18∧l.all eB=true∧mv (mH l)=l then (mH l,0) else (0,4):=by
 unfold qE
 split
 ·rename_i h
  rw [YE]
  rintro ⟨h1,h2,h3,h4⟩
  rcases h with h|h|⟨h,h'⟩|h
  ·omega
  ·omega
  ·rw [← h4] at h h'
   exact DT _ h h'
  ·rw [h3] at h;cases h
 ·rename_i h
  have h1:¬ l.length=0:=fun e=>h (.inl e)
  have h2:¬ 18<l.length:=fun e=>h (.inr (.inl e))
  have h3:l.all eB=true:=by
   cases e:l.all eB with
   | true=>rfl
   | false=>exact absurd (.inr (.inr (.inr e))) h
  have h4:1<l.length→(l.getD 0 0).toNat≠48:=fun a b=>h (.inr (.inr (.inl ⟨a,b⟩)))
  rw [YF ⟨by omega,by omega,h3,OO l O h3 h4⟩]
theorem OQ {m:Nat} (h:0<m) (o:Z):(if m=0 then [] else mv m)++o.reverse=(if m / 10=0 then [] else mv (m / 10))++(o++[Bx (m % 10)]).reverse:=by
 rw [jK,btx,List.reverse_singleton,bfx]
 by_cases hs:m<10
 ·rw [fx hs,jP,show m % 10=m by omega];rfl
 ·rw [jm hs,jK,Zb];rfl
theorem J3 (n:Nat):mv n=(if n / 10=0 then [] else mv (n / 10))++[Bx (n % 10)].reverse:=by
 by_cases hs:n<10
 ·rw [fx hs,jP,show n % 10=n by omega];rfl
 ·rw [jm hs,jK];rfl
theorem vq (n:Nat):((Bx (n % 10)).toNat:Int)=48+(n:Int) % 10:=by
 have:=jQ (n % 10) O
 omega
theorem yE (l:Z) (i:Nat) (h:i<l.length):l.take (i+1)=l.take i++[l.getD i 0]:=by
 rw [YO h]
 simp [List.getD,YR h]
theorem oq {l:Z} {i:Nat} (hi:i<l.length) (h:eB (l.getD i 0)=false):l.all eB=false:=by
 cases e:l.all eB with
 | false=>rfl
 | true =>
  rw [Y8] at e
  have:=e (l.getD i 0) (by simp [List.getD,YR hi])
  rw [h] at this
  cases this
end Go.Proofs.YtghminnpfnkbjaaGreatDoor
