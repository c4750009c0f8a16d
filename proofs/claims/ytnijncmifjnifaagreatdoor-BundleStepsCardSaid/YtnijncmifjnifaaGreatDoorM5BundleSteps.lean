/- What the law leans on, part 5 -/
import Derived.Test.YtnijncmifjnifaaGreatDoorM4BundleSteps
import Derived.WalkKit
import Derived.Shelf.SlSortCmp.Kit1
import Derived.Shelf.Small.Bits
import Derived.Shelf.Small.Strs
import Derived.Shelf.Small.Wraps
import Derived.Shelf.Strconv.Itoa0
import Derived.Shelf.Strings.Search1
import Derived.Shelf.Strings.Prefix
import Derived.Ground.Names2Prog
import Derived.Shelf.Slices.SearchI
import Derived.Test.YtnijncmifjnifaaGreatDoorProg
import Derived.Shelf.SlSortCmp.NoneTotal
import Derived.Ground.SlsfProg
import Derived.Test.YtnijncmifjnifaaGreatDoorRows
import Derived.LaidLaws
import Derived.MakeChecks
import Derived.Lib.LaidU8T
import Derived.Shelf.Unicode.ValidAny
set_option maxRecDepth 100000
set_option maxHeartbeats 8000000
set_option linter.unusedVariables false
variable {gs:List Nat}
open Go.Proofs.Tryz
namespace Go.Proofs.YtnijncmifjnifaaGreatDoor.Cal
structure D6 where
 y:Int
 m:Int
 d:Int
 h:Int
 mi:Int
 s:Int
def eK (y:Int):Bool:=y % 4 == 0 && (y % 100 != 0 || y % 400 == 0)
def fA (y m:Int):Int :=
 if m=4∨m=6∨m=9∨m=11 then 30 else if m=2 then (if eK y then 29 else 28) else if m<1∨m>12 then 0 else 31
theorem sW (y m:Int):0≤fA y m∧fA y m≤31:=by
 unfold fA;repeat' split
 all_goals omega
theorem jt {y m d:Int} (h1:1≤d) (h2:d≤fA y m):1≤m∧m≤12:=by
 unfold fA at h2;repeat' split at h2
 all_goals omega
def bf (y:Int):Int:=365 * (y-1)+(y-1) / 4-(y-1) / 100+(y-1) / 400+306-719468
theorem Ad:bf 1970=0:=by decide
theorem Ac (y:Int):bf (y+1)=bf y+365+if eK y then 1 else 0:=by
 have e:(eK y=true)↔(y % 4=0∧(y % 100≠0∨y % 400=0)):=by simp [eK]
 by_cases h:eK y=true
 ·rw [FO h];rw [e] at h;unfold bf;omega
 ·rw [FN h];rw [e] at h;unfold bf;omega
theorem s6 {a b:Int} (h:a≤b):bf a≤bf b:=by unfold bf;omega
def sX (y m:Int):Int :=
 if m≤2 then 31 * (m-1) else (153 * (m-3)+2) / 5+59+(if eK y then 1 else 0)
theorem xK (y m:Int) (h1:1≤m) (h2:m≤12):sX y (m+1)=sX y m+fA y m:=by
 have:m=1∨m=2∨m=3∨m=4∨m=5∨m=6∨m=7∨m=8∨m=9∨m=10∨m=11∨m=12:=by omega
 rcases this with h|h|h|h|h|h|h|h|h|h|h|h<;>subst h<;>simp [sX,fA]<;>split<;>omega
theorem CC (y:Int):bf y+sX y 13=bf (y+1):=by
 rw [Ac];simp [sX];split<;>omega
theorem xL {y a b:Int} (h0:1≤a) (h:a≤b) (h1:b≤13):sX y a≤sX y b:=by
 unfold sX;repeat' split
 all_goals omega
theorem CB (y m:Int) (h1:1≤m) (h2:m≤13):0≤sX y m∧sX y m≤366:=by
 unfold sX;repeat' split
 all_goals omega
def dn (y m d:Int):Int:=bf y+sX y m+d-1
theorem zX (y m d:Int) (h1:1≤m) (h2:m≤12) :
  365 * (if m-3<0 then y-1 else y)+(if m-3<0 then y-1 else y) / 4-(if m-3<0 then y-1 else y) / 100+(if m-3<0 then y-1 else y) / 400+(153 * (if m-3<0 then m-3+12 else m-3)+2) / 5+d-1-719468=dn y m d:=by
 have e:(eK y=true)↔(y % 4=0∧(y % 100≠0∨y % 400=0)):=by simp [eK]
 by_cases h:m-3<0
 ·simp only [FO h]
  have:m=1∨m=2:=by omega
  rcases this with h|h<;>subst h<;>simp [dn,bf,sX]<;>omega
 ·simp only [FN h]
  unfold dn bf sX
  rw [jK]
  by_cases hl:eK y=true
  ·rw [FO hl];rw [e] at hl;omega
  ·rw [FN hl];rw [e] at hl;omega
def eY (x:D6):Prop:=1970≤x.y∧x.y≤9999∧1≤x.d∧x.d≤fA x.y x.m∧0≤x.h∧x.h<24∧0≤x.mi∧x.mi<60∧0≤x.s∧x.s<60
instance (x:D6):Decidable (eY x):=by unfold eY;infer_instance
def Bt (x:D6):Int:=((dn x.y x.m x.d * 24+x.h) * 60+x.mi) * 60+x.s
theorem D0 (n:Int) (h0:0≤n) (h1:n<146097):∃ c r:Int,n=36524 * c+r∧0≤c∧c≤3∧0≤r∧(r<36524∨(c=3∧r=36524)):=by
 by_cases h:n=146096
 exact ⟨3,36524,by omega,by omega,by omega,by omega,.inr ⟨rfl,rfl⟩⟩
 exact ⟨n / 36524,n % 36524,by omega,by omega,by omega,by omega,.inl O⟩
theorem DZ (v:Int) (h0:0≤v) (h1:v<1461):∃ k e:Int,v=365 * k+e∧0≤k∧k≤3∧0≤e∧(e<365∨(k=3∧e=365)):=by
 by_cases h:v=1460
 exact ⟨3,365,by omega,by omega,by omega,by omega,.inr ⟨rfl,rfl⟩⟩
 exact ⟨v / 365,v % 365,by omega,by omega,by omega,by omega,.inl O⟩
theorem xI (c q v:Int) (hc:0≤c) (hc3:c≤3) (hq:0≤q) (hq24:q≤24) (hv:0≤v) (hv2:v≤1460):∃ z,(36524 * c+1461 * q+v) / 1460=25 * c+q+z∧((z=0∧24 * c+q+v<1460)∨(z=1∧1460≤24 * c+q+v)):=by
 by_cases h:24 * c+q+v<1460
 exact ⟨0,by omega,.inl ⟨rfl,h⟩⟩
 exact ⟨1,by omega,.inr ⟨rfl,by omega⟩⟩
theorem xH (c r:Int) (hc:0≤c) (hc3:c≤3) (h0:0≤r) (h:r<36524∨(c=3∧r=36524)):(36524 * c+r) / 36524-(36524 * c+r) / 146096=c:=by
 rcases h with h|⟨rfl,rfl⟩
 ·have e1:(36524 * c+r) / 36524=c:=by omega
  have e2:(36524 * c+r) / 146096=0:=by omega
  omega
 ·decide
theorem u5 (c q k e z:Int) (hc:0≤c) (hc3:c≤3) (hq:0≤q) (hq24:q≤24) (hk0:0≤k) (hk3:k≤3) (he0:0≤e) (he:e<365∨(k=3∧e=365)) (hz:(z=0∧24 * c+q+(365 * k+e)<1460)∨(z=1∧1460≤24 * c+q+(365 * k+e))) :
  ((36524 * c+1461 * q+(365 * k+e))-(25 * c+q+z)+c) / 365=100 * c+4 * q+k:=by
 have h1:0≤e-z∧e-z<365:=by
  rcases hz with ⟨rfl,hz⟩|⟨rfl,hz⟩<;>rcases he with he|⟨rfl,rfl⟩<;>omega
 have h2:(36524 * c+1461 * q+(365 * k+e))-(25 * c+q+z)+c=(100 * c+4 * q+k) * 365+(e-z):=by omega
 rw [h2]
 omega
theorem EP (a b c d:Int):a-b+c-d=a-b+(c-d):=by omega
theorem yh (c q k e:Int) (hc:0≤c) (hc3:c≤3) (hq:0≤q) (hq24:q≤24) (hk0:0≤k) (hk3:k≤3) (he:e<365∨(k=3∧e=365)) (hr:1461 * q+(365 * k+e)<36524∨c=3) :
  36524 * c+(1461 * q+(365 * k+e))<365 * (100 * c+4 * q+k+1)+(100 * c+4 * q+k+1) / 4-(100 * c+4 * q+k+1) / 100+(if 100 * c+4 * q+k=399 then 1 else 0):=by
 by_cases hk:k=3
 ·subst hk
  have e10:(100 * c+4 * q+3+1) / 4=25 * c+q+1:=by clear he hr;omega
  rw [e10]
  have he':e≤365:=by omega
  clear he
  by_cases hq':q=24
  ·subst hq'
   have e11:(100 * c+4 * 24+3+1) / 100=c+1:=by clear hr;omega
   rw [e11]
   split
   ·clear hr;omega
   ·have:¬ c=3:=by rename_i h;omega
    have hr':=hr.resolve_right this
    clear hr
    omega
  ·have e11:(100 * c+4 * q+3+1) / 100=c:=by clear hr;omega
   rw [e11]
   clear hr
   split<;>omega
 ·have he':e<365:=by
   rcases he with h|h
   exact h
   exact absurd h.1 hk
  clear he hr
  have e10:(100 * c+4 * q+k+1) / 4=25 * c+q:=by omega
  have e11:(100 * c+4 * q+k+1) / 100=c:=by omega
  rw [e10,e11]
  split<;>omega
def yr (n:Int):Int:=(n-n / 1460+n / 36524-n / 146096) / 365
theorem yj {n c r q v k e:Int} (hn:n=36524 * c+r) (hc:0≤c) (hc3:c≤3) (hr0:0≤r) (hr:r<36524∨(c=3∧r=36524)) (hr2:r=1461 * q+v) (hq:0≤q) (hq24:q≤24) (hv:0≤v) (hv2:v<1461) (hv3:v=365 * k+e) (hk0:0≤k) (hk3:k≤3) (he0:0≤e) (he:e<365∨(k=3∧e=365)):yr n=100 * c+4 * q+k:=by
 obtain ⟨z,hz,hz2⟩:=xI c q v hc hc3 hq hq24 hv (Int.le_of_lt_add_one hv2)
 have e1:=xH c r hc hc3 hr0 hr
 show (n-n / 1460+n / 36524-n / 146096) / 365=_
 have e3:n / 36524-n / 146096=c:=by rw [hn];exact e1
 have e4:n / 1460=25 * c+q+z:=by rw [hn,hr2,← Int.add_assoc];exact hz
 have e5:=u5 c q k e z hc hc3 hq hq24 hk0 hk3 he0 he (by rw [← hv3];exact hz2)
 rw [EP,e3,e4,hn,hr2,hv3,← Int.add_assoc]
 exact e5
theorem DY (r:Int) (h0:0≤r) (h1:r≤36524):∃ q v:Int,r=1461 * q+v∧0≤q∧q≤24∧0≤v∧v<1461:=⟨r / 1461,r % 1461,by omega,by omega,by omega,by omega,by omega⟩
theorem yi {c q k:Int} (hc:0≤c) (hc3:c≤3) (hq:0≤q) (hq24:q≤24) (hk0:0≤k) (hk3:k≤3):0≤100 * c+4 * q+k∧100 * c+4 * q+k≤399∧365 * (100 * c+4 * q+k)+(100 * c+4 * q+k) / 4-(100 * c+4 * q+k) / 100=36524 * c+1461 * q+365 * k:=by
 have e7:(100 * c+4 * q+k) / 4=25 * c+q:=by omega
 have e8:(100 * c+4 * q+k) / 100=c:=by clear e7;omega
 refine ⟨by clear e7 e8;omega,by clear e7 e8;omega,?_⟩
 rw [e7,e8]
 clear e7 e8
 omega
theorem lb (n:Int) (h0:0≤n) (h1:n<146097) :
  0≤yr n∧yr n≤399∧365 * yr n+yr n / 4-yr n / 100≤n∧n<365 * (yr n+1)+(yr n+1) / 4-(yr n+1) / 100+(if yr n=399 then 1 else 0):=by
 have ⟨c,r,hn,hc,hc3,hr0,hr⟩:=D0 n h0 h1
 have hr1:r≤36524:=by
  rcases hr with h|h
  exact Int.le_of_lt h
  exact Int.le_of_eq h.2
 have ⟨q,v,hr2,hq,hq24,hv,hv2⟩:=DY r hr0 hr1
 have ⟨k,e,hv3,hk0,hk3,he0,he⟩:=DZ v hv hv2
 rw [yj hn hc hc3 hr0 hr hr2 hq hq24 hv hv2 hv3 hk0 hk3 he0 he]
 have hup:=yh c q k e hc hc3 hq hq24 hk0 hk3 he (by
  rw [← hv3,← hr2]
  rcases hr with h|h
  exact .inl h
  exact .inr h.1)
 rw [← hv3,← hr2,← hn] at hup
 have ⟨l1,l2,l3⟩:=yi hc hc3 hq hq24 hk0 hk3
 refine ⟨l1,l2,?_,hup⟩
 rw [l3]
 clear hup l1 l2 l3 hr he
 omega
theorem Dy (r:Int) (h0:0≤r) (h1:r<146097):0≤r-(365 * yr r+yr r / 4-yr r / 100)∧r-(365 * yr r+yr r / 4-yr r / 100)≤365:=by
 have ⟨y0,y1,y2,y3⟩:=lb r h0 h1
 generalize yr r=y at *
 split at y3<;>omega
structure Ec where
 ages:Int
 y:Int
 m:Int
 d:Int
def az (N:Int):Ec :=
 let n:=N+719468
 let r:=n % 146097
 let y:=yr r
 let n2:=r-(365 * y+y / 4-y / 100)
 let m:=(5 * n2+2) / 153
 ⟨n / 146097,y,m,n2-(153 * m+2) / 5+1⟩
def u2 (N:Int):Int:=(az N).ages * 400+(az N).y+if (az N).m+3>12 then 1 else 0
def yb (N:Int):Int:=if (az N).m+3>12 then (az N).m+3-12 else (az N).m+3
def xJ (N:Int):Int:=(az N).d
theorem Bn (y:Int):(y+1) / 4=y / 4+if (y+1) % 4=0 then 1 else 0:=by split<;>omega
theorem vk (y:Int):(y+1) / 100=y / 100+if (y+1) % 100=0 then 1 else 0:=by split<;>omega
theorem wi (N:Int) (h0:0≤N) (h1:N≤2932896):4≤(az N).ages∧(az N).ages≤24∧0≤(az N).y∧(az N).y≤399∧0≤(az N).m∧(az N).m≤11∧1≤(az N).d∧(az N).d≤31 ∧
  365 * (az N).y+(az N).y / 4-(az N).y / 100+146097 * (az N).ages+(153 * (az N).m+2) / 5+(az N).d-1=N+719468 ∧
  ((az N).m=11→(az N).d≤28+(if ((az N).y+1) % 4=0∧(((az N).y+1) % 100≠0∨((az N).y+1) % 400=0) then 1 else 0))∧(((az N).m=1∨(az N).m=3∨(az N).m=6∨(az N).m=8)→(az N).d≤30):=by
 obtain ⟨n,hn⟩:∃ n,n=N+719468:=⟨_,rfl⟩
 obtain ⟨r,hr⟩:∃ r,r=n % 146097:=⟨_,rfl⟩
 have hyo:=lb r O O
 obtain ⟨y,hy⟩:∃ y,y=yr r:=⟨_,rfl⟩
 rw [← hy] at hyo
 have ⟨y0,y1,y2,y3⟩:=hyo
 obtain ⟨n2,hn2⟩:∃ n2,n2=r-(365 * y+y / 4-y / 100):=⟨_,rfl⟩
 obtain ⟨m,hm⟩:∃ m,m=(5 * n2+2) / 153:=⟨_,rfl⟩
 have e:az N=⟨n / 146097,y,m,n2-(153 * m+2) / 5+1⟩:=by
  simp only [az,← hn,← hr,← hy,← hn2,← hm]
 rw [e]
 simp only
 have hlen:0≤n2∧n2≤365:=by split at y3<;>omega
 have hlast:n2=365→((y+1) % 4=0∧((y+1) % 100≠0∨(y+1) % 400=0)):=by
  intro h
  rw [Bn,vk] at y3
  by_cases h4:(y+1) % 4=0
  ·refine ⟨h4,?_⟩
   rw [FO h4] at y3
   by_cases h100:(y+1) % 100=0
   ·rw [FO h100] at y3
    by_cases h399:y=399
    ·subst h399;exact .inr T
    ·rw [FN h399] at y3
     omega
   exact .inl h100
  ·rw [FN h4] at y3
   by_cases h399:y=399
   ·subst h399;exact absurd T h4
   ·rw [FN h399] at y3
    split at y3<;>omega
 have hm':0≤m∧m≤11:=by omega
 refine ⟨by omega,by omega,y0,y1,hm'.1,hm'.2,by omega,by omega,by omega,?_,by omega⟩
 intro h11
 subst h11
 split
 omega
 ·rename_i hno
  have:n2≠365:=fun h=>hno (hlast h)
  omega
theorem wG (A Y:Int):eK (A * 400+Y)=eK Y:=by
 unfold eK
 have e4:(A * 400+Y) % 4=Y % 4:=by omega
 have e100:(A * 400+Y) % 100=Y % 100:=by omega
 have e400:(A * 400+Y) % 400=Y % 400:=by omega
 rw [e4,e100,e400]
theorem CA (y M D:Int) (m1:0≤M) (m2:M≤11) (d2:D≤31) (h11:M=11→D≤28+if eK y then 1 else 0) (h30:M=1∨M=3∨M=6∨M=8→D≤30):D≤fA y (if M+3>12 then M+3-12 else M+3):=by
 by_cases e11:M=11
 ·subst e11
  have:=h11 rfl
  rw [FO T]
  simp only [fA]
  rw [FN T,FO T]
  split at this<;>(rename_i hl;simp [hl];omega)
 ·clear h11
  have hne:(if M+3>12 then M+3-12 else M+3)≠2:=by split<;>omega
  have hr:¬ ((if M+3>12 then M+3-12 else M+3)<1∨(if M+3>12 then M+3-12 else M+3)>12):=by split<;>omega
  have h4:((if M+3>12 then M+3-12 else M+3)=4∨(if M+3>12 then M+3-12 else M+3)=6∨(if M+3>12 then M+3-12 else M+3)=9∨(if M+3>12 then M+3-12 else M+3)=11)→(M=1∨M=3∨M=6∨M=8):=by split<;>omega
  generalize (if M+3>12 then M+3-12 else M+3)=q at *
  unfold fA
  by_cases hq:q=4∨q=6∨q=9∨q=11
  ·rw [FO hq];exact h30 (h4 hq)
  ·rw [FN hq,FN hne,FN hr];exact d2
theorem wq (N:Int) (h0:0≤N) (h1:N≤2932896):1970≤u2 N∧u2 N≤9999∧1≤xJ N∧xJ N≤fA (u2 N) (yb N)∧dn (u2 N) (yb N) (xJ N)=N:=by
 have ⟨a1,a2,y1,y2,m1,m2,d1,d2,hN,h11,h30⟩:=wi N h0 h1
 obtain ⟨A,Y,M,D,hp⟩:∃ A Y M D,az N=⟨A,Y,M,D⟩:=⟨_,_,_,_,rfl⟩
 have hy:u2 N=A * 400+Y+if M+3>12 then 1 else 0:=by simp only [u2,hp]
 have hm:yb N=if M+3>12 then M+3-12 else M+3:=by simp only [yb,hp]
 have hd:xJ N=D:=by simp only [xJ,hp]
 rw [hp] at a1 a2 y1 y2 m1 m2 d1 d2 hN h11 h30
 simp only at a1 a2 y1 y2 m1 m2 d1 d2 hN h11 h30
 rw [hy,hm,hd]
 have key:dn (A * 400+Y+if M+3>12 then 1 else 0) (if M+3>12 then M+3-12 else M+3) D=N:=by
  rw [← zX _ _ _ (by split<;>omega) (by split<;>omega)]
  have e4:(A * 400+Y) / 4=100 * A+Y / 4:=by clear h11 h30 hN;omega
  have e100:(A * 400+Y) / 100=4 * A+Y / 100:=by clear h11 h30 hN e4;omega
  have e400:(A * 400+Y) / 400=A:=by clear h11 h30 hN e4 e100;omega
  by_cases h:M+3>12
  ·simp only [FO h]
   rw [jP,jP,show A * 400+Y+1-1=A * 400+Y by omega,e4,e100,e400,show M+3-12-3+12=M by omega]
   clear h11 h30 e4 e100 e400
   omega
  ·simp only [FN h]
   rw [jK,jK,Int.add_zero,e4,e100,e400,show M+3-3=M by omega]
   clear h11 h30 e4 e100 e400
   omega
 have hday:D≤fA (A * 400+Y+if M+3>12 then 1 else 0) (if M+3>12 then M+3-12 else M+3):=by
  refine CA _ M D m1 m2 d2 (fun h=>?_) h30
  have:=h11 h
  subst h
  have e:(A * 400+Y+if (11:Int)+3>12 then 1 else 0)=A * 400+(Y+1):=by simp;omega
  rw [e,wG]
  simpa [eK] using this
 refine ⟨?_,?_,d1,hday,key⟩
 ·rcases Int.lt_or_le (A * 400+Y+if M+3>12 then 1 else 0) 1970 with h|h
  ·have e1:=jt d1 hday
   have e2:=xK (A * 400+Y+if M+3>12 then 1 else 0) _ e1.1 e1.2
   have e3:=xL (y:=A * 400+Y+if M+3>12 then 1 else 0) (a:=(if M+3>12 then M+3-12 else M+3)+1) (b:=13) O O O
   have e4:=CC (A * 400+Y+if M+3>12 then 1 else 0)
   have e5:=s6 (a:=(A * 400+Y+if M+3>12 then 1 else 0)+1) (b:=1970) O
   have e6:=Ad
   unfold dn at key
   omega
  exact h
 ·rcases Int.lt_or_le 9999 (A * 400+Y+if M+3>12 then 1 else 0) with h|h
  ·have e1:=jt d1 hday
   have e3:=CB (A * 400+Y+if M+3>12 then 1 else 0) _ e1.1 O
   have e5:=s6 (a:=10000) (b:=A * 400+Y+if M+3>12 then 1 else 0) O
   have e6:bf 10000=2932897:=by decide
   unfold dn at key
   omega
  exact h
def ln (t:Int):Prop:=0≤t∧t≤253402300799
instance (t:Int):Decidable (ln t):=by unfold ln;infer_instance
def D6.zero:D6:=⟨0,0,0,0,0,0⟩
def rk (t:Int):D6:=⟨u2 (t / 86400),yb (t / 86400),xJ (t / 86400),t % 86400 / 3600,t % 86400 % 3600 / 60,t % 86400 % 60⟩
def eZ (t:Int):D6:=if ln t then rk t else D6.zero
def sv (t:Int):Nat:=if ln t then 0 else 1
theorem np {t:Int} (h:ln t):eY (rk t)∧Bt (rk t)=t:=by
 have ⟨h0,h1⟩:=h
 obtain ⟨p1,p2,p3,p4,p5⟩:=wq (t / 86400) O O
 refine ⟨⟨p1,p2,p3,p4,?_⟩,?_⟩
 ·simp only [rk];omega
 ·show ((dn (u2 (t / 86400)) (yb (t / 86400)) (xJ (t / 86400)) * 24+t % 86400 / 3600) * 60+t % 86400 % 3600 / 60) * 60+t % 86400 % 60=t
  rw [p5];omega
end Go.Proofs.YtnijncmifjnifaaGreatDoor.Cal
namespace Go.Proofs.YtnijncmifjnifaaGreatDoor
namespace Am
open Go.RowKit
section
variable {gs:List Nat} [du gs]
open Go.RowKit Cal
def dF (x:D6) (i:Nat):CV:=match i with|0=>.c (.int .i64 x.y)|1=>.c (.int .i64 x.m)|2=>.c (.int .i64 x.d)|3=>.c (.int .i64 x.h)|4=>.c (.int .i64 x.mi)|_=>.c (.int .i64 x.s)
def D3 (x:D6):CV:=.agg 6 (dF x)
theorem DO {g:List Nat} (t:Int):c4 g prog 180 [.c (.int .i64 t)] (.c (.bool (decide (ln t)))):=by
 refine ag 9 func180 fun _ _ _ _=>?_;refine U 1216516 ?_;refine aS 5 (fun g27=>?_) fun g27=>?_
 ·refine U 800070005110000000021 ?_;refine cB ?_
  (simp [ln, *];done)
 refine U 800070005150044 ?_;refine cB ?_
 (simp [ln, *];done)
theorem BZ (t:Int):c4 gs prog 162 [.c (.int .i64 t)] (.tup 2 (fl [D3 (eZ t),.err (sv t)])):=by
 refine ag 84 func162 fun _ _ _ _=>?_;refine dU ?_
 refine ay (ce (n:=6) pg rfl fun p1=>?_)
 refine U 16751 ?_
 refine ay (aD (DO _) ?_)
 refine U 530 ?_;refine aX (fun h56=>?_) fun h56=>?_
 ·refine oU ?_;refine ko (.rd 0 (.rd 1 (.one 2 (.rd 3 .done)))) ?_;refine cD (aC (n:=6) rfl pg AE rfl rfl) ?_;refine cD (iv 0) ?_
  refine fT (dC 6 ?_)
  refine U 8700000400000 ?_
  refine jR (hZ (d4 (hres:=be rfl (de 6) bn) (hv:=?_)))
  unfold eZ sv
  rw [FN h56,FN h56]
  exact cT (J.agg6 cZ cZ cZ cZ cZ cZ) cZ
 refine U 810 ?_
 have hr:=Decidable.not_not.1 h56
 have ⟨r1,r2⟩:=id hr
 refine U 51960000016 ?_
 obtain ⟨n,hn⟩:∃ n,n=t / 86400+719468:=⟨_,rfl⟩
 have n0:719468≤n∧n≤3652364:=by omega
 refine jE (ck 4 (.c (.int .i64 n)) (cI hn.symm)) ?_;refine U 511000000165160000016 ?_
 obtain ⟨r,hrr⟩:∃ r,r=n % 146097:=⟨_,rfl⟩
 have r0:0≤r∧r<146097:=by omega
 refine jE (ck 4 (.c (.int .i64 r)) (cI hrr.symm)) ?_;refine U 5160000096000001960000019600000116 ?_
 obtain ⟨y,hy⟩:∃ y,y=yr r:=⟨_,rfl⟩
 have y0:0≤y∧y≤399:=by rw [hy];exact ⟨(lb r r0.1 r0.2).1,(lb r r0.1 r0.2).2.1⟩
 refine jE (ck 6 (.c (.int .i64 y)) (cI (by rw [hy];rfl))) ?_;refine U 51996000001960000019116 ?_
 obtain ⟨n2,hn2⟩:∃ n2,n2=r-(365 * y+y / 4-y / 100):=⟨_,rfl⟩
 have q0:0≤n2∧n2≤365:=by rw [hn2,hy];exact Dy r r0.1 r0.2
 refine jE (ck 4 (.c (.int .i64 n2)) (cI hn2.symm)) ?_;refine U 516000009916 ?_
 obtain ⟨m,hm⟩:∃ m,m=(5 * n2+2) / 153:=⟨_,rfl⟩
 have m0:0≤m∧m≤11:=by omega
 refine jE (ck 7 (.c (.int .i64 m)) (cI hm.symm)) ?_;refine U 9960000099119191916 ?_;refine jq (aC (n:=6) rfl pg AE rfl rfl) ?_
 refine ay (ce (n:=6) pg rfl fun p2=>?_)
 refine aL (dC 6 ?_)
 refine U 5250100675 ?_;refine aaa (fun h67=>?_) fun h67=>?_
 ·refine U 810 ?_
  have hp:az (t / 86400)=⟨n / 146097,y,m,n2-(153 * m+2) / 5+1⟩:=by
   simp only [az,← hn,← hrr,← hy,← hn2,← hm]
  have ho:eZ t=rk t:=FO hr
  have he:sv t=0:=FO hr
  refine U 500000010000001600000100000016000001651100000016 ?_
  refine aL (dC 1 ?_)
  refine U 7000000 ?_
  refine aL (dC 1 ?_)
  refine U 6000000 ?_
  refine aL (dC 1 ?_)
  refine U 65 ?_;refine gj (aI 6) ?_
  refine aL (dC 6 ?_)
  refine U 51 ?_
  refine jR (d4 (hres:=be rfl (de 6) bn) (hv:=?_))
  rw [ho,he]
  refine cT (J.agg6 (cI ?_) (cI ?_) (cI ?_) (cI ?_) (cI ?_) (cI ?_)) J.nil
  ·show _=u2 (t / 86400)
   simp only [u2,hp]
   rw [FN h67,Int.add_zero]
  ·show _=yb (t / 86400)
   simp only [yb,hp]
   rw [FN h67]
  ·show _=xJ (t / 86400)
   simp only [xJ,hp]
  rfl
  rfl
  ·show _=t % 86400 % 60
   rfl
 refine U 1009501006 ?_
 refine aL (dC 1 ?_)
 refine U 90950902005 ?_
 refine aL (dC 1 ?_)
 refine U 85 ?_
 have hp:az (t / 86400)=⟨n / 146097,y,m,n2-(153 * m+2) / 5+1⟩:=by
  simp only [az,← hn,← hrr,← hy,← hn2,← hm]
 have ho:eZ t=rk t:=FO hr
 have he:sv t=0:=FO hr
 refine U 500000010000001600000100000016000001651100000016 ?_
 refine aL (dC 1 ?_)
 refine U 7000000 ?_
 refine aL (dC 1 ?_)
 refine U 6000000 ?_
 refine aL (dC 1 ?_)
 refine U 65 ?_;refine gj (aI 6) ?_
 refine aL (dC 6 ?_)
 refine U 51 ?_
 refine jR (d4 (hres:=be rfl (de 6) bn) (hv:=?_))
 rw [ho,he]
 refine cT (J.agg6 (cI ?_) (cI ?_) (cI ?_) (cI ?_) (cI ?_) (cI ?_)) J.nil
 ·show _=u2 (t / 86400)
  simp only [u2,hp]
  rw [FO h67]
 ·show _=yb (t / 86400)
  simp only [yb,hp]
  rw [FO h67]
 ·show _=xJ (t / 86400)
  simp only [xJ,hp]
 rfl
 rfl
 ·show _=t % 86400 % 60
  rfl
def qo (n p:Int):UInt8:=UInt8.ofNat (48+n / p % 10).toNat
def dS (n:Int) (ps:List Int):V:=ps.map (qo n)
theorem qn {n p:Int} (h0:0≤n / p):((qo n p).toNat:Int)=48+n / p % 10:=by
 unfold qo
 rw [GG]
 omega
theorem nK {n:Int} {ps:List Int} {l:V} {i:Nat} (h:i<ps.length):l++dS n (ps.take (i+1))=l++dS n (ps.take i)++[qo n (ps.getD i 0)]:=by
 have e:ps.take (i+1)=ps.take i++[ps.getD i 0]:=by
  rw [FV h]
  simp [List.getD,h]
 rw [e,dS,HD,← GC]
 rfl
theorem ma {gs:List Nat} (g:Option Nat) (l:V) (n:Int) (ps:List Int) (h0:0≤n) (h9:n≤9223372036854775807) (hp:∀ p ∈ ps,1≤p) (hl:l.length+ps.length≤140737488355328) :
  AC gs prog 163 [(g,.blk l.length (bX l))] [.os 0 g 0 l.length 1,.c (.int .i64 n),CS ps] (mV (l++dS n ps).length 1 (l++dS n ps).length (bX (l++dS n ps))):=by
 refine ag 26 func163 fun _ _ _ _=>?_;refine U 20513167516 ?_;refine aG (α:=Nat×Option Nat) [0,8,11,12,13,14,15,16,17,18,19,20,21,22,23,24] (fun (i,g)=>[(0,.os 0 g 0 (l++dS n (ps.take i)).length 1),(11,.c (.int .i64 (i:Nat)))]) (fun (i,g)=>[(g,.blk (l++dS n (ps.take i)).length (bX (l++dS n (ps.take i))))]) (fun i=>i.1≤ps.length) (fun i=>ps.length-i.1) ((0,g)) ?_ (fun _=>rfl) ?_ ?_ ?_
 ·simp
 ·simp only [Ig,dS,Ho,G3]
  (repeat (first|exact cA.nil|refine cA.cons cZ ?_))
 ·show ar [(g,av.blk l.length (bX l))] [(g,.blk (l++dS n (ps.take 0)).length (bX (l++dS n (ps.take 0))))]
  simp only [Ig,dS,Ho,G3]
  exact .same .nil
 ·rintro ⟨i,g'⟩ (hi:i≤ps.length)
  refine U 7526 ?_;refine aaa (fun h91=>?_) fun h91=>?_
  ·refine U 7000511684000200020006000 ?_
   have e:ps.take i=ps:=Gl O
   exact mf 0 (.inl rfl) (fo rfl (cR rfl)) rfl (by rw [e]) (by rw [e];exact FQ _) (fun _=>by rw [e]) (fun _ _=>by rw [e];exact cZ)
  refine U 51607006207810 ?_
  have hlt:i<ps.length:=by omega
  have hpi:1≤ps.getD i 0:=by
   rw [FJ,FW hlt]
   exact hp _ (Gv hlt)
  have hq0:0≤n / ps.getD i 0:=Int.ediv_nonneg h0 O
  have hq1:n / ps.getD i 0≤n:=Int.ediv_le_self _ h0
  have hle:(dS n (ps.take i)).length=i:=by simp [dS];omega
  refine U 80000091000000600000111200 ?_
  refine ay (bD 1 1 kV fun p1=>?_)
  refine aL (bV (l2:=[qo n (ps.getD i 0)]) rfl rfl rfl (FQ _) (fun _ _=>cZ) (bp rfl (.inl rfl) T) rfl (er (.cons (cI ((by rw [qn hq0]))) .nil)) underlying58 mL tE kV u3 rfl (by (simp;omega)) (hJ rfl rfl) rfl rfl (fun p2=>?_))
  refine U 8519200840051 ?_
  refine aH ((i+1,p2)) ?_ ?_ (h5:=?_) (h7:=?_)
  exact hlt
  omega
  ·simp only [nK hlt]
   (repeat (first|exact cA.nil|refine cA.cons cZ ?_))
  ·simp only [nK hlt]
   exact .same .nil
def bh (x:D6):V:=dS x.y [1000,100,10,1]++dS x.m [10,1]++dS x.d [10,1]++dS x.h [10,1]++dS x.mi [10,1]++dS x.s [10,1]++[90]
def gf (x:D6):List Int:=[x.m,x.d,x.h,x.mi,x.s]
def eJ (x:D6) (i:Nat):V:=dS x.y [1000,100,10,1]++((gf x).take i).flatMap fun n=>dS n [10,1]
theorem ni {x:D6} {i:Nat} (h:i<(gf x).length):eJ x (i+1)=eJ x i++dS ((gf x).getD i 0) [10,1]:=by
 have e:(gf x).take (i+1)=(gf x).take i++[(gf x).getD i 0]:=by
  rw [FV h]
  simp [List.getD,h]
 unfold eJ
 rw [e,List.flatMap_append,← GC]
 simp
theorem nj (x:D6) {i:Nat} (h:i≤5):(eJ x i).length=4+2 * i:=by
 rcases i with _|_|_|_|_|_|i<;>simp [eJ,gf,dS]<;>omega
theorem um {t:Int} (h:ln t):eY (eZ t):=by
 rw [eZ,FO h];exact (np h).1
theorem sr {x:D6} (h:eY x) {i:Nat} (hi:i<(gf x).length):0≤(gf x).getD i 0∧(gf x).getD i 0≤99:=by
 have ⟨q1,q2,q3,q4,q5,q6,q7,q8,q9,q10⟩:=id h
 have:=sW x.y x.m
 have qm:=jt q3 q4
 rcases i with _|_|_|_|_|i
 show 0≤x.m∧x.m≤99;omega
 show 0≤x.d∧x.d≤99;omega
 show 0≤x.h∧x.h≤99;omega
 show 0≤x.mi∧x.mi≤99;omega
 show 0≤x.s∧x.s≤99;omega
 ·simp [gf] at hi;omega
theorem pF (x:D6):eJ x 5++[90]=bh x:=by simp [eJ,gf,bh]
theorem BU (t:Int):c4 gs prog 135 [.c (.int .i64 t)] (.tup 2 (fl [dL (if ln t then bh (eZ t) else []),.err (sv t)])):=by
 refine ag 45 func135 fun _ _ _ _=>?_;refine U 165116 ?_
 refine ay (aD (BZ t) ?_)
 refine U 9009001 ?_
 refine ay (ce (n:=6) pg rfl fun p1=>?_)
 refine aL (dC 6 ?_)
 refine U 550000016751 ?_;refine aX (fun h100=>?_) fun h100=>?_
 ·refine U 80003000700051116 ?_
  have hn:¬ ln t:=fun h=>h100 (FO h)
  rw [FN hn]
  exact cT cN cZ
 refine U 810 ?_
 have hp0:[]++dS (eZ t).y [1000,100,10,1]=eJ (eZ t) 0:=by simp [eJ]
 have q0:ln t:=by unfold sv at h100;by_cases h:ln t<;>simp_all
 have hr:eY (eZ t):=um q0
 have ⟨y1,y2,_⟩:=id hr
 have q1:0≤(eZ t).y:=by omega
 have q2:(eZ t).y≤9999:=by omega
 refine U 50906 ?_
 refine ay (bD 4 1 A8 fun p2=>?_)
 refine bY (freeze 1 rfl) ?_;refine bY (jp (bX [])) ?_
 refine aL (DJ 2 (ma none [] (eZ t).y [1000,100,10,1] q1 O T T) (fun p3=>?_) (ho:=rfl) (he:=(.cons (gX rfl) (.cons (se rfl cZ) (.cons (sd [1000,100,10,1] rfl rfl rfl T (fun a ha=>by rw [Nat.zero_add];exact lp [1000,100,10,1] a ha)) .nil)))))
 refine U 506000000507000000505000000501000501006751 ?_
 refine ay (bD 5 1 A8 fun p4=>?_)
 refine U 3 ?_;refine bY (sS (.same (.same (.same (.blk rfl (fun j hj=>lp (gf (eZ t)) j hj) .nil))))) ?_;refine U 2051 ?_;refine aG (α:=Nat×Option Nat) [6,8,33,34,35,36,37,38,39,40,41] (fun (i,g)=>[(6,.os 2 g 0 (eJ (eZ t) i).length 1),(33,.c (.int .i64 (i:Nat)))]) (fun (i,g)=>[(p1,.blk 6 (dF (eZ t))),(p2,.dead),(g,.blk (eJ (eZ t) i).length (bX (eJ (eZ t) i))),(p4,.blk 5 (rA (gf (eZ t))))]) (fun i=>i.1≤5) (fun i=>5-i.1) ((0,p3)) ?_ (fun _=>rfl) ?_ ?_ ?_
 ·simp
 exact .cons (cO (F7 List.length hp0)) (.cons cZ .nil)
 ·refine .blk rfl (fun j hj=>by rcases j with _|_|_|_|_|_|j<;>first|exact cZ|omega) (.frzDead (.blk (F7 List.length hp0) (fun j hj=>J.of_eq (F7 (bX · j) hp0)) (.same .nil)))
 ·rintro ⟨i,g'⟩ (hi:i≤5)
  refine U 7526 ?_;refine aaa (fun h104=>?_) fun h104=>?_
  ·refine U 84000200020006000 ?_
   have hlen:=nj (eZ t) hi
   have hi5:i=5:=by omega
   have he:sv t=0:=FO q0
   refine U 16 ?_
   refine ay (bD 1 1 kV fun p5=>?_)
   refine aL (bV (l2:=[90]) rfl rfl rfl (FQ _) (fun _ _=>cZ) (bp rfl (.inl rfl) T) rfl (er (.cons (cI (rfl)) .nil)) underlying58 mL tE kV u3 rfl (by (simp;omega)) (hJ rfl rfl) rfl rfl (fun p6=>?_))
   refine bY (freeze 2 rfl) ?_;refine bY (jI 44 (fun a _=>bX (bh (eZ t)) a) rfl rfl O (fun a b ha hb=>J.of_eq (by rw [show 0+(a * 1+b)=a by omega,← pF,hi5]))) ?_;refine U 80007000511 ?_
   rw [FO q0,he]
   exact cT (J.rs (by rw [hi5,pF]) (fun _ _ _ _=>cZ)) J.nil
  refine U 51507006207810 ?_
  have hlt:i<(gf (eZ t)).length:=by simp [gf];omega
  refine jE (ck 8 (.c (.int .i64 ((gf (eZ t)).getD i 0))) cZ) ?_;refine U 11200 ?_
  refine ay (bD 2 1 A8 fun p5=>?_)
  refine bY (freeze 4 rfl) ?_
  refine aL (DJ 2 (ma g' (eJ (eZ t) i) ((gf (eZ t)).getD i 0) [10,1] (sr hr hlt).1 (by have:=(sr hr hlt).2;omega) T (by show (eJ (eZ t) i).length+2≤_;rw [nj _ hi];omega)) (fun p6=>?_) (ho:=rfl) (he:=(.cons (se rfl (cO rfl)) (.cons (se rfl cZ) (.cons (sd [10,1] rfl rfl rfl T (fun a ha=>by rw [Nat.zero_add];exact lp [10,1] a ha)) .nil)))))
  refine U 8519200840051 ?_
  refine aH ((i+1,p6)) ?_ ?_ (h5:=?_) (h7:=?_)
  omega
  omega
  ·simp only [ni hlt]
   (repeat (first|exact cA.nil|refine cA.cons cZ ?_))
  ·simp only [ni hlt]
   (repeat (first|exact ar.nil|refine ar.same ?_))
end
end Am
end Go.Proofs.YtnijncmifjnifaaGreatDoor
namespace Go.Proofs.YtnijncmifjnifaaGreatDoor
def sH (l:V):Bool×Nat :=
 if l.length=0 then (false,2) else if 1<l.length∨((l.getD 0 0).toNat≠255∧(l.getD 0 0).toNat≠0) then (false,4) else (decide ((l.getD 0 0).toNat=255),0)
def eU (l:V) (least most:Int):Int×Nat :=
 if (qg l).2≠0 then (0,(qg l).2) else if (qg l).1<least∨most<(qg l).1 then (0,1) else ((qg l).1,0)
end Go.Proofs.YtnijncmifjnifaaGreatDoor
namespace Go.Proofs.YtnijncmifjnifaaGreatDoor
open Go.RowKit
end Go.Proofs.YtnijncmifjnifaaGreatDoor
namespace Go.Proofs.YtnijncmifjnifaaGreatDoor
namespace Am
open Go.RowKit
section
variable {gs:List Nat} [du gs]
theorem qW {gs:List Nat} (h r:Int):c4 gs prog 133 [.c (.int .u8 h),.c (.int .i64 r)] (.c (.bool ((r == 0 && decide (h<128)) || (r == -1 && decide (128≤h))))):=by
 refine ag 19 func133 fun _ _ _ _=>?_;refine U 1216516 ?_;refine aS 7 (fun g28=>?_) fun g28=>?_
 rotate_left
 ·refine U 121150044 ?_;refine aS 14 (fun g28_2=>?_) fun g28_2=>?_
  ·refine U 800070005150010000000021 ?_
   (refine cB ?_;simp [*];done)
  refine U 800070005150050044 ?_
  (refine cB ?_;simp [*];done)
 refine U 110000000021 ?_;refine aS 11 (fun g28_2=>?_) fun g28_2=>?_
 ·refine U 8000700051100000000444444 ?_
  (refine cB ?_;simp [*];done)
 refine U 121 ?_;refine aS 14 (fun g28_3=>?_) fun g28_3=>?_
 ·refine U 800070005150010000000021 ?_
  omega
 refine U 800070005150050044 ?_
 (refine cB ?_;simp [*];done)
def B8 (n:Int):Nat:=((List.range 8).find? fun k=>qU k n).getD 7
def dW (n:Int):V:=(dD (B8 n+1) n).reverse
theorem oM {n:Int} (h1:-9223372036854775808≤n) (h2:n≤9223372036854775807):n5 n (B8 n):=by
 unfold B8
 have h7:=m4 n h1 h2
 cases e:(List.range 8).find? fun k=>qU k n with
 | none =>
  have:=List.find?_eq_none.1 e 7 (by simp)
  exact absurd h7 this
 | some k =>
  rw [List.find?_range_eq_some] at e
  have ⟨e1,e2,e3⟩:=e
  have:=GD.1 e2
  exact ⟨by show k≤7;omega,e1,fun j hj=>by have:=e3 j hj;simpa using this⟩
theorem yZ {n:Int} {k:Nat} (h1:-9223372036854775808≤n) (h2:n≤9223372036854775807) (h:n5 n k):(dD (k+1) n).reverse=dW n:=by
 unfold dW
 rw [h.unique (oM h1 h2)]
theorem vY {n:Int} (h1:-9223372036854775808≤n) (h2:n≤9223372036854775807):qg (dW n)=(n,0):=xc n _ (oM h1 h2)
theorem i9 (n:Int) (h1:-9223372036854775808≤n) (h2:n≤9223372036854775807):1≤(dW n).length∧(dW n).length≤8:=by
 have:=(oM h1 h2).1
 unfold dW
 rw [Ii,bj]
 omega
theorem Df (a:Int):a.fdiv (2 ^ (min (8:Int).toNat IntKind.i64.bits))=a / 256:=by
 show a.fdiv 256=a / 256
 rw [He a T]
theorem nT (a:Int):IntKind.u8.wrap a=((jx a).toNat:Nat):=by rw [IntKind.wrap_u8,dG]
theorem uM (k:Nat) (n:Int):(((dD (k+1) n).getD k 0).toNat:Int)=sh k n % 256:=by rw [qy _ _ _ O,dG]
theorem yp {gs:List Nat} (n:Int) (h1:-9223372036854775808≤n) (h2:n≤9223372036854775807):c4 gs prog 97 [.c (.int .i64 n)] (dL (dW n)):=by
 have h7:=m4 n h1 h2
 refine ag 29 func97 fun _ _ _ _=>?_;refine U 16516 ?_;refine jq (gz rfl rfl underlying3 underlying5 ((((jx n).toNat:Nat):Int)) (nT n)) ?_
 refine ay (bD 1 1 kV fun p1=>?_)
 refine U 16751 ?_;refine jq (oF rfl rfl rfl (by omega) (_) (rfl)) ?_;refine U 2051 ?_;refine aG (α:=Nat×Option Nat) [3,4,10,11,12,13,14,15,16,17,18,19,20,21,22,23,24,25] (fun (k,g)=>[(3,.os 0 g 0 (dD (k+1) n).length 1),(4,.c (.int .i64 (sh (k+1) n)))]) (fun (k,g)=>[(g,.blk (dD (k+1) n).length (bX (dD (k+1) n)))]) (fun (k,g)=>k≤7∧∀ j,j<k→qU j n=false) (fun (k,g)=>8-k) ((0,p1)) ?_ (fun _=>rfl) ?_ ?_ ?_
 exact ⟨F4 _,fun j hj=>absurd hj (F3 j)⟩
 exact .cons cZ (.cons (cI (Df n)) .nil)
 exact .blk rfl (fun j hj=>by obtain rfl:j=0:=(by rw [bj] at hj;omega);exact cZ) .nil
 ·rintro ⟨k,g⟩ ⟨(hk:k≤7),hno⟩
  have hdl:=uM k n
  have hdn:=bj (k+1) n
  refine U 931167 ?_;refine jq (iu (i:=k) (hz:=by omega)) ?_;refine U 150 ?_
  refine ay (aD (qW (((dD (k+1) n).getD k 0).toNat:Nat) (sh (k+1) n)) ?_)
  refine U 530 ?_;refine aaa (fun h19=>?_) fun h19=>?_
  ·refine U 84000200020006000 ?_
   have hst:qU k n=true:=by
    unfold qU
    have hh:=h19
    rw [hdl] at hh
    (simp at hh ⊢;omega)
   refine U 16 ?_
   refine aL (dc 0 (kH _ (dD (k+1) n) O) ?_)
   refine U 51165 ?_;refine jE (freeze 0 rfl) ?_;refine jE (po 2 ((dD (k+1) n).reverse) rfl rfl (by simp) rfl) ?_
   refine jR (d4 (hv:=J.bs (yZ h1 h2 ⟨hk,hst,hno⟩)))
  refine U 207810 ?_
  have hst:qU k n=false:=by
   unfold qU
   have hh:=h19
   rw [hdl] at hh
   (simp at hh ⊢;omega)
  refine U 11200 ?_;refine jq (gz rfl rfl underlying3 underlying5 ((((jx (sh (k+1) n)).toNat:Nat):Int)) (nT _)) ?_
  refine ay (bD 1 1 kV fun p2=>?_)
  refine aL (bV (l2:=[jx (sh (k+1) n)]) rfl rfl rfl (FQ _) (fun _ _=>cZ) (bp rfl (.inl rfl) T) rfl (er (.cons (cI (rfl)) .nil)) underlying58 mL tE kV u3 rfl (by (simp;omega)) (hJ rfl rfl) rfl rfl (fun p3=>?_))
  refine U 1200840051 ?_;refine jq (oF rfl rfl rfl (by omega) (_) (rfl)) ?_;refine U 851 ?_
  refine aH ((k+1,p3)) ?_ ?_ (h5:=?_) (h7:=?_)
  ·have hk7:k≠7:=fun e=>by
    rw [e] at hst;rw [hst] at h7;cases h7
   refine ⟨by omega,fun j hj=>?_⟩
   by_cases e:j=k
   ·rw [e];exact hst
   exact hno j O
  show 8-(k+1)<8-k;omega
  exact .cons (cO (by rw [← eh])) (.cons (cI (Df _)) .nil)
  exact .blk (by rw [← eh]) (fun j hj=>J.of_eq (by rw [← eh])) .nil
end
section
open Go.RowKit Cal
structure VV where
 kind:Int
 n:Int
 is:Bool
 b:V
 t:V
def VV.none:VV:=⟨0,0,false,[],[]⟩
structure W8 where
 fr:List (Int×FI)
 d:V
 k:Nat
def bg (e:Nat) (s:W8):W8:=if s.k=0 then ⟨s.fr,s.d,e⟩ else s
def aK (b:V) (s:W8):W8:=match s.fr with
 | []=>⟨[],s.d++b,s.k⟩
 | x::r=>⟨(x.1,x.2++[b])::r,s.d,s.k⟩
def co (tag:Int) (body:V) (e:Nat) (s:W8):W8 :=
 if (bg e s).k≠0 then bg e s else if iJ tag body≠0 then ⟨s.fr,s.d,iJ tag body⟩ else aK (cS tag body) s
def bq (tag:Int) (s:W8):W8:=if s.k≠0 then s else if cL tag=false then ⟨s.fr,s.d,5⟩ else if s.fr.length=16 then ⟨s.fr,s.d,6⟩ else ⟨(tag,[])::s.fr,s.d,s.k⟩
def d5 (x:Int×FI):V:=if x.1=49 then (cJ x.2).flatten else x.2.flatten
def bB (s:W8):W8:=if s.k≠0 then s else match s.fr with
 | []=>⟨[],s.d,24⟩
 | x::r=>co x.1 (d5 x) 0 ⟨r,s.d,s.k⟩
def vW (b:V) (s:W8):W8:=if (bg (iS b).2 s).k=0 then aK b s else bg (iS b).2 s
def eM (s:W8):Nat:=if s.k≠0 then s.k else if s.fr≠[] then 24 else if 65536<s.d.length then 3 else 0
def nN (s:W8):V:=if eM s=0 then s.d else []
def s0 (n:Int):V:=if n<0∨32767<n then [] else oX n.toNat
def A5 (n:Int):Nat:=if n<0∨32767<n then 1 else 0
def ah (v:VV):Int×V×Nat :=
 if v.kind=3 then (2,dW v.n,0) else
 if v.kind=4 then (10,dW v.n,0) else
 if v.kind=5 then (1,[if v.is then 255 else 0],0) else
 if v.kind=6 then (4,v.b,0) else
 if v.kind=7 then (12,if ax v.t v.n=0 then v.t else [],ax v.t v.n) else
 if v.kind=8 then (6,mH v.t,(bI v.t).2) else
 if v.kind=9 then (24,if ln v.n then bh (eZ v.n) else [],sv v.n) else (3,s0 v.n,A5 v.n)
def ix (v:VV) (s:W8):W8 :=
 if v.kind=1 then bq v.n s else if v.kind=2 then bB s else if v.kind=11 then vW v.b s else co (ah v).1 (ah v).2.1 (ah v).2.2 s
structure R8 where
 tags:List Int
 rows:List (FI)
 e:Nat
def kY (m:Nat) (r:List (FI)):List (FI):=r++List.replicate (m-r.length) []
def sm (b:V) (s:R8):R8:=⟨s.tags,(kY (s.tags.length+1) s.rows).set s.tags.length ((kY (s.tags.length+1) s.rows).getD s.tags.length []++[b]),s.e⟩
def m8 (tag:Int) (b:V) (s:R8):R8:=if 65530<b.length then ⟨s.tags,s.rows,3⟩ else sm (cS tag b) s
def oC (n:Int) (s:R8):R8:=if cL n=false then ⟨s.tags,s.rows,5⟩ else if 16≤s.tags.length then ⟨s.tags,s.rows,6⟩ else ⟨s.tags++[n],(kY (s.tags.length+2) s.rows).set (s.tags.length+1) [],s.e⟩
def lg (s:R8):R8:=if s.tags.length=0 then ⟨s.tags,s.rows,24⟩ else
 m8 (s.tags.getD (s.tags.length-1) 0) (d5 (s.tags.getD (s.tags.length-1) 0,s.rows.getD s.tags.length [])) ⟨s.tags.take (s.tags.length-1),s.rows,s.e⟩
def gc (v:VV) (s:R8):R8 :=
 if s.e≠0 then s else if v.kind=1 then oC v.n s else if v.kind=2 then lg s else
 if v.kind=11 then (if (iS v.b).2≠0 then ⟨s.tags,s.rows,(iS v.b).2⟩ else sm v.b s) else
 if (ah v).2.2≠0 then ⟨s.tags,s.rows,(ah v).2.2⟩ else m8 (ah v).1 (ah v).2.1 s
structure fC (r:R8) (s:W8):Prop where
 tags:r.tags=(s.fr.map Prod.fst).reverse
 e:r.e=s.k
 row0:(r.rows.getD 0 []).flatten=s.d
 row:∀ j,j<s.fr.length→r.rows.getD (j+1) []=((s.fr.map Prod.snd).reverse).getD j []
 len:r.tags.length≠0→r.tags.length<r.rows.length
 known:∀ x ∈ s.fr,cL x.1=true
 lim:s.fr.length≤16
theorem tL:fC ⟨[],[],0⟩ ⟨[],[],0⟩:=⟨rfl,rfl,rfl,fun j h=>by simp at h,fun h=>by simp at h,fun _ h=>(by cases h),by decide⟩
theorem ja (m:Nat) (r:List (FI)):(kY m r).length=max m r.length:=by simp [kY];omega
theorem fO (m:Nat) (r:List (FI)) (j:Nat):(kY m r).getD j []=r.getD j []:=by
 simp only [kY,FJ,Hu]
 split
 rfl
 ·rename_i h
  rw [GL (l:=r) O,G7]
  split<;>rfl
theorem gW (l:List (FI)) (i j:Nat) (x:FI) (hi:i<l.length):(l.set i x).getD j []=if j=i then x else l.getD j []:=by
 simp only [FJ,List.getElem?_set]
 by_cases h:i=j
 ·subst h;simp [hi]
 ·rw [FN h,FN (Ne.symm h)]
theorem pz {r:R8} {s:W8} (h:fC r s) (b:V):fC (sm b r) (aK b s):=by
 have hl:r.tags.length=s.fr.length:=by rw [h.tags];simp
 have hp:r.tags.length<(kY (r.tags.length+1) r.rows).length:=by rw [ja];omega
 have ⟨fr,d,k⟩:=s
 cases fr with
 | nil =>
  refine ⟨h.tags,h.e,?_,fun j hj=>by simp [aK] at hj,fun h0=>?_,h.known,h.lim⟩
  ·have h0:r.tags.length=0:=hl
   show List.flatten (List.getD (List.set _ _ _) _ _)=_
   rw [gW _ _ _ _ hp,FO h0.symm,h0,fO,Ih,h.row0]
   simp [aK]
  exact absurd hl h0
 | cons x fr =>
  have hl':r.tags.length=fr.length+1:=hl
  refine ⟨?_,h.e,?_,fun j hj=>?_,fun _=>?_,fun y hy=>?_,h.lim⟩
  ·show r.tags=_
   rw [h.tags]
   simp [aK]
  ·show List.flatten (List.getD (List.set _ _ _) _ _)=_
   rw [gW _ _ _ _ hp,jK,fO,h.row0]
   rfl
  ·have hj:j<fr.length+1:=hj
   show List.getD (List.set _ _ _) _ _=_
   rw [gW _ _ _ _ hp]
   simp only [aK,Gf,GS]
   have hr:=h.row j hj
   simp only [Gf,GS] at hr
   by_cases e:j=fr.length
   ·rw [jP,fO,hl',← e,hr]
    simp [FJ,e]
   ·rw [jK,fO,hr]
    simp only [FJ]
    rw [FR (by simp;omega),FR (by simp;omega)]
  ·show r.tags.length<(List.set _ _ _).length
   rw [Gg]
   exact hp
  ·rcases Gb.1 hy with rfl|hy
   exact h.known x F2
   exact h.known y (F9 _ hy)
theorem ru {t:Int} (h:cL t=true):bW t=true:=by unfold bW;rw [h];rfl
theorem py {r:R8} {s:W8} (h:fC r s) (hk:s.k=0) {tag:Int} (ht:bW tag=true) (b:V):fC (m8 tag b r) (co tag b 0 s):=by
 have e0:bg 0 s=s:=by
  have ⟨fr,d,k⟩:=s
  obtain rfl:k=0:=hk
  rfl
 unfold co
 rw [e0,jK]
 unfold iJ m8
 rw [ht]
 simp only [Bool.true_eq_false,if_false]
 by_cases hb:65530<b.length
 ·rw [FO hb,FO hb,FO T]
  exact ⟨h.tags,rfl,h.row0,h.row,h.len,h.known,h.lim⟩
 ·rw [FN hb,FN hb,FN T]
  exact pz h _
theorem tM {r:R8} {s:W8} (h:fC r s) (hk:s.k=0) (n:Int):fC (oC n r) (bq n s):=by
 have hl:r.tags.length=s.fr.length:=by rw [h.tags];simp
 have hlim:=h.lim
 unfold oC bq
 rw [FN (show ¬ s.k≠0 by omega)]
 by_cases hm:cL n=false
 ·rw [FO hm,FO hm]
  exact ⟨h.tags,rfl,h.row0,h.row,h.len,h.known,h.lim⟩
 ·rw [FN hm,FN hm]
  by_cases h16:s.fr.length=16
  ·rw [jP,FO h16]
   exact ⟨h.tags,rfl,h.row0,h.row,h.len,h.known,h.lim⟩
  ·rw [jK,FN h16]
   have hp:r.tags.length+1<(kY (r.tags.length+2) r.rows).length:=by rw [ja];omega
   refine ⟨?_,h.e,?_,fun j hj=>?_,fun _=>?_,fun y hy=>?_,?_⟩
   ·show r.tags++[n]=_
    rw [h.tags]
    simp
   ·show List.flatten (List.getD (List.set _ _ _) _ _)=_
    rw [gW _ _ _ _ hp,jK,fO,h.row0]
   ·have hj:j<s.fr.length+1:=hj
    show List.getD (List.set _ _ _) _ _=_
    rw [gW _ _ _ _ hp]
    simp only [Gf,GS]
    by_cases e:j=s.fr.length
    ·rw [jP]
     simp [FJ,e]
    ·rw [jK,fO,h.row j O]
     simp only [FJ]
     rw [FR (by simp;omega)]
   ·show (r.tags++[n]).length<(List.set _ _ _).length
    rw [Gg,FX]
    exact hp
   ·rcases Gb.1 hy with rfl|hy
    ·simpa using hm
    exact h.known y hy
   ·show s.fr.length+1≤16
    omega
theorem qX {r:R8} {s:W8} (h:fC r s) (hk:s.k=0):fC (lg r) (bB s):=by
 have hl:r.tags.length=s.fr.length:=by rw [h.tags];simp
 unfold lg bB
 rw [FN (show ¬ s.k≠0 by omega)]
 have ⟨fr,d,k⟩:=s
 cases fr with
 | nil =>
  rw [FO (show r.tags.length=0 from hl)]
  exact ⟨h.tags,rfl,h.row0,h.row,h.len,h.known,h.lim⟩
 | cons x fr =>
  have hl:r.tags.length=fr.length+1:=hl
  rw [jK]
  have ht:r.tags=(fr.map Prod.fst).reverse++[x.1]:=by rw [h.tags];simp
  have e1:r.tags.getD (r.tags.length-1) 0=x.1:=by
   rw [hl,ht]
   simp [FJ]
  have e2:r.rows.getD r.tags.length []=x.2:=by
   rw [hl,h.row fr.length (by simp)]
   simp [FJ]
  rw [e1,e2]
  refine py (r:=⟨r.tags.take (r.tags.length-1),r.rows,r.e⟩) (s:=⟨fr,d,k⟩) ⟨?_,h.e,h.row0,fun j hj=>?_,fun h0=>?_,fun y hy=>h.known y (F9 _ hy),?_⟩ hk (ru (h.known x F2)) _
  ·show r.tags.take _=_
   rw [hl,ht]
   simp
  ·have hj:j<fr.length:=hj
   show r.rows.getD (j+1) []=_
   rw [h.row j (by simp;omega)]
   simp only [Gf,GS,FJ]
   rw [FR (by simp;omega)]
  ·show (r.tags.take _).length<r.rows.length
   have:=h.len O
   simp only [F6]
   omega
  ·have:=h.lim
   simp at this ⊢
   omega
theorem sf {r:R8} {s:W8} (h:fC r s) (v:VV):fC (gc v r) (ix v s):=by
 unfold gc ix
 have he:=h.e
 by_cases hk:s.k=0
 ·rw [FN (show ¬ r.e≠0 by omega)]
  split
  exact tM h hk _
  ·split
   exact qX h hk
   ·split
    ·unfold vW
     have e:(bg (iS v.b).2 s).k=(iS v.b).2:=by unfold bg;rw [FO hk]
     rw [e]
     by_cases h0:(iS v.b).2=0
     ·rw [jK,FO h0]
      exact pz h _
     ·rw [FO h0,FN h0]
      unfold bg
      rw [FO hk]
      exact ⟨h.tags,rfl,h.row0,h.row,h.len,h.known,h.lim⟩
    ·by_cases h0:(ah v).2.2=0
     ·rw [jK,h0]
      refine py h hk ?_ _
      unfold ah
      repeat' split
      all_goals (first|rfl|decide)
     ·rw [FO h0]
      have e:bg (ah v).2.2 s=⟨s.fr,s.d,(ah v).2.2⟩:=by unfold bg;rw [FO hk]
      unfold co
      rw [e,FO h0]
      exact ⟨h.tags,rfl,h.row0,h.row,h.len,h.known,h.lim⟩
 ·rw [FO (show r.e≠0 by omega)]
  have e1:∀ e,bg e s=s:=fun e=>by unfold bg;rw [FN hk]
  have e2:∀ t b e,co t b e s=s:=fun t b e=>by unfold co;rw [e1,FO hk]
  have e3:bq v.n s=s:=by unfold bq;rw [FO hk]
  have e4:bB s=s:=by unfold bB;rw [FO hk]
  have e5:vW v.b s=s:=by unfold vW;rw [e1,FN hk]
  rw [e2,e3,e4,e5,ite_self,ite_self,ite_self]
  exact h
end
theorem iO (x:Int) (w:World):Calls prog 197 #[.int .u8 x] w fun e w'=>e=.returned (.bool false)∧w'=w:=by
 go_enter func197,ntmps197
 go_wp2
 go_ret
 exact ⟨rfl,rfl⟩
theorem qB (a b:UInt8) (w:World):Calls prog 183 #[.int .u8 (a.toNat:Nat),.int .u8 (b.toNat:Nat)] w fun e w'=>e=.returned (.int .i64 (dl a b))∧w'=w:=by
 rcases HR a.toNat b.toNat with h|h|h
 ·have HF:Hid (dl a b=-1):=by unfold dl;rw [FO h];rfl
  have h1:decide (((a.toNat:Nat):Int)<(b.toNat:Nat))=true:=by simp;omega
  go_enter func183,ntmps183
  go_wp2_with (go_at_call 197;refine (iO _ _).mono ?_;rintro e w' ⟨rfl,rfl⟩)
  go_ret
  exact ⟨by rw [HF.out];rfl,rfl⟩
 ·have HF:Hid (dl a b=0):=by unfold dl;rw [jK,jK];rfl
  have h1:decide (((a.toNat:Nat):Int)<(b.toNat:Nat))=false:=by simp;omega
  have h2:decide (((b.toNat:Nat):Int)<(a.toNat:Nat))=false:=by simp;omega
  go_enter func183,ntmps183
  go_wp2_with (go_at_call 197;refine (iO _ _).mono ?_;rintro e w' ⟨rfl,rfl⟩)
  go_ret
  exact ⟨by rw [HF.out];rfl,rfl⟩
 ·have HF:Hid (dl a b=1):=by unfold dl;rw [jK,FO h];rfl
  have h1:decide (((a.toNat:Nat):Int)<(b.toNat:Nat))=false:=by simp;omega
  have h2:decide (((b.toNat:Nat):Int)<(a.toNat:Nat))=true:=by simp;omega
  go_enter func183,ntmps183
  go_wp2_with (go_at_call 197;refine (iO _ _).mono ?_;rintro e w' ⟨rfl,rfl⟩)
  go_ret
  exact ⟨by rw [HF.out];rfl,rfl⟩
theorem sY {w:World} {ao:Option Addr} {n cap:Nat} {l:V} (h:Bs w (.slice ao n cap) l) {k:Nat} (hk:k<l.length):∃ b o,ao=some ⟨b,o,none⟩∧w.cell? ⟨b,o+k,none⟩=some (.int .u8 (l.getD k 0).toNat):=by
 have ⟨b,o,cap',e,h1,h2,h3⟩:=h.cons O
 injection e with e1 e2 e3
 exact ⟨b,o,e1,h3 k hk⟩
theorem o4 {w:World} {v1 v2:Value} {l r:V} (h1:Bs w v1 l) (h2:Bs w v2 r):Calls prog 166 #[v1,v2] w fun e w'=>e=.returned (.int .i64 (cH l r))∧w'=w:=by
 obtain ⟨ao1,cap1,rfl,a1,a2,-,-⟩:=id h1
 obtain ⟨ao2,cap2,rfl,b1,b2,-,-⟩:=id h2
 have H1:=Lib.hid h1
 have H2:=Lib.hid h2
 clear h1 h2
 have L1:(l.length:Int)≤9223372036854775807:=by omega
 have A1:=Lib.hid a1;have A2:=Lib.hid a2;have B1:=Lib.hid b1;have B2:=Lib.hid b2
 clear a1 a2 b1 b2
 go_enter func166,ntmps166
 go_wp2
 go_loopw [11] (fun i wr=>∃ k:Nat,Hid (k≤l.length∧k≤r.length∧cH (l.drop k) (r.drop k)=cH l r)∧i=.int .i64 k∧wr=w) (fun i _=>l.length-(intOf i).toNat)
 case atStart=>exact ⟨0,⟨F4 _,F4 _,rfl⟩,rfl,rfl⟩
 case round =>
  obtain ⟨k,HK,rfl,rfl⟩:=hrel
  by_cases hk:k<l.length
  ·have q1:decide ((k:Int)<(l.length:Int))=true:=by simp;omega
   obtain ⟨p1,o1,rfl,c1⟩:=sY H1.out hk
   by_cases hr:k<r.length
   ·have q2:decide ((r.length:Int)≤(k:Int))=false:=by simp;omega
    obtain ⟨p2,o2,rfl,c2⟩:=sY H2.out hr
    have HS:=Lib.hid (uQ (l:=l) (r:=r) (i:=k) hk hr)
    have i1:(0:Int)≤(k:Int):=by omega
    have i2:(k:Int)<(l.length:Int):=by omega
    have i3:(k:Int)<(r.length:Int):=by omega
    generalize l.getD k 0=x at c1 HS
    generalize r.getD k 0=y at c2 HS
    by_cases hz:dl x y=0
    ·have HZ:=Lib.hid hz
     have q3:(dl x y != 0)=false:=by rw [hz];rfl
     clear hz
     go_wp2_with (go_at_call 183;refine (qB _ _ _).mono ?_;rintro e w' ⟨rfl,rfl⟩)
     case roundEnd=>exact ⟨⟨k+1,⟨by omega,by omega,by rw [← HK.out.2.2,HS.out,FN (fun e=>e HZ.out)]⟩,by simp,trivial⟩,by simp [intOf];omega⟩
    ·have HF:Hid (cH l r=dl x y):=by show _=_;rw [← HK.out.2.2,HS.out,FO hz]
     have q3:(dl x y != 0)=true:=by simp [hz]
     clear hz
     go_wp2_with (go_at_call 183;refine (qB _ _ _).mono ?_;rintro e w' ⟨rfl,rfl⟩)
     all_goals (go_ret;exact ⟨by rw [HF.out];rfl,rfl⟩)
   ·have HF:Hid (cH l r=1):=by
     show _=_
     rw [← HK.out.2.2,H4 (by omega:r.length≤k),Gi hk];rfl
    have q2:decide ((r.length:Int)≤(k:Int))=true:=by simp;omega
    have i1:(0:Int)≤(k:Int):=by omega
    have i2:(k:Int)<(l.length:Int):=by omega
    go_wp2
    all_goals (go_ret;exact ⟨by rw [HF.out];rfl,rfl⟩)
  ·have q1:decide ((k:Int)<(l.length:Int))=false:=by simp;omega
   have hkl:k=l.length:=by have:=HK.out.1;omega
   by_cases hr:l.length<r.length
   ·have HF:Hid (cH l r=-1):=by
     show _=_
     rw [← HK.out.2.2,hkl,Ht,Gi hr];rfl
    have q2:decide ((l.length:Int)<(r.length:Int))=true:=by simp;omega
    go_wp2
    all_goals (go_ret;exact ⟨by rw [HF.out];rfl,rfl⟩)
   ·have HF:Hid (cH l r=0):=by
     show _=_
     have e:r.length=l.length:=by have:=HK.out.2.1;omega
     rw [← HK.out.2.2,hkl,Ht,← e,Ht];rfl
    have q2:decide ((l.length:Int)<(r.length:Int))=false:=by simp;omega
    go_wp2
    all_goals (go_ret;exact ⟨by rw [HF.out];rfl,rfl⟩)
section
open Go.Sort (SWO PermIn SortedIn putCells putRow mapBlock ahead grow onCells)
def pc (ls:FI) (j:Nat):CV:=dL (ls.getD j [])
section
variable {α:Type} [Inhabited α] {enc:α→Value} {w:World} {g n:Nat} {d:Array α} {os:Array Obj}
theorem gt {b:Nat} (hb:b<w.heap.size) (hn:b≠g):(sortWorld enc w g 0 n d os).heap[b]?=w.heap[b]?:=by
 show ((w.heap.modify g (onCells (putCells enc 0 d)))++os)[b]?=_
 rw [Gp (by simpa using hb),GM,FN (fun e=>hn e.symm)]
theorem vm {cur:Array Value} {t:TypeId} {z:Nat×Nat} (h:w.heap[g]?=some (.cells cur t z)):(sortWorld enc w g 0 n d os).heap[g]?=some (.cells (putCells enc 0 d cur) t z):=by
 have hb:g<w.heap.size:=(FY.1 h).1
 show ((w.heap.modify g (onCells (putCells enc 0 d)))++os)[g]?=_
 rw [Gp (by simpa using hb),GM,FO rfl,h]
 rfl
theorem qV:w.heap.size≤(sortWorld enc w g 0 n d os).heap.size:=by
 show _≤((w.heap.modify g (onCells (putCells enc 0 d)))++os).size
 rw [Array.size_append,Array.size_modify]
 omega
end
theorem yG {cs:Array Value} {m:Nat} {enc:Fin (m+1)→Value} {d:Array (Fin (m+1))} {i:Nat} (hi:i<d.size) (hc:d.size≤cs.size):(putCells enc 0 d cs).getD i undef=enc d[i]! := by
 have h2:i<(putCells enc 0 d cs).size:=by simp [putCells];omega
 rw [GI,FP h2]
 simp [putCells,hi]
theorem vn {P:Program} {fs fc:FuncId}
  (hnone:∀ (p:Option Addr) (cap:Nat) (fv:Value) (w:World),Calls P fs #[.slice p 0 cap,fv] w fun e w'=>e=.returned (.tuple #[])∧w'=w)
  (hsort:∀ (m:Nat) (enc:Fin (m+1)→Value) (h1:OneCell enc) (cf:Fin (m+1)→Fin (m+1)→Int) (hO:SWO (ltOf cf)) (blk cap:Nat) (d:Array (Fin (m+1))) (w:World),CmpLays1 P fc #[] enc cf blk 0 d.size w→Go.Sort.Holds enc w blk 0 d→blk<w.heap.size→d.size<4611686018427387904 →
   Calls P fs #[.slice (some ⟨blk,0,none⟩) d.size cap,.func (.func fc) #[] #[]] w fun e w'=>e=.returned (.tuple #[])∧∃ d' n os,PermIn 0 d.size d d'∧SortedIn (ltOf cf) 0 d.size d'∧w'=sortWorld enc w blk 0 n d' os)
  (hcmp:∀ (w:World) (v1 v2:Value) (l r:V),Bs w v1 l→Bs w v2 r→Calls P fc #[v1,v2] w fun e w'=>e=.returned (.int .i64 (cH l r))∧w'=w)
  (g:Option Nat) (ls:FI) (hl:ls.length≤1000000000):AC gs P fs [(g,.blk ls.length (pc ls))] [.os 0 g 0 ls.length 1,.c (.func (.func fc) #[] #[])] (fun r H'=>r=.c (.tuple #[])∧H'=[(g,.blk ls.length (pc (cJ ls)))]):=by
 intro al w St F0 vals he hs hv
 have ⟨fp,hp⟩:=he.hp
 have v0:=hv 0
 have v1:vals.getD 1 undef=.func (.func fc) #[] #[]:=hv 1
 have hnil:ls.length=0→cJ ls=ls:=fun h=>by
  have:ls=[]:=Gq h
  subst this;simp [cJ]
 have same:ls.length=0→a6 al St w w.heap.size F0 [(g,.blk ls.length (pc (cJ ls)))]:=fun h=>⟨fp,by rw [hnil h];exact hp⟩
 rw [rZ hs,v1]
 by_cases hz:ls.length=0
 ·have I:∃ p cap,vals.getD 0 undef=.slice p 0 cap:=by
   cases g with
   | none=>exact ⟨none,0,v0.2⟩
   | some b=>have ⟨cap,h1,_⟩:=v0;exact ⟨_,cap,by rw [h1,hz]⟩
  have ⟨p,cap,I⟩:=I
  rw [I]
  refine (hnone p cap _ w).mono ?_
  rintro e w' ⟨rfl,rfl⟩
  exact ⟨_,_,_,St,rfl,⟨rfl,rfl⟩,rfl,d6.refl _ _,fun _ h=>h,fun _ h=>.inl h,he.s3,same hz⟩
 ·cases g with
  | none=>exact absurd v0.1 hz
  | some b =>
   have ⟨cap,h1,h2,h3,cur0,t0,z0,h4,h5⟩:=v0
   obtain ⟨hF,cur,t,k1,k2,k3⟩:=hp.rep 0 (some b) _ rfl
   have hF0:F0 b:=by
    rcases (hp.own 0 b ((hF b).2 rfl)).2.2 with h|h
    ·have:=(hp.own 0 b ((hF b).2 rfl)).1;omega
    exact h
   have hSt:∀ x,St x→x≠b:=fun x I e=>(hp.own 0 b ((hF b).2 rfl)).2.1 (e ▸ I)
   have hb:b<w.heap.size:=(FY.1 k1).1
   obtain ⟨m,hm⟩:∃ m,ls.length=m+1:=⟨ls.length-1,by omega⟩
   let enc:Fin (m+1)→Value:=fun i=>cur.getD i.val undef
   let d:Array (Fin (m+1)):=Array.ofFn id
   have hd:d.size=ls.length:=by simp [d,hm]
   have hrep:∀ i:Fin (m+1),ai al St w (dL (ls.getD i.val [])) (enc i):=fun i=>k3 i.val O
   have hbs:∀ (w':World),cE St w w'→∀ i:Fin (m+1),Bs w' (enc i) (ls.getD i.val []):=fun w' hk i=>nU (gy (hrep i) hk)
   have hone:OneCell enc:=fun i=>by
    obtain ⟨ao,cap,e,_⟩:=hbs w (cE.refl _ _) i
    rw [e];rfl
   have hkeep:∀ (n:Nat) (d':Array (Fin (m+1))) (os:Array Obj),cE St w (sortWorld enc w b 0 n d' os):=fun n d' os x I=>gt (he.s3 x I) (hSt x I)
   have hO:=xN (fun i:Fin (m+1)=>ls.getD i.val [])
   have hH:Go.Sort.Holds enc w b 0 d:=fun j hj=>by
    have hj2:j<cur.size:=by omega
    have e1:d[j]! = ⟨j,by omega⟩:=by simp [d,show j<m+1 by omega]
    refine ⟨?_,?_⟩
    ·simp only [World.cell?,k1,Nat.zero_add]
     rw [FN (by simp),e1]
     simp [enc,hj2]
    ·simp [World.frozen?,k1]
   have key:=hsort m enc hone (fun x y=>cH (ls.getD x.val []) (ls.getD y.val [])) hO b cap d w (fun n os dk hdk x y=>(hcmp _ _ _ _ _ (hbs _ (hkeep n dk os) x) (hbs _ (hkeep n dk os) y)).mono (by rintro e w' ⟨rfl,rfl⟩;exact ⟨rfl,0,#[],by simp [World.drewN]⟩)) hH hb O
   rw [h1,← hd]
   refine key.mono ?_
   rintro e w' ⟨rfl,d',n,os,hP,hS,rfl⟩
   have hd':d'.size=ls.length:=hP.1.trans hd
   have hms:(d'.toList.map fun i=>ls.getD i.val [])=cJ ls:=by
    refine pt ?_ ?_
    ·have h6:=hP.2.2
     have e1:(d'.extract 0 d.size).toList=d'.toList:=by rw [← hP.1];simp
     have e2:(d.extract 0 d.size).toList=d.toList:=by simp
     rw [e1,e2] at h6
     refine (h6.map _).trans ?_
     have e3:d.toList.map (fun i:Fin (m+1)=>ls.getD i.val [])=ls:=by
      apply Hf
      ·simp [d,hm]
      ·intro i h7 h8
       rw [List.getElem_map,Hz]
       have e4:d[i]'(by rw [hd];exact h8)=⟨i,by omega⟩:=by simp only [d,Array.getElem_ofFn];rfl
       rw [e4];simp only [List.getD,FW h8,G5]
     rw [e3]
    ·rw [List.pairwise_map,Hg]
     intro i j hi hj hij
     have h7:=hS i j (F4 _) hij (by rw [← hP.1];simpa using hj)
     have hi2:i<d'.size:=by simpa using hi
     have hj2:j<d'.size:=by simpa using hj
     rw [getElem!_pos d' i hi2,getElem!_pos d' j hj2] at h7
     unfold ltOf at h7
     simp only [Hl,HJ] at h7
     have h8:=cr (ls.getD (d'[j]).val []) (ls.getD (d'[i]).val [])
     unfold oO
     rw [FT]
     simp only [Hz]
     omega
   have hw:=vm (enc:=enc) (n:=n) (d:=d') (os:=os) k1
   have hsz:=qV (enc:=enc) (w:=w) (g:=b) (n:=n) (d:=d') (os:=os)
   have hput:(putCells enc 0 d' cur).size=cur.size:=by simp [putCells]
   refine ⟨_,_,_,St,rfl,⟨rfl,rfl⟩,rfl,⟨rfl,rfl,rfl,hsz,fun x I hn=>gt I (fun e=>hn (e ▸ hF0)),fun x cx tx zx I=>?_⟩,fun _ h=>h,fun _ h=>.inl h,fun x I=>Ge (he.s3 x I) hsz,fp,fun i g' r hi=>?_,hp.dis,fun i x I=>?_,hp.out⟩
   ·by_cases e:x=b
    ·subst e
     rw [k1] at I
     cases I
     exact ⟨_,_,hw,hput⟩
    exact ⟨cx,zx,(gt (FY.1 I).1 e).trans I,rfl⟩
   ·cases i with
    | zero =>
     cases hi
     refine ⟨hF,_,t,hw,by rw [hput];omega,fun i hi=>?_⟩
     have hi':i<d'.size:=by omega
     rw [yG hi' O]
     have e:pc (cJ ls) i=dL (ls.getD (d'[i]!).val []):=by
      unfold pc
      rw [← hms]
      simp [List.getD,hi']
     rw [e]
     exact gy (hrep _) (hkeep n d' os)
    | succ i=>simp at hi
   exact ⟨Ge (hp.own i x I).1 hsz,(hp.own i x I).2⟩
end
theorem i5:CO 1 pc:=fun l l2 j hj=>by
 simp only [pc,FJ]
 split
 ·rw [FR O]
 ·rw [FZ O,Hv]
theorem zj {ls:FI}:∀ a b,a<ls.length→b<1→J (pc ls (0+(a * 1+b))) (dL (ls.getD a [])):=fun a b ha hb=>J.of_eq (by rw [show 0+(a * 1+b)=a by omega];rfl)
theorem uT (l:FI) (hl:l.length≤1000000):AC gs prog 164 [] [CQ l] (mV l.length 1 l.length (pc l)):=by
 refine ag 8 func164 fun _ _ _ _=>?_;refine U 167516 ?_;refine jL (aA rfl) rfl rfl rfl underlying96 rfl rfl (fun h357=>?_) ?_
 ·refine U 51690005 ?_;refine jE (lh 2 1 (pc l) rfl) ?_;refine U 30007000 ?_
  exact mf 0 (.inl rfl) (fo rfl (cR rfl)) rfl O O (fun _=>by omega) (fun j hj=>by omega)
 ·refine U 68103005 ?_
  refine ay (bD 0 1 lw fun p1=>?_)
  refine U 1 ?_
  refine aL (au (l:=[]) ( i5) rfl rfl rfl rfl (GP (GO _)) (fun j hj=>absurd hj (by simp)) (eT rfl) rfl (fun j hj=>by (simp only [Ie];exact cZ)) underlying96 wv vh lw xQ rfl (by (simp;omega)) (by (simp;omega)) (fun j hj=>rfl) rfl rfl rfl (fun p2=>?_))
  refine U 700051 ?_
  exact mf 0 (.inl rfl) (fo rfl (cR rfl)) rfl (by simp) (by simp) (fun _=>by simp) (fun j hj=>cZ)
abbrev th:=(Int×FI)×Option Nat
def kr:th:=((0,[]),none)
def jz (x:th):Nat→CV:=fl [.c (.int .i64 x.1.1),.os 0 x.2 0 x.1.2.length 1]
def zm (x:th):Option Nat×av:=(x.2,.blk x.1.2.length (pc x.1.2))
abbrev qN (fr:List (Int×FI)):={ z:Nat×Option Nat×Option Nat×List th // z.2.2.2.map Prod.fst=fr }
def rX (s:W8) (io jd:Nat) (go gd:Option Nat):Nat→CV:=fl [.os io go 0 s.fr.length 2,.os jd gd 0 s.d.length 1,.err s.k]
def qL (s:W8) (z:qN s.fr):List (Option Nat×av):=[(some z.1.1,.blk 3 (rX s 1 2 z.1.2.1 z.1.2.2.1)),(z.1.2.1,.blk (s.fr.length * 2) (cF 2 jz kr z.1.2.2.2.reverse)),(z.1.2.2.1,.blk s.d.length (bX s.d)),gh (z.1.2.2.2.map zm)]
def eE (n:Nat) (s:W8):Option Nat×av:=ir n (fun z:qN s.fr=>z.1.1) (qL s)
section
variable {P:Program} {G:Gh} {c:Code} {R:Exit→AS→Prop} {n:Nat} {s:W8} {env:List (Nat×CV)} {b0:Nat→CV} {H:List (Option Nat×av)}
theorem dE (i:Nat) (hi:H[i]?=some (eE n s)) (h:∀ go gd (zs:List th),zs.map Prod.fst=s.fr→ap P G c ⟨env,b0,H.set i (some n,.blk 3 (rX s H.length (H.length+1) go gd))++[(go,.blk (s.fr.length * 2) (cF 2 jz kr zs.reverse)),(gd,.blk s.d.length (bX s.d)),gh (zs.map zm)]⟩ R):ap P G c ⟨env,b0,H⟩ R:=by
 have hlt:=(FL.1 hi).1
 refine qA i hi fun z hz=>?_
 have ⟨⟨n',go,gd,zs⟩,hzs⟩:=z
 obtain rfl:n'=n:=hz
 refine jE (kF i 3 (rX s H.length (H.length+1) go gd) (n:=3) (g:=some n') (f:=rX s 1 2 go gd) ?_ (FQ _) fun j hj=>?_) ?_
 ·show (H.set i _++_)[i]?=_
  rw [FR (by simpa using hlt)]
  simp [hlt]
 ·rcases j with _|_|_|j
  exact cO rfl
  exact cO rfl
  exact cZ
  omega
 ·have:=h go gd zs hzs
  rw [← H5 (a:=(some n',av.blk 3 (rX s 1 2 go gd))),← List.set_append_left _ _ (by simpa using hlt)] at this
  exact this
theorem o5 (n:Nat) (s:W8) (zs:List th) (i jo jd jb:Nat) (hzs:zs.map Prod.fst=s.fr) {go gd:Option Nat} {No Nd:Nat} {f Fo Fd:Nat→CV} (hi:H[i]?=some (some n,.blk 3 f)) (ho:H[jo]?=some (go,.blk No Fo)) (hd:H[jd]?=some (gd,.blk Nd Fd)) (hb:H[jb]?=some (gh (zs.map zm))) (hij:[i,jo,jd,jb].Nodup)
  (h0:J (f 0) (.os 1 go 0 s.fr.length 2)) (h1:J (f 1) (.os 1 gd 0 s.d.length 1)) (h2:J (f 2) (.err s.k)) (hNo:s.fr.length * 2≤No) (hFo:∀ a,a<s.fr.length * 2→J (Fo a) (cF 2 jz kr zs.reverse a)) (hNd:s.d.length≤Nd) (hFd:∀ a,a<s.d.length→J (Fd a) (bX s.d a)) :
  ∀ {al:List Addr} {St:Nat→Prop} {w:World} {base:Nat} {F0:Nat→Prop},a6 al St w base F0 H→a6 al St w base F0 ((((H.set i (eE n s)).set jo (none,.dead)).set jd (none,.dead)).set jb (none,.dead)):=by
 intro al St w base F0 h
 simp only [Hi,Gb,GA,or_false,not_or,not_false_iff,Ib,and_true] at hij
 have ⟨⟨e1,e2,e3⟩,⟨e4,e5⟩,e6⟩:=hij
 have hil:=(FL.1 hi).1
 have hol:=(FL.1 ho).1
 have hdl:=(FL.1 hd).1
 have hbl:=(FL.1 hb).1
 have k1:=h.weak (F:=rX s 1 2 go gd) hi (FQ _) fun a ha=>by
  rcases a with _|_|_|a
  exact h0.trans (cO rfl)
  exact h1.trans (cO rfl)
  exact h2
  omega
 have k2:=k1.weak (i:=jo) (F:=cF 2 jz kr zs.reverse) (by rw [FU e1];exact ho) hNo hFo
 have k3:=k2.weak (i:=jd) (F:=bX s.d) (by rw [FU e4,FU e2];exact hd) hNd hFd
 have k4:=k3.closeN (gd:=fun z:qN s.fr=>z.1.1) (E:=qL s) ⟨(n,go,gd,zs),hzs⟩ i [jo,jd,jb] (by simp [e1,e2,e3,e4,e5,e6]) (by simp [hil,hol,hdl,hbl]) (by
  have g1:∀ {x},((H.set i x).set jo (go,av.blk (s.fr.length * 2) (cF 2 jz kr zs.reverse))).set jd (gd,av.blk s.d.length (bX s.d))=((H.set i x).set jo (go,av.blk (s.fr.length * 2) (cF 2 jz kr zs.reverse))).set jd (gd,av.blk s.d.length (bX s.d)):=rfl
  simp only [d3,Gf,Ho,FJ]
  rw [FU (Ne.symm e2),FU (Ne.symm e1),FU (Ne.symm e4),FU e6,FU e5,FU e3,hb]
  simp [hil,hol,hdl,qL])
 have e:lW ((((H.set i (some n,av.blk 3 (rX s 1 2 go gd))).set jo (go,av.blk (s.fr.length * 2) (cF 2 jz kr zs.reverse))).set jd (gd,av.blk s.d.length (bX s.d))).set i (ir n (fun z:qN s.fr=>z.1.1) (qL s))) [jo,jd,jb]=(((H.set i (eE n s)).set jo (none,.dead)).set jd (none,.dead)).set jb (none,.dead):=by
  show ((((((H.set i _).set jo _).set jd _).set i _).set jo _).set jd _).set jb _=_
  rw [Il _ _ (Ne.symm e2),Il _ _ (Ne.symm e1),H5,Il _ _ (Ne.symm e4),H5,H5]
  rfl
 rw [← e]
 exact k4
theorem iU (n:Nat) (s:W8) (zs:List th) (i jo jd jb:Nat) (hzs:zs.map Prod.fst=s.fr) {go gd:Option Nat} {No Nd:Nat} {f Fo Fd:Nat→CV} (hi:H[i]?=some (some n,.blk 3 f)) (ho:H[jo]?=some (go,.blk No Fo)) (hd:H[jd]?=some (gd,.blk Nd Fd)) (hb:H[jb]?=some (gh (zs.map zm))) (hij:[i,jo,jd,jb].Nodup)
  (h0:J (f 0) (.os 1 go 0 s.fr.length 2)) (h1:J (f 1) (.os 1 gd 0 s.d.length 1)) (h2:J (f 2) (.err s.k)) (hNo:s.fr.length * 2≤No) (hFo:∀ a,a<s.fr.length * 2→J (Fo a) (cF 2 jz kr zs.reverse a)) (hNd:s.d.length≤Nd) (hFd:∀ a,a<s.d.length→J (Fd a) (bX s.d a)) :
  aZ G ⟨env,b0,H⟩ ⟨env,b0,(((H.set i (eE n s)).set jo (none,.dead)).set jd (none,.dead)).set jb (none,.dead)⟩:=aZ.hrel (o5 n s zs i jo jd jb hzs hi ho hd hb hij h0 h1 h2 hNo hFo hNd hFd)
end
section
variable {gs:List Nat} [du gs]
section
variable {P:Program} {G:Gh} {c:Code} {R:Exit→AS→Prop} {n:Nat} {s:R8} {env:List (Nat×CV)} {b0:Nat→CV} {H:List (Option Nat×av)}
end
structure FB (s:R8):Prop where
 n:s.tags.length≤100000
 r:s.rows.length≤100000
 k:∀ x ∈ s.rows,x.length≤1000000
structure pb (s:W8):Prop where
 n:s.fr.length≤16
 k:∀ x ∈ s.fr,x.2.length≤1000000∧br x.2≤1000000
 d:s.d.length≤1000000
theorem rE {zs:List th} {fr:List (Int×FI)} (h:zs.map Prod.fst=fr):zs.length=fr.length:=by rw [← h];simp
theorem jH {x:th} {zr:List th} {m j:Nat} (hj:j<2) (hm:m=zr.length+1):cF 2 jz kr (x::zr).reverse (0+(m-1) * 2+j)=jz x j:=by
 rw [Nat.zero_add,bb hj,hm]
 simp [FJ]
theorem oA {x:th} {zr:List th} {j:Nat} (hj:j<zr.length * 2):cF 2 jz kr (x::zr).reverse j=cF 2 jz kr zr.reverse j:=by
 simp only [cF,GS,FJ]
 rw [FR (by simp;omega)]
theorem gV {x x':th} {zr:List th} {m q n j:Nat} {g:Option Nat} (hm:m=zr.length+1) (I:x'.1.1=x.1.1) (hg:x'.2=g) (hn:x'.1.2.length=n) (hj:j<m * 2):J (jG (cF 2 jz kr (x::zr).reverse) (0+(m-1) * 2+1) [.os q g 0 n 1] j) (cF 2 jz kr (x'::zr).reverse j):=by
 rw [fg]
 by_cases h1:j<zr.length * 2
 ·rw [FN (by simp;omega),oA h1,oA h1]
  exact cZ
 ·by_cases h2:j=0+(m-1) * 2+1
  ·rw [FO (by simp;omega),h2,jH O hm,HH]
   show J (.os q g 0 n 1) (.os 0 x'.2 0 x'.1.2.length 1)
   rw [hg,hn]
   exact cO rfl
  ·obtain rfl:j=0+(m-1) * 2+0:=by omega
   rw [FN (by simp;omega),jH O hm,jH O hm]
   show J (.c (.int .i64 x.1.1)) (.c (.int .i64 x'.1.1))
   rw [I]
   exact cZ
theorem mc {gs:List Nat} (n:Nat) (s:W8) (e:Nat):AC gs prog 100 [eE n s] [.op 0 (some n) 0,.err e] (fun r H'=>r=.c (.tuple #[])∧H'=[eE n (bg e s)]):=by
 refine ag 13 func100 fun _ _ _ _=>?_;refine dE 0 rfl fun go gd zs hzs=>?_;refine U 55000005010004016 ?_;refine aaa (fun h38=>?_) fun h38=>?_
 ·refine U 10 ?_
  have hF:bg e s=s:=by unfold bg;rw [jK]
  rw [hF]
  exact dj (gd:=fun z:qN s.fr=>z.1.1) (E:=qL s) (.inr rfl) _ ⟨(n,go,gd,zs),hzs⟩ [0,1,2,3] T rfl (bo rfl) ⟨rfl,rfl⟩
 refine U 10004011200 ?_
 refine aL (ak 1 (rX ⟨s.fr,s.d,e⟩ 1 2 go gd) ?_ ?_)
 exact dV
 refine U 5 ?_
 have hF:bg e s=⟨s.fr,s.d,e⟩:=by unfold bg;rw [jP]
 rw [hF]
 exact dj (gd:=fun z:qN s.fr=>z.1.1) (E:=qL ⟨s.fr,s.d,e⟩) (.inr rfl) _ ⟨(n,go,gd,zs),hzs⟩ [0,1,2,3] T rfl (bo rfl) ⟨rfl,rfl⟩
theorem Ar {gs:List Nat} (n:Nat) (s:W8) (b:V) (hs:pb s) (hb:b.length≤100000000):AC gs prog 132 [eE n s] [.op 0 (some n) 0,dL b] (fun r H'=>r=.c (.tuple #[])∧H'=[eE n (aK b s)]):=by
 have hsd:=hs.d
 have hsn:=hs.n
 refine ag 42 func132 fun _ _ _ _=>?_;refine oU ?_
 (refine dE 0 rfl fun go gd zs hzs=>?_;have hzl:=rE hzs)
 refine U 51350904016 ?_
 skip
 refine U 5216 ?_;refine aaa (fun h45=>?_) fun h45=>?_
 ·refine U 810 ?_
  have hf0:s.fr=[]:=Gq O
  refine U 1501004011200 ?_
  refine aL (bV rfl rfl rfl (FQ _) (fun _ _=>cZ) (eT rfl) rfl (fun j hj=>by simp only [Ie];exact cZ) underlying58 mL tE kV u3 rfl O (fun j hj=>rfl) rfl rfl (fun p1=>?_))
  refine U 10040 ?_
  refine aL (ak 1 (rX (aK b s) 1 2 go p1) ?_ ?_)
  ·exact (fun j hj=>by rcases j with _|_|_|j<;>first|exact cO (by simp [aK,hf0])|exact J.err (by simp [aK,hf0])|omega)
  refine U 5 ?_
  refine xz (H':=?H2) ?hh ?hb
  case hh=>intro _ _ _ _ _ I;exact o5 n (aK b s) zs 0 1 2 3 (by simp [aK,hf0];rw [hf0] at hzs;simpa using hzs) rfl rfl rfl rfl T (by exact cO rfl) (by exact cO rfl) (by exact cZ) (by simp [aK,hf0]) (fun a ha=>by simp [aK,hf0] at ha) (by simp [aK,hf0]) (fun _ _=>by simp only [aK,hf0];exact cZ) I
  case hb=>exact aY (.inr rfl) _ [eE n (aK b s)] [0] T rfl (bo rfl) ⟨rfl,rfl⟩
 refine oU ?_
 obtain ⟨x,zr,rfl⟩:∃ x zr,zs=x::zr:=by
   cases zs with
   | nil=>simp at hzl;omega
   | cons x zr=>exact ⟨x,zr,rfl⟩
 have hfr:s.fr=x.1::zr.map Prod.fst:=by rw [← hzs];rfl
 have hxk:=hs.k x.1 (by rw [hfr];exact F2)
 have hzl:s.fr.length=zr.length+1:=by rw [← hzl];rfl
 refine jE (bag_pop 3 rfl) ?_;refine ko (.rd 0 (.rd 1 (.rd 2 (.rd 4 (.rd 5 (.rd 6 (.rd 7 (.rd 8 (.rd 9 (.rd 10 (.rd 11 (.rd 12 (.rd 13 (.rd 14 (.rd 15 (.two 3 (.one 16 (.one 17 (.one 18 (.rd 19 (.rd 20 (.one 21 .done)))))) 16 (.two 3 (.one 17 (.one 18 (.rd 19 (.rd 20 (.one 21 .done))))) 17 (.two 3 (.one 18 (.rd 19 (.rd 20 (.one 21 .done)))) 18 (.one 3 (.rd 19 (.rd 20 (.one 21 .done)))))))))))))))))))))) ?_;refine U 400000100000009000000400000 ?_;refine cD yd ?_;refine U 40000050000000100000009000000400000 ?_;refine cD yd ?_;refine cD (iu (i:=(s.fr.length-1)) (hz:=by omega)) ?_;refine U 60000000 ?_;refine Ca (lX (hv:=jH O hzl)) ?_;refine cD CR ?_;refine pX ?_ ?_
 ·refine zo lX ?_;refine mX (ck 26 (.os 4 x.2 0 x.1.2.length 1) (cO rfl)) ?_
  refine qM (aD (nS b O) ?_)
  refine qM (bD 1 1 lw fun p1=>?_)
  refine fT (au (i5) (l2:=[b]) rfl rfl rfl rfl O (fun _ _=>cZ) (bp rfl (.inl rfl) T) rfl (fun j hj=>by rcases j with _|j<;>first|exact cZ|(exfalso;simp at hj<;>omega)) underlying96 wv vh lw xQ rfl (by (simp;omega)) (by (simp;omega)) (bR rfl rfl) rfl rfl rfl (fun p2=>?_))
  refine cD (iu (i:=(s.fr.length-1)) (hz:=by omega)) ?_;refine U 60000000 ?_
  refine fT (ak 1 (cF 2 jz kr (((x.1.1,x.1.2++[b]),p2)::zr).reverse) ?_ ?_)
  exact (fun j hj=>gV hzl rfl rfl (by simp) hj)
  refine U 8700000 ?_;refine jE (kF 4 (x.1.2++[b]).length (pc (x.1.2++[b])) rfl (by simp) (fun _ _=>cZ)) ?_;refine jE (bag_push 3 4 rfl rfl rfl) ?_;refine jE (iU n (aK b s) (((x.1.1,x.1.2++[b]),p2)::zr) 0 1 2 3 (by simp [aK,hfr]) rfl rfl rfl rfl T (cO (by simp [aK,hfr])) (cO (by simp [aK,hfr])) (J.err (by simp [aK,hfr])) (by simp [aK,hfr]) (fun _ _=>cZ) (by simp [aK,hfr]) (fun _ _=>by simp only [aK,hfr];exact cZ)) ?_;refine U 30007000 ?_
  exact aY (.inl rfl) _ [eE n (aK b s)] [0] T rfl (bo rfl) ⟨rfl,rfl⟩
 ·refine mX (ck 26 (.os 4 x.2 0 x.1.2.length 1) (cO rfl)) ?_
  refine qM (aD (nS b O) ?_)
  refine pX ?_ ?_
  ·refine zo lX ?_
   refine qM (bD 1 1 lw fun p1=>?_)
   refine fT (au (i5) (l2:=[b]) rfl rfl rfl rfl O (fun _ _=>cZ) (bp rfl (.inl rfl) T) rfl (fun j hj=>by rcases j with _|j<;>first|exact cZ|(exfalso;simp at hj<;>omega)) underlying96 wv vh lw xQ rfl (by (simp;omega)) (by (simp;omega)) (bR rfl rfl) rfl rfl rfl (fun p2=>?_))
   refine cD (iu (i:=(s.fr.length-1)) (hz:=by omega)) ?_;refine U 60000000 ?_
   refine fT (ak 1 (cF 2 jz kr (((x.1.1,x.1.2++[b]),p2)::zr).reverse) ?_ ?_)
   exact (fun j hj=>gV hzl rfl rfl (by simp) hj)
   refine U 8700000 ?_;refine jE (kF 4 (x.1.2++[b]).length (pc (x.1.2++[b])) rfl (by simp) (fun _ _=>cZ)) ?_;refine jE (bag_push 3 4 rfl rfl rfl) ?_;refine jE (iU n (aK b s) (((x.1.1,x.1.2++[b]),p2)::zr) 0 1 2 3 (by simp [aK,hfr]) rfl rfl rfl rfl T (cO (by simp [aK,hfr])) (cO (by simp [aK,hfr])) (J.err (by simp [aK,hfr])) (by simp [aK,hfr]) (fun _ _=>cZ) (by simp [aK,hfr]) (fun _ _=>by simp only [aK,hfr];exact cZ)) ?_;refine U 30007000 ?_
   exact aY (.inl rfl) _ [eE n (aK b s)] [0] T rfl (bo rfl) ⟨rfl,rfl⟩
  ·refine qM (bD 1 1 lw fun p1=>?_)
   refine pX ?_ ?_
   ·refine zo lX ?_
    refine fT (au (i5) (l2:=[b]) rfl rfl rfl rfl O (fun _ _=>cZ) (bp rfl (.inl rfl) T) rfl (fun j hj=>by rcases j with _|j<;>first|exact cZ|(exfalso;simp at hj<;>omega)) underlying96 wv vh lw xQ rfl (by (simp;omega)) (by (simp;omega)) (bR rfl rfl) rfl rfl rfl (fun p2=>?_))
    refine cD (iu (i:=(s.fr.length-1)) (hz:=by omega)) ?_;refine U 60000000 ?_
    refine fT (ak 1 (cF 2 jz kr (((x.1.1,x.1.2++[b]),p2)::zr).reverse) ?_ ?_)
    exact (fun j hj=>gV hzl rfl rfl (by simp) hj)
    refine U 8700000 ?_;refine jE (kF 4 (x.1.2++[b]).length (pc (x.1.2++[b])) rfl (by simp) (fun _ _=>cZ)) ?_;refine jE (bag_push 3 4 rfl rfl rfl) ?_;refine jE (iU n (aK b s) (((x.1.1,x.1.2++[b]),p2)::zr) 0 1 2 3 (by simp [aK,hfr]) rfl rfl rfl rfl T (cO (by simp [aK,hfr])) (cO (by simp [aK,hfr])) (J.err (by simp [aK,hfr])) (by simp [aK,hfr]) (fun _ _=>cZ) (by simp [aK,hfr]) (fun _ _=>by simp only [aK,hfr];exact cZ)) ?_;refine U 30007000 ?_
    exact aY (.inl rfl) _ [eE n (aK b s)] [0] T rfl (bo rfl) ⟨rfl,rfl⟩
   ·refine fT (au (i5) (l2:=[b]) rfl rfl rfl rfl O (fun _ _=>cZ) (bp rfl (.inl rfl) T) rfl (fun j hj=>by rcases j with _|j<;>first|exact cZ|(exfalso;simp at hj<;>omega)) underlying96 wv vh lw xQ rfl (by (simp;omega)) (by (simp;omega)) (bR rfl rfl) rfl rfl rfl (fun p2=>?_))
    refine zo lX ?_;refine cD (iu (i:=(s.fr.length-1)) (hz:=by omega)) ?_;refine U 60000000 ?_
    refine fT (ak 1 (cF 2 jz kr (((x.1.1,x.1.2++[b]),p2)::zr).reverse) ?_ ?_)
    exact (fun j hj=>gV hzl rfl rfl (by simp) hj)
    refine U 8700000 ?_;refine jE (kF 4 (x.1.2++[b]).length (pc (x.1.2++[b])) rfl (by simp) (fun _ _=>cZ)) ?_;refine jE (bag_push 3 4 rfl rfl rfl) ?_;refine jE (iU n (aK b s) (((x.1.1,x.1.2++[b]),p2)::zr) 0 1 2 3 (by simp [aK,hfr]) rfl rfl rfl rfl T (cO (by simp [aK,hfr])) (cO (by simp [aK,hfr])) (J.err (by simp [aK,hfr])) (by simp [aK,hfr]) (fun _ _=>cZ) (by simp [aK,hfr]) (fun _ _=>by simp only [aK,hfr];exact cZ)) ?_;refine U 30007000 ?_
    exact aY (.inl rfl) _ [eE n (aK b s)] [0] T rfl (bo rfl) ⟨rfl,rfl⟩
theorem i7 (n:Nat) (s:W8) (tag:Int) (body:V) (e:Nat) (hs:pb s) (hb:body.length≤1000000):AC gs prog 96 [eE n s] [.op 0 (some n) 0,.c (.int .i64 tag),dL body,.err e] (fun r H'=>r=.c (.tuple #[])∧H'=[eE n (co tag body e s)]):=by
 have hpl:(cS tag body).length≤100000000:=by
  unfold cS
  have:=oN body.length
  simp only [List.length_cons,FX]
  omega
 refine ag 32 func96 fun _ _ _ _=>?_;refine U 116 ?_
 refine aL (dc 0 (mc n s e) ?_)
 refine U 75 ?_;refine dE 0 rfl fun go gd zs hzs=>?_;refine U 55000005010004016 ?_;refine aX (fun h55=>?_) fun h55=>?_
 ·refine U 30007000 ?_
  have hP:co tag body e s=bg e s:=by unfold co;rw [jP]
  rw [hP]
  exact dj (gd:=fun z:qN (bg e s).fr=>z.1.1) (E:=qL (bg e s)) (.inl rfl) _ ⟨(n,go,gd,zs),hzs⟩ [0,1,2,3] T rfl (bo rfl) ⟨rfl,rfl⟩
 refine U 810 ?_
 have hk0:(bg e s).k=0:=by omega
 have hF:bg e s=s:=by
  have ⟨fr,d,k⟩:=s
  unfold bg at hk0 ⊢
  split
  ·rename_i h
   rw [FO h] at hk0
   have h:k=0:=h
   have hk0:e=0:=hk0
   rw [h,hk0]
  rfl
 refine jE (iU n (bg e s) zs 0 1 2 3 hzs rfl rfl rfl rfl T (cO rfl) (cO rfl) cZ (FQ _) (fun _ _=>cZ) (FQ _) (fun _ _=>cZ)) ?_
 rw [hF]
 have hsk:s.k=0:=by rw [← hF];exact hk0
 dsimp only [List.set_cons_zero,List.set_cons_succ,List.cons_append,List.nil_append,List.length_cons,List.length_nil,Nat.zero_add,Nat.reduceAdd]
 refine U 116 ?_;refine jq (aC (n:=2) rfl CW Dr rfl rfl) ?_
 refine ay (aD (yx tag body hb) ?_)
 refine U 55000001675119009001 ?_;refine aX (fun h59=>?_) fun h59=>?_
 ·refine U 116 ?_
  refine aL (dc 0 (mc n s (iJ tag body)) ?_)
  refine U 300070005 ?_
  have hP:co tag body e s=bg (iJ tag body) s:=by unfold co;rw [hF,jK,jP];unfold bg;rw [FO hsk]
  rw [hP]
  exact aY (.inl rfl) _ [_] [0] T rfl (bo rfl) ⟨rfl,rfl⟩
 refine U 810 ?_
 have hP0:iJ tag body=0:=by omega
 rw [FO hP0]
 refine U 11200 ?_
 refine aL (dc 0 (Ar n s _ hs hpl) ?_)
 refine U 5 ?_
 have hP:co tag body e s=aK (cS tag body) s:=by unfold co;rw [hF,jK,jK]
 rw [hP]
 exact aY (.inr rfl) _ [_] [0] T rfl (bo rfl) ⟨rfl,rfl⟩
end
end Am
end Go.Proofs.YtnijncmifjnifaaGreatDoor
namespace Go.Proofs
open Go.Shelf
def lays137_ren:Go.Shelf.Ren:=⟨fun|137=>106|217=>140|266=>168|n=>n,fun|9=>9|5=>5|3=>3|n=>n,fun|n=>n⟩
theorem lays137:Go.Proofs.Lays.n137 prog lays137_ren:={
 mixed:=by kernel_rfl
 f137:=func106.trans (F7 some (by kernel_rfl))
 f217:=func140.trans (F7 some (by kernel_rfl))
 f266:=func168.trans (F7 some (by kernel_rfl))
 t3:=underlying3
 a3:=isAgg3
 z3:=sizeOf3
 v3:=zeroValue3
 t5:=underlying5
 a5:=isAgg5
 z5:=sizeOf5
 v5:=zeroValue5
 t9:=underlying9
 a9:=isAgg9
 z9:=sizeOf9
 v9:=zeroValue9 }
open Go.RowKit in
theorem strings_IndexByte (s:ByteArray) (c:Int) (w:World) :
  Calls prog 106 #[.string s,.int .u8 c] w fun e w'=>e=.returned (.int .i64 (Lib.indexByte s.data.toList c.toNat.toUInt8))∧w'=w:=Any.strings_IndexByte lays137 s c w
open Go.RowKit Go.Lib in
def lays99_ren:Go.Shelf.Ren:=⟨fun|99=>104|206=>138|n=>n,fun|9=>9|4=>4|3=>3|n=>n,fun|n=>n⟩
theorem lays99:Go.Proofs.Lays.n99 prog lays99_ren:={
 mixed:=by kernel_rfl
 f99:=func104.trans (F7 some (by kernel_rfl))
 f206:=func138.trans (F7 some (by kernel_rfl))
 t3:=underlying3
 a3:=isAgg3
 z3:=sizeOf3
 v3:=zeroValue3
 t4:=underlying4
 a4:=isAgg4
 z4:=sizeOf4
 v4:=zeroValue4
 t9:=underlying9
 a9:=isAgg9
 z9:=sizeOf9
 v9:=zeroValue9 }
open Go.RowKit Go.Lib in
theorem strings_HasPrefix (s p:ByteArray) (w:World) :
  Calls prog 104 #[.string s,.string p] w fun e w'=>e=.returned (.bool (Lib.hasPrefix s.data.toList p.data.toList))∧w'=w:=Any.strings_HasPrefix lays99 s p w
open Go.RowKit Go.Lib in
def lays100_ren:Go.Shelf.Ren:=⟨fun|100=>105|207=>139|n=>n,fun|9=>9|4=>4|3=>3|n=>n,fun|n=>n⟩
theorem lays100:Go.Proofs.Lays.n100 prog lays100_ren:={
 mixed:=by kernel_rfl
 f100:=func105.trans (F7 some (by kernel_rfl))
 f207:=func139.trans (F7 some (by kernel_rfl))
 t3:=underlying3
 a3:=isAgg3
 z3:=sizeOf3
 v3:=zeroValue3
 t4:=underlying4
 a4:=isAgg4
 z4:=sizeOf4
 v4:=zeroValue4
 t9:=underlying9
 a9:=isAgg9
 z9:=sizeOf9
 v9:=zeroValue9 }
open Go.RowKit Go.Lib in
theorem strings_HasSuffix (s p:ByteArray) (w:World) (hs:s.size≤9223372036854775807) :
  Calls prog 105 #[.string s,.string p] w fun e w'=>e=.returned (.bool (Lib.hasSuffix s.data.toList p.data.toList))∧w'=w:=Any.strings_HasSuffix lays100 s p w hs
end Go.Proofs
namespace Go.Proofs
open Go.Shelf
def sortB_ren:Go.Shelf.Ren:=⟨fun|6=>165|15=>182|14=>181|28=>195|29=>196|20=>187|21=>188|22=>189|23=>190|24=>191|25=>192|26=>193|27=>194|46=>199|47=>200|48=>201|49=>202|50=>203|57=>204|n=>n,fun|22=>96|24=>58|25=>216|3=>3|39=>52|0=>0|53=>241|55=>208|4=>4|46=>235|45=>234|50=>220|5=>5|9=>9|66=>244|70=>248|76=>250|77=>143|n=>n,fun|n=>n⟩
theorem sortB:Go.Proofs.SlLaysF.n6 prog sortB_ren:={
 mixed:=by kernel_rfl
 f6:=⟨f165.name,by decide,func165.trans (F7 some (by kernel_rfl))⟩
 f14:=⟨f181.name,by decide,func181.trans (F7 some (by kernel_rfl))⟩
 f15:=func182.trans (F7 some (by kernel_rfl))
 f20:=⟨f187.name,by decide,func187.trans (F7 some (by kernel_rfl))⟩
 f21:=⟨f188.name,by decide,func188.trans (F7 some (by kernel_rfl))⟩
 f22:=⟨f189.name,by decide,func189.trans (F7 some (by kernel_rfl))⟩
 f23:=⟨f190.name,by decide,func190.trans (F7 some (by kernel_rfl))⟩
 f24:=⟨f191.name,by decide,func191.trans (F7 some (by kernel_rfl))⟩
 f25:=⟨f192.name,by decide,func192.trans (F7 some (by kernel_rfl))⟩
 f26:=⟨f193.name,by decide,func193.trans (F7 some (by kernel_rfl))⟩
 f27:=⟨f194.name,by decide,func194.trans (F7 some (by kernel_rfl))⟩
 f28:=func195.trans (F7 some (by kernel_rfl))
 f29:=func196.trans (F7 some (by kernel_rfl))
 f46:=⟨f199.name,by decide,func199.trans (F7 some (by kernel_rfl))⟩
 f47:=func200.trans (F7 some (by kernel_rfl))
 f48:=func201.trans (F7 some (by kernel_rfl))
 f49:=⟨f202.name,by decide,func202.trans (F7 some (by kernel_rfl))⟩
 f50:=⟨f203.name,by decide,func203.trans (F7 some (by kernel_rfl))⟩
 f57:=⟨f204.name,by decide,func204.trans (F7 some (by kernel_rfl))⟩
 t0:=underlying0
 a0:=isAgg0
 z0:=sizeOf0
 v0:=zeroValue0
 t3:=underlying3
 a3:=isAgg3
 z3:=sizeOf3
 v3:=zeroValue3
 t4:=underlying4
 a4:=isAgg4
 z4:=sizeOf4
 v4:=zeroValue4
 t5:=underlying5
 a5:=isAgg5
 z5:=sizeOf5
 v5:=zeroValue5
 t9:=underlying9
 a9:=isAgg9
 z9:=sizeOf9
 v9:=zeroValue9
 t22:=underlying96
 a22:=isAgg96
 z22:=sizeOf96
 v22:=zeroValue96
 a24:=isAgg58
 z24:=sizeOf58
 t25:=underlying216
 a25:=isAgg216
 z25:=sizeOf216
 v25:=zeroValue216
 t39:=underlying52
 a39:=isAgg52
 z39:=sizeOf52
 v39:=zeroValue52
 t45:=underlying234
 a45:=isAgg234
 z45:=sizeOf234
 v45:=zeroValue234
 t46:=underlying235
 a46:=isAgg235
 z46:=sizeOf235
 v46:=zeroValue235
 t50:=underlying220
 a50:=isAgg220
 z50:=sizeOf220
 v50:=zeroValue220
 t53:=underlying241
 a53:=isAgg241
 z53:=sizeOf241
 v53:=zeroValue241
 t55:=underlying208
 a55:=isAgg208
 z55:=sizeOf208
 v55:=zeroValue208
 t66:=underlying244
 a66:=isAgg244
 z66:=sizeOf244
 v66:=zeroValue244
 t70:=underlying248
 a70:=isAgg248
 z70:=sizeOf248
 v70:=zeroValue248
 t76:=underlying250
 a76:=isAgg250
 z76:=sizeOf250
 v76:=zeroValue250
 t77:=underlying143
 a77:=isAgg143
 z77:=sizeOf143
 v77:=zeroValue143 }
end Go.Proofs
namespace Go.Proofs.YtnijncmifjnifaaGreatDoor
namespace Am
open Go.RowKit
theorem vo (g:Option Nat) (ls:FI) (hl:ls.length≤1000000000):AC gs prog 165 [(g,.blk ls.length (pc ls))] [.os 0 g 0 ls.length 1,.c (.func (.func 166) #[] #[])] (fun r H'=>r=.c (.tuple #[])∧H'=[(g,.blk ls.length (pc (cJ ls)))]) :=
 vn (fun p cap fv w=>AnyF.slices_SortFunc_none (P:=prog) (ρ:=sortB_ren) { sortB with } p cap fv w)
  (fun m enc h1 cf hO blk cap d w hc hH hb hs=>Any.slices_SortFunc (P:=prog) (ρ:=sortB_ren) sortB enc h1 cf hO 166 #[] blk 0 cap d w (fun args W=>jQ (by kernel_rfl) args W) hc hH hb hs)
  (fun w v1 v2 l r h1 h2=>o4 h1 h2) g ls hl
theorem tF (ls:FI):br (cJ ls)=br ls:=((fG ls).map List.length).sum_nat
theorem Bp (ls:FI) (hl:ls.length≤1000000) (hs:br ls≤10000000000):c4 gs prog 136 [CQ ls] (dL (cJ ls).flatten):=by
 have hsl:=oq ls
 refine ag 10 func136 fun _ _ _ _=>?_;refine U 16516 ?_
 refine ay (wR (uT ls hl) (fun p1=>?_))
 refine U 1651 ?_
 refine aL (dc 0 (vo p1 ls O) ?_)
 refine U 5 ?_;refine jE (freeze 0 rfl) ?_;refine jE (jI 3 (fun b _=>dL ((cJ ls).getD b [])) rfl rfl O (fun a b ha hb=>zj a b O hb)) ?_;refine jE (ck 3 (CQ (cJ ls)) (J.rs hsl.symm fun i j _ _=>cZ)) ?_;refine U 16 ?_
 refine ay (aD (fY (cJ ls) (by rw [tF];exact hs) O) ?_)
 refine U 51 ?_
 refine jR (d4 (hv:=cZ))
section
variable {gs:List Nat} [du gs]
theorem Dx:J (.c (.slice none 0 0)) (.os 0 none 0 0 1):=fun al St w v h=>⟨rfl,h⟩
theorem zk {G:Gh} {s:AS} (d:Nat) {i off n k:Nat} (hl:look s.env s.b d=.os i none off n k):∀ a w,nX G s a w→n=0:=fun a w ⟨St,hr⟩=>by
 have:=c7 hr (x:=.tmp d) hl
 exact this.1
theorem uS {gs:List Nat} (l:V) (g:Option Nat) (hl:l.length≤100000000):AC gs prog 75 [(g,.blk l.length (bX l))] [.os 0 g 0 l.length 1] (fun r H'=>r=dL l∧H'=[(g,.blk l.length (bX l))]):=by
 refine ag 8 func75 fun _ _ _ _=>?_;refine U 167516 ?_;refine jq (yW rfl rfl rfl underlying58) ?_;refine U 5 ?_;refine aX (fun h357=>?_) fun h357=>?_
 ·obtain rfl:g=none:=by cases g<;>simp at h357 ⊢
  refine iT (zk 0 rfl) fun hn=>?_;refine U 30007000516 ?_
  exact ew (.inl rfl) [0] T rfl (fo rfl (cR rfl)) (J.nilS' hn) ⟨rfl,rfl⟩
 refine U 6810 ?_
 refine ay (bD 0 1 kV fun p1=>?_)
 refine U 1 ?_
 refine aL (bV (l:=[]) rfl rfl rfl (F4 _) (fun j hj=>absurd hj (F3 j)) (bp rfl (.inl rfl) O) rfl (fun j hj=>by rw [Nat.zero_add];exact cZ) underlying58 mL tE kV u3 rfl (by (simp;omega)) (fun j hj=>rfl) rfl rfl (fun p2=>?_))
 refine U 51 ?_;refine jE (freeze 1 rfl) ?_;refine jE (po 2 ([]++l) rfl rfl (by rfl) rfl) ?_;refine U 7000 ?_
 exact ew (.inl rfl) [0] T rfl (fo rfl (cR rfl)) (J.bs (List.nil_append l)) ⟨rfl,rfl⟩
theorem uW {gs:List Nat} (tag:Int) (ls:FI) (hl:ls.length≤1000000) (hs:br ls≤10000000000):c4 gs prog 103 [.agg 2 (fl [.c (.int .i64 tag),CQ ls])] (dL (d5 (tag,ls))):=by
 refine ag 12 func103 fun _ _ _ _=>?_;refine dU ?_
 refine ay (cG 2 fun p1=>?_)
 refine U 5250906751 ?_;refine aX (fun h23=>?_) fun h23=>?_
 ·refine U 501006 ?_
  refine ay (aD (Bp ls hl hs) ?_)
  refine U 51 ?_
  refine jR (hZ (d4 (hv:=J.bs (by unfold d5;rw [FO h23]))))
 refine U 501006810 ?_
 refine ay (aD (fY ls hs hl) ?_)
 refine U 51 ?_
 refine jR (d4 (hv:=J.bs (by unfold d5;rw [FN h23])))
theorem lQ (n:Nat) (s:W8) (tag:Int) (hs:pb s):AC gs prog 57 [eE n s] [.op 0 (some n) 0,.c (.int .i64 tag)] (fun r H'=>r=.c (.tuple #[])∧H'=[eE n (bq tag s)]):=by
 have hsn:=hs.n
 refine ag 40 func57 fun _ _ _ _=>?_;refine U 20 ?_;refine dE 0 rfl fun go gd zs hzs=>?_
 have hzl:=rE hzs
 refine U 515000005010004016 ?_;refine aX (fun h69=>?_) fun h69=>?_
 ·refine U 40010 ?_
  have hP:bq tag s=s:=by unfold bq;rw [jP]
  rw [hP]
  exact dj (gd:=fun z:qN s.fr=>z.1.1) (E:=qL s) (.inr rfl) _ ⟨(n,go,gd,zs),hzs⟩ [0,1,2,3] T rfl (bo rfl) ⟨rfl,rfl⟩
 refine U 16 ?_
 refine ay (aD (sA tag) ?_)
 refine U 5130 ?_;refine aX (fun h70=>?_) fun h70=>?_
 ·refine U 1200 ?_;refine jq (iv 4) ?_;refine U 100040 ?_
  refine aL (ak 1 (rX ⟨s.fr,s.d,5⟩ 1 2 go gd) ?_ ?_)
  exact dV
  refine U 4005 ?_
  have hP:bq tag s=⟨s.fr,s.d,5⟩:=by unfold bq;rw [jK,FO (by simp [cL] at h70 ⊢;omega)]
  rw [hP]
  exact dj (gd:=fun z:qN s.fr=>z.1.1) (E:=qL ⟨s.fr,s.d,5⟩) (.inr rfl) _ ⟨(n,go,gd,zs),hzs⟩ [0,1,2,3] T rfl (bo rfl) ⟨rfl,rfl⟩
 refine U 512350904016 ?_;refine aX (fun h72=>?_) fun h72=>?_
 ·refine U 1200 ?_;refine jq (iv 5) ?_;refine U 100040 ?_
  refine aL (ak 1 (rX ⟨s.fr,s.d,6⟩ 1 2 go gd) ?_ ?_)
  exact dV
  refine U 4005 ?_
  have hP:bq tag s=⟨s.fr,s.d,6⟩:=by unfold bq;rw [jK,FN (by simp [cL] at h70 ⊢;omega),jP]
  rw [hP]
  exact dj (gd:=fun z:qN s.fr=>z.1.1) (E:=qL ⟨s.fr,s.d,6⟩) (.inr rfl) _ ⟨(n,go,gd,zs),hzs⟩ [0,1,2,3] T rfl (bo rfl) ⟨rfl,rfl⟩
 refine jE (jp (pc [])) ?_;refine jE (bag_push 3 4 rfl rfl rfl) ?_
 dsimp only [List.set_cons_zero,List.set_cons_succ,List.cons_append,List.nil_append,List.length_cons,List.length_nil,Nat.zero_add,Nat.reduceAdd]
 refine U 150904011200 ?_;refine jq (aC (n:=2) rfl rW Dq rfl rfl) ?_
 refine ay (bD 2 2 rW fun p1=>?_)
 refine bY (kF 5 2 (cF 2 jz kr [((tag,[]),none)]) rfl (FQ _) (fun j hj=>by rcases j with _|_|j<;>first|exact cZ|exact Dx|omega)) ?_
 refine aL (au (aP 2 jz kr) (l:=zs.reverse) (l2:=[((tag,[]),none)]) rfl rfl (by simp [hzl]) rfl (by simp [hzl]) (fun _ _=>cZ) (bp rfl (.inl rfl) T) rfl (fun j hj=>by rw [Nat.zero_add];exact cZ) underlying102 Du Db rW D4 rfl (by simp;omega) (by simp;omega) (fun j hj=>by rcases j with _|_|j<;>first|rfl|omega) rfl rfl rfl (fun p2=>?_))
 refine U 9040 ?_
 refine aL (ak 1 (rX ⟨(tag,[])::s.fr,s.d,s.k⟩ 1 2 p2 gd) ?_ ?_)
 ·exact (fun j hj=>by rcases j with _|_|_|j<;>first|exact cO (by simp [hzl])|exact cZ)
 refine U 4005 ?_
 have hP:bq tag s=⟨(tag,[])::s.fr,s.d,s.k⟩:=by unfold bq;rw [jK,FN (by simp [cL] at h70 ⊢;omega),jK]
 rw [hP]
 refine xz (H':=?H2) ?hh ?hb
 case hh=>intro _ _ _ _ _ I;exact o5 n ⟨(tag,[])::s.fr,s.d,s.k⟩ (((tag,[]),none)::zs) 0 1 2 3 (by simp [hzs]) rfl rfl rfl rfl T (by exact cO rfl) (by exact cO rfl) (by exact cZ) (by simp [hzl]) (fun a _=>by rw [GS];exact cZ) (FQ _) (fun _ _=>cZ) I
 case hb=>exact aY (.inr rfl) _ [_] [0] T rfl (bo rfl) ⟨rfl,rfl⟩
theorem vj {a b:FI} (h:a.Perm b):br a=br b:=by
 unfold br
 exact (h.map List.length).sum_nat
theorem nW (x:Int×FI):(d5 x).length=br x.2:=by
 unfold d5
 split
 ·rw [jm];exact vj (fG _)
 ·rw [jm]
theorem pb.tail {x:Int×FI} {r:List (Int×FI)} {s:W8} (h:pb s) (hf:s.fr=x::r):pb ⟨r,s.d,s.k⟩:=⟨by have:=h.n;rw [hf] at this;simp at this ⊢;omega,fun y hy=>h.k y (by rw [hf];exact F9 _ hy),h.d⟩
theorem kz (n:Nat) (s:W8) (hs:pb s):AC gs prog 62 [eE n s] [.op 0 (some n) 0] (fun r H'=>r=.c (.tuple #[])∧H'=[eE n (bB s)]):=by
 have hsn:=hs.n
 refine ag 45 func62 fun _ _ _ _=>?_;refine dE 0 rfl fun go gd zs hzs=>?_
 have hzl:=rE hzs
 refine U 51500000501000401620519350904016 ?_;refine aX (fun h83=>?_) fun h83=>?_
 ·refine U 40010 ?_
  have hP:bB s=s:=by unfold bB;rw [jP]
  rw [hP]
  exact dj (gd:=fun z:qN s.fr=>z.1.1) (E:=qL s) (.inr rfl) _ ⟨(n,go,gd,zs),hzs⟩ [0,1,2,3] T rfl (bo rfl) ⟨rfl,rfl⟩
 refine U 51216 ?_;refine aX (fun h84=>?_) fun h84=>?_
 ·refine U 1200 ?_;refine jq (iv 23) ?_;refine U 100040 ?_
  refine aL (ak 1 (rX ⟨s.fr,s.d,24⟩ 1 2 go gd) ?_ ?_)
  exact dV
  refine U 4005 ?_
  have hf0:s.fr=[]:=Gq O
  have hP:bB s=⟨s.fr,s.d,24⟩:=by unfold bB;rw [jK,hf0]
  rw [hP]
  exact dj (gd:=fun z:qN s.fr=>z.1.1) (E:=qL ⟨s.fr,s.d,24⟩) (.inr rfl) _ ⟨(n,go,gd,zs),hzs⟩ [0,1,2,3] T rfl (bo rfl) ⟨rfl,rfl⟩
 obtain ⟨x,zr,rfl⟩:∃ x zr,zs=x::zr:=by
   cases zs with
   | nil=>simp at hzl;omega
   | cons x zr=>exact ⟨x,zr,rfl⟩
 have hfr:s.fr=x.1::zr.map Prod.fst:=by rw [← hzs];rfl
 have hxk:=hs.k x.1 (by rw [hfr];exact F2)
 have hzl:s.fr.length=zr.length+1:=by rw [← hzl];rfl
 refine jE (bag_pop 3 rfl) ?_;refine U 150904016 ?_;refine jq (iu (i:=(s.fr.length-1)) (hz:=by omega)) ?_;refine gj (aI 2) ?_;refine bY (freeze 4 rfl) ?_;refine bY (C9 16 4 (fun a _=>dL (x.1.2.getD a [])) (.c (.int .i64 x.1.1)) rfl rfl (by show J (cF 2 jz kr (x::zr).reverse (0+(s.fr.length-1) * 2+0)) _;rw [jH O hzl];exact cZ) (by show J (cF 2 jz kr (x::zr).reverse (0+(s.fr.length-1) * 2+1)) _;rw [jH O hzl];exact cZ) (by simp) (fun a b ha hb=>by obtain rfl:b=0:=O;rw [Nat.zero_add,Hv,GV];exact cZ)) ?_
 refine ay (ce (n:=2) rW rfl fun p1=>?_)
 refine aL (dC 2 ?_)
 refine U 15090401165 ?_;refine jq zq ?_;refine U 9040 ?_;refine bY (kF 1 ((s.fr.length-1) * 2) (cF 2 jz kr zr.reverse) rfl O (fun j hj=>by rw [oA O];exact cZ)) ?_
 refine aL (ak 1 (rX ⟨zr.map Prod.fst,s.d,s.k⟩ 1 2 go gd) ?_ ?_)
 ·exact (fun j hj=>by rcases j with _|_|_|j<;>first|exact cO (by simp;omega)|exact cZ)
 refine U 5 ?_;refine jE (iU n ⟨zr.map Prod.fst,s.d,s.k⟩ zr 0 1 2 3 rfl rfl rfl rfl rfl T (cO rfl) (cO rfl) cZ (by simp;omega) (fun _ _=>cZ) (FQ _) (fun _ _=>cZ)) ?_
 dsimp only [List.set_cons_zero,List.set_cons_succ,List.cons_append,List.nil_append,List.length_cons,List.length_nil,Nat.zero_add,Nat.reduceAdd]
 refine jE (freeze 5 rfl) ?_;refine jE (f8 3 (m:=2) rfl rfl T) ?_
 have hto:=hs.tail hfr
 refine Cj 5 (.rd 0 (.rd 1 (.rd 2 (.rd 3 (.one 4 .done))))) ?_;refine U 7000090000070 ?_;refine eF (bS 2) ?_
 refine mA (aD (uW x.1.1 x.1.2 hxk.1 O) ?_)
 refine DB ?_
 show bm _ _ _ _ _ _
 refine aL (dc 0 (i7 n ⟨zr.map Prod.fst,s.d,s.k⟩ x.1.1 (d5 x.1) 0 hto (by rw [nW];exact hxk.2)) ?_)
 refine U 4005 ?_
 have hP:bB s=co x.1.1 (d5 x.1) 0 ⟨zr.map Prod.fst,s.d,s.k⟩:=by unfold bB;rw [jK,hfr]
 rw [hP]
 exact aY (.inr rfl) _ [_] [0] T rfl (bo rfl) ⟨rfl,rfl⟩
end
section
variable {gs:List Nat} [x7 gs]
theorem nG {α:Type} {l:List α} {k:Nat} (d:α) (h:k<l.length):l.getD k d ∈ l:=by
 simp [List.getD,h]
theorem ny {gs:List Nat} (c:Int):c4 gs prog 114 [.c (.int .i64 c)] (.c (.bool false)):=by
 refine ag 6 func114 fun _ _ _ _=>?_;refine U 512116516 ?_
 refine jR (d4 (hv:=cB (by simp)))
def uR (a b:Int):Int:=if a<b then -1 else if b<a then 1 else 0
theorem z8 {gs:List Nat} (a b:Int):c4 gs prog 72 [.c (.int .i64 a),.c (.int .i64 b)] (.c (.int .i64 (uR a b))):=by
 refine ag 20 func72 fun _ _ _ _=>?_;refine U 16516 ?_
 refine ay (aD (ny a) ?_)
 refine U 1651 ?_
 refine ay (aD (ny b) ?_)
 refine U 516751 ?_;refine aX (fun h43=>?_) fun h43=>?_
 ·refine U 5167 ?_;refine aX (fun h44=>?_) fun h44=>?_
  ·refine U 8000300030007000516 ?_
   (exfalso;simp at *;done)
  refine U 800030007000516810 ?_
  (exfalso;simp at *;done)
 refine U 5167810 ?_;refine aX (fun h49=>?_) fun h49=>?_
 ·refine U 800030007000516 ?_
  (exfalso;simp at *;done)
 refine U 521167810 ?_;refine aX (fun h52=>?_) fun h52=>?_
 ·refine U 800030007000516 ?_
  (refine cI ?_;unfold uR;split<;>omega)
 refine U 521167810 ?_;refine aX (fun h55=>?_) fun h55=>?_
 ·refine U 800030007000516 ?_
  (refine cI ?_;unfold uR;split<;>omega)
 refine U 80007000516810 ?_
 (refine cI ?_;unfold uR;split<;>omega)
theorem wk {s:V} (h:(bI s).2=0):jT (bI s).1=true:=(pI (s:=s) (l:=(bI s).1) (by rw [← h])).1
theorem ou {l:List Int} (h:∀ n ∈ l,0≤n∧n≤2147483647):((l.map fun n=>vx n.toNat).flatten).length≤5 * l.length:=by
 induction l with
 | nil=>simp
 | cons a l ih =>
  have h1:=pw (n:=a.toNat) (by have:=h a (by simp);omega)
  have h2:=ih fun n hn=>h n (by simp [hn])
  simp at h2 ⊢
  omega
theorem sq (s:V):(mH s).length≤100:=by
 unfold mH
 split
 ·rename_i h
  obtain ⟨hl2,hl16,hall,ha,hb⟩:=vD (wk h)
  unfold Do
  have h0:=hall _ (nG (l:=(bI s).1) (k:=0) 0 O)
  have h1:=hall _ (nG (l:=(bI s).1) (k:=1) 0 O)
  have e1:=pw (n:=(40 * (bI s).1.getD 0 0+(bI s).1.getD 1 0).toNat) O
  have e2:=ou (l:=(bI s).1.drop 2) (fun n hn=>hall n (List.mem_of_mem_drop hn))
  rw [Gk] at e2
  rw [FX]
  omega
 ·simp
end
end Am
end Go.Proofs.YtnijncmifjnifaaGreatDoor
namespace Go.Proofs.YtnijncmifjnifaaGreatDoor
open Go.RowKit Go.ChangeShapes
def ga (x:String×DataW Unit):Bool:=match x.2 with
 | .iface nm (.ptr (.agg [.lit (.string _)])) => nm == "*errors.errorString"
 | _=>false
theorem uz {x : String × DataW Unit} (h : ga x = true) : ∃ text, x.2 = .iface "*errors.errorString" (.ptr (.agg [.lit (.string text)])) := by
 have ⟨n,d⟩:=x
 unfold ga at h
 dsimp only at h ⊢
 split at h
 exact ⟨_,by rw [eq_of_beq h]⟩
 ·cases h
theorem nw {P:Program} {W:World} {nm:String} {ti tp te ts:TypeId} {ms:Array (String×TypeId)} {f:Field}
  (hi:P.underlying ti=some (.interface ms)) (hrow:∀ u,P.typeName? 3 u=some nm→u=tp)
  (hp:P.underlying tp=some (.pointer te)) (he:P.underlying te=some (.struct #[f])) (hft:f.type=ts) (hfo:f.offset=0) (hs:P.underlying ts=some .string) (hc:P.cellsOf te=1) (hcs:P.cellsOf ts=1) :
  ∀ (L:List (String×DataW Unit)) (ps:List MemPlace),DataW.LaidVars P W L ps →
   (∀ b off,MemPlace.cell b off ∈ ps→(∃ c t,W.heap[b]?=some (.cells c t (0,0)))∧∀ u v,W.cell? ⟨b,off,none⟩=some (.iface u v)→Value.okWide P W .any 0 u v)→ps.Nodup →
   (∀ x ∈ L,ga x=true→(∃ text,x.2=.iface nm (.ptr (.agg [.lit (.string text)])))∧∀ g,P.globalNamed x.1=some g→(P.globals[g]?).map (·.type)=some ti) →
   ∃ al:List Addr,al.length=(L.filter ga).length∧al.Nodup∧(∀ a ∈ al,a.spot=none∧MemPlace.cell a.block a.off ∈ ps) ∧
    ∀ (i:Nat) (x:String×DataW Unit) (a:Addr),(L.filter ga)[i]?=some x→al[i]?=some a→∃ g,P.globalNamed x.1=some g∧W.cell? ⟨g,0,none⟩=some (.iface tp (.pointer (some a)))
 | [],ps,_,_,_,_=>⟨[],rfl,Ib,by simp,by simp⟩
 |(n,d)::r,ps,hv,hrows,hnd,hL=>by
  obtain ⟨g,t,cs,fuel,p,q,hg,ht,hvar,hd,hrest,rfl⟩:=hv
  have hnq:q.Nodup:=List.Nodup.sublist (List.sublist_append_right _ _) hnd
  obtain ⟨al,h1,h2,h3,h4⟩:=nw hi hrow hp he hft hfo hs hc hcs r q hrest (fun b off hm=>hrows b off (G1 _ hm)) hnq (fun x I=>hL x (F9 _ I))
  by_cases hE:ga (n,d)=true
  case neg =>
   have hE:ga (n,d)=false:=by simpa using hE
   rw [List.filter_cons_of_neg (by simp [hE])]
   exact ⟨al,h1,h2,fun a ha=>⟨(h3 a ha).1,G1 _ (h3 a ha).2⟩,h4⟩
  obtain ⟨⟨text,I⟩,hty⟩:=hL (n,d) (F2 ..) hE
  rw [List.filter_cons_of_pos hE]
  simp only at I
  subst I
  obtain rfl:=Ga ((hty g hg).symm.trans ht)
  have ⟨l⟩:=cs
  have hcell0:∀ v,l=[v]→W.cell? ⟨g,0,none⟩=some v:=fun v e=>by
   subst e
   simpa using World.var?_cell hg hvar 0
  obtain ⟨a,s,rfl,ha,_,_,rfl⟩:=errorString_of_trod hi hrow hp he hft hfo hs hc hcs hd (fun u v e=>by
   simp only at e
   subst e
   exact (hrows g 0 (by simp [MemPlace.row])).2 u v (hcell0 _ rfl))
  have hsp:a.spot=none:=World.cell?_spot ha
  have hpl:MemPlace.cell a.block a.off ∈ MemPlace.row a 1:=by simp [MemPlace.row]
  refine ⟨a::al,by simp [h1],Hi.2 ⟨fun hm=>?_,h2⟩,?_,?_⟩
  ·have hq:=(h3 a hm).2
   have:=(List.nodup_append.1 hnd).2.2 (MemPlace.cell a.block a.off) (G1 _ hpl) _ hq
   exact this rfl
  ·intro b hb
   rcases Gb.1 hb with rfl|hb
   exact ⟨hsp,List.mem_append_left _ (G1 _ hpl)⟩
   exact ⟨(h3 b hb).1,G1 _ (h3 b hb).2⟩
  ·intro i x b hi' hb
   match i,hi',hb with
   | 0,hi',hb =>
    simp only [Gx,F8] at hi' hb
    subst hi'
    subst hb
    exact ⟨g,hg,hcell0 _ rfl⟩
   | i+1,hi',hb=>exact h4 i x b (by simpa using hi') (by simpa using hb)
theorem yB (u : TypeId) (h : prog.typeName? 3 u = some "*errors.errorString") : u = 252 := by
 have e : "*errors.errorString" = "*" ++ "errors.errorString" := by decide +kernel
 exact typeName_ptr_named (nm := "errors.errorString") (by rw [← e]; kernel_rfl) (by kernel_rfl) T u (by rw [← e]; exact h)
theorem xP:prog.cellsOf 276=1:=by kernel_rfl
theorem xO:prog.cellsOf 9=1:=by kernel_rfl
theorem ov {W:World} {L:List (String×DataW Unit)} {g0:List Nat} (h:laidMetH prog L W) (h1:(L.all fun x=>x.2.handleName?.isNone)=true)
  (h3:((L.filter ga).map fun x=>prog.globalNamed x.1)=(fz g0).map some) (h4:((fz g0).map fun g=>(prog.globals[g]?).map (·.type))=List.replicate (fz g0).length (some 37))
  (ht:kX ∈ iB g0→kW ∈ iB g0→Lib.Utf8Tabs kX kW W) (hAB:((iB g0).contains kX)=((iB g0).contains kW))
  (hX:∀ t ∈ oh,t.1 ∈ iB g0→∀ (i:Nat) (v:Value),t.2[i]?=some v→W.cell? ⟨t.1,i,none⟩=some v):∃ al,cd W g0 al:=by
 rw [MakeChecks.laidMetH_plain _ _ _ h1] at h
 have ⟨ps,hv,hnd,hrows⟩:=h
 have hlen:(L.filter ga).length=(fz g0).length:=by simpa using F7 List.length h3
 have hgl:∀ (i:Nat) (x:String×DataW Unit),(L.filter ga)[i]?=some x→∃ g,(fz g0)[i]?=some g∧prog.globalNamed x.1=some g:=by
  intro i x I
  have:=F7 (fun l=>l[i]?) h3
  simp only [GQ,I,GK] at this
  have ⟨g,hg,e⟩:=FM.1 this.symm
  exact ⟨g,hg,e.symm⟩
 have ⟨al,l1,l2,l3,l4⟩:=nw underlying37 yB underlying252 underlying276 rfl rfl underlying9 xP xO L ps hv hrows hnd
  (fun x I hE=>⟨uz hE,fun g hg=>by
   obtain ⟨i,hi⟩:=Hb.1 (HA.2 ⟨I,hE⟩)
   have ⟨g',hg',e⟩:=hgl i x hi
   obtain rfl:=Ga (e.symm.trans hg)
   have:=F7 (fun l=>l[i]?) h4
   simp only [GQ,hg',GK] at this
   have hlt:i<(fz g0).length:=(FL.1 hg').1
   rw [G7,FO hlt] at this
   exact Ga this⟩)
 have hvar:∀ i g,(fz g0)[i]?=some g→W.cell? ⟨g,0,none⟩=some (ev al (i+1)):=by
  intro i g hg
  have hlt:i<(fz g0).length:=(FL.1 hg).1
  obtain ⟨x,I⟩:∃ x,(L.filter ga)[i]?=some x:=⟨(L.filter ga)[i],FW O⟩
  obtain ⟨a,ha⟩:∃ a,al[i]?=some a:=⟨al[i],FW O⟩
  have ⟨g',hg',e⟩:=hgl i x I
  obtain rfl:=Ga (hg.symm.trans hg')
  have ⟨g2,e2,hc⟩:=l4 i x a I ha
  obtain rfl:=Ga (e.symm.trans e2)
  rw [hc]
  simp [ev,ha]
 refine ⟨al,by omega,fun i j g g' hi _ hj _ e=>(HN (by have:=(FL.1 hi).1;omega) l2).1 e,fun i g hi _=>hvar i g hi,fun a ha=>(hrows a.block a.off (l3 a ha).2).1,ht,hX,fun g hg=>?_⟩
 by_cases hTX:(oh.any fun t=>Nat.beq g t.1)=true
 ·have ⟨t,ht1,ht2⟩:=GN.1 hTX
  have ht2:=Gc ht2
  subst ht2
  have hne:∀ t ∈ oh,∃ v,t.2[0]?=some v:=by
   intro t ht
   simp only [oh,Gb,GA,or_false] at ht
   rcases ht with rfl|rfl<;>exact ⟨_,rfl⟩
  have ⟨v,hv⟩:=hne t ht1
  exact World.block_lt_of_cell? W _ (hX t ht1 hg 0 v hv)
 by_cases hT:(Nat.beq g kX || Nat.beq g kW)=true
 ·have hc:kX ∈ iB g0∧kW ∈ iB g0:=by
   rcases Hh.1 hT with e|e
   ·have:=Gc e
    subst this
    have h5:(iB g0).contains kX=true:=G0.2 hg
    exact ⟨hg,G0.1 (hAB ▸ h5)⟩
   ·have:=Gc e
    subst this
    have h5:(iB g0).contains kW=true:=G0.2 hg
    exact ⟨G0.1 (hAB.symm ▸ h5),hg⟩
  have hU:=ht hc.1 hc.2
  rcases Hh.1 hT with e|e
  ·have:=Gc e
   subst this
   exact World.block_lt_of_cell? W _ (hU.1 0 T)
  ·have:=Gc e
   subst this
   exact World.block_lt_of_cell? W _ (hU.2 0 T).1
 ·have hm:g ∈ fz g0:=HA.2 ⟨(jf.1 hg).1,by
   cases hb:wT g with
   | true =>
    unfold wT at hb
    rcases Hh.1 hb with hb|hb
    exact absurd hb hT
    exact absurd hb hTX
   | false=>rfl⟩
  have ⟨i,hi⟩:=Hb.1 hm
  exact World.block_lt_of_cell? W _ (hvar i g hi)
end Go.Proofs.YtnijncmifjnifaaGreatDoor
namespace Go.Proofs.YtnijncmifjnifaaGreatDoor
open Go.RowKit Go.ChangeShapes
def qT:Go.Shelf.Ren:=⟨fun n=>n,fun|5=>5|119=>229|138=>231|139=>232|n=>n,fun|3=>29|4=>30|n=>n⟩
theorem vf:U8Types prog qT where
 t5:=underlying5
 t119:=underlying229
 t138:=underlying231
 t139:=underlying232
theorem vg:U8Extra prog qT where
 n3:=by kernel_rfl
 n4:=by kernel_rfl
 y3:=by kernel_rfl
 y4:=by kernel_rfl
 c5:=by kernel_rfl
 c119:=by kernel_rfl
 c138:=by kernel_rfl
theorem og {W : World} {L : List (String × DataW Unit)} (h : laidMetH prog L W) (h1 : (L.all fun x => x.2.handleName?.isNone) = true) {i j : Nat} (hi : L[i]? = some ("unicode/utf8.first", Lib.firstData)) (hj : L[j]? = some ("unicode/utf8.acceptRanges", Lib.acceptData)) : Lib.Utf8Tabs kX kW W := by
 rw [MakeChecks.laidMetH_plain _ _ _ h1] at h
 have ⟨ps,hv,hnd,hrows⟩:=h
 exact utf8Tabs_of_readsT (ρ:=qT) vf vg (Lib.LaidVars_reads hv _ _ (Gy hi)) (Lib.LaidVars_reads hv _ _ (Gy hj))
end Go.Proofs.YtnijncmifjnifaaGreatDoor
namespace Go.Proofs.YtnijncmifjnifaaGreatDoor
open Go.RowKit Go.ChangeShapes
def C7:Go.Shelf.Ren:=⟨fun|196=>177|259=>185|n=>n,fun|0=>0|3=>3|4=>4|5=>5|9=>9|12=>12|46=>52|53=>208|119=>229|138=>231|139=>232|n=>n,fun|3=>29|4=>30|n=>n⟩
theorem Bj:Go.Proofs.Lays.n196 prog C7:={
 mixed:=by kernel_rfl
 f196:=func177.trans (F7 some (by kernel_rfl))
 f259:=func185.trans (F7 some (by kernel_rfl))
 t0:=underlying0
 a0:=isAgg0
 z0:=sizeOf0
 v0:=zeroValue0
 t3:=underlying3
 a3:=isAgg3
 z3:=sizeOf3
 v3:=zeroValue3
 t4:=underlying4
 a4:=isAgg4
 z4:=sizeOf4
 v4:=zeroValue4
 t5:=underlying5
 a5:=isAgg5
 z5:=sizeOf5
 v5:=zeroValue5
 t9:=underlying9
 a9:=isAgg9
 z9:=sizeOf9
 v9:=zeroValue9
 t12:=underlying12
 a12:=isAgg12
 z12:=sizeOf12
 v12:=zeroValue12
 t46:=underlying52
 a46:=isAgg52
 z46:=sizeOf52
 v46:=zeroValue52
 t53:=underlying208
 a53:=isAgg208
 z53:=sizeOf208
 v53:=zeroValue208
 t119:=underlying229
 a119:=isAgg229
 z119:=sizeOf229
 t138:=underlying231
 a138:=isAgg231
 z138:=sizeOf231
 v138:=zeroValue231
 t139:=underlying232
 a139:=isAgg232
 z139:=sizeOf232
 v139:=zeroValue232
 g3:=by kernel_rfl
 g4:=by kernel_rfl }
namespace Am
class pf (l:List Nat):Prop where
 a:kX ∈ iB l
 b:kW ∈ iB l
instance okTT:pf Eg:=⟨by decide,by decide⟩
theorem u9 [pf gs] (l:V) (hl:l.length≤9223372036854775807):c4 gs prog 177 [bi l] (.c (.bool (Lib.validD l))) :=
 mr fun al w St vals hs hv hr=>by
  have h0:vals.getD 0 undef=.string ⟨l.toArray⟩:=hr 0
  rw [AB hv,h0]
  exact Any.utf8_ValidString Bj ⟨l.toArray⟩ w hl (hs.tab pf.a pf.b)
end Am
end Go.Proofs.YtnijncmifjnifaaGreatDoor
namespace Go.Proofs.YtnijncmifjnifaaGreatDoor
namespace Am
open Go.RowKit
section
open Go.RowKit Go.Lib
theorem lu (l:V) (i j:Nat):bt (l.drop i) j=bt l (i+j):=by simp [bt,List.getD]
theorem Cz (l:V) (i:Nat):Utf8.decode ⟨l.toArray⟩ i=c6 (l.drop i):=by
 unfold c6
 rw [Lib.decode_at,eO,eO,eO,eO,lu,lu,lu,lu,Gk]
 rfl
theorem z6 {d:V} (hd:d≠[]):(c6 d).2≤d.length:=by
 have hp:=GB.2 hd
 unfold c6 Lib.decodeN
 repeat' split
 all_goals first|(simp only;omega)|omega
end
theorem rg [pf gs] (l:V) (hl:l.length≤1000000000):c4 gs prog 152 [bi l] (.c (.bool (fN l))):=by
 refine ag 18 func152 fun _ _ _ _=>?_;refine U 167516 ?_
 refine ay (zR rfl rfl underlying9 rfl rfl (fun p1=>?_))
 refine U 205 ?_;refine aG (α:=Nat) [2,4,7,8,9,10,11,12,13,14,15] (fun i=>[]) (fun i=>[(some p1,.obj (iN ⟨l.toArray⟩ i))]) (fun i=>i≤l.length∧ke (l.drop i)=ke l) (fun i=>l.length-i) (0) ?_ (fun _=>rfl) ?_ ?_ ?_
 exact ⟨F4 _,rfl⟩
 exact .nil
 exact .same .nil
 ·rintro i ⟨hi,he⟩
  refine dU ?_
  refine vw (aA rfl) (B6 rfl rfl rfl rfl rfl (fun n23=>?_) (fun n23=>?_))
  ·refine U 51900620810900075900 ?_
   have hd:=Cz l i
   have hlt:i<l.length:=n23
   have hne:l.drop i≠[]:=by intro e;have:=F7 List.length e;simp at this;omega
   have hw:=eA (l.drop i)
   have hwl:=z6 hne
   simp only [Gk] at hwl
   rw [← hd] at hw hwl
   refine U 1216 ?_;refine aS 12 (fun g24=>?_) fun g24=>?_
   ·refine U 8000300050003000500070005169000510000000044 ?_;refine cB ?_
    rw [iK,← he,gC hne,← hd,FO ?_]
    rfl
    ·unfold mn;simp only [GE,FT];omega
   refine U 550021 ?_;refine aX (fun h24=>?_) fun h24=>?_
   ·refine U 800030005000300050007000516 ?_;refine cB ?_
    rw [iK,← he,gC hne,← hd,FO ?_]
    rfl
    ·unfold mn;simp only [GE,FT];omega
   refine U 840010 ?_
   refine aH (i+(Utf8.decode ⟨l.toArray⟩ i).2) ?_ ?_ (h5:=?_) (h7:=?_)
   ·refine ⟨by omega,?_⟩
    have hb:¬ mn (Utf8.decode ⟨l.toArray⟩ i).1=true:=by unfold mn;simp only [GE,FT];omega
    rw [← he,gC hne,← hd,FN hb,List.drop_drop]
   show l.length-(i+(Utf8.decode ⟨l.toArray⟩ i).2)<l.length-i;omega
   exact .nil
   exact .same .nil
  ·refine U 168400020002000600030075900 ?_
   refine ay (aD (u9 l O) ?_)
   refine U 8000700051 ?_;refine cB ?_
   have e:l.drop i=[]:=H4 (Nat.le_of_not_lt n23)
   rw [iK,← he,e]
   rfl
section
variable {gs:List Nat} [du gs]
end
section
variable {gs:List Nat} [cw gs]
end
end Am
end Go.Proofs.YtnijncmifjnifaaGreatDoor
