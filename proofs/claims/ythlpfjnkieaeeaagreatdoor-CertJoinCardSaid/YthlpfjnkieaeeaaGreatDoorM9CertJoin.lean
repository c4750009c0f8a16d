/- What the law leans on, part 9: W11a, W11r, W05r, P08k, P19b, P19c, W08q, W08r, W08s, W08t, W05i, W08s7, W09u, W19a, W19b, W19c, W11w, W11g, W11h, W08s9, W11v, W11s, L11, W11j, W11k, L11k -/
import Derived.Test.YthlpfjnkieaeeaaGreatDoorM8CertJoin

set_option maxRecDepth 100000
namespace Go.Proofs.YthlpfjnkieaeeaaGreatDoor
set_option linter.unusedVariables false
namespace Am
open Go.RowKit
section
open Go.RowKit Cal
def certF (c:C11):Nat→CV:=fl [.c (.int .i64 c.se),strC c.iss,.c (.int .i64 c.ge),.c (.int .i64 c.who.1),strC c.who.2.1,strC c.who.2.2,.c (.int .i64 c.nb),.c (.int .i64 c.na),strC c.ky,.c (.int .i64 c.us),lsC c.al]
theorem within11_ac {gs:List Nat} (n x y:Int):ACp gs Tryz.prog 107 [.c (.int .i64 n),.c (.int .i64 x),.c (.int .i64 y)] (.c (.bool (inB x n y))):=by
 refine ac_of 15 Tryz.func107 rfl rfl rfl (fun al w0 F0 St0=>?_)
 refine jU 12116516 ?_;refine jqsp 10 (fun g22=>?_) fun g22=>?_
 ·refine jU 518000211 ?_
  refine jR (jrt (hv:=?_))
  refine cB ?_
  unfold inB
  (simp_all;done)
 refine jU 51500444 ?_
 refine jR (jrt (hv:=?_))
 refine cB ?_
 unfold inB
 (rw [Bool.eq_iff_iff];simp;omega)
theorem key11_ac {gs:List Nat} [Ok9 gs] (l:List UInt8):ACp gs Tryz.prog 108 [strC l] (.c (.bool (hexOk l))):=by
 refine ac_of 12 Tryz.func108 rfl rfl rfl (fun al w0 F0 St0=>?_)
 refine jU 16516 ?_
 refine jqe (jecP (mnum_ac l) ?_)
 refine jU 51500000165119009001 ?_
 refine jR (jrt (hv:=?_))
 refine cB ?_
 cases h:hexOk l <;> simp
set_option maxHeartbeats 4000000 in
theorem right11_ac {gs:List Nat} [Ok9 gs] (c:C11) (hn:c.al.length≤1000):ACp gs Tryz.prog 47 [.agg 11 (certF c)] (.c (.bool (rightC c))):=by
 refine ac_of 83 Tryz.func47 rfl rfl rfl (fun al w0 F0 St0=>?_)
 refine jcr ?_
 refine jqe (jebx 11 fun p1=>?_)
 refine jU 51 ?_;refine jE (blk_ent 0 (m:=11) (F:=certF c) rfl (by decide) (fun _=>rfl) (fun j hj=>CEnt.of_eq (fl_map _ hj))) ?_;refine jcr ?_;refine jq (jrfa 10 1 false) ?_;refine jU 67512350 ?_;refine jq (jrfa 10 1 false) ?_;refine jU 2051350 ?_;refine l_loop (α:=Nat) [3,4,5,14,15,16,17,18,19,20,21,22,23,24,25,26,27,28,29,30,31,32,33,34,35,36,37,38] (fun i=>[(3,.c (.bool (decide (c.al.length≤8) && risesTo c.al i))),(14,.c (.int .i64 (i:Nat)))]) (fun i=>[(p1,.blk 11 (certF c))]) (fun i=>i≤c.al.length) (fun i=>c.al.length-i) (0) ?_ (fun _=>rfl) ?_ ?_ ?_
 ·exact Nat.zero_le _
 ·exact .cons (cB (by (simp [risesTo];omega))) (.cons cZ .nil)
 ·exact .same .nil
 ·rintro i (hi:i≤c.al.length)
  refine jU 7526 ?_;refine jcc (fun h33=>?_) fun h33=>?_
  ·refine jU 112005116070016207810 ?_;refine jqsp 20 (fun g34=>?_) fun g34=>?_
   rotate_left
   ·refine jU 8519200840051500444444444444150044 ?_
    refine jlend (i+1) ?_ ?_ (h5:=?_) (h7:=?_)
    ·show i+1≤c.al.length;omega
    ·show c.al.length-(i+1)<c.al.length-i;omega
    ·exact .cons (cB (by show _=(decide (c.al.length≤8) && (risesTo c.al i && okA c.al i));unfold okA;(simp_all;done))) (.cons (cI (by omega)) .nil)
    ·exact .same .nil
   refine jU 1 ?_
   refine jqe (jecP (label_ac (c.al.getD i [])) ?_)
   refine jU 18000 ?_;refine jqsp 24 (fun g34_2=>?_) fun g34_2=>?_
   rotate_left
   ·refine jU 8519200840051500444444444444 ?_
    refine jlend (i+1) ?_ ?_ (h5:=?_) (h7:=?_)
    ·show i+1≤c.al.length;omega
    ·show c.al.length-(i+1)<c.al.length-i;omega
    ·exact .cons (cB (by show _=(decide (c.al.length≤8) && (risesTo c.al i && okA c.al i));unfold okA;(simp_all;done))) (.cons (cI (by omega)) .nil)
    ·exact .same .nil
   refine jU 121 ?_;refine jqsp 27 (fun g34_3=>?_) fun g34_3=>?_
   ·refine jU 85192008400518000800044444444 ?_
    refine jlend (i+1) ?_ ?_ (h5:=?_) (h7:=?_)
    ·show i+1≤c.al.length;omega
    ·show c.al.length-(i+1)<c.al.length-i;omega
    ·exact .cons (cB (by show _=(decide (c.al.length≤8) && (risesTo c.al i && okA c.al i));unfold okA;(simp_all;done))) (.cons (cI (by omega)) .nil)
    ·exact .same .nil
   refine jq (jrfa 10 1 false) ?_;refine jU 9150 ?_;refine jq (jri (i:=(i-1)) (hz:=by omega)) ?_;refine jU 8519200840051800050060000160 ?_
   refine jlend (i+1) ?_ ?_ (h5:=?_) (h7:=?_)
   ·show i+1≤c.al.length;omega
   ·show c.al.length-(i+1)<c.al.length-i;omega
   ·exact .cons (cB (by show _=(decide (c.al.length≤8) && (risesTo c.al i && okA c.al i));unfold okA;(simp_all;done))) (.cons (cI (by omega)) .nil)
   ·exact .same .nil
  refine jU 84000200020006000 ?_
  have hil:i=c.al.length:=by omega
  refine jU 50200000006 ?_
  refine jqe (jecP (within11_ac _ _ _) ?_)
  refine jU 1 ?_;refine jqsp 42 (fun g36=>?_) fun g36=>?_
  rotate_left
  ·refine jU 1165150044444 ?_;refine jqsp 50 (fun g37=>?_) fun g37=>?_
   ·refine jU 5150044415004441500444150044415004441500444180001 ?_
    refine jR (jrt (hv:=?_))
    refine cB ?_
    unfold rightC altsM
    rw [← hil]
    (simp_all;done)
   refine jU 515004441500444150044415004441500444150044415004 ?_
   refine jR (jrt (hv:=?_))
   refine cB ?_
   unfold rightC altsM
   rw [← hil]
   (simp_all;done)
  refine jq (jrfa 7 1 false) ?_;refine jU 502000000050 ?_
  refine jqe (jecP (within11_ac _ _ _) ?_)
  refine jU 116518000 ?_;refine jqsp 50 (fun g37=>?_) fun g37=>?_
  rotate_left
  ·refine jU 515004441500444150044415004441500444150044415004 ?_
   refine jR (jrt (hv:=?_))
   refine cB ?_
   unfold rightC altsM
   rw [← hil]
   (simp_all;done)
  refine jU 180001 ?_;refine jqsp 53 (fun g37_2=>?_) fun g37_2=>?_
  rotate_left
  ·refine jU 5150044415004441500444150044415004441500444 ?_
   refine jR (jrt (hv:=?_))
   refine cB ?_
   unfold rightC altsM
   rw [← hil]
   (simp_all;done)
  refine jU 5090 ?_
  refine jqe (jecP (within11_ac _ _ _) ?_)
  refine jU 18000 ?_;refine jqsp 58 (fun g37_3=>?_) fun g37_3=>?_
  rotate_left
  ·refine jU 515004441500444150044415004441500444 ?_
   refine jR (jrt (hv:=?_))
   refine cB ?_
   unfold rightC altsM
   rw [← hil]
   (simp_all;done)
  refine jU 501000 ?_
  refine jqe (jecP (within11_ac _ _ _) ?_)
  refine jU 18000 ?_;refine jqsp 63 (fun g37_4=>?_) fun g37_4=>?_
  rotate_left
  ·refine jU 51500444150044415004441500444 ?_
   refine jR (jrt (hv:=?_))
   refine cB ?_
   unfold rightC altsM
   rw [← hil]
   (simp_all;done)
  refine jq (jrfa 9 1 false) ?_;refine jU 50 ?_
  refine jqe (jecP (within11_ac _ _ _) ?_)
  refine jU 18000 ?_;refine jqsp 68 (fun g37_5=>?_) fun g37_5=>?_
  rotate_left
  ·refine jU 5150044415004441500444 ?_
   refine jR (jrt (hv:=?_))
   refine cB ?_
   unfold rightC altsM
   rw [← hil]
   (simp_all;done)
  refine jU 50100 ?_
  refine jqe (jecP (key11_ac _) ?_)
  refine jU 18000 ?_;refine jqsp 73 (fun g37_6=>?_) fun g37_6=>?_
  rotate_left
  ·refine jU 515004441500444 ?_
   refine jR (jrt (hv:=?_))
   refine cB ?_
   unfold rightC altsM
   rw [← hil]
   (simp_all;done)
  refine jq (jrfa 8 1 false) ?_;refine jU 50 ?_
  refine jqe (jecP (key11_ac _) ?_)
  refine jU 18000 ?_;refine jqsp 78 (fun g37_7=>?_) fun g37_7=>?_
  ·refine jq (jrfa 3 3 true) ?_;refine jqo (jrdoA 3) ?_
   refine jqe (jecP (nright_ac c.who) ?_)
   refine jU 518000 ?_
   refine jR (jrt (hv:=?_))
   refine cB ?_
   unfold rightC altsM
   rw [← hil]
   (simp_all;done)
  refine jU 51500444 ?_
  refine jR (jrt (hv:=?_))
  refine cB ?_
  unfold rightC altsM
  rw [← hil]
  (simp_all;done)
end
section
open Go.RowKit Cal
section
variable {P:Program} {G:Gh} {o:Oper} {s:AS} {t u:TypeId} {x y:Operand} {a b:List UInt8}
end
end
section
def mB (at_:Nat):Nat:=if at_=0 then 2147483727 else 2147483647
def glueN (l:List Nat) (p:List Nat×Nat):List Nat×Nat:=if p.2≠0 then ([],p.2) else (l++p.1,0)
def ofN (l:List Nat):List Int:=l.map Int.ofNat
structure AtN (b:List UInt8) (a:Nat) (nums:List Nat):Prop where
 le:a≤b.length
 n0:nums.length≤a
 ne:a≠0→nums≠[]
 bd:∀ n ∈ nums,n≤2147483727
 eq:numsM 2147483727 b=glueN nums (numsM (mB a) (b.drop a))
end
section
open Go.RowKit Cal

end
section
open Go.RowKit Cal
def rightF (f:Fd) (v:V4):Bool :=
 if f.call=0 then rightS v.who else if f.call=3∨f.call=4 then decide (f.least≤v.n) && decide (v.n≤f.most) else
 if f.call=6 then decide (f.least≤(v.b.length:Nat)) && decide ((v.b.length:Nat)≤f.most) else if f.call=7 then labM v.t else
 if f.call=9 then decide (0≤v.n) && decide (v.n≤253402300799) else true
def rightFs:List Fd→List V4→Bool
 | f::fs,v::vs=>rightF f v && rightFs fs vs
 | _,_=>true
def specR (kind:Int) (vs:List V4):Bool :=
 if kind=2 then (decide ((vs.getD 5 V4.z).b.length=0) || decide (0<(vs.getD 4 V4.z).b.length)) && (decide ((vs.getD 4 V4.z).b.length=0) || decide ((vs.getD 3 V4.z).n=1))
 else if kind=3 then decide ((vs.getD 3 V4.z).n≤(vs.getD 4 V4.z).n) else true
def rightRec (kind:Int) (fs:List Fd) (vs:List V4):Bool:=rightFs fs vs && specR kind vs
def NormF (f:Fd) (v:V4):Prop:=(f.call=0∧v=⟨0,[],[],v.who⟩)∨((f.call=3∨f.call=4)∧v=⟨v.n,[],[],zeroS⟩)∨(f.call=6∧v=⟨0,[],v.b,zeroS⟩)∨(f.call=7∧v=⟨0,v.t,[],zeroS⟩)∨(f.call=9∧v=⟨v.n,[],[],zeroS⟩)
def NormFs:List Fd→List V4→Prop
 | [],[]=>True
 | f::fs,v::vs=>NormF f v∧NormFs fs vs
 | _,_=>False
def vE (kind:Int):VV:=⟨4,kind,false,[],[]⟩
def aK (kind:Int):AA:=⟨4,0,kind,kind⟩
def recX (kind:Int) (fs:List Fd) (vs:List V4):List (Int×List UInt8):=(10,putN kind)::List.zipWith fdX fs vs
def recB (kind:Int) (fs:List Fd) (vs:List V4):List UInt8:=putL 48 (putL 10 (putN kind)++encFs fs vs)
def putRec (kind:Int) (fs:List Fd) (vs:List V4):W8:=closeV (putFds fs vs (doW (vE kind) (doW (w1 48) w00)))
def rputRec (kind:Int) (fs:List Fd) (vs:List V4):R8:=rdoS w2 (rputFds fs vs (rdoS (vE kind) (rdoS (w1 48) r00)))
def KindOk (kind:Int):Prop:=0≤kind∧kind≤100
section
variable {kind:Int} {fs:List Fd} {vs:List V4}
end
def readRec (kind:Int) (fs:List Fd) (b:List UInt8):List V4×Nat :=
 let r1:=readR aL [b] (depthM b).2
 let r2:=readR (aK kind) r1.l r1.k
 let x:=readFs fs r2.l r2.k
 let r4:=readR aE x.1.1 x.1.2
 (x.2,endK r4.l r4.k)
def recM (kind:Int) (fs:List Fd) (b:List UInt8):List V4×Nat :=
 if (readRec kind fs b).2≠0 then (List.replicate fs.length V4.z,(readRec kind fs b).2) else if rightRec kind fs (readRec kind fs b).1=false then (List.replicate fs.length V4.z,4) else ((readRec kind fs b).1,0)
section
variable {kind:Int} {fs:List Fd} {vs:List V4}
end
def fsCase:List Fd:=[⟨0,0,0⟩,⟨6,1,4096⟩,⟨9,0,0⟩,⟨4,0,2⟩,⟨6,0,4096⟩,⟨6,0,4096⟩]
def fsAuth:List Fd:=[⟨3,1,1048576⟩,⟨6,16,64⟩,⟨4,1,4⟩,⟨9,0,0⟩,⟨9,0,0⟩,⟨9,0,0⟩,⟨3,0,1099511627776⟩]
def fsMark:List Fd:=[⟨3,1,1048576⟩,⟨3,1,1099511627776⟩,⟨9,0,0⟩,⟨9,0,0⟩]
def fsTick:List Fd:=[⟨7,1,24⟩,⟨6,32,32⟩,⟨9,0,0⟩]
def fsIss:List Fd:=[⟨6,1,4096⟩,⟨6,0,4096⟩]
instance (f:Fd):Decidable (OkF f):=by unfold OkF;infer_instance
def kindB (b:List UInt8):Int :=
 if (recM 2 fsCase b).2=0 then 2 else if (recM 3 fsAuth b).2=0 then 3 else if (recM 4 fsMark b).2=0 then 4 else if (recM 7 fsTick b).2=0 then 7 else if (recM 6 fsIss b).2=0 then 6 else 0
end
section
open Go.RowKit Cal

end
section
variable {gs:List Nat} [Ok9 gs]
open Go.RowKit Cal

def rqF (l:List (List UInt8)) (k:Nat):Nat→CV:=fl [lbC l,.c (.int .i64 (k:Nat))]
def rqE (n:Nat) (l:List (List UInt8)) (k:Nat):Option Nat×Res:=(some n,.blk 2 (rqF l k))
end
section
variable {gs:List Nat} [Ok9 gs]
open Go.RowKit Cal

def nxK8 (tag:Int) (l:List (List UInt8)):Nat:=if (nextM (nowL l)).e=0∧tag≠0∧((nextM (nowL l)).tag:Int)≠tag then 5 else (nextM (nowL l)).e
end
section
variable {gs:List Nat} [Ok9 gs]
open Go.RowKit Cal

def SaidQ (a:AA) (b:List UInt8):CV→List (Option Nat×Res)→Prop:=fun r H'=>(∃ v,r=.tup 2 (fl [valC v,.c (.int .i64 ((saidM a b).2:Nat))])∧((saidM a b).2=0→v=(saidM a b).1))∧H'=[]
def GetC (gs:List Nat) (P:Program) (f:FuncId):Prop:=∀ b:List UInt8,b.length≤1000000→ACp gs P f [bsC b] (.tup 2 (fl [isC (getA b).1,.c (.int .i64 ((getA b).2:Nat))]))
end
section
variable {gs:List Nat} [Ok9 gs]
open Go.RowKit Cal
end
section
variable {gs:List Nat}

def preS (N k:Nat):List UInt8:=if k=0 then sepL N else sepHi (N / 128 ^ k)
def sepD (q i:Nat):UInt8:=if i=0 then UInt8.ofNat (q % 128) else UInt8.ofNat (q % 128+128)
end
section
open Go.RowKit Cal

end
section
variable {gs:List Nat} [OkG gs] [OkT gs]
open Go.RowKit Cal

def zS:Nat→CV:=fun _=>.top
end
section
variable {gs:List Nat} [OkG gs] [OkT gs]
open Go.RowKit Cal

section
variable (n:Nat) (l:List (List UInt8)) (k:Nat)
theorem readF_g {f:Fd} (hc:f.call≠0):readF f l k=(((readR (fdA f) l k).l,(readR (fdA f) l k).k),⟨(readR (fdA f) l k).v.n,(readR (fdA f) l k).v.t,(readR (fdA f) l k).v.b,zeroS⟩):=by unfold readF;rw [if_neg hc]
theorem octF_ac {gs:List Nat} [Ok9 gs] (least most:Int) (hl:0<l.length∧l.length≤1000000) (hb:(nowL l).length≤10000000):AC gs Tryz.prog 66 [rdO n l k] [.op 0 (some n) 0,.c (.int .i64 least),.c (.int .i64 most)] (fun r H'=>r=bsC (readF ⟨6,least,most⟩ l k).2.b∧H'=[rdO n (readF ⟨6,least,most⟩ l k).1.1 (readF ⟨6,least,most⟩ l k).1.2]):=by
 have h:=octets08_ac (gs:=gs) n l k least most hl hb
 rw [readF_g l k (show ¬ (6:Int)=0 by decide),readR_g vB [] rfl (t:=4) (f:=octM least most) (by show ¬ (6:Int)=1;decide) (by show ¬ (6:Int)=2;decide) (by show ¬ (6:Int)=11;decide) (by funext b;rfl) rfl]
 exact h
end
def recC (kind:Int) (fR fP fG:FuncId):CV:=.agg 4 (fl [.c (.int .i64 kind),.fn fR 0 fun _=>.top,.fn fP 0 fun _=>.top,.fn fG 0 fun _=>.top])
end
section
open Go.RowKit Cal
def caseF (vs:List V4):Nat→CV:=fl [.c (.int .i64 (vs.getD 0 V4.z).who.1),strC (vs.getD 0 V4.z).who.2.1,strC (vs.getD 0 V4.z).who.2.2,bsC (vs.getD 1 V4.z).b,.c (.int .i64 (vs.getD 2 V4.z).n),.c (.int .i64 (vs.getD 3 V4.z).n),bsC (vs.getD 4 V4.z).b,bsC (vs.getD 5 V4.z).b]
def authF (vs:List V4):Nat→CV:=fl [.c (.int .i64 (vs.getD 0 V4.z).n),bsC (vs.getD 1 V4.z).b,.c (.int .i64 (vs.getD 2 V4.z).n),.c (.int .i64 (vs.getD 3 V4.z).n),.c (.int .i64 (vs.getD 4 V4.z).n),.c (.int .i64 (vs.getD 5 V4.z).n),.c (.int .i64 (vs.getD 6 V4.z).n)]
def markF (vs:List V4):Nat→CV:=fl [.c (.int .i64 (vs.getD 0 V4.z).n),.c (.int .i64 (vs.getD 1 V4.z).n),.c (.int .i64 (vs.getD 2 V4.z).n),.c (.int .i64 (vs.getD 3 V4.z).n)]
def tickF (vs:List V4):Nat→CV:=fl [strC (vs.getD 0 V4.z).t,bsC (vs.getD 1 V4.z).b,.c (.int .i64 (vs.getD 2 V4.z).n)]
def issF (vs:List V4):Nat→CV:=fl [bsC (vs.getD 0 V4.z).b,bsC (vs.getD 1 V4.z).b]
end
section
open Go.RowKit Cal
section
variable (n:Nat) (w:W8) (least most:Int) (v:V4)
theorem doW_g {kd:Int} (h1:kd≠1) (h2:kd≠2) (h3:kd≠11) (nn:Int) (b t:List UInt8) (w:W8):doW ⟨kd,nn,false,b,t⟩ w=putW (bodyV ⟨kd,nn,false,b,t⟩).1 (bodyV ⟨kd,nn,false,b,t⟩).2.1 (bodyV ⟨kd,nn,false,b,t⟩).2.2 w:=by
 unfold doW
 rw [if_neg h1,if_neg h2,if_neg h3]
theorem putFd_g {f:Fd} (h:f.call≠0):putFd f v w=doW (fdV f v) w:=by unfold putFd;rw [if_neg h]
theorem octP_ac {gs:List Nat} [Ok9 gs] (hs:OkW w) (hb:v.b.length≤1000000):AC gs Tryz.prog 56 [wrO n w] [.op 0 (some n) 0,bsC v.b] (fun r H'=>r=.c (.tuple #[])∧H'=[wrO n (putFd ⟨6,least,most⟩ v w)]):=by
 have e:putFd ⟨6,least,most⟩ v w=putW 4 v.b 0 w:=by rw [putFd_g _ _ (show ¬ (6:Int)=0 by decide)];exact doW_g (kd:=6) (by decide) (by decide) (by decide) _ _ _ _
 rw [e]
 exact octetsW_ac n w v.b hb hs
theorem momP_ac {gs:List Nat} [Ok9 gs] (hs:OkW w):AC gs Tryz.prog 101 [wrO n w] [.op 0 (some n) 0,.c (.int .i64 v.n)] (fun r H'=>r=.c (.tuple #[])∧H'=[wrO n (putFd ⟨9,least,most⟩ v w)]):=by
 have e:putFd ⟨9,least,most⟩ v w=putW 24 (if inT v.n then bodyL (ofM v.n) else []) (ofE v.n) w:=by rw [putFd_g _ _ (show ¬ (9:Int)=0 by decide)];exact doW_g (kd:=9) (by decide) (by decide) (by decide) _ _ _ _
 rw [e]
 exact momentW_ac n w v.n hs
theorem intP_ac {gs:List Nat} [Ok9 gs] (hs:OkW w) (hz:-9223372036854775808≤v.n∧v.n≤9223372036854775807):AC gs Tryz.prog 97 [wrO n w] [.op 0 (some n) 0,.c (.int .i64 v.n)] (fun r H'=>r=.c (.tuple #[])∧H'=[wrO n (putFd ⟨3,least,most⟩ v w)]):=by
 have e:putFd ⟨3,least,most⟩ v w=putW 2 (putN v.n) 0 w:=by rw [putFd_g _ _ (show ¬ (3:Int)=0 by decide)];exact doW_g (kd:=3) (by decide) (by decide) (by decide) _ _ _ _
 rw [e]
 exact intW_ac n w v.n hz hs
end
end
section
open Go.RowKit Cal
def iV (z:Int):CV:=.c (.int .i64 z)
theorem rowsI_ac {gs:List Nat} [Ok9 gs] {f:FuncId} (hc:calleeB Tryz.prog f=true) (n:Nat) (tag:Int) (ws:W8) (l:List Int) (sG:Nat→W8) (h0:OkW ws) (hs:sG 0=openW tag ws) (hok:∀ i,i≤l.length→OkW (sG i)) (hl:l.length≤1000000) (hf:∀ i,i<l.length→AC gs Tryz.prog f [wrO n (sG i)] [.op 0 (some n) 0,iV (l.getD i 0)] (fun r H'=>r=.c (.tuple #[])∧H'=[wrO n (sG (i+1))])) :
  AC gs Tryz.prog 100 [wrO n ws] [.op 0 (some n) 0,.c (.int .i64 tag),isC l,.fn f 0 fun _=>.top] (fun r H'=>r=.c (.tuple #[])∧H'=[wrO n (closeV (sG l.length))]):=by
 refine ac_of 26 Tryz.func100 rfl rfl rfl (fun al w0 F0 St0=>?_)
 refine jU 116 ?_
 refine jqm (jmcH 0 (openW_ac n ws tag h0) ?_)
 rintro _ _ ⟨rfl,rfl⟩
 refine ⟨_,_,rfl,cZ,?_⟩
 refine jU 205131675 ?_;refine l_loop (α:=Nat) [9,15,16,17,18,19,20,21,22,23] (fun i=>[(15,.c (.int .i64 (i:Nat)))]) (fun i=>[wrO n (sG i)]) (fun i=>i≤l.length) (fun i=>l.length-i) (0) ?_ (fun _=>rfl) ?_ ?_ ?_
 ·exact Nat.zero_le _
 ·exact .cons cZ .nil
 ·rw [hs];exact HEnt.refl _
 ·rintro i (hi:i≤l.length)
  refine jU 7526 ?_;refine jcc (fun h305=>?_) fun h305=>?_
  rotate_left
  ·refine jU 84000200020006000 ?_
   have hie:i=l.length:=by omega
   subst hie
   refine jU 1200 ?_
   refine jqm (jmcH 0 (closeW_ac n (sG l.length) (hok _ (Nat.le_refl _))) ?_)
   rintro _ _ ⟨rfl,rfl⟩
   refine ⟨_,_,rfl,cZ,?_⟩
   refine jU 5 ?_
   exact end_own (.inr rfl) _ [_] [0] (by decide) rfl (res_0 rfl) ⟨rfl,rfl⟩
  refine jU 11120051607006207810 ?_
  refine jqm (m_callHV1 (i:=0) rfl rfl (by assumption) rfl (hf i (by omega)) (.cons cP (.cons cZ .nil)) rfl rfl ?_)
  rintro _ _ ⟨rfl,rfl⟩
  refine ⟨_,rfl,?_⟩
  refine jU 851920084005 ?_
  refine jlend (i+1) ?_ ?_ (h5:=?_) (h7:=?_)
  ·show i+1≤l.length;omega
  ·show l.length-(i+1)<l.length-i;omega
  ·exact .cons (cI (by omega)) .nil
  ·exact HEnt.refl _
theorem rowsT_ac {gs:List Nat} [Ok9 gs] {f:FuncId} (hc:calleeB Tryz.prog f=true) (n:Nat) (tag:Int) (ws:W8) (l:List (List UInt8)) (sG:Nat→W8) (h0:OkW ws) (hs:sG 0=openW tag ws) (hok:∀ i,i≤l.length→OkW (sG i)) (hl:l.length≤1000000) (hf:∀ i,i<l.length→AC gs Tryz.prog f [wrO n (sG i)] [.op 0 (some n) 0,strC (l.getD i [])] (fun r H'=>r=.c (.tuple #[])∧H'=[wrO n (sG (i+1))])) :
  AC gs Tryz.prog 103 [wrO n ws] [.op 0 (some n) 0,.c (.int .i64 tag),lsC l,.fn f 0 fun _=>.top] (fun r H'=>r=.c (.tuple #[])∧H'=[wrO n (closeV (sG l.length))]):=by
 refine ac_of 26 Tryz.func103 rfl rfl rfl (fun al w0 F0 St0=>?_)
 refine jU 116 ?_
 refine jqm (jmcH 0 (openW_ac n ws tag h0) ?_)
 rintro _ _ ⟨rfl,rfl⟩
 refine ⟨_,_,rfl,cZ,?_⟩
 refine jU 205131675 ?_;refine l_loop (α:=Nat) [9,15,16,17,18,19,20,21,22,23] (fun i=>[(15,.c (.int .i64 (i:Nat)))]) (fun i=>[wrO n (sG i)]) (fun i=>i≤l.length) (fun i=>l.length-i) (0) ?_ (fun _=>rfl) ?_ ?_ ?_
 ·exact Nat.zero_le _
 ·exact .cons cZ .nil
 ·rw [hs];exact HEnt.refl _
 ·rintro i (hi:i≤l.length)
  refine jU 7526 ?_;refine jcc (fun h305=>?_) fun h305=>?_
  rotate_left
  ·refine jU 84000200020006000 ?_
   have hie:i=l.length:=by omega
   subst hie
   refine jU 1200 ?_
   refine jqm (jmcH 0 (closeW_ac n (sG l.length) (hok _ (Nat.le_refl _))) ?_)
   rintro _ _ ⟨rfl,rfl⟩
   refine ⟨_,_,rfl,cZ,?_⟩
   refine jU 5 ?_
   exact end_own (.inr rfl) _ [_] [0] (by decide) rfl (res_0 rfl) ⟨rfl,rfl⟩
  refine jU 11120051607006207810 ?_
  refine jqm (m_callHV1 (i:=0) rfl rfl (by assumption) rfl (hf i (by omega)) (.cons cP (.cons cZ .nil)) rfl rfl ?_)
  rintro _ _ ⟨rfl,rfl⟩
  refine ⟨_,rfl,?_⟩
  refine jU 851920084005 ?_
  refine jlend (i+1) ?_ ?_ (h5:=?_) (h7:=?_)
  ·show i+1≤l.length;omega
  ·show l.length-(i+1)<l.length-i;omega
  ·exact .cons (cI (by omega)) .nil
  ·exact HEnt.refl _
section
variable {gs:List Nat} [Ok9 gs]
theorem id11_ac (n:Nat) (w:W8) (s:List UInt8) (hs:OkW w) (h:hexOk s=true):AC gs Tryz.prog 98 [wrO n w] [.op 0 (some n) 0,strC s] (fun r H'=>r=.c (.tuple #[])∧H'=[wrO n (putFd fId (vB4 (hexB s)) w)]):=by
 have hb:=mnum_ac (gs:=gs) s
 rw [if_pos h,if_pos h] at hb
 have hl:=(hexOk_two h).1
 have hx:=hexB_len s
 have hf:=failW_ac (gs:=gs) n w 0
 rw [failW_zero] at hf
 refine ac_of 17 Tryz.func98 rfl rfl rfl (fun al w0 F0 St0=>?_)
 refine jU 16 ?_
 refine jqe (jecP hb ?_)
 refine jU 1165119009001 ?_
 refine jqm (jmcH 0 hf ?_)
 rintro _ _ ⟨rfl,rfl⟩
 refine ⟨_,_,rfl,cZ,?_⟩
 refine jU 112005 ?_
 refine jqm (jmcH 0 (octP_ac n w 16 16 (vB4 (hexB s)) hs (by show (hexB s).length≤1000000;omega)) ?_)
 rintro _ _ ⟨rfl,rfl⟩
 refine ⟨_,_,rfl,cZ,?_⟩
 refine jU 5 ?_
 exact end_own (.inr rfl) _ [_] [0] (by decide) rfl (res_0 rfl) ⟨rfl,rfl⟩
theorem tx11_ac [OkT gs] (n:Nat) (w:W8) (s:List UInt8) (hs:OkW w) (h:askedM s 64=0):AC gs Tryz.prog 104 [wrO n w] [.op 0 (some n) 0,strC s] (fun r H'=>r=.c (.tuple #[])∧H'=[wrO n (doW (vTx s) w)]):=by
 have hl:=asked_len h
 have ht:=textW_ac (gs:=gs) n w s 64 (by omega) hs
 have e:doW (vTx s) w=putW 12 (if askedM s 64=0 then s else []) (askedM s 64) w:=doW_g (kd:=7) (by decide) (by decide) (by decide) _ _ _ _
 rw [← e] at ht
 refine ac_of 7 Tryz.func104 rfl rfl rfl (fun al w0 F0 St0=>?_)
 refine jU 11200 ?_
 refine jqm (jmcH 0 ht ?_)
 rintro _ _ ⟨rfl,rfl⟩
 refine ⟨_,_,rfl,cZ,?_⟩
 refine jU 5 ?_
 exact end_own (.inr rfl) _ [_] [0] (by decide) rfl (res_0 rfl) ⟨rfl,rfl⟩
end
section
variable {gs:List Nat} [OkG gs] [OkT gs]
def PW (gs:List Nat) (f:FuncId) (w:W8) (args:List CV) (w':W8):Prop:=∀ n,AC gs Tryz.prog f [wrO n w] (.op 0 (some n) 0::args) (fun r H'=>r=.c (.tuple #[])∧H'=[wrO n w'])
theorem cb_open {gs:List Nat} [OkG gs]:PW gs 54 w00 [.c (.int .i64 48)] (openW 48 w00):=fun n=>openW_ac n w00 48 ok0
variable {c:C11}
theorem cb_1 {gs:List Nat} [OkG gs] (h:Good11 c):PW gs 97 (openW 48 w00) [.c (.int .i64 c.se)] (cW1 c):=fun n=>intP_ac n _ 1 1099511627776 (vN4 c.se) (inv_okW inv_0 (by decide)) (fd_body ok_Se h.se (by decide)).2.2.2.2.2.2.1
theorem cb_2 {gs:List Nat} [OkG gs] (h:Good11 c) (ho:hexOk c.iss=true):PW gs 98 (cW1 c) [strC c.iss] (cW2 c):=fun n=>id11_ac n _ c.iss (inv_okW (inv_1 h) (by decide)) ho
theorem cb_3 {gs:List Nat} [OkG gs] (h:Good11 c):PW gs 97 (cW2 c) [.c (.int .i64 c.ge)] (cW3 c):=fun n=>intP_ac n _ 1 1048576 (vN4 c.ge) (inv_okW (inv_2 h) (by decide)) (fd_body ok_Ge h.ge (by decide)).2.2.2.2.2.2.1
theorem cb_4 (h:Good11 c):PW gs 99 (cW3 c) [subjC c.who] (cW4 c):=fun n=>nput_ac n (inv_3 h) (by decide) c.who
theorem cb_5 {gs:List Nat} [OkG gs] (h:Good11 c):PW gs 100 (cW4 c) [.c (.int .i64 48),isC [c.nb,c.na],.fn 101 0 fun _=>.top] (cW5 c):=fun n =>
 rowsI_ac (f:=101) (by kernel_rfl) n 48 (cW4 c) [c.nb,c.na] (mW (cW4 c) [c.nb,c.na]) (inv_okW (inv_4 h) (by decide)) rfl (fun i hi=>by
  rcases i with _|_|_|i
  ·exact inv_okW (inv_m0 h) (by decide)
  ·exact inv_okW (inv_m1 h) (by decide)
  ·exact inv_okW (inv_m2 h) (by decide)
  ·simp at hi) (by simp) (fun i hi=>by
  rcases i with _|_|i
  ·exact momP_ac n _ 0 0 (vN4 c.nb) (inv_okW (inv_m0 h) (by decide))
  ·exact momP_ac n _ 0 0 (vN4 c.na) (inv_okW (inv_m1 h) (by decide))
  ·simp at hi;omega)
theorem cb_6 {gs:List Nat} [OkG gs] (h:Good11 c) (ho:hexOk c.ky=true):PW gs 98 (cW5 c) [strC c.ky] (cW6 c):=fun n=>id11_ac n _ c.ky (inv_okW (inv_5 h) (by decide)) ho
theorem cb_7 {gs:List Nat} [OkG gs] (h:Good11 c):PW gs 102 (cW6 c) [.c (.int .i64 c.us)] (cW7 c):=fun n=>by
 have hf:=flagsW_ac (gs:=gs) n (cW6 c) c.us (inv_okW (inv_6 h) (by decide))
 have e:cW7 c=putW 3 (bitsL c.us) (bitsE c.us) (cW6 c):=doW_g (kd:=10) (by decide) (by decide) (by decide) _ _ _ _
 rw [e]
 exact hf
theorem cb_8 (h:Good11 c):PW gs 103 (cW7 c) [.c (.int .i64 48),lsC c.al,.fn 104 0 fun _=>.top] (cW8 c):=fun n =>
 rowsT_ac (f:=104) (by kernel_rfl) n 48 (cW7 c) c.al (tW (cW7 c) c.al) (inv_okW (inv_7 h) (by decide)) rfl (fun i hi=>inv_okW (inv_t h i hi) (by have:=h.n8;omega)) (by have:=h.n8;omega) (fun i hi=>by
  have e:c.al.getD i []=c.al[i]:=by simp [List.getD,hi]
  exact tx11_ac n _ (c.al.getD i []) (inv_okW (inv_t h i (by omega)) (by have:=h.n8;omega)) (by rw [e];exact h.al _ (List.getElem_mem _)))
theorem cb_9 {gs:List Nat} [OkG gs] (h:Good11 c):PW gs 57 (cW8 c) [] (cW9 c):=fun n=>closeW_ac n (cW8 c) (inv_okW (inv_8 h) (by decide))
set_option maxHeartbeats 4000000 in
theorem body11_ac (c:C11) (hn:c.al.length≤1000):ACp gs Tryz.prog 46 [.agg 11 (certF c)] (.tup 2 (fl [bsC (if rightC c=true then certB c else []),.err (if rightC c=true then 0 else 4)])):=by
 refine ac_of 54 Tryz.func46 rfl rfl rfl (fun al w0 F0 St0=>?_)
 refine jcr ?_
 refine jqe (jebx 11 fun p1=>?_)
 refine jU 67511 ?_;refine jqo (jrdoA 11) ?_
 refine jqe (jecP (right11_ac c hn) ?_ (ho:=rfl) (he:=(.cons (se rfl (CEnt.agg rfl (fun j hj=>CEnt.of_eq (by rw [Nat.zero_add];exact fl_map _ hj)))) .nil)))
 refine jU 530 ?_;refine jcc (fun h60=>?_) fun h60=>?_
 ·refine jcs ?_;refine jcd (.rd 0 (.rd 1 (.rd 2 .done))) ?_;refine jU 88070704000000 ?_
  refine jR (jtr (jrt (hv:=?_)))
  have hr:rightC c=false:=by simpa using h60
  rw [hr]
  exact cT cN (CEnt.errN rfl)
 refine jU 810 ?_
 have hr:rightC c=true:=by simpa using h60
 have hg:=good_right11 hr
 have ho:hexOk c.iss=true∧hexOk c.ky=true:=by unfold rightC at hr;simp only [Bool.and_eq_true] at hr;exact ⟨hr.1.1.2,hr.1.2⟩
 rw [if_pos hr,if_pos hr]
 refine jcr ?_;refine jq (rd_build (n:=3) rfl zr95 pl95 rfl rfl) ?_
 refine jqe (jebx 3 fun p2=>?_)
 refine jU 51 ?_;refine code_knowG (know_op 4 rfl) fun hn=>?_
 obtain ⟨n,rfl⟩:=hn
 refine jE (newW n 1 rfl cZ cZ CEnt.nil) ?_
 dsimp only [List.set_cons_zero,List.set_cons_succ,List.cons_append,List.nil_append,List.length_cons,List.length_nil,Nat.zero_add,Nat.reduceAdd]
 refine jU 16 ?_
 refine jqm (jmcH 1 (cb_open n) ?_)
 rintro _ _ ⟨rfl,rfl⟩
 refine ⟨_,_,rfl,cZ,?_⟩
 refine jU 5090165 ?_
 refine jqm (jmcH 1 (cb_1 hg n) ?_)
 rintro _ _ ⟨rfl,rfl⟩
 refine ⟨_,_,rfl,cZ,?_⟩
 refine jU 50100165 ?_
 refine jqm (jmcH 1 (cb_2 hg ho.1 n) ?_)
 rintro _ _ ⟨rfl,rfl⟩
 refine ⟨_,_,rfl,cZ,?_⟩
 refine jU 501000165 ?_
 refine jqm (jmcH 1 (cb_3 hg n) ?_)
 rintro _ _ ⟨rfl,rfl⟩
 refine ⟨_,_,rfl,cZ,?_⟩
 refine jU 165 ?_;refine jq (jrfa 3 3 true) ?_;refine jqo (jrdoA 3) ?_
 refine jqm (jmcH 1 (cb_4 hg n) ?_)
 rintro _ _ ⟨rfl,rfl⟩
 refine ⟨_,_,rfl,cZ,?_⟩
 refine jU 5020000000165 ?_;refine jq (jrfa 7 1 false) ?_;refine jU 50 ?_
 refine jqe (jebl 2 1 zr3 fun p8=>?_)
 refine seq_ent (freeze 2 rfl) ?_
 refine seq_ent (thaw 34 (fun k _=>iV ([c.nb,c.na].getD k 0)) rfl rfl (by decide) (fun a b ha hb=>by
  have hb0:b=0:=by omega
  subst hb0
  rcases a with _|_|a
  ·exact cZ
  ·exact cZ
  ·omega)) ?_
 refine jqm (jmcH 1 (cb_5 hg n) ?_ (ho:=rfl) (he:=(.cons (se rfl cP) (.cons (se rfl cZ) (.cons (se rfl cZ) (.cons (se rfl CEnt.fn0) .nil))))))
 rintro _ _ ⟨rfl,rfl⟩
 refine ⟨_,_,rfl,cZ,?_⟩
 refine jU 165 ?_;refine jq (jrfa 8 1 false) ?_;refine jU 50 ?_
 refine jqm (jmcH 1 (cb_6 hg ho.2 n) ?_)
 rintro _ _ ⟨rfl,rfl⟩
 refine ⟨_,_,rfl,cZ,?_⟩
 refine jU 165 ?_;refine jq (jrfa 9 1 false) ?_;refine jU 50 ?_
 refine jqm (jmcH 1 (cb_7 hg n) ?_)
 rintro _ _ ⟨rfl,rfl⟩
 refine ⟨_,_,rfl,cZ,?_⟩
 refine jU 165 ?_;refine jq (jrfa 10 1 false) ?_;refine jU 50 ?_
 refine jqm (jmcH 1 (cb_8 hg n) ?_ (ho:=rfl) (he:=(.cons (se rfl cP) (.cons (se rfl cZ) (.cons (se rfl cZ) (.cons (se rfl CEnt.fn0) .nil))))))
 rintro _ _ ⟨rfl,rfl⟩
 refine ⟨_,_,rfl,cZ,?_⟩
 refine jU 165 ?_
 refine jqm (jmcH 1 (cb_9 hg n) ?_)
 rintro _ _ ⟨rfl,rfl⟩
 refine ⟨_,_,rfl,cZ,?_⟩
 refine jU 165 ?_
 refine jqm (jmcH 1 (doneW_ac n (cW9 c) (inv_okW (inv_9 hg) (by decide))) ?_)
 rintro _ _ ⟨rfl,rfl⟩
 refine ⟨_,_,rfl,cZ,?_⟩
 refine jU 511900900 ?_
 refine jR (jrt (hv:=?_))
 obtain ⟨e1,e2⟩:=cert_put hg
 rw [e1,e2]
 exact cZ
end
end
section
open Go.RowKit Cal
section
variable {gs:List Nat} [Ok9 gs]
end
def PR (gs:List Nat) (f:FuncId) (l:List (List UInt8)) (args:List CV) (r:CV) (l':List (List UInt8)):Prop:=∀ n,AC gs Tryz.prog f [rdO n l 0] (.op 0 (some n) 0::args) (fun x H'=>x=r∧H'=[rdO n l' 0])
theorem now_sm {ls:List (List UInt8)} {x:List UInt8} (h:x.length≤100000):(nowL (ls++[x])).length≤10000000:=by rw [nowL_snoc];omega
section
variable {gs:List Nat} [OkG gs] [OkT gs] {c:C11}
theorem cr_9 {gs:List Nat} [OkG gs]:PR gs 67 s8 [] (.c (.tuple #[])) s9:=fun n=>by
 have h0:=leave_ac (gs:=gs) n s8 0 (by simp [s8])
 rw [show leaveL s8 0=s9 from (leave_fwd (ls:=[[]]) (by decide)).1,show leaveK s8 0=0 from (leave_fwd (ls:=[[]]) (by decide)).2] at h0
 exact h0
end
end
section
open Go.RowKit Cal
section
variable {gs:List Nat} [OkG gs] [OkT gs]
theorem ce_9 {gs:List Nat} [OkG gs]:PR gs 68 s9 [] (.err 0) s9:=fun n=>end08_ac (gs:=gs) n s9 0 (by simp [s9])
end
end
section
open Go.RowKit Cal

end
section
open Go.RowKit Cal
def RW (gs:List Nat) (f:FuncId) (r:R8) (args:List CV) (r':R8):Prop:=∀ n,AC gs Tryz.prog f [rwO n r] (.op 0 (some n) 0::args) (fun x H'=>x=.c (.tuple #[])∧H'=[rwO n r'])
section
variable {gs:List Nat} {c:C11}
end
end
section
open Go.RowKit Cal
def longC (c:C11):Bool:=decide (100<c.iss.length) || decide (100<c.ky.length) || decide (100<c.who.2.1.length) || decide (100<c.who.2.2.length) || decide (20<c.al.length)
end
section
open Go.RowKit Cal
def exC (nb:Int):C11:=⟨1,List.replicate 32 48,1,(1,[],[97]),nb,5,List.replicate 31 48++[49],1,[]⟩
theorem ex11:rightC (exC 0)=true∧rightC (exC 6)=false:=by decide +kernel
theorem ex11_len:20<(certB (exC 0)).length:=by decide +kernel
section
variable {gs:List Nat} [OkG gs] [OkT gs]
set_option maxHeartbeats 2000000 in
theorem alive11_ac:ACp gs Tryz.prog 9 [] (.c (.bool true)):=by
 obtain ⟨ra,rb⟩:=ex11
 have rl:(20:Int)<((certB (exC 0)).length:Nat):=Int.ofNat_lt.2 ex11_len
 have hA:=body11_ac (gs:=gs) (exC 0) (by decide)
 rw [if_pos ra,if_pos ra] at hA
 have hB:=body11_ac (gs:=gs) (exC 6) (by decide)
 rw [if_neg (by rw [rb];decide),if_neg (by rw [rb];decide)] at hB
 refine ac_of 31 Tryz.func9 rfl rfl rfl (fun al w0 F0 St0=>?_)
 refine jU 6516 ?_;refine jq (rd_build (n:=3) rfl zr36 pl36 rfl rfl) ?_;refine jq (rd_build (n:=11) rfl zr84 pl84 rfl rfl) ?_
 refine jqe (jeal (n:=11) zr84 rfl fun p1=>?_)
 refine jqm (jmstF 11 (certF (exC 0)) ?_ ?_)
 ·exact (fun j hj=>by rcases j with _|_|_|_|_|_|_|_|_|_|_|j <;> first|exact cZ|exact CEnt.nilS' rfl|omega)
 refine jU 65 ?_;refine jqo (jrdoA 11) ?_
 refine jqe (jecP hA ?_ (ho:=rfl) (he:=(.cons (se rfl (CEnt.agg rfl (fun j hj=>by rcases j with _|_|_|_|_|_|_|_|_|_|_|j <;> exact cZ))) .nil)))
 refine jU 2000000065119009001 ?_
 refine jqm (jmstF 1 (certF (exC 6)) ?_ ?_)
 ·exact (fun j hj=>by rcases j with _|_|_|_|_|_|_|_|_|_|_|j <;> exact cZ)
 refine jU 65 ?_;refine jqo (jrdoA 11) ?_
 refine jqe (jecP hB ?_ (ho:=rfl) (he:=(.cons (se rfl (CEnt.agg rfl (fun j hj=>by rcases j with _|_|_|_|_|_|_|_|_|_|_|j <;> exact cZ))) .nil)))
 refine jU 1500000165119009001 ?_;refine jqsp 21 (fun g20=>?_) fun g20=>?_
 rotate_left
 ·refine jU 515004441500444 ?_
  refine jR (jrt (hv:=?_))
  first
  |(exfalso;omega)
  |(refine cB ?_;first|rfl|(simp;done)|(rw [decide_eq_true rl];rfl)|(simp_all;done))
 refine jU 18000231 ?_;refine jqsp 26 (fun g20_2=>?_) fun g20_2=>?_
 ·refine jU 1 ?_
  refine jqe (jecP (num_ac 4 (by decide)) ?_)
  refine jU 5180002 ?_
  refine jR (jrt (hv:=?_))
  first
  |(exfalso;omega)
  |(refine cB ?_;rfl)
 refine jU 51500444 ?_
 refine jR (jrt (hv:=?_))
 first
 |(exfalso;omega)
 |(refine cB ?_;first|rfl|(simp;done)|(rw [decide_eq_true rl];rfl)|(simp_all;done))
end
end
section
open Go.RowKit Cal
def joinB (b s:List UInt8):List UInt8:=putL 48 (b++putL 4 s)
def fSg:Fd:=⟨6,32,32⟩
theorem ok_Sg:OkF fSg:=by unfold OkF fSg;decide
theorem sg_good {s:List UInt8} (h:s.length=32):GoodF fSg (vB4 s):=.inr (.inr (.inl ⟨rfl,rfl,by show (32:Int)≤(s.length:Nat);omega,by show (s.length:Nat)≤(32:Int);omega⟩))
theorem one_el {b:List UInt8} (h:(depthM b).2=0):∃ t x,b=putL t x∧knownM t=true∧x.length≤65530:=by
 unfold depthM at h
 by_cases h1:65536<b.length
 ·rw [if_pos h1] at h;cases h
 ·rw [if_neg h1] at h
  by_cases h2:(nextM b).e≠0
  ·rw [if_pos h2] at h;exact absurd h h2
  ·rw [if_neg h2] at h
   by_cases h3:0<(nextM b).rest.length
   ·rw [if_pos h3] at h;cases h
   ·obtain ⟨e1,e2,e3⟩:=next_canon (Classical.not_not.1 h2)
    have e4:(nextM b).rest=[]:=List.length_eq_zero_iff.1 (by omega)
    rw [e4,List.append_nil] at e1
    exact ⟨_,_,e1,e2,e3⟩
theorem next_any {b:List UInt8} (h:(depthM b).2=0) (ls:List (List UInt8)) (r:List UInt8):(nextR 0 (ls++[b++r]) 0).l=ls++[r]∧(nextR 0 (ls++[b++r]) 0).k=0∧(nextR 0 (ls++[b++r]) 0).raw=b:=by
 obtain ⟨t,x,rfl,hk,hl⟩:=one_el h
 have hn:=next_put (r:=r) hk hl
 unfold nextR
 rw [if_neg (by decide),nowL_snoc,hn,if_neg (by simp),if_neg (by simp)]
 refine ⟨?_,rfl,?_⟩
 ·show (ls++[putL t x++r]).set ((ls++[putL t x++r]).length-1) r=_
  simp
 ·show (putL t x++r).take ((putL t x++r).length-r.length)=_
  simp
theorem okW_any {fr:List (Int×List (List UInt8))} (h1:fr.length≤16) (h2:∀ x ∈ fr,x.2.length≤1000000∧sumL x.2≤1000000):OkW ⟨fr,[],0⟩:=⟨h1,h2,by simp⟩
section
variable {gs:List Nat} [OkG gs] {b s:List UInt8}
theorem jn_len (hb:b.length≤1000) (hs:s.length=32):(b++putL 4 s).length≤1100∧(joinB b s).length≤1200:=by
 have h1:=putL_len 4 s
 have h2:=putL_len 48 (b++putL 4 s)
 unfold joinB
 rw [List.length_append] at h2 ⊢
 omega
theorem jw_0:PW gs 54 w00 [.c (.int .i64 48)] ⟨[(48,[])],[],0⟩:=fun n=>openW_ac n w00 48 ok0
theorem jw_1 (hb:b.length≤1000) (hd:(depthM b).2=0):PW gs 55 ⟨[(48,[])],[],0⟩ [bsC b] ⟨[(48,[b])],[],0⟩:=fun n=>by
 have h:=rawW_ac (gs:=gs) n ⟨[(48,[])],[],0⟩ b (by omega) (okW_any (by simp) (by simp [sumL]))
 have e:rawW b ⟨[(48,[])],[],0⟩=⟨[(48,[b])],[],0⟩:=by
  unfold rawW
  rw [hd,failW_zero,if_pos rfl]
  rfl
 rw [e] at h
 exact h
theorem jw_2 (hb:b.length≤1000) (hs:s.length=32):PW gs 56 ⟨[(48,[b])],[],0⟩ [bsC s] ⟨[(48,[b,putL 4 s])],[],0⟩:=fun n=>by
 have h:=octetsW_ac (gs:=gs) n ⟨[(48,[b])],[],0⟩ s (by omega) (okW_any (by simp) (fun x hx=>by
  rw [List.mem_singleton.1 hx]
  simp [sumL]
  omega))
 rw [put_ok rfl (by decide) (by omega),addW_in] at h
 exact h
theorem jw_3 (hb:b.length≤1000) (hs:s.length=32):PW gs 57 ⟨[(48,[b,putL 4 s])],[],0⟩ [] ⟨[],joinB b s,0⟩:=fun n=>by
 have hl:=(jn_len hb hs).1
 have hp:=putL_len 4 s
 have h:=closeW_ac (gs:=gs) n ⟨[(48,[b,putL 4 s])],[],0⟩ (okW_any (by simp) (fun x hx=>by
  rw [List.mem_singleton.1 hx]
  simp [sumL]
  omega))
 have e:[b,putL 4 s].flatten=b++putL 4 s:=by simp
 rw [close_ok (by decide) (by decide) (by rw [e];omega),e] at h
 exact h
theorem jw_done (hb:b.length≤1000) (hs:s.length=32):doneK ⟨[],joinB b s,0⟩=0∧doneB ⟨[],joinB b s,0⟩=joinB b s:=by
 have hl:=(jn_len hb hs).2
 have hz:doneK (⟨[],joinB b s,0⟩:W8)=0:=by
  unfold doneK
  rw [if_neg (by simp),if_neg (by simp),if_neg (by dsimp only;omega)]
 refine ⟨hz,?_⟩
 unfold doneB
 rw [if_pos hz]
def joinE (b s:List UInt8):Nat:=if (depthM b).2≠0 then (depthM b).2 else if s.length≠32 then 4 else 0
set_option maxHeartbeats 2000000 in
theorem join11_ac (b s:List UInt8) (hb:b.length≤1000) (hs:s.length≤100):ACp gs Tryz.prog 10 [bsC b,bsC s] (.tup 2 (fl [bsC (if joinE b s=0 then joinB b s else []),.err (joinE b s)])):=by
 refine ac_of 33 Tryz.func10 rfl rfl rfl (fun al w0 F0 St0=>?_)
 refine jU 1675116 ?_
 refine jqe (jecP (check_ac b (by omega)) ?_)
 refine jU 55000001651 ?_;refine jcc (fun h104=>?_) fun h104=>?_
 ·refine jU 51116 ?_
  refine jR (jtr (jrt (hv:=?_)))
  have e:joinE b s=(depthM b).2:=by unfold joinE;rw [if_pos (by omega)]
  rw [e,if_neg (by omega)]
  exact cT cN cZ
 refine jU 523167810 ?_;refine jcc (fun h107=>?_) fun h107=>?_
 ·refine jcs ?_;refine jcd (.rd 0 (.rd 1 (.rd 2 .done))) ?_;refine jU 88070704000000 ?_
  refine jR (jtr (jrt (hv:=?_)))
  have e:joinE b s=4:=by unfold joinE;rw [if_neg (by omega),if_pos (by omega)]
  rw [e,if_neg (by decide)]
  exact cT cN (CEnt.errN rfl)
 refine jU 810 ?_
 have hd:(depthM b).2=0:=by omega
 have h32:s.length=32:=by omega
 have e:joinE b s=0:=by unfold joinE;rw [if_neg (by omega),if_neg (by omega)]
 rw [e,if_pos rfl]
 refine jcr ?_;refine jq (rd_build (n:=3) rfl zr95 pl95 rfl rfl) ?_
 refine jqe (jebx 3 fun p1=>?_)
 refine jU 51 ?_;refine code_knowG (know_op 7 rfl) fun hn=>?_
 obtain ⟨n,rfl⟩:=hn
 refine jE (newW n 0 rfl cZ cZ CEnt.nil) ?_
 dsimp only [List.set_cons_zero,List.set_cons_succ,List.cons_append,List.nil_append,List.length_cons,List.length_nil,Nat.zero_add,Nat.reduceAdd]
 refine jU 16 ?_
 refine jqm (jmcH 0 (jw_0 n) ?_)
 rintro _ _ ⟨rfl,rfl⟩
 refine ⟨_,_,rfl,cZ,?_⟩
 refine jU 1165 ?_
 refine jqm (jmcH 0 (jw_1 hb hd n) ?_)
 rintro _ _ ⟨rfl,rfl⟩
 refine ⟨_,_,rfl,cZ,?_⟩
 refine jU 1165 ?_
 refine jqm (jmcH 0 (jw_2 hb h32 n) ?_)
 rintro _ _ ⟨rfl,rfl⟩
 refine ⟨_,_,rfl,cZ,?_⟩
 refine jU 165 ?_
 refine jqm (jmcH 0 (jw_3 hb h32 n) ?_)
 rintro _ _ ⟨rfl,rfl⟩
 refine ⟨_,_,rfl,cZ,?_⟩
 refine jU 165 ?_
 refine jqm (jmcH 0 (doneW_ac n ⟨[],joinB b s,0⟩ ⟨by simp,by simp,by have:=(jn_len hb h32).2;show (joinB b s).length≤_;omega⟩) ?_)
 rintro _ _ ⟨rfl,rfl⟩
 refine ⟨_,_,rfl,cZ,?_⟩
 refine jU 511900900 ?_
 refine jR (jrt (hv:=?_))
 rw [(jw_done hb h32).1,(jw_done hb h32).2]
 exact cZ
end
end
section
open Go.RowKit Cal
def t0 (b s:List UInt8):List (List UInt8):=[[]]++[b++(putL 4 s++[])]
def t1 (s:List UInt8):List (List UInt8):=[[]]++[putL 4 s++[]]
section
variable {gs:List Nat} [OkG gs] {b s:List UInt8}
theorem js_0 (hb:b.length≤1000) (hs:s.length=32):∀ n,AC gs Tryz.prog 64 [rdO n [joinB b s] 0] [.op 0 (some n) 0,.c (.int .i64 48)] (fun r H'=>r=.c (.bool (enterR 48 [joinB b s] 0).is)∧H'=[rdO n (t0 b s) 0]):=fun n=>by
 have hl:=jn_len hb hs
 have h0:=enter_ac (gs:=gs) n [joinB b s] 0 48 (by simp) (now_sm (ls:=[]) (by omega))
 obtain ⟨e1,e2,_⟩:=enter_fwd [] (t:=48) (b:=b++putL 4 s) [] (by decide) (by omega)
 rw [List.append_nil] at e1 e2
 have e1':enterL 48 [joinB b s] 0=t0 b s:=by unfold t0;rw [List.append_nil];exact e1
 have e2':(enterR 48 [joinB b s] 0).k=0:=e2
 rw [e1',e2'] at h0
 exact h0
theorem js_1 (hb:b.length≤1000) (hs:s.length=32) (hd:(depthM b).2=0):PR gs 65 (t0 b s) [] (bsC b) (t1 s):=fun n=>by
 have hl:=(jn_len hb hs).1
 obtain ⟨e1,e2,e3⟩:=next_any hd [[]] (putL 4 s++[])
 have h0:=raw08_ac (gs:=gs) n (t0 b s) 0 (by simp [t0]) (now_sm (by rw [List.append_nil];omega))
 unfold t0 at h0 ⊢
 rw [e1,e2,e3] at h0
 exact h0
theorem js_2 (hs:s.length=32):PR gs 66 (t1 s) [.c (.int .i64 32),.c (.int .i64 32)] (bsC s) s8:=fun n=>by
 have hp:=putL_len 4 s
 have h0:=octF_ac (gs:=gs) n (t1 s) 0 32 32 (by simp [t1]) (now_sm (by rw [List.append_nil];omega))
 have e:readF ⟨6,32,32⟩ (t1 s) 0=((s8,0),vB4 s):=field_fwd ok_Sg (sg_good hs) [[]] []
 rw [e] at h0
 exact h0
set_option maxHeartbeats 2000000 in
theorem split_good (hb:b.length≤1000) (hs:s.length=32) (hd:(depthM b).2=0) (hj:(depthM (joinB b s)).2=0):ACp gs Tryz.prog 14 [bsC (joinB b s)] (.tup 3 (fl [bsC b,bsC s,.err 0])):=by
 have hl:=(jn_len hb hs).2
 have hR:=read08_ac (gs:=gs) (joinB b s) (by omega)
 rw [hj] at hR
 refine ac_of 26 Tryz.func14 rfl rfl rfl (fun al w0 F0 St0=>?_)
 refine jU 1651116 ?_
 refine jqe (jecS hR ?_)
 rintro _ _ ⟨n,rfl,rfl⟩
 refine jU 1651 ?_
 refine jqm (jmcH 0 (js_0 hb hs n) ?_)
 rintro _ _ ⟨rfl,rfl⟩
 refine ⟨_,_,rfl,cZ,?_⟩
 refine jU 165 ?_
 refine jqm (jmcH 0 (js_1 hb hs hd n) ?_)
 rintro _ _ ⟨rfl,rfl⟩
 refine ⟨_,_,rfl,cZ,?_⟩
 refine jU 1651 ?_
 refine jqm (jmcH 0 (js_2 hs n) ?_)
 rintro _ _ ⟨rfl,rfl⟩
 refine ⟨_,_,rfl,cZ,?_⟩
 refine jU 1651 ?_
 refine jqm (jmcH 0 (cr_9 n) ?_)
 rintro _ _ ⟨rfl,rfl⟩
 refine ⟨_,_,rfl,cZ,?_⟩
 refine jU 1675 ?_
 refine jqm (jmcH 0 (ce_9 n) ?_)
 rintro _ _ ⟨rfl,rfl⟩
 refine ⟨_,_,rfl,cZ,?_⟩
 refine jU 55000001651 ?_;refine jcc (fun h125=>?_) fun h125=>?_
 ·refine jU 511116 ?_
  refine jR (jtr (jrt (hv:=absurd rfl h125)))
 refine jU 5111116810 ?_
 refine jR (jrt (hv:=CEnt.tup3 cZ cZ CEnt.nil))
def XR (gs:List Nat) (f:FuncId) (l:List (List UInt8)) (k:Nat) (args:List CV):Prop:=∀ n,AC gs Tryz.prog f [rdO n l k] (.op 0 (some n) 0::args) (fun x H'=>H'=[rdO n l k])
theorem next_bad {t:Int} {l:List (List UInt8)} {k:Nat} (hk:k≠0):nextR t l k=⟨l,k,0,[],[],false⟩:=by unfold nextR;rw [if_pos hk]
set_option maxHeartbeats 2000000 in
theorem split_bad (x:List UInt8) (hx:x.length≤100000) (hk:(depthM x).2≠0):ACp gs Tryz.prog 14 [bsC x] (.tup 3 (fl [bsC [],bsC [],.err (depthM x).2])):=by
 have hR:=read08_ac (gs:=gs) x (by omega)
 generalize (depthM x).2=k at *
 have hn:(nowL [x]).length≤10000000:=now_sm (ls:=[]) hx
 obtain ⟨a1,_⟩:=enter_mu (t:=48) (l:=[x]) (k:=k) (by simp)
 obtain ⟨e1,e2⟩:=a1 hk
 have hE:=fun n=>enter_ac (gs:=gs) n [x] k 48 (by simp) hn
 rw [e1,e2] at hE
 have hW:=fun n=>raw08_ac (gs:=gs) n [x] k (by simp) hn
 rw [next_bad hk] at hW
 have hO:=fun n=>octets08_ac (gs:=gs) n [x] k 32 32 (by simp) hn
 have e3:(nextR 4 [x] k)=⟨[x],k,0,[],[],false⟩:=next_bad hk
 rw [e3] at hO
 have e4:∀ f,valK 4 [x] k f=k:=fun f=>by unfold valK;rw [e3];first|rfl|simp [hk]
 simp only [e4] at hO
 have hL:=fun n=>leave_ac (gs:=gs) n [x] k (by simp)
 have l1:leaveK [x] k=k:=by unfold leaveK;rw [if_pos hk]
 have l2:leaveL [x] k=[x]:=by unfold leaveL;rw [l1,if_neg hk]
 rw [l1,l2] at hL
 have hD:=fun n=>end08_ac (gs:=gs) n [x] k (by simp)
 have l3:endK [x] k=k:=by unfold endK;rw [if_pos hk]
 rw [l3] at hD
 refine ac_of 26 Tryz.func14 rfl rfl rfl (fun al w0 F0 St0=>?_)
 refine jU 1651116 ?_
 refine jqe (jecS hR ?_)
 rintro _ _ ⟨n,rfl,rfl⟩
 refine jU 1651 ?_
 refine jqm (jmcH 0 (hE n) ?_)
 rintro _ _ ⟨rfl,rfl⟩
 refine ⟨_,_,rfl,cZ,?_⟩
 refine jU 165 ?_
 refine jqm (jmcH 0 (hW n) ?_)
 rintro _ _ ⟨rfl,rfl⟩
 refine ⟨_,_,rfl,cZ,?_⟩
 refine jU 1651 ?_
 refine jqm (jmcH 0 (hO n) ?_)
 rintro _ _ ⟨rfl,rfl⟩
 refine ⟨_,_,rfl,cZ,?_⟩
 refine jU 1651 ?_
 refine jqm (jmcH 0 (hL n) ?_)
 rintro _ _ ⟨rfl,rfl⟩
 refine ⟨_,_,rfl,cZ,?_⟩
 refine jU 1675 ?_
 refine jqm (jmcH 0 (hD n) ?_)
 rintro _ _ ⟨rfl,rfl⟩
 refine ⟨_,_,rfl,cZ,?_⟩
 refine jU 55000001651 ?_;refine jcc (fun h125=>?_) fun h125=>?_
 ·refine jU 511116 ?_
  refine jR (jtr (jrt (hv:=CEnt.tup3 cN cN cZ)))
 refine jU 5111116810 ?_
 refine jR (jrt (hv:=?_))
 exfalso;omega
end
end
section
open Go.RowKit Cal
section
variable {gs:List Nat} [OkG gs] [OkT gs]
theorem rjoin_ac {gs:List Nat} (b s:List UInt8) (hb:b.length≤1000) (hs:s.length=32):ACp gs Tryz.prog 13 [bsC b,bsC s] (bsC (joinB b s)):=by
 have hp:=putL_len 4 s
 refine ac_of 12 Tryz.func13 rfl rfl rfl (fun al w0 F0 St0=>?_)
 refine jU 6516 ?_
 refine jqe (jebl 0 1 zr5 fun p1=>?_)
 refine jU 1 ?_;refine seq_ent (blk_ent 0 (m:=0) (F:=byF []) rfl (by decide) (fun _=>rfl) (fun j hj=>absurd hj (Nat.not_lt_zero _))) ?_
 refine jqm (m_appendB (l:=[]) rfl rfl rfl (Nat.le_refl _) (fun _ _=>cZ) (src_rs rfl) rfl (fun j hj=>by simp only [Nat.div_one];exact cZ) Tryz.underlying22 nu22 sz5 zr5 by5 rfl (by (simp;omega)) (fun j hj=>rfl) rfl rfl (fun p2=>?_))
 refine jU 1 ?_
 refine jqe (jecP (rput_ac 4 s (by decide) (by omega)) ?_)
 refine jqm (m_appendB (l:=b) rfl rfl rfl (Nat.le_refl _) (fun _ _=>cZ) (src_rs rfl) rfl (fun j hj=>by simp only [Nat.div_one];exact cZ) Tryz.underlying22 nu22 sz5 zr5 by5 rfl (by omega) (fun j hj=>rfl) rfl rfl (fun p3=>?_))
 refine seq_ent (freeze 0 rfl) ?_;refine seq_ent (thaw 10 (fun k _=>byF (b++putL 4 s) k) rfl rfl (by simp only [List.length_append] at *;omega) (fun a c ha hc=>CEnt.of_eq (by rw [Nat.zero_add];congr 1;omega))) ?_
 refine jqe (jecP (rput_ac 48 (b++putL 4 s) (by decide) (by rw [List.length_append];omega)) ?_)
 refine jU 51 ?_
 refine jR jrt
theorem split_any {gs:List Nat} [OkG gs] {b s:List UInt8} (hb:b.length≤1000) (hs:s.length=32) (hd:(depthM b).2=0):ACp gs Tryz.prog 14 [bsC (joinB b s)] (.tup 3 (fl [bsC (if (depthM (joinB b s)).2=0 then b else []),bsC (if (depthM (joinB b s)).2=0 then s else []),.err (depthM (joinB b s)).2])):=by
 by_cases h:(depthM (joinB b s)).2=0
 ·have hg:=split_good (gs:=gs) hb hs hd h
  rw [if_pos h,if_pos h,h]
  exact hg
 ·have hg:=split_bad (gs:=gs) (joinB b s) (by have:=(jn_len hb hs).2;omega) h
  rw [if_neg h,if_neg h]
  exact hg
set_option maxHeartbeats 4000000 in
theorem certJoin_ac (b s:List UInt8):ACp gs Tryz.prog 3 [bsC b,bsC s] (.c (.bool true)):=by
 have d1:=(depthM_bd b).2
 have d2:=(depthM_bd (joinB b s)).2
 refine ac_of 100 Tryz.func3 rfl rfl rfl (fun al w0 F0 St0=>?_)
 refine jU 67516 ?_
 refine jqe (jecP alive11_ac ?_)
 refine jU 530 ?_;refine jcc (fun h81=>?_) fun h81=>?_
 ·exfalso;exact absurd h81 (by decide)
 refine jU 123167810 ?_;refine jqsp 18 (fun g84=>?_) fun g84=>?_
 ·refine jU 516900058000444 ?_
  refine jR (jtr (jrt (hv:=cZ)))
 refine jU 5500231 ?_;refine jcc (fun h84=>?_) fun h84=>?_
 ·refine jU 516 ?_
  refine jR (jtr (jrt (hv:=cZ)))
 refine jU 810 ?_
 have hb:b.length≤1000:=by omega
 have hs:s.length≤100:=by omega
 refine jU 116 ?_
 refine jqe (jecP (join11_ac b s hb hs) ?_)
 refine jU 1675119009001 ?_
 refine jqe (jecP (rcheck_ac b (by omega)) ?_)
 refine jU 52165119009001 ?_;refine jcc (fun h88=>?_) fun h88=>?_
 ·have hj:joinE b s=(depthM b).2:=by unfold joinE;rw [if_pos (by omega)]
  have hne:¬ (depthM b).2=0:=by omega
  rw [hj,if_neg hne]
  refine jU 12316 ?_;refine jqsp 39 (fun g89=>?_) fun g89=>?_
  ·refine jU 1 ?_
   refine jqe (jecP (num_ac (depthM b).2 (by omega)) ?_)
   refine jU 51800021 ?_
   refine jR (jtr (jrt (hv:=?_)))
   refine cB ?_
   (simp;done)
  refine jU 515004444 ?_
  refine jR (jtr (jrt (hv:=?_)))
  refine cB ?_
  (simp_all;done)
 refine jU 7810 ?_
 have hd:(depthM b).2=0:=by omega
 refine jU 52316 ?_;refine jcc (fun h91=>?_) fun h91=>?_
 ·have hj:joinE b s=4:=by unfold joinE;rw [if_neg (by omega),if_pos (by omega)]
  rw [hj,if_neg (by decide)]
  refine jU 12316 ?_;refine jqsp 51 (fun g92=>?_) fun g92=>?_
  ·refine jU 1 ?_
   refine jqe (jecP (num_ac 4 (by decide)) ?_)
   refine jU 5180002 ?_
   refine jR (jtr (jrt (hv:=?_)))
   refine cB ?_
   rfl
  refine jU 51500444 ?_
  refine jR (jtr (jrt (hv:=?_)))
  refine cB ?_
  (simp_all;done)
 refine jU 77810 ?_
 have h32:s.length=32:=by omega
 have hj:joinE b s=0:=by unfold joinE;rw [if_neg (by omega),if_neg (by omega)]
 rw [hj,if_pos rfl]
 have hl:=(jn_len hb h32).2
 refine jcd (.rd 0 (.rd 1 (.rd 2 (.rd 3 (.rd 4 (.rd 5 (.rd 6 (.one 7 (.rd 8 (.rd 9 (.rd 10 .done))))))))))) ?_;refine jU 70 ?_;refine jyq jre ?_;refine jU 70 ?_;refine jysp 58 (fun g94=>?_) fun g94=>?_
 ·refine jU 600600600600 ?_;refine jys1 ?_;refine jU 51690008803000000600600 ?_
  refine jR (jtr (jrt (hv:=?_)))
  exfalso
  simp_all
 refine jU 70703000000070 ?_
 refine jye (jecP (rjoin_ac b s hb h32) ?_)
 refine jyq jrbs ?_;refine jyq jrcs ?_;refine jU 880300000 ?_;refine jcc (fun h94=>?_) fun h94=>?_
 ·refine jU 516 ?_
  refine jR (jtr (jrt (hv:=?_)))
  exfalso
  simp_all
 refine jU 16810 ?_
 refine jqe (jecP (split_any hb h32 hd) ?_)
 refine jU 16751119009009001 ?_
 refine jqe (jecP (rcheck_ac (joinB b s) (by omega)) ?_)
 refine jU 52165119009001 ?_;refine jcc (fun h98=>?_) fun h98=>?_
 ·refine jU 16 ?_
  refine jqe (jecP (num_ac (depthM (joinB b s)).2 (by omega)) ?_)
  refine jU 5121 ?_
  refine jR (jtr (jrt (hv:=?_)))
  refine cB ?_
  (simp;done)
 refine jU 810 ?_
 have hz:(depthM (joinB b s)).2=0:=by omega
 rw [hz,if_pos rfl]
 refine jU 150000016 ?_;refine jqsp 86 (fun g101=>?_) fun g101=>?_
 rotate_left
 ·refine jU 5150044444150044444 ?_
  refine jR (jrt (hv:=?_))
  refine cB ?_
  (simp_all;done)
 refine jU 1 ?_;refine jq jrbs ?_;refine jU 1 ?_;refine jq jrbs ?_;refine jU 1800060000 ?_;refine jqsp 93 (fun g101_2=>?_) fun g101_2=>?_
 ·refine jU 1 ?_;refine jq jrbs ?_;refine jU 1 ?_;refine jq jrbs ?_;refine jU 51800060000 ?_
  refine jR (jrt (hv:=?_))
  refine cB ?_
  (simp;done)
 refine jU 5150044444 ?_
 refine jR (jrt (hv:=?_))
 refine cB ?_
 (simp_all;done)
end
end
end Am
end Go.Proofs.YthlpfjnkieaeeaaGreatDoor
