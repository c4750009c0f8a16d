/- What the law leans on, part 11 -/
import Derived.Test.YtghminnpfnkbjaaGreatDoorM10RequestBody
set_option maxRecDepth 100000
set_option maxHeartbeats 8000000
open Go.Proofs.Tryz
namespace Go.Proofs.YtghminnpfnkbjaaGreatDoor
set_option linter.unusedVariables false
namespace Am
open Go.RowKit
section
variable {gs:List Nat} [dO gs]
theorem HM {l:I} (h:kT l=true):l.length≤24:=(nr.1 h).2.1
theorem LG (k:Int):(fL k).length≤8:=by
 by_cases h:1≤k∧k≤5
 ·rcases kinds h.1 h.2 with rfl|rfl|rfl|rfl|rfl<;>decide
 ·rw [(zE k).2 h];simp
theorem LI {k:Int} (h1:1≤k) (h5:k≤5):oL.getD (k-1).toNat []=fL k:=by unfold fL;rw [jK]
theorem Q4 {s:S3} (h:bC s=true):1≤s.1∧s.1≤5∧s.2.2.length≤24∧s.2.1.length≤24:=by
 obtain ⟨h1,h5,hn,h2,hs⟩:=(qn s).1 h
 refine ⟨h1,h5,HM hn,?_⟩
 by_cases hk:s.1=2
 exact HM (h2 hk)
 ·rw [hs hk];simp
theorem aa.rsL {k n m:Nat} {f g:Nat→Nat→CV} (h:n=m) (hf:f=g):aa (.rs k n f) (.rs k m g):=by subst h hf;exact Z
def im (p:P2) (j:Nat):CV:=if j=0 then ap p.1 else ap p.2
def Nc:List P2→Nat→CV:=gv 2 im ([],[])
def jM (l:List P2):CV:=.rs 2 l.length fun i j=>im (l.getD i ([],[])) j
theorem Ab (p:P2) (j:Nat) (hj:j<2):aa (fl [ap p.1,ap p.2] j) (Nc [p] j):=by
 rcases j with _|_|j<;>first|exact Z|omega
theorem Ai (s:S3):cd gs prog 95 [mj s] (.tup 2 (fl [jM (if bC s=true then aQ s else []),.err (if bC s=true then 0 else 9)])):=by
 have hwl:=LG s.1
 refine ae 32 func95 fun _ _ _ _=>?_;refine eA ?_
 refine aq (ee 3 fun p1=>?_)
 refine U 67511 ?_;refine kj (bD 3) ?_
 refine aq (ak (Ah s) ?_)
 refine U 530 ?_;refine an (fun h38=>?_) fun h38=>?_
 ·refine ia ?_;refine dQ (.rd 0 (.rd 1 (.rd 2 .done))) ?_;refine aJ (cK 8) ?_;refine U 8000300070008807070 ?_
  have hr:bC s=false:=by simpa using h38
  exact cT (aa.nilS' (by rw [Zy (by simp [hr])];rfl)) (aa.errN (by rw [Zy (by simp [hr])]))
 refine U 7810 ?_
 have hr:bC s=true:=by simpa using h38
 have ⟨k1,k5,n1,n2⟩:=Q4 hr
 have hg:=LI k1 k5
 refine dQ (.rd 1 (.rd 2 (.rd 3 (.one 0 (.rd 4 (.rd 5 (.rd 6 (.one 7 (.rd 8 .done))))))))) ?_;refine U 900000 ?_;refine qF (gy (hn:=by omega)) ?_;refine aJ (P3 (hS:=by show _∧_;omega)) ?_
 refine gp (ak CP ?_)
 refine aJ (dP (i:=(s.1-1).toNat) (hz:=by omega) (hS:=by (show _<(5:Nat);omega))) ?_;refine aJ (kF (hn:=by omega)) ?_;refine aJ (au (n:=2) rfl eO sX rfl rfl) ?_
 refine gp (aM 2 2 eO fun p2=>?_)
 refine U 788070 ?_;refine jE (dt 1 (m:=2) (F:=Nc [(oc,fL s.1)]) rfl jD (fun _=>rfl) (fun j hj=>by rw [← hg];exact Ab (oc,_) j hj)) ?_;refine U 560000501006 ?_;refine aaa (fun h42=>?_) fun h42=>?_
 ·refine U 50100016810 ?_;refine jq (au (n:=2) rfl eO sX rfl rfl) ?_
  refine aq (aM 2 2 eO fun p3=>?_)
  refine aw (aB (gO 2 im ([],[])) (l2:=[(n9,s.2.2)]) rfl rfl rfl rfl (by exact ZA _) (fun _ _=>Z) (aI rfl (.inl rfl) jD) rfl (fun j hj=>by rcases j with _|_|j<;>first|exact Z|(exfalso;simp at hj<;>omega)) underlying152 xK w9 eO yE rfl (by (simp;done)) (by (simp;done)) (bw rfl rfl) rfl rfl rfl (fun p4=>?_))
  refine U 511 ?_;refine jE (freeze 1 rfl) ?_;refine jE (iG 2 (fun i j=>im ((aQ s).getD i ([],[])) j) rfl rfl (by exact ZA _) (fun a b ha hb=>aa.of_eq (by rw [Nat.zero_add];refine (kh (k:=2) hb).trans ?_;unfold aQ;(rw [Zz (by simpa using h42)];rfl)))) ?_;refine U 80007000 ?_
  refine cT (aa.rsL ?_ ?_) (aa.nilE (by rw [Zz hr]))
  ·rw [Zz hr];unfold aQ;(rw [Zz (by simpa using h42)];rfl)
  ·rw [Zz hr]
 refine U 501001200 ?_;refine jq (au (n:=2) rfl eO sX rfl rfl) ?_
 refine aq (aM 2 2 eO fun p3=>?_)
 refine aw (aB (gO 2 im ([],[])) (l2:=[(rW,s.2.1)]) rfl rfl rfl rfl (by exact ZA _) (fun _ _=>Z) (aI rfl (.inl rfl) jD) rfl (fun j hj=>by rcases j with _|_|j<;>first|exact Z|(exfalso;simp at hj<;>omega)) underlying152 xK w9 eO yE rfl (by (simp;done)) (by (simp;done)) (bw rfl rfl) rfl rfl rfl (fun p4=>?_))
 refine U 50100016851 ?_;refine jq (au (n:=2) rfl eO sX rfl rfl) ?_
 refine aq (aM 2 2 eO fun p5=>?_)
 refine aw (aB (gO 2 im ([],[])) (l2:=[(n9,s.2.2)]) rfl rfl rfl rfl (by exact ZA _) (fun _ _=>Z) (aI rfl (.inl rfl) jD) rfl (fun j hj=>by rcases j with _|_|j<;>first|exact Z|(exfalso;simp at hj<;>omega)) underlying152 xK w9 eO yE rfl (by (simp;done)) (by (simp;done)) (bw rfl rfl) rfl rfl rfl (fun p6=>?_))
 refine U 511 ?_;refine jE (freeze 1 rfl) ?_;refine jE (iG 2 (fun i j=>im ((aQ s).getD i ([],[])) j) rfl rfl (by exact ZA _) (fun a b ha hb=>aa.of_eq (by rw [Nat.zero_add];refine (kh (k:=2) hb).trans ?_;unfold aQ;(rw [Zy h42];rfl)))) ?_;refine U 80007000 ?_
 refine cT (aa.rsL ?_ ?_) (aa.nilE (by rw [Zz hr]))
 ·rw [Zz hr];unfold aQ;(rw [Zy h42];rfl)
 ·rw [Zz hr]
theorem Ji {gs:List Nat} (s:S3) (hr:bC s=true):cd gs prog 139 [mj s] (jM (aQ s)):=by
 have hp:=z7 hr
 refine ae 24 func139 fun _ _ _ _=>?_;refine eA ?_
 refine aq (ee 3 fun p1=>?_)
 refine U 5090651 ?_
 refine aq (ak (G1 s.1) ?_)
 refine jq (au (n:=2) rfl eO sX rfl rfl) ?_
 refine aq (aM 2 2 eO fun p2=>?_)
 refine U 751 ?_;refine jE (dt 1 (m:=2) (F:=Nc [(oc,fL s.1)]) rfl jD (fun _=>rfl) (fun j hj=>Ab (oc,_) j hj)) ?_;refine U 5250906 ?_;refine aaa (fun h33=>?_) fun h33=>?_
 ·refine U 50100016810 ?_;refine jq (au (n:=2) rfl eO sX rfl rfl) ?_
  refine aq (aM 2 2 eO fun p3=>?_)
  refine aw (aB (gO 2 im ([],[])) (l2:=[(n9,s.2.2)]) rfl rfl rfl rfl (by exact ZA _) (fun _ _=>Z) (aI rfl (.inl rfl) jD) rfl (fun j hj=>by rcases j with _|_|j<;>first|exact Z|(exfalso;simp at hj<;>omega)) underlying152 xK w9 eO yE rfl (by (simp;done)) (by (simp;done)) (bw rfl rfl) rfl rfl rfl (fun p4=>?_))
  refine U 51 ?_;refine jE (freeze 1 rfl) ?_;refine jE (iG 2 (fun i j=>im ((aQ s).getD i ([],[])) j) rfl rfl (by exact ZA _) (fun a b ha hb=>aa.of_eq (by rw [Nat.zero_add];refine (kh (k:=2) hb).trans ?_;rw [hp];(rw [Zy h33];rfl)))) ?_;refine U 80007000 ?_
  refine aa.rsL ?_ rfl
  rw [hp];(rw [Zy h33];rfl)
 refine U 501001200 ?_;refine jq (au (n:=2) rfl eO sX rfl rfl) ?_
 refine aq (aM 2 2 eO fun p3=>?_)
 refine aw (aB (gO 2 im ([],[])) (l2:=[(rW,s.2.1)]) rfl rfl rfl rfl (by exact ZA _) (fun _ _=>Z) (aI rfl (.inl rfl) jD) rfl (fun j hj=>by rcases j with _|_|j<;>first|exact Z|(exfalso;simp at hj<;>omega)) underlying152 xK w9 eO yE rfl (by (simp;done)) (by (simp;done)) (bw rfl rfl) rfl rfl rfl (fun p4=>?_))
 refine U 50100016851 ?_;refine jq (au (n:=2) rfl eO sX rfl rfl) ?_
 refine aq (aM 2 2 eO fun p5=>?_)
 refine aw (aB (gO 2 im ([],[])) (l2:=[(n9,s.2.2)]) rfl rfl rfl rfl (by exact ZA _) (fun _ _=>Z) (aI rfl (.inl rfl) jD) rfl (fun j hj=>by rcases j with _|_|j<;>first|exact Z|(exfalso;simp at hj<;>omega)) underlying152 xK w9 eO yE rfl (by (simp;done)) (by (simp;done)) (bw rfl rfl) rfl rfl rfl (fun p6=>?_))
 refine U 51 ?_;refine jE (freeze 1 rfl) ?_;refine jE (iG 2 (fun i j=>im ((aQ s).getD i ([],[])) j) rfl rfl (by exact ZA _) (fun a b ha hb=>aa.of_eq (by rw [Nat.zero_add];refine (kh (k:=2) hb).trans ?_;rw [hp];(rw [Zz h33];rfl)))) ?_;refine U 80007000 ?_
 refine aa.rsL ?_ rfl
 rw [hp];(rw [Zz h33];rfl)
theorem BQ {l:List P2} {i:Nat} (h:i<l.length):l.getD i ([],[])=l[i]:=by simp [List.getD,h]
theorem KR {gs:List Nat} (l r:List P2):cd gs prog 172 [jM l,jM r] (.c (.bool (decide (l=r)))):=by
 refine fF 0 rfl fun hlen=>?_;refine ae 26 func172 fun _ _ _ _=>?_;refine U 52313167516 ?_;refine an (fun h21=>?_) fun h21=>?_
 ·refine U 800030007000516 ?_;refine cB ?_
  refine (aex fun h=>?_).symm
  rw [h] at h21;omega
 refine U 20513167810 ?_;refine ar (α:=Nat) [4,5,13,14,15,16,17,18,19,20,21,22,23,24,25] (fun i=>[(13,.c (.int .i64 (i:Nat)))]) (fun _=>[]) (fun i=>i≤l.length∧l.take i=r.take i) (fun i=>l.length-i) (0) ?_ (fun _=>rfl) ?_ ?_ ?_
 exact ⟨by omega,by simp⟩
 ·(repeat (first|exact bh.nil|refine bh.cons Z ?_))
 ·(repeat (exact aD.nil))
 ·rintro i ⟨hi,he⟩
  refine U 7526 ?_;refine aaa (fun h24=>?_) fun h24=>?_
  ·refine U 8000700051684000200020006000 ?_;refine cB ?_
   refine (abx ?_).symm
   have e1:l.take i=l:=ZY O
   have e2:r.take i=r:=ZY O
   rw [← e1,he,e2]
  refine U 75116207810 ?_;refine dQ (.rd 0 (.rd 1 (.rd 2 (.rd 3 (.rd 4 (.rd 5 (.rd 6 (.rd 7 (.rd 8 .done))))))))) ?_;refine U 900007070 ?_;refine aJ (pJ 2) ?_;refine U 900007070 ?_;refine aJ (pJ 2) ?_;refine aJ (MT rfl rfl rfl underlying158 (by kernel_rfl) (by kernel_rfl) (.str underlying9 jD rfl rfl (.str underlying9 jD rfl rfl .nil)) rfl) ?_;refine U 880 ?_;refine an (fun h25=>?_) fun h25=>?_
  ·refine U 8000300050003000300050007000516 ?_;refine cB ?_
   refine (aex fun h=>h25 ?_).symm
   rw [h];simp
  refine U 8519200840010 ?_;refine am (i+1) ?_ ?_
  ·refine ⟨by omega,?_⟩
   rw [ZH (show i<l.length by omega),ZH (show i<r.length by omega),he,← BQ,← BQ]
   have h25':(l.getD i ([],[]))=(r.getD i ([],[])):=by
    have:=a1x h25
    exact czx (Cu.1 this.1) (Cu.1 this.2.1)
   rw [h25']
  omega
def sF (s:S3):Nat→CV:=fl [.c (.int .i64 s.1),ap s.2.1,ap s.2.2]
theorem QR (s:S3) (x:Int) (j:Nat) (hj:j<3):aa (fX (sF s) 0 [.c (.int .i64 x)] j) (sF (x,s.2.1,s.2.2) j):=by
 rcases j with _|_|_|j<;>exact Z
theorem QP (s:S3) (x:I) (j:Nat) (hj:j<3):aa (fX (sF s) 1 [ap x] j) (sF (s.1,x,s.2.2) j):=by
 rcases j with _|_|_|j<;>exact Z
theorem QQ (s:S3) (x:I) (j:Nat) (hj:j<3):aa (fX (sF s) 2 [ap x] j) (sF (s.1,s.2.1,x) j):=by
 rcases j with _|_|_|j<;>exact Z
theorem ox {l:List P2} {i:Nat} (h:i<l.length):fk (l.take (i+1))=vq (fk (l.take i)) (l.getD i ([],[])):=by
 unfold fk
 rw [ZH h,cbx,BQ h]
 rfl
theorem Vb (l:List P2) (hl:l.length≤1000000):cd gs prog 120 [jM l] (.tup 2 (fl [mj (yU l).1,.err (yU l).2])):=by
 refine ae 52 func120 fun _ _ _ _=>?_;refine eA ?_
 refine aq (dh (n:=3) CJ rfl fun p1=>?_)
 refine U 651 ?_
 refine aq (dh (n:=3) CJ rfl fun p2=>?_)
 refine U 205131675 ?_;refine ar (α:=Nat) [6,11,12,13,14,15,16,17,18,19,20,21,22,23,24,25,26,27,28,29,30,31,32,33,34,35] (fun i=>[(11,.c (.int .i64 (i:Nat)))]) (fun i=>[(p1,.blk 3 fun _=>.top),(p2,.blk 3 (sF (fk (l.take i))))]) (fun i=>i≤l.length) (fun i=>l.length-i) (0) ?_ (fun _=>rfl) ?_ ?_ ?_
 exact ZL _
 exact .cons Z .nil
 exact .blk rfl (fun _ _=>aa.top _) (.blk rfl sb .nil)
 ·rintro i (hi:i≤l.length)
  refine U 7526 ?_;refine aaa (fun h51=>?_) fun h51=>?_
  ·refine U 84000200020006000 ?_
   have ei:l.take i=l:=ZY O
   rw [ei]
   refine eA ?_;refine kj (bD 3) ?_
   refine aq (ak (Ai (fk l)) ?_)
   refine U 15000001675119009001 ?_;refine aH 43 (fun g62=>?_) fun g62=>?_
   ·refine U 7900051000000004444 ?_;refine lQ (.rd 0 (.rd 1 (.one 2 (.rd 3 .done)))) ?_;refine jy (au (n:=3) rfl CJ RC rfl rfl) ?_;refine jy (cK 8) ?_
    refine lP (bn 3 ?_)
    refine U 8700000400000 ?_
    refine jR (l9 (eN (hres:=di rfl (f5 3) bo) (hv:=?_)))
    have hp:yU l=(eD,9):=by
     unfold yU
     refine Zy fun hh=>?_
     simp_all
    rw [hp];exact cT (aa.agg3 Z Z Z) Z
   refine U 11 ?_
   refine aq (ak (KR (if bC (fk l)=true then aQ (fk l) else []) l) ?_)
   refine U 550030 ?_;refine an (fun h62=>?_) fun h62=>?_
   ·refine ia ?_;refine lQ (.rd 0 (.rd 1 (.one 2 (.rd 3 .done)))) ?_;refine jy (au (n:=3) rfl CJ RC rfl rfl) ?_;refine jy (cK 8) ?_
    refine lP (bn 3 ?_)
    refine U 8700000400000 ?_
    refine jR (l9 (eN (hres:=di rfl (f5 3) bo) (hv:=?_)))
    have hp:yU l=(eD,9):=by
     unfold yU
     refine Zy fun hh=>?_
     simp_all
    rw [hp];exact cT (aa.agg3 Z Z Z) Z
   refine U 6810 ?_;refine kj (bD 3) ?_
   refine aw (bn 3 ?_)
   refine U 51 ?_
   refine jR (eN (hres:=di rfl (f5 3) bo) (hv:=?_))
   have hr:bC (fk l)=true:=by
    cases hb:bC (fk l) with
    | true=>rfl
    | false=>simp_all
   have ht:aQ (fk l)=l:=by simp_all
   have hp:yU l=(fk l,0):=by unfold yU;rw [Zz ⟨hr,ht⟩]
   rw [hp]
   exact cT (aa.agg3 Z Z Z) aa.nil
  refine U 7006207810 ?_;refine jq (pJ 2) ?_
  refine aq (dh (n:=2) eO rfl fun p3=>?_)
  refine aw (bn 2 ?_)
  refine U 51600006205509065 ?_;refine an (fun h53=>?_) fun h53=>?_
  ·refine mT 6 (.rd 1 (.rd 2 (.one 0 (.one 3 (.rd 4 (.rd 5 .done)))))) ?_;refine U 100008000000 ?_
   refine gp (ak CP ?_)
   refine gp (ak (Kv oL (l.getD i ([],[])).2) ?_)
   refine aJ (BN rfl rfl rfl ((uX (l.getD i ([],[])).2)) ((by rw [Kx];exact cU (k:=.i64) (by show _∧_;have:=So (l.getD i ([],[])).2;omega)))) ?_;refine U 80900000 ?_
   show cQ _ _ _ _ _ _
   refine aw (bn 1 ?_)
   refine U 851920084004005 ?_
   refine am (i+1) ?_ ?_ (h5:=?_) (h7:=?_)
   show i+1≤l.length;omega
   show l.length-(i+1)<l.length-i;omega
   exact .cons (cI O) .nil
   ·have ht:=ox (l:=l) (i:=i) O
    unfold vq at ht
    rw [show oc=[49,46,51,46,57,57,57,57,46,49,46,49] from rfl,show rW=[49,46,51,46,57,57,57,57,46,49,46,50] from rfl,show n9=[49,46,51,46,57,57,57,57,46,49,46,51] from rfl] at ht
    first
    |(rw [Zz h53] at ht;rw [ht];refine .same (.blk rfl (fun j hj=>?_) .nil);have:=QR (fk (l.take i)) (uX (l.getD i ([],[])).2) j hj;exact this)
    |(rw [Zy h53,Zz h55] at ht;rw [ht];exact .same (.blk rfl (fun j hj=>QP _ _ j hj) .nil))
    |(rw [Zy h53,Zy h55,Zz h57] at ht;rw [ht];exact .same (.blk rfl (fun j hj=>QQ _ _ j hj) .nil))
    |(rw [Zy h53,Zy h55,Zy h57] at ht;rw [ht];exact .same (.same .nil))
  refine U 51600006 ?_;refine an (fun h55=>?_) fun h55=>?_
  ·refine U 10050100200 ?_
   refine aw (bn 1 ?_)
   refine U 851920084004005 ?_
   refine am (i+1) ?_ ?_ (h5:=?_) (h7:=?_)
   show i+1≤l.length;omega
   show l.length-(i+1)<l.length-i;omega
   exact .cons (cI O) .nil
   ·have ht:=ox (l:=l) (i:=i) O
    unfold vq at ht
    rw [show oc=[49,46,51,46,57,57,57,57,46,49,46,49] from rfl,show rW=[49,46,51,46,57,57,57,57,46,49,46,50] from rfl,show n9=[49,46,51,46,57,57,57,57,46,49,46,51] from rfl] at ht
    first
    |(rw [Zz h53] at ht;rw [ht];refine .same (.blk rfl (fun j hj=>?_) .nil);have:=QR (fk (l.take i)) (uX (l.getD i ([],[])).2) j hj;exact this)
    |(rw [Zy h53,Zz h55] at ht;rw [ht];exact .same (.blk rfl (fun j hj=>QP _ _ j hj) .nil))
    |(rw [Zy h53,Zy h55,Zz h57] at ht;rw [ht];exact .same (.blk rfl (fun j hj=>QQ _ _ j hj) .nil))
    |(rw [Zy h53,Zy h55,Zy h57] at ht;rw [ht];exact .same (.same .nil))
  refine U 51600006 ?_;refine aaa (fun h57=>?_) fun h57=>?_
  ·refine U 8519200840040010 ?_
   refine am (i+1) ?_ ?_ (h5:=?_) (h7:=?_)
   show i+1≤l.length;omega
   show l.length-(i+1)<l.length-i;omega
   exact .cons (cI O) .nil
   ·have ht:=ox (l:=l) (i:=i) O
    unfold vq at ht
    rw [show oc=[49,46,51,46,57,57,57,57,46,49,46,49] from rfl,show rW=[49,46,51,46,57,57,57,57,46,49,46,50] from rfl,show n9=[49,46,51,46,57,57,57,57,46,49,46,51] from rfl] at ht
    first
    |(rw [Zz h53] at ht;rw [ht];refine .same (.blk rfl (fun j hj=>?_) .nil);have:=QR (fk (l.take i)) (uX (l.getD i ([],[])).2) j hj;exact this)
    |(rw [Zy h53,Zz h55] at ht;rw [ht];exact .same (.blk rfl (fun j hj=>QP _ _ j hj) .nil))
    |(rw [Zy h53,Zy h55,Zz h57] at ht;rw [ht];exact .same (.blk rfl (fun j hj=>QQ _ _ j hj) .nil))
    |(rw [Zy h53,Zy h55,Zy h57] at ht;rw [ht];exact .same (.same .nil))
  refine U 100050100200 ?_
  refine aw (bn 1 ?_)
  refine U 851920084004005 ?_
  refine am (i+1) ?_ ?_ (h5:=?_) (h7:=?_)
  show i+1≤l.length;omega
  show l.length-(i+1)<l.length-i;omega
  exact .cons (cI O) .nil
  ·have ht:=ox (l:=l) (i:=i) O
   unfold vq at ht
   rw [show oc=[49,46,51,46,57,57,57,57,46,49,46,49] from rfl,show rW=[49,46,51,46,57,57,57,57,46,49,46,50] from rfl,show n9=[49,46,51,46,57,57,57,57,46,49,46,51] from rfl] at ht
   first
   |(rw [Zz h53] at ht;rw [ht];refine .same (.blk rfl (fun j hj=>?_) .nil);have:=QR (fk (l.take i)) (uX (l.getD i ([],[])).2) j hj;exact this)
   |(rw [Zy h53,Zz h55] at ht;rw [ht];exact .same (.blk rfl (fun j hj=>QP _ _ j hj) .nil))
   |(rw [Zy h53,Zy h55,Zz h57] at ht;rw [ht];exact .same (.blk rfl (fun j hj=>QQ _ _ j hj) .nil))
   |(rw [Zy h53,Zy h55,Zy h57] at ht;rw [ht];exact .same (.same .nil))
end
section
open Go.RowKit Cal
def v8 (t:I):VV:=⟨8,0,false,[],t⟩
def v7 (t:I) (most:Int):VV:=⟨7,most,false,[],t⟩
def w1 (tag:Int):VV:=⟨1,tag,false,[],[]⟩
def w2:VV:=⟨2,0,false,[],[]⟩
def pv (p:P2):List VV:=[w1 48,v8 p.1,v7 p.2 64,w2]
def uJ (s:S3):List VV:=w1 48::((aQ s).flatMap pv++[w2])
def za (s:S3) (w:W8):W8:=if bC s=true then f9 (uJ s) w else bX 9 w
def mP (s:S3) (r:R8):R8:=if bC s=true then iJ (uJ s) r else ⟨r.tags,r.rows,if r.e=0 then 9 else r.e⟩
theorem tQ (tag:Int) (s:W8):mC (w1 tag) s=cW tag s:=by unfold mC;rw [Zz (show (w1 tag).kind=1 from rfl)];rfl
theorem A0 (s:W8):mC w2 s=dS s:=by unfold mC;rw [Zy (show ¬ w2.kind=1 by decide),Zz (show w2.kind=2 from rfl)]
theorem Pl (t:I) (s:W8):mC (v8 t) s=fH 6 (iK t) (bq t).2 s:=by
 unfold mC
 rw [Zy (show ¬ (v8 t).kind=1 by show ¬ (8:Int)=1;decide),Zy (show ¬ (v8 t).kind=2 by show ¬ (8:Int)=2;decide),Zy (show ¬ (v8 t).kind=11 by show ¬ (8:Int)=11;decide)]
 rfl
theorem Pm (t:I) (m:Int) (s:W8):mC (v7 t m) s=fH 12 (if az t m=0 then t else []) (az t m) s:=by
 unfold mC
 rw [Zy (show ¬ (v7 t m).kind=1 by show ¬ (7:Int)=1;decide),Zy (show ¬ (v7 t m).kind=2 by show ¬ (7:Int)=2;decide),Zy (show ¬ (v7 t m).kind=11 by show ¬ (7:Int)=11;decide)]
 rfl
theorem uQ {l:I} (h:kT l=true):(∀ c ∈ l,32≤c.toNat∧c.toNat<127)∧l≠[]∧l.length≤24:=by
 simp only [kT,ZE,ZJ,Z1] at h
 have ⟨⟨⟨⟨h1,h2⟩,_⟩,_⟩,h5⟩:=h
 refine ⟨fun c hc=>?_,h1,h2⟩
 have:=h5 c hc
 simp only [ol,atx,ZE,ZJ] at this
 omega
theorem vx:∀ {l:I},(∀ c ∈ l,32≤c.toNat∧c.toNat<127)→gw l=true
 | [],_=>rfl
 | c::l,h=>by
  have hc:=h c ZU
  have e:bt (c::l) 0=c.toNat:=rfl
  rw [qo (by simp) (by rw [e];omega),e,jK]
  exact vx fun d hd=>h d (Z2 _ hd)
theorem mH {l:I} {m:Int} (h:∀ c ∈ l,32≤c.toNat∧c.toNat<127) (h0:l≠[]) (hm:(l.length:Int)≤m):az l m=0:=by
 have hp:=aax.2 h0
 unfold az
 rw [jK,jK,Zy (by rw [vx h];decide)]
theorem ii {l:I} {m:Int} (h:az l m=0):(l.length:Int)≤m:=by
 unfold az at h
 by_cases h0:l.length=0
 ·rw [Zz h0] at h;cases h
 ·rw [Zy h0] at h
  by_cases h1:m<l.length
  ·rw [Zz h1] at h;cases h
  omega
def rA (p:P2):Prop:=(bq p.1).2=0∧az p.2 64=0
def kU (p:P2):List (Int×I):=[(6,iK p.1),(12,p.2)]
def rq (p:P2):Int×I:=(48,((kU p).map nG).flatten)
def rr (p:P2):I:=nG (rq p)
def WF (s:S3):Int×I:=(48,(((aQ s).map rq).map nG).flatten)
def y5 (s:S3):I:=nG (WF s)
theorem uF:(bq oc).2=0∧(bq rW).2=0∧(bq n9).2=0:=by decide +kernel
theorem Fl {k:Int} (h1:1≤k) (h5:k≤5):(∀ c ∈ fL k,32≤c.toNat∧c.toNat<127)∧fL k≠[]∧(fL k).length≤8:=by
 obtain rfl|rfl|rfl|rfl|rfl:=kinds h1 h5<;>decide
theorem iM {s:S3} (h:bC s=true):(∀ p ∈ aQ s,rA p∧p.1.length=12∧p.2.length≤24)∧(aQ s).length≤3:=by
 obtain ⟨h1,h5,hn,h2,hs⟩:=(qn s).1 h
 have hw:=Fl h1 h5
 have hn':=uQ hn
 have gk:rA (oc,fL s.1)∧(oc,fL s.1).1.length=12∧(oc,fL s.1).2.length≤24:=⟨⟨uF.1,mH hw.1 hw.2.1 (by have:=hw.2.2;show ((fL s.1).length:Int)≤64;omega)⟩,rfl,by have:=hw.2.2;dsimp only;omega⟩
 have gn:rA (n9,s.2.2)∧(n9,s.2.2).1.length=12∧(n9,s.2.2).2.length≤24:=⟨⟨uF.2.2,mH hn'.1 hn'.2.1 (by have:=hn'.2.2;show (s.2.2.length:Int)≤64;omega)⟩,rfl,hn'.2.2⟩
 rw [z7 h]
 by_cases hk:s.1=2
 ·have hsp:=uQ (h2 hk)
  have gs:rA (rW,s.2.1)∧(rW,s.2.1).1.length=12∧(rW,s.2.1).2.length≤24:=⟨⟨uF.2.1,mH hsp.1 hsp.2.1 (by have:=hsp.2.2;show (s.2.1.length:Int)≤64;omega)⟩,rfl,hsp.2.2⟩
  rw [Zz hk]
  refine ⟨fun p hp=>?_,by simp⟩
  rcases Z9.1 hp with rfl|hp
  exact gk
  ·rcases Z9.1 hp with rfl|hp
   exact gs
   ·rw [agx.1 hp];exact gn
 ·rw [Zy hk]
  refine ⟨fun p hp=>?_,by simp⟩
  rcases Z9.1 hp with rfl|hp
  exact gk
  ·rw [agx.1 hp];exact gn
theorem qv {p:P2} (h:rA p) (h1:p.1.length≤300):(((kU p).map nG).flatten).length≤1000∧(iK p.1).length≤600∧p.2.length≤64:=by
 have h2:=wx p.1
 have h3:=ii h.2
 have h4:=eG 6 (iK p.1)
 have h5:=eG 12 p.2
 simp only [kU,nG,Z6,bqx,arx,bJx,aMx,ZD]
 omega
theorem mI (b:I) {t:Int} {ls:Zx} {fr:List (Int×Zx)} {d:I}:cV b ⟨(t,ls)::fr,d,0⟩=⟨(t,ls++[b])::fr,d,0⟩:=rfl
theorem SP {p:P2} (h:rA p) (h1:p.1.length≤300) {s:W8} (hk:s.k=0) (hf:s.fr.length<16):f9 (pv p) s=cV (rr p) s:=by
 have ⟨l1,l2,l3⟩:=qv h h1
 have ⟨fr,d,k⟩:=s
 simp only at hk hf
 subst hk
 show mC w2 (mC (v7 p.2 64) (mC (v8 p.1) (mC (w1 48) ⟨fr,d,0⟩)))=_
 rw [tQ,Hv rfl jD hf,Pl,h.1,rS rfl jD O,mI,Pm,h.2,Zz rfl,rS rfl jD O,mI,A0]
 have e:([]++[bB 6 (iK p.1)]++[bB 12 p.2]:Zx).flatten=((kU p).map nG).flatten:=rfl
 rw [pT jD jD (by rw [e];omega),e]
 rfl
theorem EJ:∀ (ps:List P2) {ls:Zx} {fr:List (Int×Zx)} {d:I},(∀ p ∈ ps,rA p∧p.1.length≤300)→fr.length<15→f9 (ps.flatMap pv) ⟨(48,ls)::fr,d,0⟩=⟨(48,ls++ps.map rr)::fr,d,0⟩
 | [],ls,fr,d,_,_=>by simp [f9]
 | p::ps,ls,fr,d,h,hf=>by
  rw [List.flatMap_cons,qQ,SP (h p ZU).1 (h p ZU).2 rfl (by simp only [List.length_cons];omega),mI,EJ ps (fun q hq=>h q (Z2 _ hq)) hf]
  simp
theorem wq {s:S3} (h:bC s=true):(((aQ s).map rq).map nG).flatten.length≤4000∧(y5 s).length≤4100:=by
 have ⟨h1,h2⟩:=iM h
 have key:∀ ps:List P2,(∀ p ∈ ps,rA p∧p.1.length=12∧p.2.length≤24)→((ps.map rq).map nG).flatten.length≤1010 * ps.length:=fun ps=>by
  induction ps with
  | nil=>intro _;simp
  | cons p ps ih =>
   intro h
   have h3:=ih fun q hq=>h q (Z2 _ hq)
   have ⟨h4,h5,_⟩:=h p ZU
   have h6:=qv h4 O
   have h7:=eG 48 ((kU p).map nG).flatten
   have h8:(nG (rq p)).length=(bB 48 ((kU p).map nG).flatten).length:=rfl
   simp only [Z6,arx,ZD,List.length_cons]
   omega
 have h3:=key _ h1
 have h4:=eG 48 (((aQ s).map rq).map nG).flatten
 have h5:(y5 s).length=(bB 48 (((aQ s).map rq).map nG).flatten).length:=rfl
 omega
theorem Rx {s:S3} (h:bC s=true) {w:W8} (hk:w.k=0) (hf:w.fr.length<15):za s w=cV (y5 s) w:=by
 have ⟨h1,h2⟩:=iM h
 have ⟨l1,l2⟩:=wq h
 have ⟨fr,d,k⟩:=w
 simp only at hk hf
 subst hk
 unfold za
 rw [Zz h]
 show f9 ((aQ s).flatMap pv++[w2]) (mC (w1 48) ⟨fr,d,0⟩)=_
 rw [tQ,Hv rfl jD (by dsimp only;omega),qQ,EJ _ (fun p hp=>⟨(h1 p hp).1,by have:=(h1 p hp).2.1;omega⟩) hf]
 rw [show ∀ X,f9 [w2] X=mC w2 X from fun _=>rfl,A0]
 have e:([]++(aQ s).map rr:Zx).flatten=(((aQ s).map rq).map nG).flatten:=by rw [List.nil_append,a8x];rfl
 rw [pT jD jD (by rw [e];omega),e]
 rfl
def Tv:W8:=⟨[],[],0⟩
theorem fY {t:Int} (h:-9223372036854775808≤t∧t≤9223372036854775807):ke (w1 t):=⟨h,by simp [w1],by simp [w1]⟩
theorem lI:ke w2:=⟨by simp [w2],by simp [w2],by simp [w2]⟩
theorem sL {t:I} (h:t.length≤300):ke (v8 t):=⟨by simp [v8],by simp [v8],h⟩
theorem sM {t:I} (h:t.length≤300):ke (v7 t 64):=⟨by simp [v7],by simp [v7],h⟩
theorem xe {p:P2} (h1:p.1.length≤300) (h2:p.2.length≤300):∀ v ∈ pv p,ke v:=fun v hv=>by
 simp only [pv,Z9,ahx,or_false] at hv
 rcases hv with rfl|rfl|rfl|rfl
 exact fY jD
 exact sL h1
 exact sM h2
 exact lI
theorem ww:∀ ps:List P2,(ps.flatMap pv).length=4 * ps.length
 | []=>rfl
 | p::ps=>by
  rw [List.flatMap_cons,ZD,ww ps,List.length_cons]
  show 4+_=_
  omega
theorem Ou {i:Nat} {r:R8} {w:W8} (hI:gg i r w) (s:S3):gg (i+14) (mP s r) (za s w):=by
 unfold mP za
 by_cases h:bC s=true
 ·rw [Zz h,Zz h]
  have ⟨h1,h2⟩:=iM h
  have hl:(uJ s).length≤14:=by
   unfold uJ
   rw [List.length_cons,ZD,ww]
   simp only [aEx]
   omega
  refine tq (wC (uJ s) hI fun v hv=>?_) O
  unfold uJ at hv
  rcases Z9.1 hv with rfl|hv
  exact fY jD
  ·rcases bcx.1 hv with hv|hv
   ·have ⟨p,hp,hv⟩:=cLx.1 hv
    have ⟨_,h3,h4⟩:=h1 p hp
    exact xe O O v hv
   ·rw [agx.1 hv];exact lI
 ·rw [Zy h,Zy h]
  exact tq (Ef hI 9) O
def aL:AA:=⟨1,48,0,0⟩
def aO:AA:=⟨8,0,0,0⟩
def aT:AA:=⟨7,0,0,64⟩
def aE:AA:=⟨2,0,0,0⟩
def bQ:t7 P2:=fun l k =>
 let r1:=ac aL l k
 let r2:=ac aO r1.l r1.k
 let r3:=ac aT r2.l r2.k
 let r4:=ac aE r3.l r3.k
 ((r4.l,r4.k),(r2.v.t,r3.v.t))
theorem said_O (b:I):saidM aO b=(vT (eU b).1,(eU b).2):=rfl
theorem said_T (b:I):saidM aT b=(vT (if az b 64=0 then b else []),az b 64):=rfl
theorem mv:oJ bQ:=by
 have key:∀ l k,0<l.length→dq l k=true→eB (bQ l k).1.1 (bQ l k).1.2<eB l k∧((bQ l k).1.2=0→(bQ l k).1.1.length=l.length)∧l.length≤(bQ l k).1.1.length∧(bQ l k).1.1.length≤l.length+16:=by
  intro l k hl hm
  have hk:=(gU hm).1
  obtain ⟨a1,a2,a3,a4,a5,a6,a7⟩:=gA aL (l:=l) (k:=k) hl
  have a3':=a3 hk jD
  have ⟨a41,a42⟩:=a4 rfl
  have p1:l.length≤(ac aL l k).l.length∧(ac aL l k).l.length≤l.length+1:=by
   by_cases h:(ac aL l k).k=0
   ·have:=a41 h;omega
   ·have:=a42 h;omega
  obtain ⟨b1,b2,b3,b4,b5,b6,b7⟩:=gA aO (l:=(ac aL l k).l) (k:=(ac aL l k).k) O
  have b6':=b6 jD jD
  obtain ⟨c1,c2,c3,c4,c5,c6,c7⟩:=gA aT (l:=(ac aO (ac aL l k).l (ac aL l k).k).l) (k:=(ac aO (ac aL l k).l (ac aL l k).k).k) O
  have c6':=c6 jD jD
  obtain ⟨d1,d2,d3,d4,d5,d6,d7⟩:=gA aE (l:=(ac aT (ac aO (ac aL l k).l (ac aL l k).k).l (ac aO (ac aL l k).l (ac aL l k).k).k).l) (k:=(ac aT (ac aO (ac aL l k).l (ac aL l k).k).l (ac aO (ac aL l k).l (ac aL l k).k).k).k) O
  have ⟨d51,d52⟩:=d5 rfl
  show eB (ac aE _ _).l (ac aE _ _).k<_∧((ac aE _ _).k=0→(ac aE _ _).l.length=_)∧_≤(ac aE _ _).l.length∧(ac aE _ _).l.length≤_
  refine ⟨by omega,fun h=>?_,?_,?_⟩
  ·have:=d51 h
   have:=a41 (b7 (c7 (d7 h)))
   omega
  ·by_cases h:(ac aE (ac aT (ac aO (ac aL l k).l (ac aL l k).k).l (ac aO (ac aL l k).l (ac aL l k).k).k).l (ac aT (ac aO (ac aL l k).l (ac aL l k).k).l (ac aO (ac aL l k).l (ac aL l k).k).k).k).k=0
   ·have:=d51 h
    have:=a41 (b7 (c7 (d7 h)))
    omega
   ·have:=d52 h;omega
  ·by_cases h:(ac aE (ac aT (ac aO (ac aL l k).l (ac aL l k).k).l (ac aO (ac aL l k).l (ac aL l k).k).k).l (ac aT (ac aO (ac aL l k).l (ac aL l k).k).l (ac aO (ac aL l k).l (ac aL l k).k).k).k).k=0
   ·have:=d51 h;omega
   ·have:=d52 h;omega
 exact ⟨fun l k h1 h2=>(key l k h1 h2).1,fun l k h1 h2=>(key l k h1 h2).2.1,fun l k h1 h2=>(key l k h1 h2).2.2⟩
theorem Aa (p:P2):((kU p).map nG).flatten=bB 6 (iK p.1)++(bB 12 p.2++[]):=by simp [kU,nG]
def T6 (p:P2):Prop:=rA p∧(iK p.1).length≤65530∧(((kU p).map nG).flatten).length≤65530
theorem Ht:vm bQ rr T6:=by
 refine ⟨fun ls p r h=>?_,fun ls x k h=>?_,fun p _=>wJ _⟩
 ·have ⟨⟨h1,h2⟩,h3,h4⟩:=h
  have h5:=ii h2
  obtain ⟨e1,e2,_⟩:=qP ls (t:=48) (b:=((kU p).map nG).flatten) r jD h4
  obtain ⟨f1,f2⟩:=rQ aL rfl (ls++[rr p++r]) 0
  have g1:(ac aL (ls++[rr p++r]) 0).l=ls++[r]++[bB 6 (iK p.1)++(bB 12 p.2++[])]:=by rw [f1,← Aa];exact e1
  have g2:(ac aL (ls++[rr p++r]) 0).k=0:=f2.trans e2
  have hpm:iK p.1=BP (bq p.1).1:=by unfold iK;rw [Zz h1]
  have hO:saidM aO (iK p.1)=(vT p.1,0):=by rw [said_O,hpm,Gp h1]
  have hT:saidM aT p.2=(vT p.2,0):=by rw [said_T,h2,Zz rfl]
  have g3:=pu aO (ls++[r]) (b:=iK p.1) (bB 12 p.2++[]) jD h3 (by rw [hO])
  have g4:=pu aT (ls++[r]) (b:=p.2) [] jD O (by rw [hT])
  have g5:=qE (ls:=ls++[r]) (by simp)
  obtain ⟨g6,g7⟩:=rP aE rfl (ls++[r]++[[]]) 0
  have tO:kR aO=6:=rfl
  have tT:kR aT=12:=rfl
  rw [tO] at g3
  rw [tT] at g4
  unfold bQ
  dsimp only
  rw [g1,g2,g3]
  dsimp only
  rw [g4]
  dsimp only
  rw [g6,g7,g5.1,g5.2,hO,hT]
  rfl
 ·have hk4:(ac aE (ac aT (ac aO (ac aL (ls++[x]) k).l (ac aL (ls++[x]) k).k).l (ac aO (ac aL (ls++[x]) k).l (ac aL (ls++[x]) k).k).k).l (ac aT (ac aO (ac aL (ls++[x]) k).l (ac aL (ls++[x]) k).k).l (ac aO (ac aL (ls++[x]) k).l (ac aL (ls++[x]) k).k).k).k).k=0:=h
  have len1:0<(ac aL (ls++[x]) k).l.length:=by
   obtain ⟨a1,a2,a3,a4,_⟩:=gA aL (l:=ls++[x]) (k:=k) (by simp)
   have ⟨a41,a42⟩:=a4 rfl
   by_cases h:(ac aL (ls++[x]) k).k=0
   ·rw [a41 h];omega
   ·rw [a42 h];simp
  obtain ⟨_,_,_,_,_,b6,b7⟩:=gA aO (l:=(ac aL (ls++[x]) k).l) (k:=(ac aL (ls++[x]) k).k) len1
  have b6':=b6 jD jD
  obtain ⟨_,_,_,_,_,c6,c7⟩:=gA aT (l:=(ac aO (ac aL (ls++[x]) k).l (ac aL (ls++[x]) k).k).l) (k:=(ac aO (ac aL (ls++[x]) k).l (ac aL (ls++[x]) k).k).k) O
  have c6':=c6 jD jD
  obtain ⟨_,_,_,_,_,_,d7⟩:=gA aE (l:=(ac aT (ac aO (ac aL (ls++[x]) k).l (ac aL (ls++[x]) k).k).l (ac aO (ac aL (ls++[x]) k).l (ac aL (ls++[x]) k).k).k).l) (k:=(ac aT (ac aO (ac aL (ls++[x]) k).l (ac aL (ls++[x]) k).k).l (ac aO (ac aL (ls++[x]) k).l (ac aL (ls++[x]) k).k).k).k) O
  have hk3:=d7 hk4
  have hk2:=c7 hk3
  have hk1:=b7 hk2
  obtain ⟨f1,f2⟩:=rQ aL rfl (ls++[x]) k
  obtain ⟨hk0,b,r,e1,e2,e3,e4⟩:=so (t:=48) jD (show (ab 48 (ls++[x]) k).k=0 from f2.symm.trans hk1)
  have g1:(ac aL (ls++[x]) k).l=ls++[r]++[b]:=f1.trans e3
  rw [g1,hk1] at hk2 hk3 hk4
  obtain ⟨_,o,r2,o1,o2,o3,o4⟩:=lz (a:=aO) jD hk2
  rw [o4] at hk3 hk4
  obtain ⟨_,t,r3,t1,t2,t3,t4⟩:=lz (a:=aT) jD hk3
  rw [t4] at hk4
  obtain ⟨f3,f4⟩:=rP aE rfl (ls++[r]++[r3]) 0
  dsimp only at hk4
  rw [f4] at hk4
  have ⟨_,u1,u2,u3⟩:=rZ hk4
  subst u1
  have o3':(eU o).2=0:=o3
  have t3':az t 64=0:=t3
  have ⟨q1,q2⟩:=FS o3'
  have hO:(saidM aO o).1.t=(eU o).1:=rfl
  have hT:(saidM aT t).1.t=t:=by rw [said_T];show (if az t 64=0 then t else [])=t;rw [Zz t3']
  have hb:b=((kU ((eU o).1,t)).map nG).flatten:=by
   rw [Aa,o1,t1]
   show bB 6 o++(bB 12 t++[])=bB 6 (iK (eU o).1)++_
   rw [q1]
  refine ⟨hk0,((eU o).1,t),r,⟨⟨q2,t3'⟩,by rw [q1];exact o2,by rw [← hb];exact e2⟩,?_,?_⟩
  ·rw [e1,hb];rfl
  ·unfold bQ
   dsimp only
   rw [g1,hk1,o4]
   dsimp only
   rw [t4]
   dsimp only
   rw [f3,f4,u3,hk4,hO,hT]
def mc (l:Zx) (k:Nat):Zx×Nat:=dj bQ (af 48 l k) (ab 48 l k).k 8
def pG (l:Zx) (k:Nat):List P2:=(bU bQ (af 48 l k) (ab 48 l k).k (jG bQ (af 48 l k) (ab 48 l k).k 8)).2
def kV (l:Zx) (k:Nat):(Zx×Nat)×S3 :=
 if (mc l k).2≠0 then (mc l k,eD) else (((mc l k).1,(yU (pG l k)).2),(yU (pG l k)).1)
theorem uB (s:S3):((aQ s).map rr).flatten=(((aQ s).map rq).map nG).flatten:=by rw [a8x];rfl
theorem VB {p:P2} (h:rA p) (h1:p.1.length≤300):T6 p:=by
 have ⟨l1,l2,l3⟩:=qv h h1
 exact ⟨h,by omega,by omega⟩
theorem ON {s:S3} (h:bC s=true) (ls:Zx) (r:I):kV (ls++[y5 s++r]) 0=((ls++[r],0),s):=by
 have ⟨h1,h2⟩:=iM h
 have ⟨l1,l2⟩:=wq h
 have e:y5 s=bB 48 ((aQ s).map rr).flatten:=by rw [uB];rfl
 obtain ⟨r1,r2⟩:=Hf mv Ht (tag:=48) (most:=8) ls (xs:=aQ s) r jD (fun p hp=>VB (h1 p hp).1 (by have:=(h1 p hp).2.1;omega)) O (by rw [uB];omega)
 rw [← e] at r1 r2
 have hE:mc (ls++[y5 s++r]) 0=(ls++[r],0):=r1
 have hL:pG (ls++[y5 s++r]) 0=aQ s:=r2
 have ho:yU (aQ s)=(s,0):=(Hy _ _).2 ⟨h,rfl⟩
 unfold kV
 rw [hE,hL,ho,Zy (by simp)]
theorem KC {ls:Zx} {x:I} {k:Nat} (h:(kV (ls++[x]) k).1.2=0):k=0∧∃ s r,bC s=true∧x=y5 s++r∧kV (ls++[x]) k=((ls++[r],0),s):=by
 unfold kV at h ⊢
 by_cases h0:(mc (ls++[x]) k).2≠0
 ·rw [Zz h0] at h;exact absurd h h0
 ·rw [Zy h0] at h ⊢
  obtain ⟨hk,xs,r,g1,g2,g3,g4,g5,g6⟩:=xj mv Ht (tag:=48) (most:=8) (k:=k) ls x jD (by exact a3x.1 h0)
  have hE:mc (ls++[x]) k=(ls++[r],0):=g5
  have hL:pG (ls++[x]) k=xs:=g6
  rw [hE,hL] at h ⊢
  dsimp only at h ⊢
  have ho:yU xs=((yU xs).1,0):=czx rfl h
  obtain ⟨hr,hp⟩:=(Hy _ _).1 ho
  refine ⟨hk,(yU xs).1,r,hr,?_,by rw [h]⟩
  have hsb:y5 (yU xs).1=bB 48 (xs.map rr).flatten:=by
   show bB 48 (((aQ (yU xs).1).map rq).map nG).flatten=_
   rw [← uB,hp]
  rw [g4,hsb]
end
section
variable {gs:List Nat} [dO gs]
end
section
variable {gs:List Nat} [ib gs]
open Go.RowKit Cal
def Yh:R8:=⟨[],[],0⟩
theorem W7 {G:Gh} {env:List (Nat×CV)} {b0:Nat→CV} {H:List (Option Nat×aW)} (n i:Nat) {f:Nat→CV} (hi:H[i]?=some (some n,.blk 3 f)) (h0:aa (f 0) (.c (.slice none 0 0))) (h1:aa (f 1) (.c (.slice none 0 0))) (h2:aa (f 2) (.c (.int .i64 0))):cJ G ⟨env,b0,H⟩ ⟨env,b0,H.set i (sQ n Yh)⟩:=by
 have hil:=(ZC.1 hi).1
 have os0:∀ {j k:Nat},aa (.c (.slice none 0 0)) (.os j none 0 0 k):=fun al St w v h=>⟨rfl,h⟩
 intro St a w hr
 obtain ⟨S1,s1,r1⟩:=f8 (G:=G) (s:=⟨env,b0,H⟩) (dL []) St a w hr
 obtain ⟨S4,s4,r4⟩:=qV (G:=G) (env:=env) (b0:=b0) (H:=H++[(none,.blk 0 (dL []))]) n Yh i H.length (gr:=none) (N:=0) (f:=f) (F:=dL [])
  (by rw [ZF hil];exact hi) (by simp) (by cases e:Nat.beq i H.length with|false=>rfl|true=>have:=acx e;omega) (h0.trans (aa.nilS _ _)) (h1.trans os0) h2 (ZA _) (fun a h=>absurd h (ZO a)) S1 a w r1
 obtain ⟨S5,s5,r5⟩:=ce (G:=G) (H':=H.set i (sQ n Yh)) (List.range H.length) (gQ _) (by
  rw [gR _ _ (by simp)]
  rw [lc _ _ _ _ O,c7x,cYx]) S4 a w r4
 exact ⟨S5,fun b hb=>s5 b (s4 b (s1 b hb)),r5⟩
end
section
variable {P:Program} {G:Gh} {o:Oper} {env:List (Nat×CV)} {b0:Nat→CV} {H:List (Option Nat×aW)} {K:AS→Prop}
theorem qy {f:FuncId} {v:Operand} {n d:Nat} {fv:Nat→CV} {xs:Array Operand} {ats:Array TypeId} {args:List CV} {Q:CV→List (Option Nat×aW)→Prop} {i:Nat} {x0:Option Nat×aW} (ho:o.op=.call ⟨.value v,xs,ats⟩) (hv:(⟨env,b0,H⟩:AS).eval v=.fn f n fv) (hc:bA P f=true) (hi:H[i]?=some x0) (hA:AC G.gs P f [x0] args Q)
  (he:o6 (xs.toList.map (⟨env,b0,H⟩:AS).eval++(List.range n).map fv) args) (hd:o.dst=some d) (hN:Nat.blt d G.N=true)
  (hK:∀ r H',Q r H'→∃ x,H'=[x]∧K ⟨(d,r)::env,b0,H.set i x⟩):vn P G o ⟨env,b0,H⟩ K :=
 NQ ho hv hc hi hA he (kK hd hN) (fun r H' hq=>by have ⟨x,h1,h2⟩:=hK r H' hq;exact ⟨x,h1,by rw [dv hd];exact h2⟩)
end
section
variable {gs:List Nat} [dO gs] [rz gs]
open Go.RowKit Cal
def DC (p:P2):CV:=.agg 2 (im p)
theorem ME {gs:List Nat} [ib gs] {f:FuncId} (hc:bA prog f=true) (n:Nat) (tag:Int) (ws:W8) (l:List P2) (sG:Nat→W8) (h0:vV ws) (hs:sG 0=cW tag ws) (hok:∀ i,i≤l.length→vV (sG i)) (hl:l.length≤1000000) (hf:∀ i,i<l.length→AC gs prog f [iu n (sG i)] [.op 0 (some n) 0,DC (l.getD i ([],[]))] (fun r H'=>r=.c (.tuple #[])∧H'=[iu n (sG (i+1))])) :
  AC gs prog 97 [iu n ws] [.op 0 (some n) 0,.c (.int .i64 tag),jM l,.fn f 0 fun _=>.top] (fun r H'=>r=.c (.tuple #[])∧H'=[iu n (dS (sG l.length))]):=by
 refine ae 26 func97 fun _ _ _ _=>?_;refine U 116 ?_
 refine aw (aN 0 (pA n ws tag h0) ?_)
 refine U 205131675 ?_;refine ar (α:=Nat) [9,15,16,17,18,19,20,21,22,23] (fun i=>[(15,.c (.int .i64 (i:Nat)))]) (fun i=>[iu n (sG i)]) (fun i=>i≤l.length) (fun i=>l.length-i) (0) ?_ (fun _=>rfl) ?_ ?_ ?_
 exact ZL _
 exact .cons Z .nil
 ·rw [hs];exact aD.refl _
 ·rintro i (hi:i≤l.length)
  refine U 7526 ?_;refine aaa (fun h305=>?_) fun h305=>?_
  ·refine U 84000200020006000 ?_
   have hie:i=l.length:=by omega
   subst hie
   refine U 1200 ?_
   refine aw (aN 0 (nD n (sG l.length) (hok _ (ZA _))) ?_)
   refine U 5 ?_
   exact bi (.inr rfl) _ [_] [0] jD rfl (br rfl) ⟨rfl,rfl⟩
  refine U 7006207810 ?_;refine jq (pJ 2) ?_
  refine aq (dh (n:=2) eO rfl fun p2=>?_)
  refine aw (bg 2 (im (l.getD i ([],[]))) ?_ ?_)
  exact sb
  refine U 112005 ?_;refine kj (bD 2) ?_
  refine aw (qy (i:=0) rfl rfl (by assumption) rfl (hf i O) (.cons cP (.cons (aa.agg rfl (fun j hj=>aa.of_eq (by show im _ (0+j)=im _ j;rw [Nat.zero_add]))) .nil)) rfl rfl ?_)
  rintro _ _ ⟨rfl,rfl⟩
  refine ⟨_,rfl,?_⟩
  refine U 851920084005 ?_
  refine am (i+1) ?_ ?_ (h5:=?_) (h7:=?_)
  show i+1≤l.length;omega
  show l.length-(i+1)<l.length-i;omega
  exact .cons (cI O) .nil
  exact aD.refl _
theorem Ry (n:Nat) {i:Nat} {r:R8} {s:W8} (hI:gg i r s) (hi:i≤900) (p:P2) (h1:p.1.length≤300) (h2:p.2.length≤300):AC gs prog 98 [iu n s] [.op 0 (some n) 0,DC p] (fun r H'=>r=.c (.tuple #[])∧H'=[iu n (f9 (pv p) s)]):=by
 have I1:=jl hI (fY (t:=48) jD)
 rw [tQ] at I1
 have I2:=jl I1 (sL h1)
 rw [Pl] at I2
 have I3:=jl I2 (sM h2)
 rw [Pm] at I3
 have hD:f9 (pv p) s=dS (fH 12 (if az p.2 64=0 then p.2 else []) (az p.2 64) (fH 6 (iK p.1) (bq p.1).2 (cW 48 s))):=by
  show mC w2 (mC (v7 p.2 64) (mC (v8 p.1) (mC (w1 48) s)))=_
  rw [tQ,Pl,Pm,A0]
 refine ae 16 func98 fun _ _ _ _=>?_;refine eA ?_
 refine aq (ee 2 fun p1=>?_)
 refine U 165 ?_
 refine aw (aN 0 (pA n s 48 (gD hI O)) ?_)
 refine U 5090165 ?_
 refine aw (aN 0 (RH n (cW 48 s) p.1 O (gD I1 O)) ?_)
 refine U 50100165 ?_
 refine aw (aN 0 (CW n (fH 6 (iK p.1) (bq p.1).2 (cW 48 s)) p.2 64 O (gD I2 O)) ?_)
 refine U 12005 ?_
 refine aw (aN 0 (nD n (fH 12 (if az p.2 64=0 then p.2 else []) (az p.2 64) (fH 6 (iK p.1) (bq p.1).2 (cW 48 s))) (gD I3 O)) ?_)
 refine U 5 ?_
 rw [hD]
 exact bi (.inr rfl) _ [_] [0] jD rfl (br rfl) ⟨rfl,rfl⟩
theorem Hr (n:Nat) {i:Nat} {r:R8} {w:W8} (hI:gg i r w) (hi:i≤800) (s:S3) (L:List P2) (e:Nat) (hp:cd gs prog 95 [mj s] (.tup 2 (fl [jM L,.err e]))) (hL:∀ p ∈ L,p.1.length≤300∧p.2.length≤300) (hl:L.length≤8) :
  AC gs prog 41 [iu n w] [.op 0 (some n) 0,mj s] (fun r H'=>r=.c (.tuple #[])∧H'=[iu n (dS (f9 (L.flatMap pv) (cW 48 (bX e w))))]):=by
 have I0:=Ef hI e
 have I1:=jl I0 (fY (t:=48) jD)
 rw [tQ] at I1
 have hG:∀ j,j≤L.length→∃ r',gg (i+1+4 * j) r' (f9 ((L.take j).flatMap pv) (cW 48 (bX e w))):=fun j hj=>by
  refine ⟨_,tq (wC ((L.take j).flatMap pv) I1 fun v hv=>?_) ?_⟩
  ·have ⟨p,hp,hv⟩:=cLx.1 hv
   have h:=hL p (b3x hp)
   exact xe h.1 h.2 v hv
  ·rw [ww,ZK];omega
 have hS:∀ j,j<L.length→f9 ((L.take (j+1)).flatMap pv) (cW 48 (bX e w))=f9 (pv (L.getD j ([],[]))) (f9 ((L.take j).flatMap pv) (cW 48 (bX e w))):=fun j hj=>by
  rw [ZH hj,ctx,qQ,ZB,ZM hj]
  simp
 have hok:∀ j,j≤L.length→vV (f9 ((L.take j).flatMap pv) (cW 48 (bX e w))):=fun j hj=>by
  have ⟨r',h⟩:=hG j hj
  exact gD h O
 have hf:∀ j,j<L.length→AC gs prog 98 [iu n (f9 ((L.take j).flatMap pv) (cW 48 (bX e w)))] [.op 0 (some n) 0,DC (L.getD j ([],[]))] (fun r H'=>r=.c (.tuple #[])∧H'=[iu n (f9 ((L.take (j+1)).flatMap pv) (cW 48 (bX e w)))]):=fun j hj=>by
  have ⟨r',h⟩:=hG j O
  have hm:L.getD j ([],[]) ∈ L:=by
   rw [ZB,ZM hj]
   exact aAx _
  rw [hS j hj]
  exact Ry n h O _ (hL _ hm).1 (hL _ hm).2
 have hR:=ME (gs:=gs) (f:=98) (by kernel_rfl) n 48 (bX e w) L (fun j=>f9 ((L.take j).flatMap pv) (cW 48 (bX e w))) (gD I0 O) rfl hok O hf
 rw [ZW] at hR
 refine ae 17 func41 fun _ _ _ _=>?_;refine eA ?_
 refine aq (ee 3 fun p1=>?_)
 refine U 65 ?_;refine kj (bD 3) ?_
 refine aq (ak hp ?_)
 refine U 1165119009001 ?_
 refine aw (aN 0 (tI n w e) ?_)
 refine U 112005 ?_
 refine aw (aN 0 hR ?_)
 refine U 5 ?_
 exact bi (.inr rfl) _ [_] [0] jD rfl (br rfl) ⟨rfl,rfl⟩
theorem RQ (n:Nat) {i:Nat} {r:R8} {w:W8} (hI:gg i r w) (hi:i≤800) (s:S3):AC gs prog 41 [iu n w] [.op 0 (some n) 0,mj s] (fun r H'=>r=.c (.tuple #[])∧H'=[iu n (za s w)]):=by
 have hp:=Ai (gs:=gs) s
 by_cases hr:bC s=true
 ·rw [Zz hr,Zz hr] at hp
  have ⟨h1,h2⟩:=iM hr
  have h:=Hr n hI hi s _ _ hp (fun p hp=>by have:=h1 p hp;omega) O
  have e:za s w=dS (f9 ((aQ s).flatMap pv) (cW 48 (bX 0 w))):=by
   unfold za
   rw [Zz hr,sk]
   show f9 ((aQ s).flatMap pv++[w2]) (mC (w1 48) w)=_
   rw [tQ,qQ]
   exact A0 _
  rw [e]
  exact h
 ·rw [Zy hr,Zy hr] at hp
  have h:=Hr n hI hi s _ _ hp (fun p hp=>by cases hp) jD
  have hk:(bX 9 w).k≠0:=by
   unfold bX
   split
   ·show (9:Nat)≠0;decide
   ·assumption
  have e:za s w=dS (f9 (([]:List P2).flatMap pv) (cW 48 (bX 9 w))):=by
   unfold za
   rw [Zy hr]
   show _=dS (cW 48 (bX 9 w))
   rw [← tQ,← A0,EK hk,EK hk]
  rw [e]
  exact h
def WO:R8:=⟨[],[],0⟩
theorem Ow:gg 0 WO Tv:=Oq
theorem Q1 {gs:List Nat} [ib gs] {f:FuncId} (hc:bA prog f=true) (n:Nat) (l:Zx) (k:Nat) (tag most:Int) {sp:t7 P2} (ok:oJ sp) (hl:0<l.length∧l.length≤100000) (hb:cw l≤100000) (hf:∀ l k,0<l.length∧l.length≤200000→cw l≤100000→dq l k=true→AC gs prog f [eo n l k] [.op 0 (some n) 0] (fun r H'=>r=DC (sp l k).2∧H'=[eo n (sp l k).1.1 (sp l k).1.2])) :
  AC gs prog 117 [eo n l k] [.op 0 (some n) 0,.c (.int .i64 tag),.c (.int .i64 most),.fn f 0 fun _=>.top]
   (fun r H'=>r=jM (if (dj sp (af tag l k) (ab tag l k).k most).2=0 then (bU sp (af tag l k) (ab tag l k).k (jG sp (af tag l k) (ab tag l k).k most)).2 else [])∧H'=[eo n (dj sp (af tag l k) (ab tag l k).k most).1 (dj sp (af tag l k) (ab tag l k).k most).2]):=by
 have he:=f7 (t:=tag) (l:=l) (k:=k) hl.1
 have hle:l.length≤(af tag l k).length∧(af tag l k).length≤l.length+1:=by
  by_cases h:(ab tag l k).k=0
  ·have:=he.2.2.2.1 h;omega
  ·have:=he.2.2.2.2.1 h;omega
 have hsm:eB (af tag l k) (ab tag l k).k≤100001:=by
  have h0:eB l k≤100001:=by unfold eB;split<;>omega
  exact Z7 he.2.1 h0
 have hse:cw (af tag l k)≤100000:=by
  have h1:=he.2.1
  have h2:=he.2.2.1
  have h3:=he.1
  by_cases hk:k=0
  ·have h4:=h2 hk
   unfold eB at h4
   rw [Zz hk] at h4
   split at h4<;>omega
  ·rw [(h3 hk).1];exact hb
 have hnl:=wy l
 generalize hl0:af tag l k=l0 at *
 generalize hk0:(ab tag l k).k=k0 at *
 have hso:=fun j=>sI sp l0 k0 j
 have hbd:=nL (sp:=sp) (k0:=k0) (most:=most) ok (show 0<l0.length by omega)
 refine ae 36 func117 fun _ _ _ _=>?_;refine U 116516516 ?_
 refine aw (aN 0 (pQ n l k tag O O) ?_)
 refine U 2075 ?_
 rw [hl0,hk0]
 refine jE (mw 9 2 (gv 2 im ([],[]) []) rfl) ?_;refine ar (α:=Nat×Option Nat) [9,13,14,15,16,17,18,19,20,21,22,23,24,25,26,27] (fun (j,g)=>[(9,.os 1 g 0 (bU sp l0 k0 j).2.length 2)]) (fun (j,g)=>[eo n (bU sp l0 k0 j).1.1 (bU sp l0 k0 j).1.2,(g,.blk ((bU sp l0 k0 j).2.length * 2) (gv 2 im ([],[]) (bU sp l0 k0 j).2))]) (fun p=>∀ i,i<p.1→rf sp l0 k0 most i=true) (fun p=>eB (bU sp l0 k0 p.1).1.1 (bU sp l0 k0 p.1).1.2) ((0,none)) ?_ (fun _=>rfl) ?_ ?_ ?_
 exact fun i hi=>absurd hi (ZO i)
 exact .cons (cO rfl) .nil
 exact aD.refl _
 ·rintro ⟨j,g⟩ (hj:∀ i,i<j→rf sp l0 k0 most i=true)
  have ⟨hmj,hlk,hlo,hhi⟩:=hbd j hj
  have hjl:0<(bU sp l0 k0 j).1.1.length∧(bU sp l0 k0 j).1.1.length≤200000:=by omega
  have hjo:=hso j
  have hjm:j≤100001:=by omega
  refine U 167 ?_
  refine aw (aN 0 (HD n (bU sp l0 k0 j).1.1 (bU sp l0 k0 j).1.2 O) ?_)
  refine U 5 ?_;refine aaa (fun h315=>?_) fun h315=>?_
  ·refine U 84000200020006000 ?_
   first
    |(have hmt:dq (bU sp l0 k0 j).1.1 (bU sp l0 k0 j).1.2=true:=by simpa using h315
      have hkz:=(gU hmt).1
      rw [Zz hkz]
      have hstop:jG sp l0 k0 most=j:=ou ok O hj (by unfold rf;rw [hmt,awx,aGx];omega)
      have hE:eo n (bm (bU sp l0 k0 j).1.1 3) (ba (bU sp l0 k0 j).1.1 3)=eo n (dj sp l0 k0 most).1 (dj sp l0 k0 most).2:=by
       unfold dj
       rw [hstop]
       dsimp only
       rw [Zz hmt])
    |(have hmf:dq (bU sp l0 k0 j).1.1 (bU sp l0 k0 j).1.2=false:=by simpa using h315
      have hstop:jG sp l0 k0 most=j:=ou ok O hj (by unfold rf;rw [hmf];rfl)
      have hE:eo n (bm (bU sp l0 k0 j).1.1 (bU sp l0 k0 j).1.2) (ba (bU sp l0 k0 j).1.1 (bU sp l0 k0 j).1.2)=eo n (dj sp l0 k0 most).1 (dj sp l0 k0 most).2:=by
       unfold dj
       rw [hstop]
       dsimp only
       rw [Zy (by rw [hmf];simp)])
   refine U 16 ?_
   refine aw (aN 0 (lO n (bU sp l0 k0 j).1.1 _ O) ?_)
   refine U 75 ?_
   dsimp only
   rw [hE,hstop]
   refine bu 0 rfl fun gl=>?_;refine U 5500000501004016 ?_;refine an (fun h323=>?_) fun h323=>?_
   ·refine jE (cG n (dj sp l0 k0 most).2 (dj sp l0 k0 most).1 0 2 rfl rfl rfl (cO rfl) Z (ZA _) (fun _ _=>Z)) ?_;refine U 30007000516 ?_
    exact bL (.inl rfl) [0] jD rfl (aK rfl (ai rfl)) (m:=jM []) (aa.nilS' rfl) ⟨by rw [jK],rfl⟩
   refine U 810 ?_;refine jE (cG n (dj sp l0 k0 most).2 (dj sp l0 k0 most).1 0 2 rfl rfl rfl (cO rfl) Z (ZA _) (fun _ _=>Z)) ?_;refine U 5116 ?_;refine jE (freeze 1 rfl) ?_;refine jE (iG 8 (fun a b=>im ((bU sp l0 k0 j).2.getD a ([],[])) b) rfl rfl O (fun a b ha hb=>aa.of_eq (by rw [Nat.zero_add,kh hb]))) ?_;refine U 7000 ?_
   exact bL (.inl rfl) [0] jD rfl (aK rfl (ai rfl)) (m:=jM (bU sp l0 k0 j).2) Z ⟨by rw [jP],rfl⟩
  refine U 521316720810 ?_;refine aaa (fun h316=>?_) fun h316=>?_
  ·refine U 810 ?_
   have hmt0:dq (bU sp l0 k0 j).1.1 (bU sp l0 k0 j).1.2=true:=by simpa using h315
   have hgo:rf sp l0 k0 most j=true:=by unfold rf;rw [hmt0,awx,ZJ];omega
   refine U 111200 ?_
   refine aw (qy (i:=0) rfl rfl (by assumption) rfl (hf (bU sp l0 k0 j).1.1 (bU sp l0 k0 j).1.2 hjl (by have h1:eB (bU sp l0 k0 j).1.1 (bU sp l0 k0 j).1.2=cw (bU sp l0 k0 j).1.1+1:=(by unfold eB;rw [Zz (gU hmt0).1]);omega) hmt0) (.cons cP .nil) rfl rfl ?_)
   rintro _ _ ⟨rfl,rfl⟩
   refine ⟨_,rfl,?_⟩
   refine aq (aM 2 2 eO fun p3=>?_)
   refine aw (aB (gO 2 im ([],[])) (l2:=[(sp (bU sp l0 k0 j).1.1 (bU sp l0 k0 j).1.2).2]) rfl rfl rfl rfl (by exact ZA _) (fun _ _=>Z) (aI rfl (.inl rfl) jD) rfl (fun j hj=>by rcases j with _|_|j<;>first|exact Z|(exfalso;simp at hj<;>omega)) underlying152 xK w9 eO yE rfl (by (simp;omega)) (by (simp;omega)) (bw rfl rfl) rfl rfl rfl (fun p4=>?_))
   refine U 840051 ?_
   refine am ((j+1,p4)) ?_ ?_ (h5:=?_) (h7:=?_)
   exact fun i hi=>if h:i<j then hj i h else (by obtain rfl:i=j:=(by have hi:i<j+1:=hi;omega);exact hgo)
   exact ok.mu _ _ O (by unfold rf at hgo;rw [ZE] at hgo;exact hgo.1)
   exact .cons (cO rfl) .nil
   exact aD.refl _
  refine U 16 ?_;refine jq (cK 2) ?_
  refine aw (aN 0 (va n (bU sp l0 k0 j).1.1 (bU sp l0 k0 j).1.2 3) ?_)
  refine U 84000200080000200060005 ?_
  first
   |(have hmt:dq (bU sp l0 k0 j).1.1 (bU sp l0 k0 j).1.2=true:=by simpa using h315
     have hkz:=(gU hmt).1
     rw [Zz hkz]
     have hstop:jG sp l0 k0 most=j:=ou ok O hj (by unfold rf;rw [hmt,awx,aGx];omega)
     have hE:eo n (bm (bU sp l0 k0 j).1.1 3) (ba (bU sp l0 k0 j).1.1 3)=eo n (dj sp l0 k0 most).1 (dj sp l0 k0 most).2:=by
      unfold dj
      rw [hstop]
      dsimp only
      rw [Zz hmt])
   |(have hmf:dq (bU sp l0 k0 j).1.1 (bU sp l0 k0 j).1.2=false:=by simpa using h315
     have hstop:jG sp l0 k0 most=j:=ou ok O hj (by unfold rf;rw [hmf];rfl)
     have hE:eo n (bm (bU sp l0 k0 j).1.1 (bU sp l0 k0 j).1.2) (ba (bU sp l0 k0 j).1.1 (bU sp l0 k0 j).1.2)=eo n (dj sp l0 k0 most).1 (dj sp l0 k0 most).2:=by
      unfold dj
      rw [hstop]
      dsimp only
      rw [Zy (by rw [hmf];simp)])
  refine U 16 ?_
  refine aw (aN 0 (lO n (bU sp l0 k0 j).1.1 _ O) ?_)
  refine U 75 ?_
  dsimp only
  rw [hE,hstop]
  refine bu 0 rfl fun gl=>?_;refine U 5500000501004016 ?_;refine an (fun h323=>?_) fun h323=>?_
  ·refine jE (cG n (dj sp l0 k0 most).2 (dj sp l0 k0 most).1 0 2 rfl rfl rfl (cO rfl) Z (ZA _) (fun _ _=>Z)) ?_;refine U 30007000516 ?_
   exact bL (.inl rfl) [0] jD rfl (aK rfl (ai rfl)) (m:=jM []) (aa.nilS' rfl) ⟨by rw [jK],rfl⟩
  refine U 810 ?_;refine jE (cG n (dj sp l0 k0 most).2 (dj sp l0 k0 most).1 0 2 rfl rfl rfl (cO rfl) Z (ZA _) (fun _ _=>Z)) ?_;refine U 5116 ?_;refine jE (freeze 1 rfl) ?_;refine jE (iG 8 (fun a b=>im ((bU sp l0 k0 j).2.getD a ([],[])) b) rfl rfl O (fun a b ha hb=>aa.of_eq (by rw [Nat.zero_add,kh hb]))) ?_;refine U 7000 ?_
  exact bL (.inl rfl) [0] jD rfl (aK rfl (ai rfl)) (m:=jM (bU sp l0 k0 j).2) Z ⟨by rw [jP],rfl⟩
theorem RI {gs:List Nat} [ib gs] (n:Nat) (l:Zx) (k:Nat) (hl:0<l.length∧l.length≤1000000) (hb:(cc l).length≤10000000):AC gs prog 170 [eo n l k] [.op 0 (some n) 0] (fun r H'=>r=ap (ac aO l k).v.t∧H'=[eo n (ac aO l k).l (ac aO l k).k]):=by
 have h:=Nr (gs:=gs) n l k hl hb
 rw [sU vT [] rfl (t:=6) (f:=eU) jD jD jD (by funext b;rfl) rfl]
 exact h
theorem CX {gs:List Nat} [ib gs] [rz gs] (n:Nat) (l:Zx) (k:Nat) (hl:0<l.length∧l.length≤1000000) (hb:(cc l).length≤10000000):AC gs prog 64 [eo n l k] [.op 0 (some n) 0,.c (.int .i64 64)] (fun r H'=>r=ap (ac aT l k).v.t∧H'=[eo n (ac aT l k).l (ac aT l k).k]):=by
 have h:=IF (gs:=gs) n l k 64 hl hb
 rw [sU vT [] rfl (t:=12) (f:=fun b=>(if az b 64=0 then b else [],az b 64)) jD jD jD (by funext b;rfl) rfl]
 exact h
theorem FX {l:Zx} {k B:Nat} (h:eB l k≤B):cw l≤B:=by unfold eB at h;omega
theorem sT (a:AA) {l:Zx} {k m B:Nat} (hl:0<l.length∧l.length≤m) (hb:eB l k≤B) (h2:a.kind≠2):(0<(ac a l k).l.length∧(ac a l k).l.length≤m+1)∧eB (ac a l k).l (ac a l k).k≤B:=by
 obtain ⟨a1,a2,a3,a4,a5,a6,a7⟩:=gA a (l:=l) (k:=k) hl.1
 refine ⟨?_,by omega⟩
 by_cases h1:a.kind=1
 ·have ⟨a41,a42⟩:=a4 h1
  by_cases h:(ac a l k).k=0
  ·have:=a41 h;omega
  ·have:=a42 h;omega
 ·have:=a6 h1 h2;omega
theorem kS {l:Zx} {k B:Nat} (h:eB l k≤B):(cc l).length≤B:=Z7 (wy l) (FX h)
theorem NE {gs:List Nat} [ib gs] [rz gs] (n:Nat) (l:Zx) (k:Nat) (hl:0<l.length∧l.length≤200000) (hb:cw l≤100000):AC gs prog 118 [eo n l k] [.op 0 (some n) 0] (fun r H'=>r=DC (bQ l k).2∧H'=[eo n (bQ l k).1.1 (bQ l k).1.2]):=by
 have m0:eB l k≤100001:=by unfold eB;split<;>omega
 have ⟨f1,f2⟩:=rQ aL rfl l k
 have ⟨l1,m1⟩:=sT aL hl m0 jD
 have ⟨l2,m2⟩:=sT aO l1 m1 jD
 have ⟨l3,m3⟩:=sT aT l2 m2 jD
 obtain ⟨f3,f4⟩:=rP aE rfl (ac aT (ac aO (ac aL l k).l (ac aL l k).k).l (ac aO (ac aL l k).l (ac aL l k).k).k).l (ac aT (ac aO (ac aL l k).l (ac aL l k).k).l (ac aO (ac aL l k).l (ac aL l k).k).k).k
 have n0:=kS m0
 have n1:=kS m1
 have n2:=kS m2
 have n3:=kS m3
 have hE:AC gs prog 57 [eo n l k] [.op 0 (some n) 0,.c (.int .i64 48)] (fun r H'=>r=.c (.bool (ab 48 l k).is)∧H'=[eo n (ac aL l k).l (ac aL l k).k]):=by
  rw [f1,f2]
  exact pQ n l k 48 O O
 have hL:=lO (gs:=gs) n (ac aT (ac aO (ac aL l k).l (ac aL l k).k).l (ac aO (ac aL l k).l (ac aL l k).k).k).l (ac aT (ac aO (ac aL l k).l (ac aL l k).k).l (ac aO (ac aL l k).l (ac aL l k).k).k).k O
 rw [← f3,← f4] at hL
 refine ae 14 func118 fun _ _ _ _=>?_;refine eA ?_
 refine aq (dh (n:=2) eO rfl fun p1=>?_)
 refine U 165 ?_
 refine aw (aN 0 hE ?_)
 refine U 165 ?_
 refine aw (aN 0 (RI n (ac aL l k).l (ac aL l k).k O O) ?_)
 refine U 1 ?_
 refine aw (aN 0 (CX n (ac aO (ac aL l k).l (ac aL l k).k).l (ac aO (ac aL l k).l (ac aL l k).k).k O O) ?_)
 refine jq (au (n:=2) rfl eO sX rfl rfl) ?_
 refine aq (dh (n:=2) eO rfl fun p5=>?_)
 refine aw (bn 2 ?_)
 refine U 165 ?_
 refine aw (aN 0 hL ?_)
 refine U 65 ?_;refine kj (bD 2) ?_
 refine aw (bn 2 ?_)
 refine U 70005 ?_
 exact bR (.inl rfl) rfl (aK rfl (f5 2)) Ko
theorem RR (n:Nat) (l:Zx) (k:Nat) (hl:0<l.length∧l.length≤100000) (hb:cw l≤100000):AC gs prog 58 [eo n l k] [.op 0 (some n) 0] (fun r H'=>r=mj (kV l k).2∧H'=[eo n (kV l k).1.1 (kV l k).1.2]):=by
 have hR:=Q1 (gs:=gs) (f:=118) (by kernel_rfl) n l k 48 8 mv hl hb (fun l k h1 h2 _=>NE n l k h1 h2)
 have hlen:(pG l k).length≤1000000:=by
  have h1:=ot (sp:=bQ) (l0:=af 48 l k) (k0:=(ab 48 l k).k) (most:=8) mv (by
   obtain ⟨_,_,_,e4,e5,_⟩:=f7 (t:=48) (l:=l) (k:=k) hl.1
   by_cases h0:(ab 48 l k).k=0
   ·rw [e4 h0];omega
   ·rw [e5 h0];omega)
  have h2:=sI bQ (af 48 l k) (ab 48 l k).k (jG bQ (af 48 l k) (ab 48 l k).k 8)
  have h3:(pG l k).length=jG bQ (af 48 l k) (ab 48 l k).k 8:=h2
  rw [h3]
  rcases btx (jG bQ (af 48 l k) (ab 48 l k).k 8) with hz|hz
  omega
  ·have hg:=h1.1 (jG bQ (af 48 l k) (ab 48 l k).k 8-1) O
   unfold rf at hg
   rw [ZE,ZJ] at hg
   omega
 have hR':AC gs prog 117 [eo n l k] [.op 0 (some n) 0,.c (.int .i64 48),.c (.int .i64 8),.fn 118 0 fun _=>.top] (fun r H'=>r=jM (if (mc l k).2=0 then pG l k else [])∧H'=[eo n (mc l k).1 (mc l k).2]):=hR
 have hO:=Vb (gs:=gs) (pG l k) hlen
 refine ae 21 func58 fun _ _ _ _=>?_;refine eA ?_
 refine aq (dh (n:=3) CJ rfl fun p1=>?_)
 refine U 165 ?_
 refine aw (aN 0 (hR') ?_)
 refine U 16751 ?_
 refine aw (aN 0 (Pa n (mc l k).1 (mc l k).2) ?_)
 refine U 5500000 ?_;refine an (fun h117=>?_) fun h117=>?_
 ·refine eA ?_;refine jq (au (n:=3) rfl CJ RC rfl rfl) ?_
  refine aw (bn 3 ?_)
  refine U 300070005 ?_
  rw [show kV l k=(mc l k,eD) by unfold kV;rw [jP]]
  exact bR (.inl rfl) rfl (aK rfl (f5 3)) Ko
 refine U 810 ?_
 have hz:(mc l k).2=0:=by omega
 rw [Zz hz]
 refine U 16 ?_
 refine aq (ak hO ?_)
 refine U 9009001 ?_
 refine aq (dh (n:=3) CJ rfl fun p4=>?_)
 refine aw (bn 3 ?_)
 refine U 11651 ?_
 refine aw (aN 0 (va n (mc l k).1 (mc l k).2 (yU (pG l k)).2) ?_)
 refine U 65 ?_;refine kj (bD 3) ?_
 refine aw (bn 3 ?_)
 refine U 70005 ?_
 rw [Zz hz,show kV l k=(((mc l k).1,(yU (pG l k)).2),(yU (pG l k)).1) by unfold kV;rw [jK]]
 exact bR (.inl rfl) rfl (aK rfl (f5 3)) Ko
theorem Pf {l:Zx} {k:Nat} (h:nB l k=0):k=0:=by
 unfold nB at h
 split at h
 ·rename_i h0;exact absurd h h0
 omega
theorem OM (l:Zx) (k:Nat) (hl:0<l.length):0<(kV l k).1.1.length∧(kV l k).1.1.length≤l.length+17:=by
 have hE:(kV l k).1.1=(mc l k).1:=by unfold kV;split<;>rfl
 have he:0<(af 48 l k).length∧(af 48 l k).length≤l.length+1:=by
  obtain ⟨_,_,_,e4,e5,_⟩:=f7 (t:=48) (l:=l) (k:=k) hl
  by_cases h0:(ab 48 l k).k=0
  ·rw [e4 h0];omega
  ·rw [e5 h0];omega
 have hs:=ot (sp:=bQ) (l0:=af 48 l k) (k0:=(ab 48 l k).k) (most:=8) mv he.1
 have hb:=nL (sp:=bQ) (l0:=af 48 l k) (k0:=(ab 48 l k).k) (most:=8) mv he.1 _ hs.1
 have lv:∀ (l':Zx) (k':Nat),0<l'.length→0<(bm l' k').length∧(bm l' k').length≤l'.length:=fun l' k' h=>by
  obtain ⟨_,_,f3,f4⟩:=lN (l:=l') (k:=k') h
  by_cases h0:ba l' k'=0
  ·have:=f3 h0;omega
  ·rw [f4 h0];omega
 rw [hE]
 unfold mc dj
 dsimp only
 split
 ·have:=lv (bU bQ (af 48 l k) (ab 48 l k).k (jG bQ (af 48 l k) (ab 48 l k).k 8)).1.1 3 O
  dsimp only
  omega
 ·have:=lv (bU bQ (af 48 l k) (ab 48 l k).k (jG bQ (af 48 l k) (ab 48 l k).k 8)).1.1 (bU bQ (af 48 l k) (ab 48 l k).k (jG bQ (af 48 l k) (ab 48 l k).k 8)).1.2 O
  dsimp only
  omega
end
section
open Go.RowKit Cal
structure Fd where
 call:Int
 least:Int
 most:Int
structure V4 where
 n:Int
 t:I
 b:I
 who:S3
def V4.z:V4:=⟨0,[],[],eD⟩
def wn (f:Fd):Prop:=f.call=0∨((f.call=3∨f.call=4)∧-9223372036854775808≤f.least∧f.most≤9223372036854775807)∨(f.call=6∧0≤f.least∧f.most≤4096)∨(f.call=7∧f.most=24)∨f.call=9
def gh (f:Fd) (v:V4):Prop:=(f.call=0∧v=⟨0,[],[],v.who⟩∧bC v.who=true)∨((f.call=3∨f.call=4)∧v=⟨v.n,[],[],eD⟩∧f.least≤v.n∧v.n≤f.most) ∨
 (f.call=6∧v=⟨0,[],v.b,eD⟩∧f.least≤(v.b.length:Nat)∧(v.b.length:Nat)≤f.most)∨(f.call=7∧v=⟨0,v.t,[],eD⟩∧az v.t 24=0)∨(f.call=9∧v=⟨v.n,[],[],eD⟩∧yV v.n)
def rg (f:Fd) (v:V4):VV:=if f.call=7 then ⟨7,24,false,[],v.t⟩ else ⟨f.call,v.n,false,v.b,[]⟩
def Lu (f:Fd) (v:V4):Int×I:=if f.call=0 then WF v.who else ((aF (rg f v)).1,(aF (rg f v)).2.1)
def fV (f:Fd) (v:V4):I:=nG (Lu f v)
def mq (f:Fd) (v:V4) (w:W8):W8:=if f.call=0 then za v.who w else mC (rg f v) w
def rK (f:Fd) (v:V4) (r:R8):R8:=if f.call=0 then mP v.who r else dm (rg f v) r
def su (f:Fd):AA:=⟨f.call,0,f.least,f.most⟩
def dy (f:Fd):t7 V4:=fun l k=>if f.call=0 then ((kV l k).1,⟨0,[],[],(kV l k).2⟩) else (((ac (su f) l k).l,(ac (su f) l k).k),⟨(ac (su f) l k).v.n,(ac (su f) l k).v.t,(ac (su f) l k).v.b,eD⟩)
theorem mz {f:Fd} {v:V4} (ho:wn f) (h:gh f v) (h0:f.call≠0):(3≤f.call∧f.call≤10)∧(rg f v).kind=f.call∧(aF (rg f v)).1=kR (su f)∧(aF (rg f v)).2.2=0∧(aF (rg f v)).2.1.length≤4096∧saidM (su f) (aF (rg f v)).2.1=(⟨0,v.n,false,v.b,v.t⟩,0) ∧
  (-9223372036854775808≤(rg f v).n∧(rg f v).n≤9223372036854775807)∧(rg f v).t.length≤300∧(rg f v).b.length≤4096∧v.who=eD:=by
 have ⟨c,least,most⟩:=f
 have ⟨n,t,b,who⟩:=v
 unfold wn gh at *
 dsimp only at ho h h0
 rcases h with h|⟨hc,hv,h1,h2⟩|⟨hc,hv,h1,h2⟩|⟨hc,hv,h1⟩|⟨hc,hv,h1⟩
 exact absurd h.1 h0
 ·obtain ⟨_,rfl,rfl,rfl⟩:=(V4.mk.injEq _ _ _ _ _ _ _ _).mp hv
  have hb:-9223372036854775808≤n∧n≤9223372036854775807:=by omega
  have hg:=M5 hb.1 hb.2
  have hl:=(sW n hb.1 hb.2).2
  have hr:cq (jz n) least most=(n,0):=by
   unfold cq
   rw [hg,Zy (by simp),Zy (by dsimp only;omega)]
  rcases hc with rfl|rfl
  ·have e:aF (rg ⟨3,least,most⟩ ⟨n,[],[],eD⟩)=(2,jz n,0):=rfl
   refine ⟨by constructor<;>(dsimp only;omega),rfl,rfl,rfl,by rw [e];dsimp only;omega,?_,hb,by simp [rg],by simp [rg],rfl⟩
   rw [e]
   show (vN (cq (jz n) least most).1,(cq (jz n) least most).2)=_
   rw [hr];rfl
  ·have e:aF (rg ⟨4,least,most⟩ ⟨n,[],[],eD⟩)=(10,jz n,0):=rfl
   refine ⟨by constructor<;>(dsimp only;omega),rfl,rfl,rfl,by rw [e];dsimp only;omega,?_,hb,by simp [rg],by simp [rg],rfl⟩
   rw [e]
   show (vN (cq (jz n) least most).1,(cq (jz n) least most).2)=_
   rw [hr];rfl
 ·obtain ⟨rfl,rfl,_,rfl⟩:=(V4.mk.injEq _ _ _ _ _ _ _ _).mp hv
  subst hc
  have e:aF (rg ⟨6,least,most⟩ ⟨0,[],b,eD⟩)=(4,b,0):=rfl
  have hl:b.length≤4096:=by omega
  refine ⟨by constructor<;>(dsimp only;omega),rfl,rfl,rfl,by rw [e];exact hl,?_,by show (-9223372036854775808:Int)≤0∧(0:Int)≤9223372036854775807;decide,by simp [rg],hl,rfl⟩
  rw [e]
  show (vB (lJ least most b).1,(lJ least most b).2)=_
  unfold lJ
  rw [jK,jK]
  rfl
 ·obtain ⟨rfl,_,rfl,rfl⟩:=(V4.mk.injEq _ _ _ _ _ _ _ _).mp hv
  subst hc
  have hm:most=24:=by omega
  subst hm
  have hl:=ii h1
  have e:aF (rg ⟨7,least,24⟩ ⟨0,t,[],eD⟩)=(12,t,0):=by
   show ((12:Int),(if az t 24=0 then t else []),az t 24)=_
   rw [h1,Zz rfl]
  refine ⟨by constructor<;>(dsimp only;omega),rfl,by rw [e];rfl,by rw [e],by rw [e];dsimp only;omega,?_,by show (-9223372036854775808:Int)≤24∧(24:Int)≤9223372036854775807;decide,by show t.length≤300;omega,by simp [rg],rfl⟩
  rw [e]
  show (vT (if az t 24=0 then t else []),az t 24)=_
  rw [h1,Zz rfl];rfl
 ·obtain ⟨_,rfl,rfl,rfl⟩:=(V4.mk.injEq _ _ _ _ _ _ _ _).mp hv
  subst hc
  have ho6:DG n=BT n:=by unfold DG;rw [Zz h1]
  have hq:=uG h1
  have e:aF (rg ⟨9,least,most⟩ ⟨n,[],[],eD⟩)=(24,eJ (DG n),0):=by
   show ((24:Int),(if yV n then eJ (DG n) else []),U9 n)=_
   unfold U9
   rw [Zz h1,Zz h1]
  refine ⟨by constructor<;>(dsimp only;omega),rfl,by rw [e];rfl,by rw [e],by rw [e];exact ZN rfl,?_,by have h1':=h1;unfold yV at h1';show _≤n∧n≤_;omega,by simp [rg],by simp [rg],rfl⟩
  rw [e]
  show (vN (wj (eJ (DG n))),El (eJ (DG n)))=_
  rw [ho6,(Ek hq.1).1,(Ek hq.1).2,hq.2];rfl
theorem tL {f:Fd} {v:V4} (ho:wn f) (h:gh f v) (h0:f.call≠0):fV f v=bB (kR (su f)) (aF (rg f v)).2.1:=by
 unfold fV Lu nG
 rw [Zy h0]
 dsimp only
 rw [(mz ho h h0).2.2.1]
theorem tN {f:Fd} {v:V4} (h0:f.call=0):fV f v=y5 v.who:=by
 unfold fV Lu
 rw [Zz h0];rfl
theorem tv {f:Fd} {v:V4} (h:gh f v) (h0:f.call=0):v=⟨0,[],[],v.who⟩∧bC v.who=true:=by
 unfold gh at h
 rcases h with h|h|h|h|h
 exact h.2
 all_goals (exfalso;omega)
theorem qL {f:Fd} {v:V4} (ho:wn f) (h:gh f v) (ls:Zx) (r:I):dy f (ls++[fV f v++r]) 0=((ls++[r],0),v):=by
 unfold dy
 by_cases h0:f.call=0
 ·have ⟨h1,h2⟩:=tv h h0
  rw [Zz h0,tN h0,ON h2]
  dsimp only
  rw [← h1]
 ·have ⟨b1,b2,b3,b4,b5,b6,b7,b8,b9,b10⟩:=mz ho h h0
  have hr:=pu (su f) ls (b:=(aF (rg f v)).2.1) r b1 O (by rw [b6])
  rw [Zy h0,tL ho h h0,hr,b6]
  have ⟨n,t,b,who⟩:=v
  dsimp only at b10 ⊢
  rw [b10]
theorem iN {f:Fd} (ho:wn f) {ls:Zx} {x:I} {k:Nat} (h:(dy f (ls++[x]) k).1.2=0):k=0∧∃ v r,gh f v∧x=fV f v++r∧dy f (ls++[x]) k=((ls++[r],0),v):=by
 unfold dy at h ⊢
 by_cases h0:f.call=0
 ·rw [Zz h0] at h ⊢
  have ⟨h1,s,r,h2,h3,h4⟩:=KC h
  refine ⟨h1,⟨0,[],[],s⟩,r,.inl ⟨h0,rfl,h2⟩,by rw [h3,tN h0],by rw [h4]⟩
 ·rw [Zy h0] at h ⊢
  dsimp only at h
  have ha:3≤(su f).kind∧(su f).kind≤10:=by unfold wn at ho;show 3≤f.call∧f.call≤10;omega
  have ⟨h1,b,r,h2,h3,h4,h5⟩:=lz ha h
  have key:∀ v:V4,gh f v→(aF (rg f v)).2.1=b→(saidM (su f) b).1.n=v.n→(saidM (su f) b).1.t=v.t→(saidM (su f) b).1.b=v.b→v.who=eD→k=0∧∃ v r,gh f v∧x=fV f v++r∧(((ac (su f) (ls++[x]) k).l,(ac (su f) (ls++[x]) k).k),V4.mk (ac (su f) (ls++[x]) k).v.n (ac (su f) (ls++[x]) k).v.t (ac (su f) (ls++[x]) k).v.b eD)=((ls++[r],0),v):=fun v hg hb hn ht hbb hw=>by
   refine ⟨h1,v,r,hg,by rw [h2,tL ho hg h0,hb],?_⟩
   rw [h5]
   dsimp only
   rw [hn,ht,hbb,← hw]
  have ⟨c,least,most⟩:=f
  unfold wn at ho
  dsimp only at ho h0
  rcases ho with ho|⟨ho,ho1,ho2⟩|⟨ho,ho1,ho2⟩|⟨ho,ho1⟩|ho
  exact absurd ho h0
  ·rcases ho with rfl|rfl
   ·obtain ⟨c1,c2,c3,c4,c5⟩:=vu (b:=b) (x:=least) (y:=most) h4
    exact key ⟨(cq b least most).1,[],[],eD⟩ (.inr (.inl ⟨.inl rfl,rfl,by show least≤(cq b least most).1;omega,by show (cq b least most).1≤most;omega⟩)) c1 rfl rfl rfl rfl
   ·obtain ⟨c1,c2,c3,c4,c5⟩:=vu (b:=b) (x:=least) (y:=most) h4
    exact key ⟨(cq b least most).1,[],[],eD⟩ (.inr (.inl ⟨.inr rfl,rfl,by show least≤(cq b least most).1;omega,by show (cq b least most).1≤most;omega⟩)) c1 rfl rfl rfl rfl
  ·subst ho
   have h4':(lJ least most b).2=0:=h4
   have hm:(saidM ⟨6,0,least,most⟩ b).1=vB (lJ least most b).1:=rfl
   unfold lJ at h4' hm
   by_cases e1:(b.length:Int)<least
   ·rw [Zz e1] at h4';cases h4'
   ·by_cases e2:most<(b.length:Int)
    ·rw [Zy e1,Zz e2] at h4';cases h4'
    ·rw [Zy e1,Zy e2] at hm
     refine key ⟨0,[],b,eD⟩ (.inr (.inr (.inl ⟨rfl,rfl,by show least≤((b.length:Nat):Int);omega,by show ((b.length:Nat):Int)≤most;omega⟩))) rfl ?_ ?_ ?_ rfl<;>(show _=_;rw [show (su ⟨6,least,most⟩)=⟨6,0,least,most⟩ from rfl,hm];rfl)
  ·subst ho
   subst ho1
   have h4':az b 24=0:=h4
   have hm:(saidM ⟨7,0,least,24⟩ b).1=vT b:=by show vT (if az b 24=0 then b else [])=_;rw [Zz h4']
   refine key ⟨0,b,[],eD⟩ (.inr (.inr (.inr (.inl ⟨rfl,rfl,h4'⟩)))) ?_ ?_ ?_ ?_ rfl
   ·show (if az b 24=0 then b else [])=b;rw [Zz h4']
   all_goals (rw [show (su ⟨7,least,24⟩)=⟨7,0,least,24⟩ from rfl,hm];rfl)
  ·subst ho
   have h4':El b=0:=h4
   have ⟨c1,c2⟩:=BV h4'
   refine key ⟨wj b,[],[],eD⟩ (.inr (.inr (.inr (.inr ⟨rfl,rfl,c2⟩)))) ?_ rfl rfl rfl rfl
   show (if yV (wj b) then eJ (DG (wj b)) else [])=b
   rw [Zz c2,c1]
theorem KN (f:Fd) (ho:wn f) {l:Zx} {k:Nat} (hl:0<l.length):(0<(dy f l k).1.1.length∧(dy f l k).1.1.length≤l.length+17)∧((dy f l k).1.2=0→k=0):=by
 obtain ⟨ls,x,rfl⟩:∃ ls x,l=ls++[x]:=⟨l.dropLast,l.getLast (aax.1 hl),(a5x _).symm⟩
 refine ⟨?_,fun h=>(iN ho h).1⟩
 unfold dy
 by_cases h0:f.call=0
 ·rw [Zz h0];exact OM _ _ hl
 ·rw [Zy h0]
  have hk:(su f).kind=f.call:=rfl
  obtain ⟨_,_,_,_,_,h6,_⟩:=gA (su f) (l:=ls++[x]) (k:=k) hl
  have:=h6 (by unfold wn at ho;rw [hk];omega) (by unfold wn at ho;rw [hk];omega)
  dsimp only
  omega
theorem lm {f:Fd} {v:V4} (ho:wn f) (h:gh f v):(fV f v).length≤4110∧0<(fV f v).length∧GS 3 (Lu f v):=by
 refine ⟨?_,wJ _,?_⟩
 ·by_cases h0:f.call=0
  ·rw [tN h0]
   have:=(wq (tv h h0).2).2
   omega
  ·rw [tL ho h h0]
   have h1:=eG (kR (su f)) (aF (rg f v)).2.1
   have h2:=(mz ho h h0).2.2.2.2.1
   omega
 ·by_cases h0:f.call=0
  ·have h2:=(tv h h0).2
   have ⟨g1,g2⟩:=iM h2
   have ⟨l1,l2⟩:=wq h2
   unfold Lu
   rw [Zz h0]
   refine np (d:=2) jD jD jD (fun x hx=>?_) O
   obtain ⟨p,hp,rfl⟩:=bBx.1 hx
   have ⟨h3,h4,h5⟩:=g1 p hp
   have ⟨m1,m2,m3⟩:=qv h3 O
   refine np (d:=1) jD jD jD (fun x hx=>?_) O
   simp only [kU,Z9,ahx,or_false] at hx
   rcases hx with rfl|rfl
   exact lC jD jD O
   exact lC jD jD O
  ·have ⟨b1,b2,b3,b4,b5,_⟩:=mz ho h h0
   have ht:=WC (v:=rg f v) (by rw [b2];exact b1)
   unfold Lu
   rw [Zy h0]
   exact (lC ht.1 ht.2.1 O).mono jD
theorem M6 {f:Fd} {v:V4} (ho:wn f) (h:gh f v) {w:W8} (hk:w.k=0) (hf:w.fr.length<15):mq f v w=cV (fV f v) w:=by
 unfold mq
 by_cases h0:f.call=0
 ·rw [Zz h0,tN h0,Rx (tv h h0).2 hk hf]
 ·have ⟨b1,b2,b3,b4,b5,_⟩:=mz ho h h0
  have ht:=WC (v:=rg f v) (by rw [b2];exact b1)
  rw [Zy h0,tL ho h h0,Ck (by rw [b2];exact b1),b4,rS hk ht.1 O,b3]
theorem uW {f:Fd} {v:V4} (ho:wn f) (h:gh f v) {i:Nat} {r:R8} {w:W8} (hI:gg i r w):gg (i+14) (rK f v r) (mq f v w):=by
 unfold rK mq
 by_cases h0:f.call=0
 ·rw [Zz h0,Zz h0]
  exact Ou hI v.who
 ·have ⟨b1,b2,b3,b4,b5,b6,b7,b8,b9,b10⟩:=mz ho h h0
  rw [Zy h0,Zy h0]
  exact Sj hI b7 b8 (by rw [b2];exact b1) jD O
end
def iA:I:=[48,49,50,51,52,53,54,55,56,57,97,98,99,100,101,102]
def dD (l:I):Bool:=decide (l.length=32) && l.all fun c=>decide (0≤Lib.indexByte iA c)
theorem qI {l:I} {i:Nat} (hi:i<l.length) (h:Lib.indexByte iA (l.getD i 0)<0):dD l=false:=by
 cases e:dD l with
 | false=>rfl
 | true =>
  simp only [dD,ZE,Z1,ZJ] at e
  have:=e.2 (l.getD i 0) (by simp [List.getD,hi])
  omega
theorem wE (c:UInt8):Lib.indexByte iA c<16:=by
 unfold Lib.indexByte iA
 simp only [Lib.indexByte]
 repeat (first|omega|split)
def C7 (c:UInt8):Int:=IntKind.u8.wrap (((c.toNat:Nat):Int) * 2 ^ (4:Int).toNat)
def U6 (a b:Int):Int:=IntKind.u8.wrap (BitVec.ofInt (IntKind.bits .u8) a ||| BitVec.ofInt (IntKind.bits .u8) b).toNat
def BW (c:UInt8) (n:Int):UInt8:=UInt8.ofNat (U6 (C7 c) n).toNat
theorem DR (c:UInt8) (n:Int):U6 (C7 c) n=((BW c n).toNat:Nat):=by
 have h:0≤U6 (C7 c) n∧U6 (C7 c) n<256:=by unfold U6;rw [IntKind.wrap_u8];omega
 unfold BW
 rw [ZT]
 omega
theorem zy (j:Nat):(Value.int .u8 0).cells[j % (Value.int .u8 0).cells.size]! = .int .u8 0:=by
 have:j % (Value.int .u8 0).cells.size=0:=clx j
 rw [this];rfl
theorem LA (j:Nat):aa (.c (.int .u8 0)) (aV (List.replicate 16 0) j):=aa.of_eq (by
 have:(List.replicate 16 (0:UInt8)).getD j 0=0:=by rw [ZB,aHx];split<;>rfl
 unfold aV
 rw [this];rfl)
theorem wX {X:I} {o:Nat} {c:UInt8} {z:Int} (hz:z=(c.toNat:Nat)) (ho:o<X.length) (j:Nat):aa (fX (aV X) o (List.map CV.c (Value.int .u8 z).cells.toList) j) (aV (X.set o c) j):=by
 rw [db,show (List.map CV.c (Value.int .u8 z).cells.toList).length=1 from rfl]
 by_cases e:j=o
 ·subst e
  rw [jP,bAx]
  have:(X.set j c).getD j 0=c:=by simp [List.getD,ho]
  unfold aV
  rw [this,← hz]
  exact Z
 ·rw [jK]
  refine aa.of_eq ?_
  unfold aV
  simp [List.getD,Ne.symm e]
def hx (n:Nat):UInt8:=if n<10 then UInt8.ofNat (48+n) else UInt8.ofNat (87+n)
def hv (c:UInt8):Nat:=(Lib.indexByte iA c).toNat
def zi (c:UInt8):Bool:=decide (0≤Lib.indexByte iA c)
theorem Vt:∀ n:Fin 16,(zi (hx n.val)=true∧hv (hx n.val)=n.val):=by decide +kernel
theorem TU {n:Nat} (h:n<16):zi (hx n)=true∧hv (hx n)=n:=Vt ⟨n,h⟩
theorem Vv:∀ n:Fin 256,zi (UInt8.ofNat n.val)=true→hv (UInt8.ofNat n.val)<16∧hx (hv (UInt8.ofNat n.val))=UInt8.ofNat n.val:=by decide +kernel
theorem TV {c:UInt8} (h:zi c=true):hv c<16∧hx (hv c)=c:=by
 have h2:=Vv ⟨c.toNat,c.toNat_lt⟩
 have e:UInt8.ofNat (⟨c.toNat,c.toNat_lt⟩:Fin 256).val=c:=bCx
 rw [e] at h2
 exact h2 h
def OD (c:UInt8):I:=[hx (c.toNat / 16),hx (c.toNat % 16)]
def bJ (b:I):I:=(b.map OD).flatten
theorem gt (b:I):(bJ b).length=2 * b.length:=by
 induction b with
 | nil=>rfl
 | cons c b ih=>show (OD c++bJ b).length=_;rw [ZD,ih];simp [OD];omega
theorem Gs (b:I) (c:UInt8):bJ (b++[c])=bJ b++[hx (c.toNat / 16),hx (c.toNat % 16)]:=by
 simp [bJ,OD]
def bx (a b:UInt8):UInt8:=UInt8.ofNat (16 * hv a+hv b)
def eY:I→I
 | a::b::r=>bx a b::eY r
 | _=>[]
theorem kG:∀ s:I,(eY s).length=s.length / 2
 | []=>rfl
 | [_]=>by simp [eY]
 | a::b::r=>by
  show (eY r).length+1=_
  rw [kG r]
  simp only [List.length_cons]
  omega
theorem ye:∀ (s:I) (j:Nat),j<s.length / 2→(eY s).getD j 0=bx (s.getD (2 * j) 0) (s.getD (2 * j+1) 0)
 | [],j,h=>absurd h (ZO j)
 | [_],j,h=>by simp at h
 | a::b::r,0,h=>rfl
 | a::b::r,j+1,h=>by
  show (eY r).getD j 0=_
  rw [ye r j (by simp only [List.length_cons] at h;omega)]
  have e1:2 * (j+1)=2 * j+1+1:=by omega
  rw [e1]
  rfl
theorem AF:∀ b:I,eY (bJ b)=b
 | []=>rfl
 | c::b=>by
  show bx (hx (c.toNat / 16)) (hx (c.toNat % 16))::eY (bJ b)=_
  have:=c.toNat_lt
  rw [AF b]
  unfold bx
  rw [(TU (show c.toNat / 16<16 by omega)).2,(TU (show c.toNat % 16<16 by omega)).2,show 16 * (c.toNat / 16)+c.toNat % 16=c.toNat by omega,bCx]
theorem AO:∀ s:I,s.length % 2=0→s.all zi=true→bJ (eY s)=s
 | [],_,_=>rfl
 | [_],h,_=>by simp at h
 | a::b::r,h,h2=>by
  simp only [a4x,ZE] at h2
  have ⟨ha,hb,hr⟩:=h2
  have ⟨a1,a2⟩:=TV ha
  have ⟨b1,b2⟩:=TV hb
  show OD (bx a b)++bJ (eY r)=_
  rw [AO r (by simp only [List.length_cons] at h;omega) hr]
  unfold OD bx
  rw [ZT,show (16 * hv a+hv b) % 2 ^ 8 / 16=hv a by omega,show (16 * hv a+hv b) % 2 ^ 8 % 16=hv b by omega,a2,b2]
  rfl
theorem Bt {X:I} {k:Nat} {v:UInt8} (j:Nat) (hk:k<X.length):(X.set k v).getD j 0=if j=k then v else X.getD j 0:=by
 by_cases e:j=k
 ·subst e;simp [List.getD,hk]
 ·rw [Zy e];simp [List.getD,Ne.symm e]
theorem Uz (n j:Nat):(List.replicate n (0:UInt8)).getD j 0=0:=by
 rw [ZB,aHx];split<;>rfl
theorem RV:∀ a n:Fin 16,BW (UInt8.ofNat a.val) (n.val:Int)=UInt8.ofNat (16 * a.val+n.val):=by decide +kernel
theorem NI {a n:Nat} (ha:a<16) (hn:n<16):BW (UInt8.ofNat a) (n:Int)=UInt8.ofNat (16 * a+n):=RV ⟨a,ha⟩ ⟨n,hn⟩
theorem OE {c:UInt8} (h:0≤Lib.indexByte iA c):Lib.indexByte iA c=((hv c:Nat):Int)∧hv c<16:=by
 have:=wE c
 unfold hv
 omega
def zt (l X:I) (i:Nat):Prop :=
 X.length=l.length / 2∧(∀ j,j<i / 2→X.getD j 0=bx (l.getD (2 * j) 0) (l.getD (2 * j+1) 0))∧(i % 2=1→X.getD (i / 2) 0=UInt8.ofNat (hv (l.getD (i-1) 0)))∧∀ j,(i+1) / 2≤j→X.getD j 0=0
theorem zt.start (l:I):zt l (List.replicate (l.length / 2) 0) 0 :=
 ⟨bxx,fun j hj=>absurd hj (ZO j),fun h=>by omega,fun j _=>Uz _ j⟩
theorem zt.step {l X:I} {i:Nat} (h:zt l X i) (hi:i<l.length) (he:l.length % 2=0) (hx:∀ j,j≤i→0≤Lib.indexByte iA (l.getD j 0)):zt l (X.set (i / 2) (BW (X.getD (i / 2) 0) (Lib.indexByte iA (l.getD i 0)))) (i+1):=by
 have ⟨h1,h2,h3,h4⟩:=h
 obtain ⟨n1,n2⟩:=OE (hx i (ZA _))
 have hk:i / 2<X.length:=by omega
 rw [n1]
 refine ⟨by rw [aPx,h1],fun j hj=>?_,fun ho=>?_,fun j hj=>?_⟩
 ·rw [Bt j hk]
  by_cases e:j=i / 2
  ·rw [Zz e]
   have ho:i % 2=1:=by omega
   obtain ⟨m1,m2⟩:=OE (hx (i-1) O)
   rw [h3 ho,NI m2 n2,show 2 * j=i-1 by omega,show i-1+1=i by omega]
   rfl
  ·rw [Zy e];exact h2 j O
 ·rw [Bt _ hk,jP,h4 (i / 2) O]
  have:=NI (a:=0) O n2
  rw [show i+1-1=i by omega]
  simpa using this
 ·rw [Bt j hk,jK]
  exact h4 j O
theorem zt.done {l X:I} {i:Nat} (h:zt l X i) (hi:i=l.length) (he:l.length % 2=0):X=eY l:=by
 have ⟨h1,h2,h3,h4⟩:=h
 have hl:=kG l
 refine bgx O fun j a b=>?_
 have e1:=h2 j O
 have e2:=ye l j O
 rw [← e2] at e1
 simpa [List.getD,a,b] using e1
theorem SR:∀ c:Fin 256,Lib.indexByte iA (UInt8.ofNat c.val)=if 48≤c.val∧c.val≤57 then (c.val:Int)-48 else if 97≤c.val∧c.val≤102 then (c.val:Int)-97+10 else -1:=by decide +kernel
theorem VN (c:UInt8):Lib.indexByte iA c=if 48≤c.toNat∧c.toNat≤57 then (c.toNat:Int)-48 else if 97≤c.toNat∧c.toNat≤102 then (c.toNat:Int)-97+10 else -1:=by
 have h:=SR ⟨c.toNat,c.toNat_lt⟩
 have e:UInt8.ofNat (⟨c.toNat,c.toNat_lt⟩:Fin 256).val=c:=bCx
 rw [e] at h
 exact h
section
open Go.RowKit Cal
structure t8 where
 se:Int
 iss:I
 ge:Int
 who:S3
 nb:Int
 na:Int
 ky:I
 us:Int
 al:Zx
def Fe (l:Zx) (j:Nat):Bool:=kT (l.getD j []) && (decide (j=0) || Op.bytesLess (l.getD (j-1) []) (l.getD j []))
def jf (l:Zx):Nat→Bool
 | 0=>true
 | i+1=>jf l i && Fe l i
def tY (l:Zx):Bool:=decide (l.length≤8) && jf l l.length
def Vr (x n y:Int):Bool:=decide (x≤n) && decide (n≤y)
theorem uu {l:Zx}:∀ {i:Nat},jf l i=true→∀ j,j<i→Fe l j=true
 | 0,_,j,hj=>absurd hj (ZO j)
 | i+1,h,j,hj=>by
  unfold jf at h
  rw [ZE] at h
  by_cases e:j=i
  ·rw [e];exact h.2
  exact uu h.1 j O
theorem xl {l:Zx} {j:Nat} (hj:Fe l j=false):∀ {i:Nat},j<i→jf l i=false
 | 0,h=>absurd h (ZO j)
 | i+1,h=>by
  unfold jf
  by_cases e:j=i
  ·rw [← e,hj,aDx]
  ·rw [xl hj (show j<i by omega),cex]
def yZ (n:Int):V4:=⟨n,[],[],eD⟩
def wo (b:I):V4:=⟨0,[],b,eD⟩
def CS (s:S3):V4:=⟨0,[],[],s⟩
def Y2:Fd:=⟨3,1,1099511627776⟩
def wH:Fd:=⟨6,16,16⟩
def Y3:Fd:=⟨3,1,1048576⟩
def mW:Fd:=⟨0,0,0⟩
def XD:Fd:=⟨9,0,0⟩
def Lq (n:Int):VV:=⟨10,n,false,[],[]⟩
def G3 (t:I):VV:=⟨7,64,false,[],t⟩
def P5:AA:=⟨10,0,0,0⟩
def Ln:AA:=⟨7,0,0,64⟩
theorem s8:wn wH:=by unfold wn wH;decide
theorem nZ:wn mW:=by unfold wn mW;decide
structure YT (c:t8):Prop where
 se:gh Y2 (yZ c.se)
 iss:gh wH (wo (eY c.iss))
 ge:gh Y3 (yZ c.ge)
 who:gh mW (CS c.who)
 nb:gh XD (yZ c.nb)
 na:gh XD (yZ c.na)
 ky:gh wH (wo (eY c.ky))
 us:1≤c.us∧c.us≤15
 n8:c.al.length≤8
 al:∀ t ∈ c.al,az t 64=0
 hi:c.iss.length=32∧c.iss.all zi=true
 hk:c.ky.length=32∧c.ky.all zi=true
theorem AD {l:I} (h:dD l=true):l.length=32∧l.all zi=true:=by
 unfold dD at h
 rw [ZE,ZJ] at h
 exact h
def zl (t:I):I:=bB 12 t
def bE (c:t8):I:=fV wH (wo (eY c.ky))
def bF (c:t8):I:=bB 3 (cn c.us.toNat)
def bM (c:t8):I:=fV XD (yZ c.nb)++fV XD (yZ c.na)
def bT (c:t8):I:=(c.al.map zl).flatten
def r7 (c:t8):I:=bB 48 (bT c)++[]
def r6 (c:t8):I:=bF c++r7 c
def r5 (c:t8):I:=bE c++r6 c
def r4 (c:t8):I:=bB 48 (bM c)++r5 c
def r3 (c:t8):I:=fV mW (CS c.who)++r4 c
def r2 (c:t8):I:=fV Y3 (yZ c.ge)++r3 c
def r1 (c:t8):I:=fV wH (wo (eY c.iss))++r2 c
def r0 (c:t8):I:=fV Y2 (yZ c.se)++r1 c
section
variable {c:t8}
theorem EH {t:I} (h:az t 64=0):(zl t).length≤80∧0<(zl t).length:=by
 have h1:=ii h
 have h2:=eG 12 t
 have h3:=wJ (12,t)
 refine ⟨?_,h3⟩
 unfold zl
 omega
theorem KH {l:Zx}:(∀ t ∈ l,az t 64=0)→((l.map zl).flatten).length≤80 * l.length:=by
 induction l with
 | nil=>intro _;simp
 | cons t l ih =>
  intro h
  have h1:=(EH (h t ZU)).1
  have h2:=ih fun x hx=>h x (Z2 _ hx)
  rw [Z6,arx,ZD,List.length_cons]
  omega
end
def tW (ws:W8) (l:Zx):Nat→W8
 | 0=>cW 48 ws
 | i+1=>mC (G3 (l.getD i [])) (tW ws l i)
section
variable {c:t8}
theorem BO {f:Fd} {v:V4} (ho:wn f) (h:gh f v) {t:Int} {ls:Zx} {fr:List (Int×Zx)} {d:I} (hl:fr.length<14):mq f v ⟨(t,ls)::fr,d,0⟩=⟨(t,ls++[fV f v])::fr,d,0⟩:=by
 rw [M6 ho h rfl (by rw [List.length_cons];omega),mI]
theorem Np {t:Int} {ls:Zx} {fr:List (Int×Zx)} {d:I} (hl:fr.length<14):cW 48 ⟨(t,ls)::fr,d,0⟩=⟨(48,[])::(t,ls)::fr,d,0⟩:=by
 unfold cW
 rw [Zy (by simp),Zy jD,Zy (by rw [List.length_cons];omega)]
theorem Uo {x:I} (h:az x 64=0) {t:Int} {ls:Zx} {fr:List (Int×Zx)} {d:I}:mC (G3 x) ⟨(t,ls)::fr,d,0⟩=⟨(t,ls++[zl x])::fr,d,0⟩:=by
 rw [Ck (v:=G3 x) (by show (3:Int)≤7∧(7:Int)≤10;decide)]
 have e:aF (G3 x)=(12,x,0):=by
  show ((12:Int),(if az x 64=0 then x else []),az x 64)=_
  rw [h,Zz rfl]
 have hl:=ii h
 rw [e,rS rfl (show bH 12=true by decide) (by dsimp only;omega),mI]
 rfl
theorem L9 {l:Zx} (hg:∀ x ∈ l,az x 64=0) {t:Int} {ls:Zx} {fr:List (Int×Zx)} {d:I} (hl:fr.length<14):∀ i,i≤l.length→tW ⟨(t,ls)::fr,d,0⟩ l i=⟨(48,(l.take i).map zl)::(t,ls)::fr,d,0⟩
 | 0,_=>Np hl
 | i+1,h=>by
  show mC (G3 (l.getD i [])) (tW _ l i)=_
  rw [L9 hg hl i O]
  have e:l.getD i []=l[i]'O:=by simp [List.getD,show i<l.length by omega]
  rw [e,Uo (hg _ (aAx _)),ZH (show i<l.length by omega),a0x]
  rfl
end
end
section
open Go.RowKit Cal
def QU (ws:R8) (l:Zx):Nat→R8
 | 0=>dm (w1 48) ws
 | i+1=>dm (G3 (l.getD i [])) (QU ws l i)
def Y7:R8:=dm (w1 48) WO
section
variable {c:t8}
theorem C5 {x:I} (h:az x 64=0):ke (G3 x):=⟨by simp [G3],by simp [G3],by have:=ii h;show x.length≤300;omega⟩
theorem Ox:gg 1 Y7 (cW 48 Tv):=by
 have:=jl Ow (fY (t:=48) jD)
 rw [tQ] at this
 exact this
def s1 (c:t8):Zx:=[[]]++[r1 c]
def s2 (c:t8):Zx:=[[]]++[r2 c]
def s3 (c:t8):Zx:=[[]]++[r3 c]
def s4 (c:t8):Zx:=[[]]++[r4 c]
def m0 (c:t8):Zx:=[[]]++[r5 c]++[bM c]
def m1 (c:t8):Zx:=[[]]++[r5 c]++[fV XD (yZ c.na)++[]]
def m2 (c:t8):Zx:=[[]]++[r5 c]++[[]]
def s5 (c:t8):Zx:=[[]]++[r5 c]
def s6 (c:t8):Zx:=[[]]++[r6 c]
def s7 (c:t8):Zx:=[[]]++[r7 c]
def iv:t7 I:=fun l k=>(((ac Ln l k).l,(ac Ln l k).k),(ac Ln l k).v.t)
theorem said_tx {x:I} (h:az x 64=0):saidM Ln x=(vT x,0):=by
 show (vT (if az x 64=0 then x else []),az x 64)=_
 rw [h,Zz rfl]
theorem LT:vm iv zl (fun x=>az x 64=0):=⟨fun ls x r hx=>by
  have hl:=ii hx
  have:=pu Ln ls (b:=x) r (by show (3:Int)≤7∧(7:Int)≤10;decide) O (by rw [said_tx hx])
  have e:zl x=bB (kR Ln) x:=rfl
  unfold iv
  rw [e,this,said_tx hx]
  rfl,fun ls x k h=>by
  have h':(ac Ln (ls++[x]) k).k=0:=h
  obtain ⟨h1,b,r,h2,h3,h4,h5⟩:=lz (a:=Ln) (by show (3:Int)≤7∧(7:Int)≤10;decide) h'
  have hb:az b 64=0:=h4
  refine ⟨h1,b,r,hb,h2,?_⟩
  unfold iv
  rw [h5,said_tx hb]
  rfl,fun x hx=>(EH hx).2⟩
end
end
section
variable {gs:List Nat} [dO gs]
abbrev G5:=Int×Int×Bool×Int×Int
def g0:G5:=(0,0,false,0,0)
theorem N8 {G:Gh} {s:AS} (d:Nat) {i off n m:Nat} {g:Option Nat} (hl:look s.env s.b d=.os i g off n m):∀ a w,wm G s a w→g=none→n=0:=fun a w ⟨St,hr⟩ hg=>by
 have:=iY hr (x:=.tmp d) hl
 subst hg
 exact this.1
structure oT (q:G5→Bool) (l X:List G5) (i j:Nat):Prop where
 len:X.length=l.length
 pre:X.take i=(l.take j).filter q
 suf:X.drop j=l.drop j
 lt:i<j
 le:j≤l.length
variable {q:G5→Bool} {l X:List G5} {i j:Nat}
theorem oT.at (h:oT q l X i j) (hj:j<l.length):X.getD j g0=l[j]:=by
 have hx:j<X.length:=by rw [h.len];exact hj
 have e:=h.suf
 rw [ZZ hx,ZZ hj] at e
 have:=(List.cons.inj e).1
 simp [List.getD,hx,this]
theorem oT.sufS (h:oT q l X i j) (hj:j<l.length):X.drop (j+1)=l.drop (j+1):=by
 have e:=ZV (List.drop 1) h.suf
 rw [aZx,aZx] at e
 exact e
theorem oT.skip (h:oT q l X i j) (hj:j<l.length) (hq:q (X.getD j g0)=false):oT q l X i (j+1) where
 len:=h.len
 pre:=by
  rw [ZH hj,List.filter_append,← h.pre]
  rw [h.at hj] at hq
  simp [hq]
 suf:=h.sufS hj
 lt:=by have:=h.lt;omega
 le:=hj
theorem oT.put (h:oT q l X i j) (hj:j<l.length) (hq:q (X.getD j g0)=true):oT q l (X.set i (X.getD j g0)) (i+1) (j+1) where
 len:=by rw [aPx];exact h.len
 pre:=by
  have hi:i<X.length:=by have:=h.lt;rw [h.len];omega
  rw [h.at hj] at hq ⊢
  rw [ZH hj,List.filter_append,← h.pre]
  rw [ZH (by simpa using hi)]
  simp [hq,List.take_set_of_le]
 suf:=by
  rw [List.drop_set_of_lt (by have:=h.lt;omega)]
  exact h.sufS hj
 lt:=by have:=h.lt;omega
 le:=hj
theorem oT.fin (h:oT q l X i j) (hj:¬ j<l.length):X.take i=l.filter q:=by
 rw [h.pre,ZY O]
end
section
variable {gs:List Nat} [dO gs]
abbrev Q5:=S3×I×Int×Int×Zx
def BI (q:Q5):Nat→CV:=fl [.c (.int .i64 q.1.1),ap q.1.2.1,ap q.1.2.2,ap q.2.1,.c (.int .i64 q.2.2.1),.c (.int .i64 q.2.2.2.1),ua q.2.2.2.2]
def lg (q:Q5):CV:=.agg 7 (BI q)
section
variable {P:Program} {G:Gh} {s:AS} {o:Oper} {x y:Operand} {t u:TypeId} {k:IntKind} {a b:Int}
end
end
section
variable {gs:List Nat} [dO gs]
theorem Ke (l:I):cd gs prog 39 [ap l] (.tup 2 (fl [.top,.err (if dD l=true then 0 else 4)])):=by
 refine ae 39 func39 fun _ _ _ _=>?_;refine U 52400001675116 ?_;refine an (fun h99=>?_) fun h99=>?_
 ·refine ia ?_;refine dQ (.rd 0 (.rd 1 (.rd 2 .done))) ?_;refine U 80003000700088070704000000 ?_
  refine cT (aa.top _) (aa.errN ?_)
  rw [Zy (by simp [dD];omega)]
 refine U 6810 ?_
 refine aq (yu (F:=aV (List.replicate 16 0)) rfl rfl rfl (show (16:Int)=((16:Nat):Int) from rfl) (show (16:Int)=((16:Nat):Int) from rfl) (by omega) underlying23 fR da jt (by omega) (by omega) (fun j hj=>by rw [zy j];exact LA j) rfl rfl (fun p1=>?_))
 refine U 20514000016751 ?_;refine ar (α:=Nat×I) [2,3,5,6,14,15,16,17,18,19,20,21,22,23,24,25,26,27,28,29,30,31,32,33,34,35,36,37] (fun (i,X)=>[(14,.c (.int .i64 (i:Nat)))]) (fun (i,X)=>[(p1,.blk 16 (aV X))]) (fun (i,X)=>i≤l.length∧X.length=16∧∀ j,j<i→0≤Lib.indexByte iA (l.getD j 0)) (fun (i,X)=>l.length-i) ((0,List.replicate 16 0)) ?_ (fun _=>rfl) ?_ ?_ ?_
 exact ⟨ZL _,rfl,fun j hj=>absurd hj (ZO j)⟩
 exact .cons Z .nil
 exact .same .nil
 ·rintro ⟨i,X⟩ ⟨(hi:i≤l.length),(hXl:X.length=16),he⟩
  have hhx:=wE (l.getD i 0)
  refine U 7526 ?_;refine aaa (fun h103=>?_) fun h103=>?_
  ·refine U 800070005111684000200020006000 ?_
   refine cT (aa.top _) (aa.nilE ?_)
   have hall:dD l=true:=by
    simp only [dD,ZE,Z1,ZJ]
    refine ⟨by omega,fun c hc=>?_⟩
    obtain ⟨j,hj,rfl⟩:=bbx hc
    have:=he j O
    simpa [List.getD,hj] using this
   rw [Zz hall]
  refine U 800000001165116207810 ?_
  refine aq (ak (wD iA (l.getD i 0)) ?_)
  refine U 5216751 ?_;refine an (fun h105=>?_) fun h105=>?_
  ·refine ia ?_;refine dQ (.rd 0 (.rd 1 (.rd 2 .done))) ?_;refine U 8000300050003000300050003000700088070704000000 ?_
   refine cT (aa.top _) (aa.errN ?_)
   rw [Zy (by rw [qI (i:=i) O O];simp)]
  refine U 6000001160000011200810 ?_;refine jq (dP (i:=(i / 2)) (hz:=by omega)) ?_;refine U 50 ?_;refine jq (jh rfl rfl rfl (by omega) ((C7 (X.getD (i / 2) 0))) (rfl)) ?_;refine U 8000001 ?_;refine jq (xA rfl rfl rfl ((U6 (C7 (X.getD (i / 2) 0)) (Lib.indexByte iA (l.getD i 0)))) (rfl)) ?_;refine jq (dP (i:=(i / 2)) (hz:=by omega)) ?_
  refine aw (bg 1 (aV (X.set (i / 2) (BW (X.getD (i / 2) 0) (Lib.indexByte iA (l.getD i 0))))) ?_ ?_)
  exact (fun j hj=>wX (DR _ _) O j)
  refine U 851920084005 ?_
  refine am ((i+1,X.set (i / 2) (BW (X.getD (i / 2) 0) (Lib.indexByte iA (l.getD i 0))))) ?_ ?_ (h5:=?_) (h7:=?_)
  ·exact ⟨by omega,by simp [hXl],fun j hj=>by
    by_cases e:j=i
    ·subst e;omega
    exact he j O⟩
  show l.length-(i+1)<l.length-i;omega
  exact .cons (cI O) .nil
  exact .same .nil
def F8 (ls:Zx) (j:Nat):CV:=ap (ls.getD j [])
theorem Hg:Cy 1 F8:=fun l l2 j hj=>by
 simp only [F8,ZB]
 split
 ·rw [ZF O]
 ·rw [ZR O,ZS]
def Ll (n:Nat) (p:Nat→Bool):Bool:=(List.range n).all p
theorem pW {n:Nat} {p:Nat→Bool}:Ll n p=true↔∀ i,i<n→p i=true:=by simp [Ll]
theorem yL {n i:Nat} {p:Nat→Bool} (hi:i<n) (h:p i=false):Ll n p=false:=by
 cases e:Ll n p with
 | false=>rfl
 | true=>rw [pW.1 e i hi] at h;cases h
def Mj (l:Zx):Bool:=Ll (l.length-1) fun j=>!Op.bytesLess (l.getD (j+1) []) (l.getD j [])
def Ih (l:Zx):Bool:=Ll (l.length-1) fun j=>decide (l.getD (j+1) []≠l.getD j [])
def po (l:Zx):Bool:=decide (l.length≤8) && Mj l && Ih l && l.all kT
theorem HA {gs:List Nat} (a:I):cd gs prog 208 [ap a] (.c (.bool false)):=by
 refine ae 6 func208 fun _ _ _ _=>?_;refine U 800070005160000116516 ?_;refine cB ?_
 simp
theorem NV {gs:List Nat} (a b:I):cd gs prog 167 [ap a,ap b] (.c (.bool (Op.bytesLess a b))):=by
 refine ae 17 func167 fun _ _ _ _=>?_;refine U 16516 ?_
 refine aq (ak (HA a) ?_)
 refine U 1 ?_;refine aH 7 (fun g29=>?_) fun g29=>?_
 rotate_left
 ·refine U 800070005150060000111500444 ?_;refine cB ?_
  rfl
 refine U 1 ?_
 refine aq (ak (HA b) ?_)
 refine U 110000000030 ?_;refine aH 12 (fun g29_2=>?_) fun g29_2=>?_
 ·refine U 8000700051100000000444 ?_;refine cB ?_
  (simp_all;done)
 refine U 80007000515006000011 ?_;refine cB ?_
 rfl
theorem IR {gs:List Nat} (l:Zx):cd gs prog 107 [ua l] (.c (.bool (Mj l))):=by
 refine fF 0 rfl fun hlen=>?_;refine ae 21 func107 fun _ _ _ _=>?_;refine U 205193167516 ?_;refine ar (α:=Nat) [2,3,7,8,9,10,11,12,13,14,15,16,17,18,19,20] (fun k=>[(3,.c (.int .i64 ((k:Int)-1)))]) (fun _=>[]) (fun k=>k≤l.length∧∀ j,k≤j+1→j+1<l.length→Op.bytesLess (l.getD (j+1) []) (l.getD j [])=false) (fun k=>k) (l.length) ?_ (fun _=>rfl) ?_ ?_ ?_
 exact ⟨ZA _,fun j h1 h2=>by omega⟩
 exact .cons (cI O) .nil
 ·(repeat (exact aD.nil))
 ·rintro k ⟨hk,he⟩
  refine U 52167 ?_;refine aaa (fun h43=>?_) fun h43=>?_
  ·refine U 8000700051684000200020006000 ?_;refine cB ?_
   refine (pW.2 fun i hi=>?_).symm
   rw [he i O O];rfl
  refine U 7207810 ?_;refine dQ (.rd 0 (.rd 1 (.rd 2 (.rd 3 (.rd 4 (.rd 5 (.rd 6 (.rd 7 (.rd 8 (.one 9 .done)))))))))) ?_;refine U 7070 ?_;refine aJ (dP (i:=(k-1)) (hz:=by omega)) ?_;refine U 30000707070000 ?_;refine aJ (dP (i:=(k-2)) (hz:=by omega)) ?_;refine aJ kF ?_
  refine gp (ak (NV (l.getD (k-1) []) (l.getD (k-2) [])) ?_)
  refine U 880 ?_;refine an (fun h44=>?_) fun h44=>?_
  ·refine U 8000300050003000300050007000516 ?_;refine cB ?_
   refine (yL (i:=k-2) O ?_).symm
   show (!Op.bytesLess (l.getD (k-2+1) []) (l.getD (k-2) []))=false
   rw [show k-2+1=k-1 by omega,h44];rfl
  refine U 85191200840010 ?_
  refine am (k-1) ?_ ?_ (h5:=?_)
  ·exact ⟨by omega,fun j h1 h2=>by
    by_cases e:j+2=k
    ·have e1:j+1=k-1:=by omega
     have e2:j=k-2:=by omega
     rw [e1,e2];simpa using h44
    exact he j O h2⟩
  show k-1<k;omega
  exact .cons (cI O) .nil
theorem IK {gs:List Nat} {g:FuncId} {n:Nat} {fv:Nat→CV} (hc:bA prog g=true) (l:Zx) (p:I→Bool) (hp:∀ r,cd gs prog g ((fun z:I=>ap z) r::(List.range n).map fv) (.c (.bool (p r)))) :
  cd gs prog 168 [ua l,.fn g n fv] (.c (.int .i64 (ek p l))):=by
 refine fF 0 rfl fun hlen=>?_;refine ae 19 func168 fun _ _ _ _=>?_;refine U 20513167516 ?_;refine ar (α:=Nat) [4,5,8,9,10,11,12,13,14,15,16,17,18] (fun i=>[(8,.c (.int .i64 (i:Nat)))]) (fun _=>[]) (fun i=>i≤l.length∧∀ j (hj:j<l.length),j<i→p l[j]=false) (fun i=>l.length-i) (0) ?_ (fun _=>rfl) ?_ ?_ ?_
 exact ⟨by omega,fun j _ hj=>absurd hj (ZO j)⟩
 ·(repeat (first|exact bh.nil|refine bh.cons Z ?_))
 ·(repeat (exact aD.nil))
 ·rintro i ⟨hi,he⟩
  refine U 7526 ?_;refine aaa (fun h108=>?_) fun h108=>?_
  ·refine U 8000700051684000200020006000 ?_;refine cI ?_
   exact (my fun j hj=>he j hj O).symm
  refine U 6070011165116207810 ?_
  refine aq (ln rfl rfl (by assumption) (hp (l.getD i [])) (oz Z _) rfl rfl ?_)
  rintro _ _ ⟨rfl,rfl⟩
  refine U 5 ?_;refine an (fun h109=>?_) fun h109=>?_
  ·refine U 80003000500030003000500070005116 ?_;refine cI ?_
   have hlt:i<l.length:=by omega
   exact (ny i hlt (by simpa [List.getD,hlt] using h109) (fun j hj=>he j O hj)).symm
  refine U 8519200840010 ?_;refine am (i+1) ?_ ?_
  ·exact ⟨by omega,fun j hj hj1=>by
    by_cases e:j=i
    ·subst e
     simpa [List.getD,hj] using h109
    exact he j hj O⟩
  omega
theorem IL {gs:List Nat} {g:FuncId} {n:Nat} {fv:Nat→CV} (hc:bA prog g=true) (l:Zx) (p:I→Bool) (hp:∀ r,cd gs prog g ((fun z:I=>ap z) r::(List.range n).map fv) (.c (.bool (p r)))) :
  cd gs prog 110 [ua l,.fn g n fv] (.c (.bool (l.any p))):=by
 refine ae 9 func110 fun _ _ _ _=>?_;refine U 116516 ?_
 refine aq (ak (IK hc l p hp) ?_)
 refine U 80007000512 ?_;refine cB ?_
 exact sj p l
theorem J4 {gs:List Nat} (s:I):cd gs prog 111 (ap s::(List.range 0).map fun _=>.top) (.c (.bool (!kT s))):=by
 refine ae 6 func111 fun _ _ _ _=>?_;refine U 16516 ?_
 refine aq (ak (xZ s) ?_)
 refine U 5130 ?_
 refine jR (eN (hv:=Z))
theorem KZ {gs:List Nat} (l:Zx) (hl:l.length≤1000000):AC gs prog 109 [] [ua l] (ss l.length 1 (l.length * 1) (F8 l)):=by
 refine ae 8 func109 fun _ _ _ _=>?_;refine U 167516 ?_;refine qj (aU rfl) rfl rfl rfl underlying27 rfl rfl (fun h357=>?_) ?_
 ·refine U 51690005 ?_;refine jE (mw 2 1 (F8 l) rfl) ?_;refine U 30007000 ?_
  exact nA 0 (.inl rfl) (aK rfl (ai rfl)) rfl O O (fun _=>by omega) (fun j hj=>by omega)
 ·refine U 68103005 ?_
  refine aq (aM 0 1 CC fun p1=>?_)
  refine U 1 ?_
  refine aw (aB (l:=[]) ( Hg) rfl rfl rfl rfl (aqx (aKx _)) (fun j hj=>absurd hj (by simp)) (cX rfl) rfl (fun j hj=>by (simp only [anx];exact Z)) underlying27 JX P0 CC Wd rfl (by (simp;omega)) (by (simp;omega)) (fun j hj=>rfl) rfl rfl rfl (fun p2=>?_))
  refine U 700051 ?_
  exact nA 0 (.inl rfl) (aK rfl (ai rfl)) rfl (by simp) (by simp) (fun _=>by simp) (fun j hj=>Z)
theorem Qu {X:Zx} {o:Nat} {c:I} (ho:o<X.length) (j:Nat):aa (fX (F8 X) o (List.map CV.c (Value.string ⟨c.toArray⟩).cells.toList) j) (F8 (X.set o c) j):=by
 rw [db,show (List.map CV.c (Value.string ⟨c.toArray⟩).cells.toList).length=1 from rfl]
 by_cases e:j=o
 ·subst e
  rw [jP,bAx]
  have:(X.set j c).getD j []=c:=by simp [List.getD,ho]
  unfold F8
  rw [this]
  exact Z
 ·rw [jK]
  refine aa.of_eq ?_
  unfold F8
  simp [List.getD,Ne.symm e]
def XV (l:Zx):CV→List (Option Nat×aW)→Prop:=fun r H'=>∃ (n':Nat) (g:Option Nat) (N:Nat) (F:Nat→CV),r=.os 0 g 0 n' 1∧H'=[(g,.blk N F)]∧n'≤l.length∧(n'=l.length↔Ih l=true)
theorem Pq {l:Zx} {k:Nat} (h1:1≤k) (hk:k<l.length) (h:l.getD k []=l.getD (k-1) []):Ih l=false :=
 yL (i:=k-1) O (by
  have e:k-1+1=k:=by omega
  simp only [e,h];simp)
theorem GA {gs:List Nat} (g:Option Nat) (l:Zx) (hl:l.length≤1000000):AC gs prog 108 [(g,.blk (l.length * 1) (F8 l))] [.os 0 g 0 l.length 1] (XV l):=by
 refine ae 61 func108 fun _ _ _ _=>?_;refine U 523167516 ?_;refine an (fun h372=>?_) fun h372=>?_
 ·refine U 300070005116 ?_
  exact bi (.inl rfl) _ _ [0] jD rfl (aK rfl (ai rfl)) ⟨_,_,_,_,rfl,rfl,ZA _,⟨fun _=>pW.2 fun i hi=>by omega,fun _=>rfl⟩⟩
 refine U 205167810 ?_;refine ar (α:=Nat) [2,3,4,5,10,11,12,13,14,15,16,17,18,19,20,21,22,23,24,25,26,27,28,29,30,31,32,33,34,35,36,37,38,39,40,41,42,43,44,45,46,47,48,49,50,51,52,53,54,55,56,57,58,59] (fun k=>[(3,.c (.int .i64 (k:Nat)))]) (fun k=>[(g,.blk (l.length * 1) (F8 l))]) (fun k=>1≤k∧k≤l.length∧∀ j,1≤j→j<k→l.getD j []≠l.getD (j-1) []) (fun k=>l.length-k) (1) ?_ (fun _=>rfl) ?_ ?_ ?_
 exact ⟨ZA _,by omega,fun j h1 h2=>by omega⟩
 ·(repeat (first|exact bh.nil|refine bh.cons Z ?_))
 ·(repeat (first|exact aD.nil|refine aD.same ?_))
 ·rintro k ⟨hk1,hk,he⟩
  refine U 5231167 ?_;refine aaa (fun h375=>?_) fun h375=>?_
  ·refine U 7000511684000200020006000 ?_
   exact bi (.inl rfl) _ _ [0] jD rfl (aK rfl (ai rfl)) ⟨_,_,_,_,rfl,rfl,ZA _,⟨fun _=>pW.2 fun i hi=>by have:=he (i+1) O O;simpa using this,fun _=>rfl⟩⟩
  refine U 7207810 ?_;refine dQ (.rd 0 (.rd 1 (.rd 2 (.rd 3 (.rd 4 (.rd 5 (.rd 6 (.rd 7 (.rd 8 (.rd 9 .done)))))))))) ?_;refine U 7070 ?_;refine aJ (dP (i:=k) (hz:=by omega)) ?_;refine U 30000707010000 ?_;refine aJ (dP (i:=(k-1)) (hz:=by omega)) ?_;refine qF gy ?_;refine aJ zh ?_;refine U 880 ?_;refine aaa (fun h376=>?_) fun h376=>?_
  ·refine U 85191200840010 ?_
   refine am (k+1) ?_ ?_ (h5:=?_)
   ·exact ⟨by omega,by omega,fun j h1 h2=>by
     by_cases e:j=k
     ·subst e;simpa using h376
     exact he j h1 O⟩
   show l.length-(k+1)<l.length-k;omega
   exact .cons (cI O) .nil
  refine cL (N8 0 rfl) fun hgn=>?_
  have hbad:=Pq (l:=l) (k:=k) hk1 O (by simpa using h376)
  refine U 116 ?_;refine jq (Gb (hl:=(ci rfl (show _=((k:Nat):Int) by omega))) (hu:=(bv _ _))) ?_;refine U 20516751 ?_;refine ar (α:=Nat×Nat×Zx) [3,5,29,30,31,32,33,34,35,36,37,38,39,40,41,42,43,44,45,46,47,48,49,50,51,52,53] (fun (i,j,X)=>[(3,.c (.int .i64 (i:Nat))),(5,.c (.int .i64 (j:Nat)))]) (fun (i,j,X)=>[(g,.blk (l.length * 1) (F8 X))]) (fun (i,j,X)=>1≤j∧i+1≤k+j∧k+j≤l.length∧X.length=l.length) (fun (i,j,X)=>l.length-j) ((k,1,l)) ?_ (fun _=>rfl) ?_ ?_ ?_
  exact ⟨ZA _,by omega,by omega,rfl⟩
  exact .cons Z (.cons Z .nil)
  exact .same .nil
  ·rintro ⟨i,j,X⟩ ⟨(hj1:1≤j),(hij:i+1≤k+j),(hjl:k+j≤l.length),(hXl:X.length=l.length)⟩
   refine U 5231167 ?_;refine aaa (fun h378=>?_) fun h378=>?_
   ·refine U 11684000200020006000 ?_;refine jq (Gb (hl:=(ci rfl (show _=((i:Nat):Int) by omega))) (hu:=(bv _ _))) ?_
    refine aw (RY (M:=i * 1) rfl rfl rfl underlying27 P0 CC rfl jD (by (simp [Value.cells,Value.oneCell'];done)) O O (fun hg=>absurd (hgn hg) O) rfl ?_)
    refine U 1165 ?_;refine jq (Gb (hl:=(bv _ _)) (hu:=(ci rfl (show _=((i:Nat):Int) by omega)))) ?_;refine U 30005000300030005000700051 ?_
    exact bi (.inl rfl) _ _ [0] jD rfl (aK rfl (ai rfl)) ⟨_,_,_,_,rfl,rfl,by omega,⟨fun e=>by omega,fun e=>by rw [hbad] at e;cases e⟩⟩
   refine U 7207810 ?_;refine dQ (.rd 0 (.rd 1 (.rd 2 (.rd 3 (.rd 4 (.rd 5 (.rd 6 (.rd 7 (.rd 8 (.rd 9 .done)))))))))) ?_;refine U 7070 ?_;refine aJ (gm (i:=j) rfl rfl rfl underlying27 P0 O O) ?_;refine U 30000707010000 ?_;refine aJ (gm (i:=j-1) rfl rfl rfl underlying27 P0 O O) ?_;refine qF gy ?_;refine aJ zh ?_;refine U 880 ?_;refine aaa (fun h379=>?_) fun h379=>?_
   ·refine U 85191200840010 ?_
    refine am ((i,j+1,X)) ?_ ?_ (h5:=?_) (h7:=?_)
    exact ⟨show 1≤j+1 by omega,show i+1≤k+(j+1) by omega,show k+(j+1)≤l.length by omega,hXl⟩
    show l.length-(j+1)<l.length-j;omega
    exact .cons Z (.cons (cI (by show _=((j+1:Nat):Int);omega)) .nil)
    exact .same .nil
   refine U 11116 ?_;refine jq (gm (i:=j) rfl rfl rfl underlying27 P0 O O) ?_;refine U 50 ?_;refine jq (dP (i:=i) (hz:=by omega)) ?_
   refine aw (bg 1 (F8 (X.set i (X.getD (0+k * 1+j * 1) []))) ?_ ?_)
   exact (fun m hm=>Qu (X:=X) (o:=i) (c:=X.getD (0+k * 1+j * 1) []) O m)
   refine U 85191200840051912005 ?_
   refine am ((i+1,j+1,X.set i (X.getD (0+k * 1+j * 1) []))) ?_ ?_ (h5:=?_) (h7:=?_)
   exact ⟨show 1≤j+1 by omega,show i+1+1≤k+(j+1) by omega,show k+(j+1)≤l.length by omega,by simp [hXl]⟩
   show l.length-(j+1)<l.length-j;omega
   exact .cons (cI (by show _=((i+1:Nat):Int);omega)) (.cons (cI (by show _=((j+1:Nat):Int);omega)) .nil)
   exact .same .nil
theorem Jl {gs:List Nat} (l:Zx):cd gs prog 51 [ua l] (.c (.bool (po l))):=by
 refine fF 0 rfl fun hlen=>?_
 have hall:=vU kT l
 refine ae 24 func51 fun _ _ _ _=>?_;refine U 12316516 ?_;refine aH 6 (fun g24=>?_) fun g24=>?_
 rotate_left
 ·refine U 800070005150044415004444444150044 ?_;refine cB ?_
  unfold po
  rw [← hall]
  (simp_all;omega)
 refine U 1 ?_
 refine aq (ak (IR l) ?_)
 refine U 1100000000 ?_;refine aH 10 (fun g24_2=>?_) fun g24_2=>?_
 rotate_left
 ·refine U 800070005150044415004444444 ?_;refine cB ?_
  unfold po
  rw [← hall]
  (simp_all;done)
 refine U 1 ?_
 refine aq (yd (KZ l O) (fun p1=>?_))
 refine aw (Kl 0 (GA _ l O) ?_)
 rintro _ _ ⟨n1,gC,NC,FC,rfl,rfl,hn1,hd1⟩;refine ⟨_,_,rfl,Z,?_⟩
 refine U 11000000002313 ?_;refine aH 19 (fun g24_3=>?_) fun g24_3=>?_
 ·refine U 1 ?_
  refine aq (ak (IL (n:=0) (fv:=fun _=>.top) (by kernel_rfl) l (fun s=>!kT s) J4) ?_)
  refine U 800070005110000000030 ?_;refine cB ?_
  unfold po
  rw [← hall]
  grind
 refine U 8000700051500444 ?_;refine cB ?_
 unfold po
 rw [← hall]
 grind
def cl (q:Q5):Bool:=bC q.1 && decide (q.1.1≠5) && dD q.2.1 && decide (1≤q.2.2.1) && decide (q.2.2.1≤15) && decide (1≤q.2.2.2.1) && decide (q.2.2.2.1≤253402300799) && po q.2.2.2.2
theorem qr (q:Q5):cd gs prog 16 [lg q] (.c (.bool (cl q))):=by
 refine ae 51 func16 fun _ _ _ _=>?_;refine eA ?_
 refine aq (ee 7 fun p1=>?_)
 refine U 505000000651 ?_
 refine aq (ak (Ke q.2.1) ?_)
 refine U 65119009001 ?_;refine jq (en 0 3 true) ?_;refine kj (bD 3) ?_
 refine aq (ak (Ah q.1) ?_)
 refine U 1 ?_;refine aH 15 (fun g30=>?_) fun g30=>?_
 rotate_left
 ·refine U 80007000515004441500444150044415004441500444150044116515004444 ?_;refine cB ?_
  unfold cl
  (simp_all;done)
 refine jq (en 0 3 true) ?_;refine U 1165110000000025090 ?_;refine aH 22 (fun g31=>?_) fun g31=>?_
 rotate_left
 ·refine U 80007000515004441500444150044415004441500444150044 ?_;refine cB ?_
  unfold cl
  (simp_all;done)
 refine U 11000000005000001 ?_;refine aH 26 (fun g31_2=>?_) fun g31_2=>?_
 rotate_left
 ·refine U 80007000515004441500444150044415004441500444 ?_;refine cB ?_
  unfold cl
  (simp_all;done)
 refine U 11000000002507000000 ?_;refine aH 31 (fun g31_3=>?_) fun g31_3=>?_
 rotate_left
 ·refine U 8000700051500444150044415004441500444 ?_;refine cB ?_
  unfold cl
  (simp_all;omega)
 refine U 11000000002507000000 ?_;refine aH 36 (fun g31_4=>?_) fun g31_4=>?_
 rotate_left
 ·refine U 800070005150044415004441500444 ?_;refine cB ?_
  unfold cl
  (simp_all;omega)
 refine U 11000000002506000000 ?_;refine aH 41 (fun g31_5=>?_) fun g31_5=>?_
 rotate_left
 ·refine U 80007000515004441500444 ?_;refine cB ?_
  unfold cl
  (simp_all;omega)
 refine U 11000000002506000000 ?_;refine aH 46 (fun g31_6=>?_) fun g31_6=>?_
 ·refine U 5020000000 ?_
  refine aq (ak (Jl q.2.2.2.2) ?_)
  refine U 8000700051100000000 ?_;refine cB ?_
  unfold cl
  (simp_all;done)
 refine U 8000700051500444 ?_;refine cB ?_
 unfold cl
 (simp_all;omega)
end
end Am
end Go.Proofs.YtghminnpfnkbjaaGreatDoor
